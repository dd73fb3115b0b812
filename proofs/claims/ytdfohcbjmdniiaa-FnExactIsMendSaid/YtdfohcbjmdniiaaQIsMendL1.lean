/- The program computes the plain functions. No condition. -/
import Derived.Test.YtdfohcbjmdniiaaQIsMendS
import Derived.Test.YtdfohcbjmdniiaaProg
import Derived.Test.YtdfohcbjmdniiaaQIsMendL0
set_option maxRecDepth 100000
set_option linter.unusedVariables false
set_option linter.unusedSimpArgs false
namespace AS.W
open Go Go.Proofs
def rs_spec_eFails (r : Bool) : List D := [cB.enc r]
def m109 : MC := .seq (.reg [⟨some 2, .box (.t 0), none⟩,
    ⟨some 4, .asg (.c (.bool false)), none⟩] [1, 2])
  (.seq (.kp [] (.seq (.reg [⟨some 7, .mv (.t 1), none⟩,
    ⟨some 8, .len false (.t 7), none⟩,
    ⟨some 9, .mv (.c (.int .i64 0)), none⟩] [1, 2, 7, 8, 9])
  (.blk 0 (.loop (.seq (.reg [⟨some 10, .bin .lss (.t 9) (.t 8), none⟩] [1, 2, 7, 8, 9, 10])
  (.seq (.kp [1, 2, 7, 8, 9] (.cond (.t 10) (.skip) (.exit 0)))
  (.seq (.kp [1, 2, 7, 8, 9] (.blk 1 (.seq (.reg [⟨some 11, .mv (.t 9), none⟩,
    ⟨some 12, .ia 7 (.t 9) 1, none⟩,
    ⟨some 13, .ld 12 1 false, none⟩,
    ⟨some 5, .asg (.t 11), none⟩,
    ⟨some 6, .asg (.t 13), none⟩] [1, 2, 5, 6, 7, 8, 9])
  (.seq (.reg [⟨some 14, .fa 2 0 0, none⟩,
    ⟨some 15, .ld 14 1 false, none⟩,
    ⟨some 16, .mv (.t 5), none⟩,
    ⟨some 17, .ia 15 (.t 16) 1, none⟩,
    ⟨some 18, .ld 17 1 false, none⟩,
    ⟨some 19, .mv (.t 6), none⟩,
    ⟨some 20, .cvi .u64 (.t 19), none⟩,
    ⟨some 21, .bin .shr (.t 18) (.t 20), none⟩,
    ⟨some 22, .bin .and (.t 21) (.c (.int .i64 1)), none⟩,
    ⟨some 23, .bin .eql (.t 22) (.c (.int .i64 0)), none⟩] [1, 2, 7, 8, 9, 23])
  (.cond (.t 23) (.seq (.reg [⟨some 4, .asg (.c (.bool false)), none⟩] [4])
  (.ret)) (.skip))))))
  (.reg [⟨some 24, .bin .add (.t 9) (.c (.int .i64 1)), none⟩,
    ⟨some 9, .mv (.t 24), none⟩] [1, 2, 7, 8, 9]))))))))
  (.seq (.reg [⟨some 4, .asg (.c (.bool true)), none⟩] [4])
  (.ret)))
theorem con_spec_eFails {v0 : XEdit} {v1 : (List Int)} {r : Bool} (h : sh_spec_eFails v0 v1 = some r) : Con Try.prog 109 [(cXEdit (cLs cI rfl)).enc v0, (cLs cI rfl).enc v1] [] (rs_spec_eFails r) := by
  delta sh_spec_eFails at h
  refine top (out := none) (f := Try.f109) (m := m109) (rs := [.t 4]) (by kernel_rfl) rfl (by kernel_rfl) (by kernel_rfl) (by kernel_rfl) (by kernel_rfl) (by kernel_rfl) ?_
  exact
   ini [(0, .d ((cXEdit (cLs cI rfl)).enc v0)), (1, .d ((cLs cI rfl).enc v1))] rfl <| wpC_seq <| reg_s <| x_box (ss rfl rfl) <| x_asg (sc cB false rfl) <| seqN [(1, .d ((cLs cI rfl).enc v1)), (2, .box ((cXEdit (cLs cI rfl)).enc v0))] (by kernel_rfl) <|
    xn <| wpC_seq <| wpC_kp <| wpC_seq <| reg_s <| st rfl <| mvd rfl rfl <| stw rfl <| lens rfl fun l88 => st rfl <| mvc cI (0 : Int) rfl <| seqN [(1, .d ((cLs cI rfl).enc v1)), (2, .box ((cXEdit (cLs cI rfl)).enc v0)), (7, .d ((cLs cI rfl).enc v1)), (8, .d (cI.enc (v1.length : Int))), (9, .d (cI.enc (0 : Int)))] (by kernel_rfl) <|
    xn <| wpC_blk <| lpR (fun (k90 : Nat) (s89 : Unit) => [(1, .d ((cLs cI rfl).enc v1)), (2, .box ((cXEdit (cLs cI rfl)).enc v0)), (7, .d ((cLs cI rfl).enc v1)), (8, .d (cI.enc (v1.length : Int))), (9, .d (cI.enc (k90 : Int)))]) () rfl h
    (fun G134 s89 h => wpC_seq <| reg_s <| st rfl <| b_lss (k := .i64) rfl rfl <| seqN [(1, .d ((cLs cI rfl).enc v1)), (2, .box ((cXEdit (cLs cI rfl)).enc v0)), (7, .d ((cLs cI rfl).enc v1)), (8, .d (cI.enc (v1.length : Int))), (9, .d (cI.enc (v1.length : Int))), (10, .d (cB.enc (decide ((v1.length : Int) < (v1.length : Int)))))] (by kernel_rfl) <|
    xn <| wpC_seq <| wpC_kp <| cnd0 rfl (dlf _) <| wpC_exit <| xt <| xt <| xt <| xb <| kpN [] (by kernel_rfl) <| xn <| wpC_seq <| reg_s <| x_asg (sc cB true rfl) <| seqN [(4, .d (cB.enc true))] (by kernel_rfl) <|
    xn <| wpC_ret <| re <| fin h (r1 (ss rfl rfl) <| r0) rfl)
    (fun G134 nx132 k90 s89 x91 hk92 hx93 hn133 h => wpC_seq <| reg_s <| st rfl <| b_lss (k := .i64) rfl rfl <| seqN [(1, .d ((cLs cI rfl).enc v1)), (2, .box ((cXEdit (cLs cI rfl)).enc v0)), (7, .d ((cLs cI rfl).enc v1)), (8, .d (cI.enc (v1.length : Int))), (9, .d (cI.enc (k90 : Int))), (10, .d (cB.enc (decide ((k90 : Int) < (v1.length : Int)))))] (by kernel_rfl) <|
    xn <| wpC_seq <| wpC_kp <| cnd1 rfl (dlt hk92) <| wpC_skip <| kpN [(1, .d ((cLs cI rfl).enc v1)), (2, .box ((cXEdit (cLs cI rfl)).enc v0)), (7, .d ((cLs cI rfl).enc v1)), (8, .d (cI.enc (v1.length : Int))), (9, .d (cI.enc (k90 : Int)))] (by kernel_rfl) <| xn <| wpC_seq <| wpC_kp <| wpC_blk <| wpC_seq <| reg_s <| st rfl <| mvd rfl rfl <| st rfl <| ias rfl rfl (Int.natCast_nonneg _) hx93 rfl <| st rfl <| ldi rfl rfl rfl rfl <| x_asg (ss rfl rfl) <| x_asg (ss rfl rfl) <| seqN [(1, .d ((cLs cI rfl).enc v1)), (2, .box ((cXEdit (cLs cI rfl)).enc v0)), (5, .d (cI.enc (k90 : Int))), (6, .d (cI.enc x91)), (7, .d ((cLs cI rfl).enc v1)), (8, .d (cI.enc (v1.length : Int))), (9, .d (cI.enc (k90 : Int)))] (by kernel_rfl) <|
    xn <| wpC_seq <| reg_s <| st rfl <| fab rfl rfl rfl rfl <| st rfl <| lda rfl rfl rfl rfl rfl rfl <| st rfl <| mvd rfl rfl <| getO_k h fun x163 i164 g165 h => st rfl <| ias rfl rfl i164 g165 rfl <| st rfl <| ldi rfl rfl rfl rfl <| st rfl <| mvd rfl rfl <| ckK_k h fun i166 h => st rfl <| o_cvi (k := .i64) (k' := .u64) rfl i166 <| ck_k h fun i167 h => st rfl <| b_shr (k := .i64) (k' := .u64) rfl rfl i167 rfl <| ck_k h fun i168 h => ckK_k h fun i169 h => ck_k h fun i170 h => ckK_k h fun i171 h => st rfl <| b_and (k := .i64) rfl rfl ⟨i168, i169⟩ ⟨i170, i171⟩ <| st rfl <| b_eql (k := .i64) rfl rfl <| seqN [(1, .d ((cLs cI rfl).enc v1)), (2, .box ((cXEdit (cLs cI rfl)).enc v0)), (7, .d ((cLs cI rfl).enc v1)), (8, .d (cI.enc (v1.length : Int))), (9, .d (cI.enc (k90 : Int))), (23, .d (cB.enc (decide ((((x163 / 2 ^ (x91).toNat).toNat &&& (1 : Int).toNat : Nat) : Int) = (0 : Int)))))] (by kernel_rfl) <|
    xn <| cnd rfl h (fun b172 h => wpC_seq <| reg_s <| x_asg (sc cB false rfl) <| seqN [(4, .d (cB.enc false))] (by kernel_rfl) <|
    xn <| wpC_ret <| rb <| rt <| rt <| rt <| rb <| rt <| rt <| re <| fin h (r1 (ss rfl rfl) <| r0) rfl)
    (fun b172 h => wpC_skip <| xbb <| kpN [(1, .d ((cLs cI rfl).enc v1)), (2, .box ((cXEdit (cLs cI rfl)).enc v0)), (7, .d ((cLs cI rfl).enc v1)), (8, .d (cI.enc (v1.length : Int))), (9, .d (cI.enc (k90 : Int)))] (by kernel_rfl) <| xn <| reg_s <| st rfl <| b_inc rfl rfl l88 hk92 <| st rfl <| mvd rfl rfl <| seqN [(1, .d ((cLs cI rfl).enc v1)), (2, .box ((cXEdit (cLs cI rfl)).enc v0)), (7, .d ((cLs cI rfl).enc v1)), (8, .d (cI.enc (v1.length : Int))), (9, .d (cI.enc ((k90 + 1 : Nat) : Int)))] (by kernel_rfl) <|
    xn <| hn133 () h))

def rs_spec_eFailed (r : (List Int)) : List D := [(cLo cI).enc r]
def m90 : MC := .seq (.reg [⟨some 4, .asg (.c (.slice true [])), none⟩] [0, 1])
  (.seq (.reg [⟨some 5, .asg (.c (.slice true [])), none⟩] [0, 1, 5])
  (.seq (.kp [5] (.seq (.reg [⟨some 8, .mv (.t 0), none⟩,
    ⟨some 9, .len false (.t 8), none⟩,
    ⟨some 10, .mv (.c (.int .i64 0)), none⟩] [0, 1, 5, 8, 9, 10])
  (.blk 0 (.loop (.seq (.reg [⟨some 11, .bin .lss (.t 10) (.t 9), none⟩] [0, 1, 5, 8, 9, 10, 11])
  (.seq (.kp [0, 1, 5, 8, 9, 10] (.cond (.t 11) (.skip) (.exit 0)))
  (.seq (.kp [0, 1, 5, 8, 9, 10] (.blk 1 (.seq (.reg [⟨some 12, .mv (.t 10), none⟩,
    ⟨some 13, .ia 8 (.t 10) 1, none⟩,
    ⟨some 14, .ld 13 1 true, none⟩,
    ⟨some 7, .alloc (.agg [.slice true []]), none⟩,
    ⟨some 6, .asg (.t 12), none⟩,
    ⟨none, .st 7 (.t 14) 1, none⟩] [0, 1, 5, 6, 7, 8, 9, 10])
  (.seq (.reg [⟨some 15, .ld 7 1 true, none⟩,
    ⟨some 16, .mv (.t 1), none⟩,
    ⟨some 17, .call 109 [(.t 15), (.t 16)], none⟩] [0, 1, 5, 6, 8, 9, 10, 17])
  (.cond (.t 17) (.reg [⟨some 18, .mv (.t 5), none⟩,
    ⟨some 19, .mv (.t 6), none⟩,
    ⟨some 20, .bsl [(.t 19)] 1, none⟩,
    ⟨some 21, .app (.t 18) (.t 20) 1, none⟩,
    ⟨some 5, .asg (.t 21), none⟩] [0, 1, 5, 8, 9, 10]) (.skip))))))
  (.reg [⟨some 22, .bin .add (.t 10) (.c (.int .i64 1)), none⟩,
    ⟨some 10, .mv (.t 22), none⟩] [0, 1, 5, 8, 9, 10]))))))))
  (.seq (.reg [⟨some 23, .mv (.t 5), none⟩,
    ⟨some 4, .asg (.t 23), none⟩] [4])
  (.ret))))
theorem con_spec_eFailed {v0 : (List XEdit)} {v1 : (List Int)} {r : (List Int)} (h : sh_spec_eFailed v0 v1 = some r) : Con Try.prog 90 [(cLs (cXEdit (cLs cI rfl)) rfl).enc v0, (cLs cI rfl).enc v1] [] (rs_spec_eFailed r) := by
  delta sh_spec_eFailed at h
  refine top (out := none) (f := Try.f90) (m := m90) (rs := [.t 4]) (by kernel_rfl) rfl (by kernel_rfl) (by kernel_rfl) (by kernel_rfl) (by kernel_rfl) (by kernel_rfl) ?_
  exact
   ini [(0, .d ((cLs (cXEdit (cLs cI rfl)) rfl).enc v0)), (1, .d ((cLs cI rfl).enc v1))] rfl <| wpC_seq <| reg_s <| x_asg (sc (cLo cI) ([] : List Int) rfl) <| seqN [(0, .d ((cLs (cXEdit (cLs cI rfl)) rfl).enc v0)), (1, .d ((cLs cI rfl).enc v1))] (by kernel_rfl) <|
    xn <| wpC_seq <| reg_s <| x_asg (sc (cLo cI) ([] : List Int) rfl) <| seqN [(0, .d ((cLs (cXEdit (cLs cI rfl)) rfl).enc v0)), (1, .d ((cLs cI rfl).enc v1)), (5, .d ((cLo cI).enc ([] : List Int)))] (by kernel_rfl) <|
    xn <| wpC_seq <| wpC_kp <| wpC_seq <| reg_s <| st rfl <| mvd rfl rfl <| stw rfl <| lens rfl fun l48 => st rfl <| mvc cI (0 : Int) rfl <| seqN [(0, .d ((cLs (cXEdit (cLs cI rfl)) rfl).enc v0)), (1, .d ((cLs cI rfl).enc v1)), (5, .d ((cLo cI).enc ([] : List Int))), (8, .d ((cLs (cXEdit (cLs cI rfl)) rfl).enc v0)), (9, .d (cI.enc (v0.length : Int))), (10, .d (cI.enc (0 : Int)))] (by kernel_rfl) <|
    xn <| wpC_blk <| lpR (fun (k50 : Nat) (s49 : (List Int)) => [(0, .d ((cLs (cXEdit (cLs cI rfl)) rfl).enc v0)), (1, .d ((cLs cI rfl).enc v1)), (5, .d ((cLo cI).enc s49)), (8, .d ((cLs (cXEdit (cLs cI rfl)) rfl).enc v0)), (9, .d (cI.enc (v0.length : Int))), (10, .d (cI.enc (k50 : Int)))]) ([] : List Int) rfl h
    (fun G80 s49 h => wpC_seq <| reg_s <| st rfl <| b_lss (k := .i64) rfl rfl <| seqN [(0, .d ((cLs (cXEdit (cLs cI rfl)) rfl).enc v0)), (1, .d ((cLs cI rfl).enc v1)), (5, .d ((cLo cI).enc s49)), (8, .d ((cLs (cXEdit (cLs cI rfl)) rfl).enc v0)), (9, .d (cI.enc (v0.length : Int))), (10, .d (cI.enc (v0.length : Int))), (11, .d (cB.enc (decide ((v0.length : Int) < (v0.length : Int)))))] (by kernel_rfl) <|
    xn <| wpC_seq <| wpC_kp <| cnd0 rfl (dlf _) <| wpC_exit <| xt <| xt <| xt <| xb <| kpN [(5, .d ((cLo cI).enc s49))] (by kernel_rfl) <| xn <| wpC_seq <| reg_s <| st rfl <| mvo rfl rfl <| x_asg (sr rfl rfl) <| seqN [(4, .d ((cLo cI).enc s49))] (by kernel_rfl) <|
    xn <| wpC_ret <| re <| fin h (r1 (so rfl rfl) <| r0) rfl)
    (fun G80 nx78 k50 s49 x51 hk52 hx53 hn79 h => wpC_seq <| reg_s <| st rfl <| b_lss (k := .i64) rfl rfl <| seqN [(0, .d ((cLs (cXEdit (cLs cI rfl)) rfl).enc v0)), (1, .d ((cLs cI rfl).enc v1)), (5, .d ((cLo cI).enc s49)), (8, .d ((cLs (cXEdit (cLs cI rfl)) rfl).enc v0)), (9, .d (cI.enc (v0.length : Int))), (10, .d (cI.enc (k50 : Int))), (11, .d (cB.enc (decide ((k50 : Int) < (v0.length : Int)))))] (by kernel_rfl) <|
    xn <| wpC_seq <| wpC_kp <| cnd1 rfl (dlt hk52) <| wpC_skip <| kpN [(0, .d ((cLs (cXEdit (cLs cI rfl)) rfl).enc v0)), (1, .d ((cLs cI rfl).enc v1)), (5, .d ((cLo cI).enc s49)), (8, .d ((cLs (cXEdit (cLs cI rfl)) rfl).enc v0)), (9, .d (cI.enc (v0.length : Int))), (10, .d (cI.enc (k50 : Int)))] (by kernel_rfl) <| xn <| wpC_seq <| wpC_kp <| wpC_blk <| wpC_seq <| reg_s <| st rfl <| mvd rfl rfl <| st rfl <| ias rfl rfl (Int.natCast_nonneg _) hx53 rfl <| st rfl <| ldi rfl rfl rfl rfl <| x_all (cXEdit (cLo cI)) (⟨([] : List Int)⟩ : XEdit) rfl <| x_asg (ss rfl rfl) <| x_stb (ss rfl rfl) rfl (Cd.h_sz _ _) rfl <| seqN [(0, .d ((cLs (cXEdit (cLs cI rfl)) rfl).enc v0)), (1, .d ((cLs cI rfl).enc v1)), (5, .d ((cLo cI).enc s49)), (6, .d (cI.enc (k50 : Int))), (7, .box ((cXEdit (cLs cI rfl)).enc x51)), (8, .d ((cLs (cXEdit (cLs cI rfl)) rfl).enc v0)), (9, .d (cI.enc (v0.length : Int))), (10, .d (cI.enc (k50 : Int)))] (by kernel_rfl) <|
    xn <| wpC_seq <| reg_s <| st rfl <| ldb rfl rfl rfl rfl <| st rfl <| mvd rfl rfl <| bnd h fun x89 e90 h => st rfl <| o_call (a1 (c := (cXEdit (cLs cI rfl))) (tXEdit (tLs tK)) rfl (a1 (c := (cLs cI rfl)) (tLs tK) rfl a0)) (con_spec_eFails e90) (.inl (so1 sB so0)) <| seqN [(0, .d ((cLs (cXEdit (cLs cI rfl)) rfl).enc v0)), (1, .d ((cLs cI rfl).enc v1)), (5, .d ((cLo cI).enc s49)), (6, .d (cI.enc (k50 : Int))), (8, .d ((cLs (cXEdit (cLs cI rfl)) rfl).enc v0)), (9, .d (cI.enc (v0.length : Int))), (10, .d (cI.enc (k50 : Int))), (17, .d (cB.enc x89))] (by kernel_rfl) <|
    xn <| cnd rfl h (fun b91 h => reg_s <| st rfl <| mvo rfl rfl <| st rfl <| mvd rfl rfl <| x_bsl cI [(k50 : Int)] (t1 (ss rfl rfl) rfl t0) rfl rfl <| lnO_k h fun l92 h => x_app (sr rfl rfl) (to rfl rfl) l92 rfl <| x_asg (so rfl rfl) <| seqN [(0, .d ((cLs (cXEdit (cLs cI rfl)) rfl).enc v0)), (1, .d ((cLs cI rfl).enc v1)), (5, .d ((cLo cI).enc (s49 ++ [(k50 : Int)]))), (8, .d ((cLs (cXEdit (cLs cI rfl)) rfl).enc v0)), (9, .d (cI.enc (v0.length : Int))), (10, .d (cI.enc (k50 : Int)))] (by kernel_rfl) <|
    xbb <| kpN [(0, .d ((cLs (cXEdit (cLs cI rfl)) rfl).enc v0)), (1, .d ((cLs cI rfl).enc v1)), (5, .d ((cLo cI).enc (s49 ++ [(k50 : Int)]))), (8, .d ((cLs (cXEdit (cLs cI rfl)) rfl).enc v0)), (9, .d (cI.enc (v0.length : Int))), (10, .d (cI.enc (k50 : Int)))] (by kernel_rfl) <| xn <| reg_s <| st rfl <| b_inc rfl rfl l48 hk52 <| st rfl <| mvd rfl rfl <| seqN [(0, .d ((cLs (cXEdit (cLs cI rfl)) rfl).enc v0)), (1, .d ((cLs cI rfl).enc v1)), (5, .d ((cLo cI).enc (s49 ++ [(k50 : Int)]))), (8, .d ((cLs (cXEdit (cLs cI rfl)) rfl).enc v0)), (9, .d (cI.enc (v0.length : Int))), (10, .d (cI.enc ((k50 + 1 : Nat) : Int)))] (by kernel_rfl) <|
    xn <| hn79 (s49 ++ [(k50 : Int)]) h)
    (fun b91 h => wpC_skip <| xbb <| kpN [(0, .d ((cLs (cXEdit (cLs cI rfl)) rfl).enc v0)), (1, .d ((cLs cI rfl).enc v1)), (5, .d ((cLo cI).enc s49)), (8, .d ((cLs (cXEdit (cLs cI rfl)) rfl).enc v0)), (9, .d (cI.enc (v0.length : Int))), (10, .d (cI.enc (k50 : Int)))] (by kernel_rfl) <| xn <| reg_s <| st rfl <| b_inc rfl rfl l48 hk52 <| st rfl <| mvd rfl rfl <| seqN [(0, .d ((cLs (cXEdit (cLs cI rfl)) rfl).enc v0)), (1, .d ((cLs cI rfl).enc v1)), (5, .d ((cLo cI).enc s49)), (8, .d ((cLs (cXEdit (cLs cI rfl)) rfl).enc v0)), (9, .d (cI.enc (v0.length : Int))), (10, .d (cI.enc ((k50 + 1 : Nat) : Int)))] (by kernel_rfl) <|
    xn <| hn79 s49 h))

def rs_impl_areEdits (r : Bool) : List D := [cB.enc r]
def m71 : MC := .seq (.reg [⟨some 4, .asg (.c (.bool false)), none⟩] [0, 1])
  (.seq (.kp [0, 1] (.seq (.reg [⟨some 7, .mv (.t 1), none⟩,
    ⟨some 8, .len false (.t 7), none⟩,
    ⟨some 9, .bin .gtr (.t 8) (.c (.int .i64 40)), none⟩] [0, 1, 9])
  (.cond (.t 9) (.seq (.reg [⟨some 4, .asg (.c (.bool false)), none⟩] [4])
  (.ret)) (.skip))))
  (.seq (.kp [] (.seq (.reg [⟨some 10, .mv (.t 1), none⟩,
    ⟨some 11, .len false (.t 10), none⟩,
    ⟨some 12, .mv (.c (.int .i64 0)), none⟩] [0, 1, 10, 11, 12])
  (.blk 0 (.loop (.seq (.reg [⟨some 13, .bin .lss (.t 12) (.t 11), none⟩] [0, 1, 10, 11, 12, 13])
  (.seq (.kp [0, 1, 10, 11, 12] (.cond (.t 13) (.skip) (.exit 0)))
  (.seq (.kp [0, 1, 10, 11, 12] (.blk 1 (.seq (.reg [⟨some 14, .ia 10 (.t 12) 1, none⟩,
    ⟨some 15, .ld 14 1 true, none⟩,
    ⟨some 6, .alloc (.agg [.slice true []]), none⟩,
    ⟨none, .st 6 (.t 15) 1, none⟩] [0, 1, 6, 10, 11, 12])
  (.seq (.reg [⟨some 16, .mv (.t 0), none⟩,
    ⟨some 17, .ld 6 1 true, none⟩,
    ⟨some 18, .call 65 [(.t 16), (.t 17)], none⟩,
    ⟨some 19, .nt (.t 18), none⟩] [0, 1, 10, 11, 12, 19])
  (.cond (.t 19) (.seq (.reg [⟨some 4, .asg (.c (.bool false)), none⟩] [4])
  (.ret)) (.skip))))))
  (.reg [⟨some 20, .bin .add (.t 12) (.c (.int .i64 1)), none⟩,
    ⟨some 12, .mv (.t 20), none⟩] [0, 1, 10, 11, 12]))))))))
  (.seq (.reg [⟨some 4, .asg (.c (.bool true)), none⟩] [4])
  (.ret))))
theorem con_impl_areEdits {v0 : (List XVariable)} {v1 : (List XEdit)} {r : Bool} (h : sh_impl_areEdits v0 v1 = some r) : Con Try.prog 71 [(cLs (cXVariable cS cI) rfl).enc v0, (cLs (cXEdit (cLs cI rfl)) rfl).enc v1] [] (rs_impl_areEdits r) := by
  delta sh_impl_areEdits at h
  refine top (out := none) (f := Try.f71) (m := m71) (rs := [.t 4]) (by kernel_rfl) rfl (by kernel_rfl) (by kernel_rfl) (by kernel_rfl) (by kernel_rfl) (by kernel_rfl) ?_
  exact
   ini [(0, .d ((cLs (cXVariable cS cI) rfl).enc v0)), (1, .d ((cLs (cXEdit (cLs cI rfl)) rfl).enc v1))] rfl <| wpC_seq <| reg_s <| x_asg (sc cB false rfl) <| seqN [(0, .d ((cLs (cXVariable cS cI) rfl).enc v0)), (1, .d ((cLs (cXEdit (cLs cI rfl)) rfl).enc v1))] (by kernel_rfl) <|
    xn <| wpC_seq <| wpC_kp <| wpC_seq <| reg_s <| st rfl <| mvd rfl rfl <| stw rfl <| lens rfl fun l5 => st rfl <| b_gtr (k := .i64) rfl rfl <| seqN [(0, .d ((cLs (cXVariable cS cI) rfl).enc v0)), (1, .d ((cLs (cXEdit (cLs cI rfl)) rfl).enc v1)), (9, .d (cB.enc (decide ((40 : Int) < (v1.length : Int)))))] (by kernel_rfl) <|
    xn <| cnd rfl h (fun b6 h => wpC_seq <| reg_s <| x_asg (sc cB false rfl) <| seqN [(4, .d (cB.enc false))] (by kernel_rfl) <|
    xn <| wpC_ret <| rt <| rt <| re <| fin h (r1 (ss rfl rfl) <| r0) rfl)
    (fun b6 h => wpC_skip <| kpN [(0, .d ((cLs (cXVariable cS cI) rfl).enc v0)), (1, .d ((cLs (cXEdit (cLs cI rfl)) rfl).enc v1))] (by kernel_rfl) <| xn <| wpC_seq <| wpC_kp <| wpC_seq <| reg_s <| st rfl <| mvd rfl rfl <| stw rfl <| lens rfl fun l38 => st rfl <| mvc cI (0 : Int) rfl <| seqN [(0, .d ((cLs (cXVariable cS cI) rfl).enc v0)), (1, .d ((cLs (cXEdit (cLs cI rfl)) rfl).enc v1)), (10, .d ((cLs (cXEdit (cLs cI rfl)) rfl).enc v1)), (11, .d (cI.enc (v1.length : Int))), (12, .d (cI.enc (0 : Int)))] (by kernel_rfl) <|
    xn <| wpC_blk <| lpR (fun (k40 : Nat) (s39 : Unit) => [(0, .d ((cLs (cXVariable cS cI) rfl).enc v0)), (1, .d ((cLs (cXEdit (cLs cI rfl)) rfl).enc v1)), (10, .d ((cLs (cXEdit (cLs cI rfl)) rfl).enc v1)), (11, .d (cI.enc (v1.length : Int))), (12, .d (cI.enc (k40 : Int)))]) () rfl h
    (fun G56 s39 h => wpC_seq <| reg_s <| st rfl <| b_lss (k := .i64) rfl rfl <| seqN [(0, .d ((cLs (cXVariable cS cI) rfl).enc v0)), (1, .d ((cLs (cXEdit (cLs cI rfl)) rfl).enc v1)), (10, .d ((cLs (cXEdit (cLs cI rfl)) rfl).enc v1)), (11, .d (cI.enc (v1.length : Int))), (12, .d (cI.enc (v1.length : Int))), (13, .d (cB.enc (decide ((v1.length : Int) < (v1.length : Int)))))] (by kernel_rfl) <|
    xn <| wpC_seq <| wpC_kp <| cnd0 rfl (dlf _) <| wpC_exit <| xt <| xt <| xt <| xb <| kpN [] (by kernel_rfl) <| xn <| wpC_seq <| reg_s <| x_asg (sc cB true rfl) <| seqN [(4, .d (cB.enc true))] (by kernel_rfl) <|
    xn <| wpC_ret <| re <| fin h (r1 (ss rfl rfl) <| r0) rfl)
    (fun G56 nx54 k40 s39 x41 hk42 hx43 hn55 h => wpC_seq <| reg_s <| st rfl <| b_lss (k := .i64) rfl rfl <| seqN [(0, .d ((cLs (cXVariable cS cI) rfl).enc v0)), (1, .d ((cLs (cXEdit (cLs cI rfl)) rfl).enc v1)), (10, .d ((cLs (cXEdit (cLs cI rfl)) rfl).enc v1)), (11, .d (cI.enc (v1.length : Int))), (12, .d (cI.enc (k40 : Int))), (13, .d (cB.enc (decide ((k40 : Int) < (v1.length : Int)))))] (by kernel_rfl) <|
    xn <| wpC_seq <| wpC_kp <| cnd1 rfl (dlt hk42) <| wpC_skip <| kpN [(0, .d ((cLs (cXVariable cS cI) rfl).enc v0)), (1, .d ((cLs (cXEdit (cLs cI rfl)) rfl).enc v1)), (10, .d ((cLs (cXEdit (cLs cI rfl)) rfl).enc v1)), (11, .d (cI.enc (v1.length : Int))), (12, .d (cI.enc (k40 : Int)))] (by kernel_rfl) <| xn <| wpC_seq <| wpC_kp <| wpC_blk <| wpC_seq <| reg_s <| st rfl <| ias rfl rfl (Int.natCast_nonneg _) hx43 rfl <| st rfl <| ldi rfl rfl rfl rfl <| x_all (cXEdit (cLo cI)) (⟨([] : List Int)⟩ : XEdit) rfl <| x_stb (ss rfl rfl) rfl (Cd.h_sz _ _) rfl <| seqN [(0, .d ((cLs (cXVariable cS cI) rfl).enc v0)), (1, .d ((cLs (cXEdit (cLs cI rfl)) rfl).enc v1)), (6, .box ((cXEdit (cLs cI rfl)).enc x41)), (10, .d ((cLs (cXEdit (cLs cI rfl)) rfl).enc v1)), (11, .d (cI.enc (v1.length : Int))), (12, .d (cI.enc (k40 : Int)))] (by kernel_rfl) <|
    xn <| wpC_seq <| reg_s <| st rfl <| mvd rfl rfl <| st rfl <| ldb rfl rfl rfl rfl <| bnd h fun x64 e65 h => st rfl <| o_call (a1 (c := (cLs (cXVariable cS cI) rfl)) (tLs (tXVariable tS tK)) rfl (a1 (c := (cXEdit (cLs cI rfl))) (tXEdit (tLs tK)) rfl a0)) (con_impl_isEdit e65) (.inl (so1 sB so0)) <| st rfl <| o_nt rfl <| seqN [(0, .d ((cLs (cXVariable cS cI) rfl).enc v0)), (1, .d ((cLs (cXEdit (cLs cI rfl)) rfl).enc v1)), (10, .d ((cLs (cXEdit (cLs cI rfl)) rfl).enc v1)), (11, .d (cI.enc (v1.length : Int))), (12, .d (cI.enc (k40 : Int))), (19, .d (cB.enc (!x64)))] (by kernel_rfl) <|
    xn <| cnd rfl h (fun b66 h => wpC_seq <| reg_s <| x_asg (sc cB false rfl) <| seqN [(4, .d (cB.enc false))] (by kernel_rfl) <|
    xn <| wpC_ret <| rb <| rt <| rt <| rt <| rb <| rt <| rt <| re <| fin h (r1 (ss rfl rfl) <| r0) rfl)
    (fun b66 h => wpC_skip <| xbb <| kpN [(0, .d ((cLs (cXVariable cS cI) rfl).enc v0)), (1, .d ((cLs (cXEdit (cLs cI rfl)) rfl).enc v1)), (10, .d ((cLs (cXEdit (cLs cI rfl)) rfl).enc v1)), (11, .d (cI.enc (v1.length : Int))), (12, .d (cI.enc (k40 : Int)))] (by kernel_rfl) <| xn <| reg_s <| st rfl <| b_inc rfl rfl l38 hk42 <| st rfl <| mvd rfl rfl <| seqN [(0, .d ((cLs (cXVariable cS cI) rfl).enc v0)), (1, .d ((cLs (cXEdit (cLs cI rfl)) rfl).enc v1)), (10, .d ((cLs (cXEdit (cLs cI rfl)) rfl).enc v1)), (11, .d (cI.enc (v1.length : Int))), (12, .d (cI.enc ((k40 + 1 : Nat) : Int)))] (by kernel_rfl) <|
    xn <| hn55 () h)))

def rs_impl_fails (r : Bool) : List D := [cB.enc r]
def m74 : MC := .seq (.reg [⟨some 2, .box (.t 0), none⟩,
    ⟨some 4, .asg (.c (.bool false)), none⟩] [1, 2])
  (.seq (.kp [] (.seq (.reg [⟨some 7, .mv (.t 1), none⟩,
    ⟨some 8, .len false (.t 7), none⟩,
    ⟨some 9, .mv (.c (.int .i64 0)), none⟩] [1, 2, 7, 8, 9])
  (.blk 0 (.loop (.seq (.reg [⟨some 10, .bin .lss (.t 9) (.t 8), none⟩] [1, 2, 7, 8, 9, 10])
  (.seq (.kp [1, 2, 7, 8, 9] (.cond (.t 10) (.skip) (.exit 0)))
  (.seq (.kp [1, 2, 7, 8, 9] (.blk 1 (.seq (.reg [⟨some 11, .mv (.t 9), none⟩,
    ⟨some 12, .ia 7 (.t 9) 1, none⟩,
    ⟨some 13, .ld 12 1 false, none⟩,
    ⟨some 5, .asg (.t 11), none⟩,
    ⟨some 6, .asg (.t 13), none⟩] [1, 2, 5, 6, 7, 8, 9])
  (.seq (.reg [⟨some 14, .fa 2 0 0, none⟩,
    ⟨some 15, .ld 14 1 false, none⟩,
    ⟨some 16, .mv (.t 5), none⟩,
    ⟨some 17, .ia 15 (.t 16) 1, none⟩,
    ⟨some 18, .ld 17 1 false, none⟩,
    ⟨some 19, .mv (.t 6), none⟩,
    ⟨some 20, .bin .shr (.t 18) (.t 19), none⟩,
    ⟨some 21, .bin .and (.t 20) (.c (.int .i64 1)), none⟩,
    ⟨some 22, .bin .eql (.t 21) (.c (.int .i64 0)), none⟩] [1, 2, 7, 8, 9, 22])
  (.cond (.t 22) (.seq (.reg [⟨some 4, .asg (.c (.bool false)), none⟩] [4])
  (.ret)) (.skip))))))
  (.reg [⟨some 23, .bin .add (.t 9) (.c (.int .i64 1)), none⟩,
    ⟨some 9, .mv (.t 23), none⟩] [1, 2, 7, 8, 9]))))))))
  (.seq (.reg [⟨some 4, .asg (.c (.bool true)), none⟩] [4])
  (.ret)))
theorem con_impl_fails {v0 : XEdit} {v1 : (List Int)} {r : Bool} (h : sh_impl_fails v0 v1 = some r) : Con Try.prog 74 [(cXEdit (cLs cI rfl)).enc v0, (cLs cI rfl).enc v1] [] (rs_impl_fails r) := by
  delta sh_impl_fails at h
  refine top (out := none) (f := Try.f74) (m := m74) (rs := [.t 4]) (by kernel_rfl) rfl (by kernel_rfl) (by kernel_rfl) (by kernel_rfl) (by kernel_rfl) (by kernel_rfl) ?_
  exact
   ini [(0, .d ((cXEdit (cLs cI rfl)).enc v0)), (1, .d ((cLs cI rfl).enc v1))] rfl <| wpC_seq <| reg_s <| x_box (ss rfl rfl) <| x_asg (sc cB false rfl) <| seqN [(1, .d ((cLs cI rfl).enc v1)), (2, .box ((cXEdit (cLs cI rfl)).enc v0))] (by kernel_rfl) <|
    xn <| wpC_seq <| wpC_kp <| wpC_seq <| reg_s <| st rfl <| mvd rfl rfl <| stw rfl <| lens rfl fun l80 => st rfl <| mvc cI (0 : Int) rfl <| seqN [(1, .d ((cLs cI rfl).enc v1)), (2, .box ((cXEdit (cLs cI rfl)).enc v0)), (7, .d ((cLs cI rfl).enc v1)), (8, .d (cI.enc (v1.length : Int))), (9, .d (cI.enc (0 : Int)))] (by kernel_rfl) <|
    xn <| wpC_blk <| lpR (fun (k82 : Nat) (s81 : Unit) => [(1, .d ((cLs cI rfl).enc v1)), (2, .box ((cXEdit (cLs cI rfl)).enc v0)), (7, .d ((cLs cI rfl).enc v1)), (8, .d (cI.enc (v1.length : Int))), (9, .d (cI.enc (k82 : Int)))]) () rfl h
    (fun G122 s81 h => wpC_seq <| reg_s <| st rfl <| b_lss (k := .i64) rfl rfl <| seqN [(1, .d ((cLs cI rfl).enc v1)), (2, .box ((cXEdit (cLs cI rfl)).enc v0)), (7, .d ((cLs cI rfl).enc v1)), (8, .d (cI.enc (v1.length : Int))), (9, .d (cI.enc (v1.length : Int))), (10, .d (cB.enc (decide ((v1.length : Int) < (v1.length : Int)))))] (by kernel_rfl) <|
    xn <| wpC_seq <| wpC_kp <| cnd0 rfl (dlf _) <| wpC_exit <| xt <| xt <| xt <| xb <| kpN [] (by kernel_rfl) <| xn <| wpC_seq <| reg_s <| x_asg (sc cB true rfl) <| seqN [(4, .d (cB.enc true))] (by kernel_rfl) <|
    xn <| wpC_ret <| re <| fin h (r1 (ss rfl rfl) <| r0) rfl)
    (fun G122 nx120 k82 s81 x83 hk84 hx85 hn121 h => wpC_seq <| reg_s <| st rfl <| b_lss (k := .i64) rfl rfl <| seqN [(1, .d ((cLs cI rfl).enc v1)), (2, .box ((cXEdit (cLs cI rfl)).enc v0)), (7, .d ((cLs cI rfl).enc v1)), (8, .d (cI.enc (v1.length : Int))), (9, .d (cI.enc (k82 : Int))), (10, .d (cB.enc (decide ((k82 : Int) < (v1.length : Int)))))] (by kernel_rfl) <|
    xn <| wpC_seq <| wpC_kp <| cnd1 rfl (dlt hk84) <| wpC_skip <| kpN [(1, .d ((cLs cI rfl).enc v1)), (2, .box ((cXEdit (cLs cI rfl)).enc v0)), (7, .d ((cLs cI rfl).enc v1)), (8, .d (cI.enc (v1.length : Int))), (9, .d (cI.enc (k82 : Int)))] (by kernel_rfl) <| xn <| wpC_seq <| wpC_kp <| wpC_blk <| wpC_seq <| reg_s <| st rfl <| mvd rfl rfl <| st rfl <| ias rfl rfl (Int.natCast_nonneg _) hx85 rfl <| st rfl <| ldi rfl rfl rfl rfl <| x_asg (ss rfl rfl) <| x_asg (ss rfl rfl) <| seqN [(1, .d ((cLs cI rfl).enc v1)), (2, .box ((cXEdit (cLs cI rfl)).enc v0)), (5, .d (cI.enc (k82 : Int))), (6, .d (cI.enc x83)), (7, .d ((cLs cI rfl).enc v1)), (8, .d (cI.enc (v1.length : Int))), (9, .d (cI.enc (k82 : Int)))] (by kernel_rfl) <|
    xn <| wpC_seq <| reg_s <| st rfl <| fab rfl rfl rfl rfl <| st rfl <| lda rfl rfl rfl rfl rfl rfl <| st rfl <| mvd rfl rfl <| getO_k h fun x148 i149 g150 h => st rfl <| ias rfl rfl i149 g150 rfl <| st rfl <| ldi rfl rfl rfl rfl <| st rfl <| mvd rfl rfl <| ck_k h fun i151 h => st rfl <| b_shr (k := .i64) (k' := .i64) rfl rfl i151 rfl <| ck_k h fun i152 h => ckK_k h fun i153 h => ck_k h fun i154 h => ckK_k h fun i155 h => st rfl <| b_and (k := .i64) rfl rfl ⟨i152, i153⟩ ⟨i154, i155⟩ <| st rfl <| b_eql (k := .i64) rfl rfl <| seqN [(1, .d ((cLs cI rfl).enc v1)), (2, .box ((cXEdit (cLs cI rfl)).enc v0)), (7, .d ((cLs cI rfl).enc v1)), (8, .d (cI.enc (v1.length : Int))), (9, .d (cI.enc (k82 : Int))), (22, .d (cB.enc (decide ((((x148 / 2 ^ (x83).toNat).toNat &&& (1 : Int).toNat : Nat) : Int) = (0 : Int)))))] (by kernel_rfl) <|
    xn <| cnd rfl h (fun b156 h => wpC_seq <| reg_s <| x_asg (sc cB false rfl) <| seqN [(4, .d (cB.enc false))] (by kernel_rfl) <|
    xn <| wpC_ret <| rb <| rt <| rt <| rt <| rb <| rt <| rt <| re <| fin h (r1 (ss rfl rfl) <| r0) rfl)
    (fun b156 h => wpC_skip <| xbb <| kpN [(1, .d ((cLs cI rfl).enc v1)), (2, .box ((cXEdit (cLs cI rfl)).enc v0)), (7, .d ((cLs cI rfl).enc v1)), (8, .d (cI.enc (v1.length : Int))), (9, .d (cI.enc (k82 : Int)))] (by kernel_rfl) <| xn <| reg_s <| st rfl <| b_inc rfl rfl l80 hk84 <| st rfl <| mvd rfl rfl <| seqN [(1, .d ((cLs cI rfl).enc v1)), (2, .box ((cXEdit (cLs cI rfl)).enc v0)), (7, .d ((cLs cI rfl).enc v1)), (8, .d (cI.enc (v1.length : Int))), (9, .d (cI.enc ((k82 + 1 : Nat) : Int)))] (by kernel_rfl) <|
    xn <| hn121 () h))

def rs_impl_failsOne (r : Bool) : List D := [cB.enc r]
def m75 : MC := .seq (.reg [⟨some 4, .asg (.c (.bool false)), none⟩] [0, 1])
  (.seq (.kp [] (.seq (.reg [⟨some 7, .mv (.t 0), none⟩,
    ⟨some 8, .len false (.t 7), none⟩,
    ⟨some 9, .mv (.c (.int .i64 0)), none⟩] [0, 1, 7, 8, 9])
  (.blk 0 (.loop (.seq (.reg [⟨some 10, .bin .lss (.t 9) (.t 8), none⟩] [0, 1, 7, 8, 9, 10])
  (.seq (.kp [0, 1, 7, 8, 9] (.cond (.t 10) (.skip) (.exit 0)))
  (.seq (.kp [0, 1, 7, 8, 9] (.blk 1 (.seq (.reg [⟨some 11, .ia 7 (.t 9) 1, none⟩,
    ⟨some 12, .ld 11 1 true, none⟩,
    ⟨some 6, .alloc (.agg [.slice true []]), none⟩,
    ⟨none, .st 6 (.t 12) 1, none⟩] [0, 1, 6, 7, 8, 9])
  (.seq (.reg [⟨some 13, .ld 6 1 true, none⟩,
    ⟨some 14, .mv (.t 1), none⟩,
    ⟨some 15, .call 74 [(.t 13), (.t 14)], none⟩] [0, 1, 7, 8, 9, 15])
  (.cond (.t 15) (.seq (.reg [⟨some 4, .asg (.c (.bool true)), none⟩] [4])
  (.ret)) (.skip))))))
  (.reg [⟨some 16, .bin .add (.t 9) (.c (.int .i64 1)), none⟩,
    ⟨some 9, .mv (.t 16), none⟩] [0, 1, 7, 8, 9]))))))))
  (.seq (.reg [⟨some 4, .asg (.c (.bool false)), none⟩] [4])
  (.ret)))
theorem con_impl_failsOne {v0 : (List XEdit)} {v1 : (List Int)} {r : Bool} (h : sh_impl_failsOne v0 v1 = some r) : Con Try.prog 75 [(cLs (cXEdit (cLs cI rfl)) rfl).enc v0, (cLs cI rfl).enc v1] [] (rs_impl_failsOne r) := by
  delta sh_impl_failsOne at h
  refine top (out := none) (f := Try.f75) (m := m75) (rs := [.t 4]) (by kernel_rfl) rfl (by kernel_rfl) (by kernel_rfl) (by kernel_rfl) (by kernel_rfl) (by kernel_rfl) ?_
  exact
   ini [(0, .d ((cLs (cXEdit (cLs cI rfl)) rfl).enc v0)), (1, .d ((cLs cI rfl).enc v1))] rfl <| wpC_seq <| reg_s <| x_asg (sc cB false rfl) <| seqN [(0, .d ((cLs (cXEdit (cLs cI rfl)) rfl).enc v0)), (1, .d ((cLs cI rfl).enc v1))] (by kernel_rfl) <|
    xn <| wpC_seq <| wpC_kp <| wpC_seq <| reg_s <| st rfl <| mvd rfl rfl <| stw rfl <| lens rfl fun l32 => st rfl <| mvc cI (0 : Int) rfl <| seqN [(0, .d ((cLs (cXEdit (cLs cI rfl)) rfl).enc v0)), (1, .d ((cLs cI rfl).enc v1)), (7, .d ((cLs (cXEdit (cLs cI rfl)) rfl).enc v0)), (8, .d (cI.enc (v0.length : Int))), (9, .d (cI.enc (0 : Int)))] (by kernel_rfl) <|
    xn <| wpC_blk <| lpR (fun (k34 : Nat) (s33 : Unit) => [(0, .d ((cLs (cXEdit (cLs cI rfl)) rfl).enc v0)), (1, .d ((cLs cI rfl).enc v1)), (7, .d ((cLs (cXEdit (cLs cI rfl)) rfl).enc v0)), (8, .d (cI.enc (v0.length : Int))), (9, .d (cI.enc (k34 : Int)))]) () rfl h
    (fun G50 s33 h => wpC_seq <| reg_s <| st rfl <| b_lss (k := .i64) rfl rfl <| seqN [(0, .d ((cLs (cXEdit (cLs cI rfl)) rfl).enc v0)), (1, .d ((cLs cI rfl).enc v1)), (7, .d ((cLs (cXEdit (cLs cI rfl)) rfl).enc v0)), (8, .d (cI.enc (v0.length : Int))), (9, .d (cI.enc (v0.length : Int))), (10, .d (cB.enc (decide ((v0.length : Int) < (v0.length : Int)))))] (by kernel_rfl) <|
    xn <| wpC_seq <| wpC_kp <| cnd0 rfl (dlf _) <| wpC_exit <| xt <| xt <| xt <| xb <| kpN [] (by kernel_rfl) <| xn <| wpC_seq <| reg_s <| x_asg (sc cB false rfl) <| seqN [(4, .d (cB.enc false))] (by kernel_rfl) <|
    xn <| wpC_ret <| re <| fin h (r1 (ss rfl rfl) <| r0) rfl)
    (fun G50 nx48 k34 s33 x35 hk36 hx37 hn49 h => wpC_seq <| reg_s <| st rfl <| b_lss (k := .i64) rfl rfl <| seqN [(0, .d ((cLs (cXEdit (cLs cI rfl)) rfl).enc v0)), (1, .d ((cLs cI rfl).enc v1)), (7, .d ((cLs (cXEdit (cLs cI rfl)) rfl).enc v0)), (8, .d (cI.enc (v0.length : Int))), (9, .d (cI.enc (k34 : Int))), (10, .d (cB.enc (decide ((k34 : Int) < (v0.length : Int)))))] (by kernel_rfl) <|
    xn <| wpC_seq <| wpC_kp <| cnd1 rfl (dlt hk36) <| wpC_skip <| kpN [(0, .d ((cLs (cXEdit (cLs cI rfl)) rfl).enc v0)), (1, .d ((cLs cI rfl).enc v1)), (7, .d ((cLs (cXEdit (cLs cI rfl)) rfl).enc v0)), (8, .d (cI.enc (v0.length : Int))), (9, .d (cI.enc (k34 : Int)))] (by kernel_rfl) <| xn <| wpC_seq <| wpC_kp <| wpC_blk <| wpC_seq <| reg_s <| st rfl <| ias rfl rfl (Int.natCast_nonneg _) hx37 rfl <| st rfl <| ldi rfl rfl rfl rfl <| x_all (cXEdit (cLo cI)) (⟨([] : List Int)⟩ : XEdit) rfl <| x_stb (ss rfl rfl) rfl (Cd.h_sz _ _) rfl <| seqN [(0, .d ((cLs (cXEdit (cLs cI rfl)) rfl).enc v0)), (1, .d ((cLs cI rfl).enc v1)), (6, .box ((cXEdit (cLs cI rfl)).enc x35)), (7, .d ((cLs (cXEdit (cLs cI rfl)) rfl).enc v0)), (8, .d (cI.enc (v0.length : Int))), (9, .d (cI.enc (k34 : Int)))] (by kernel_rfl) <|
    xn <| wpC_seq <| reg_s <| st rfl <| ldb rfl rfl rfl rfl <| st rfl <| mvd rfl rfl <| bnd h fun x58 e59 h => st rfl <| o_call (a1 (c := (cXEdit (cLs cI rfl))) (tXEdit (tLs tK)) rfl (a1 (c := (cLs cI rfl)) (tLs tK) rfl a0)) (con_impl_fails e59) (.inl (so1 sB so0)) <| seqN [(0, .d ((cLs (cXEdit (cLs cI rfl)) rfl).enc v0)), (1, .d ((cLs cI rfl).enc v1)), (7, .d ((cLs (cXEdit (cLs cI rfl)) rfl).enc v0)), (8, .d (cI.enc (v0.length : Int))), (9, .d (cI.enc (k34 : Int))), (15, .d (cB.enc x58))] (by kernel_rfl) <|
    xn <| cnd rfl h (fun b60 h => wpC_seq <| reg_s <| x_asg (sc cB true rfl) <| seqN [(4, .d (cB.enc true))] (by kernel_rfl) <|
    xn <| wpC_ret <| rb <| rt <| rt <| rt <| rb <| rt <| rt <| re <| fin h (r1 (ss rfl rfl) <| r0) rfl)
    (fun b60 h => wpC_skip <| xbb <| kpN [(0, .d ((cLs (cXEdit (cLs cI rfl)) rfl).enc v0)), (1, .d ((cLs cI rfl).enc v1)), (7, .d ((cLs (cXEdit (cLs cI rfl)) rfl).enc v0)), (8, .d (cI.enc (v0.length : Int))), (9, .d (cI.enc (k34 : Int)))] (by kernel_rfl) <| xn <| reg_s <| st rfl <| b_inc rfl rfl l32 hk36 <| st rfl <| mvd rfl rfl <| seqN [(0, .d ((cLs (cXEdit (cLs cI rfl)) rfl).enc v0)), (1, .d ((cLs cI rfl).enc v1)), (7, .d ((cLs (cXEdit (cLs cI rfl)) rfl).enc v0)), (8, .d (cI.enc (v0.length : Int))), (9, .d (cI.enc ((k34 + 1 : Nat) : Int)))] (by kernel_rfl) <|
    xn <| hn49 () h))

def rs_laws_eqEditS (r : Bool) : List D := [cB.enc r]
def m29 : MC := .seq (.reg [⟨some 4, .asg (.c (.bool false)), none⟩] [0, 1])
  (.seq (.kp [0, 1] (.seq (.reg [⟨some 6, .mv (.t 0), none⟩,
    ⟨some 7, .len false (.t 6), none⟩,
    ⟨some 8, .mv (.t 1), none⟩,
    ⟨some 9, .len false (.t 8), none⟩,
    ⟨some 10, .bin .neq (.t 7) (.t 9), none⟩] [0, 1, 10])
  (.cond (.t 10) (.seq (.reg [⟨some 4, .asg (.c (.bool false)), none⟩] [4])
  (.ret)) (.skip))))
  (.seq (.kp [] (.seq (.reg [⟨some 5, .asg (.c (.int .i64 0)), none⟩] [0, 1, 5])
  (.blk 0 (.loop (.seq (.kp [0, 1, 5] (.seq (.reg [⟨some 11, .mv (.t 5), none⟩,
    ⟨some 12, .mv (.t 0), none⟩,
    ⟨some 13, .len false (.t 12), none⟩,
    ⟨some 14, .bin .lss (.t 11) (.t 13), none⟩] [0, 1, 5, 14])
  (.cond (.t 14) (.skip) (.exit 0))))
  (.seq (.kp [0, 1, 5] (.blk 1 (.seq (.drw [⟨0, ⟨some 17, .mv (.t 0), none⟩, [18, 19, 20, 21, 22, 23, 24, 25, 26]⟩,
    ⟨1, ⟨some 18, .mv (.t 5), none⟩, [17, 19, 20, 21, 22, 23, 24, 25, 26]⟩,
    ⟨2, ⟨some 19, .ia 17 (.t 18) 1, none⟩, [20, 21, 22, 23, 24, 25, 26]⟩,
    ⟨3, ⟨some 20, .ld 19 1 true, none⟩, [21, 22, 23, 24, 25, 26]⟩,
    ⟨4, ⟨some 21, .mv (.t 1), none⟩, [17, 18, 19, 20, 22, 23, 24, 25, 26]⟩,
    ⟨5, ⟨some 22, .mv (.t 5), none⟩, [17, 18, 19, 20, 21, 23, 24, 25, 26]⟩,
    ⟨6, ⟨some 23, .ia 21 (.t 22) 1, none⟩, [17, 18, 19, 20, 24, 25, 26]⟩,
    ⟨7, ⟨some 24, .ld 23 1 true, none⟩, [17, 18, 19, 20, 25, 26]⟩,
    ⟨8, ⟨some 25, .call 20 [(.t 20), (.t 24)], none⟩, [26]⟩,
    ⟨9, ⟨some 26, .nt (.t 25), none⟩, []⟩]
    [] [0, 1, 5, 26])
  (.cond (.t 26) (.seq (.reg [⟨some 4, .asg (.c (.bool false)), none⟩] [4])
  (.ret)) (.skip)))))
  (.reg [⟨some 15, .mv (.t 5), none⟩,
    ⟨some 16, .bin .add (.t 15) (.c (.int .i64 1)), none⟩,
    ⟨some 5, .asg (.t 16), none⟩] [0, 1, 5])))))))
  (.seq (.reg [⟨some 4, .asg (.c (.bool true)), none⟩] [4])
  (.ret))))
theorem con_laws_eqEditS {v0 : (List XEdit)} {v1 : (List XEdit)} {r : Bool} (h : sh_laws_eqEditS v0 v1 = some r) : Con Try.prog 29 [(cLs (cXEdit (cLs cI rfl)) rfl).enc v0, (cLs (cXEdit (cLs cI rfl)) rfl).enc v1] [] (rs_laws_eqEditS r) := by
  delta sh_laws_eqEditS at h
  refine top (out := none) (f := Try.f29) (m := m29) (rs := [.t 4]) (by kernel_rfl) rfl (by kernel_rfl) (by kernel_rfl) (by kernel_rfl) (by kernel_rfl) (by kernel_rfl) ?_
  exact
   ini [(0, .d ((cLs (cXEdit (cLs cI rfl)) rfl).enc v0)), (1, .d ((cLs (cXEdit (cLs cI rfl)) rfl).enc v1))] rfl <| wpC_seq <| reg_s <| x_asg (sc cB false rfl) <| seqN [(0, .d ((cLs (cXEdit (cLs cI rfl)) rfl).enc v0)), (1, .d ((cLs (cXEdit (cLs cI rfl)) rfl).enc v1))] (by kernel_rfl) <|
    xn <| wpC_seq <| wpC_kp <| wpC_seq <| reg_s <| st rfl <| mvd rfl rfl <| stw rfl <| lens rfl fun l8 => st rfl <| mvd rfl rfl <| stw rfl <| lens rfl fun l9 => st rfl <| b_neq (k := .i64) rfl rfl <| seqN [(0, .d ((cLs (cXEdit (cLs cI rfl)) rfl).enc v0)), (1, .d ((cLs (cXEdit (cLs cI rfl)) rfl).enc v1)), (10, .d (cB.enc (decide ((v0.length : Int) ≠ (v1.length : Int)))))] (by kernel_rfl) <|
    xn <| cnd rfl h (fun b10 h => wpC_seq <| reg_s <| x_asg (sc cB false rfl) <| seqN [(4, .d (cB.enc false))] (by kernel_rfl) <|
    xn <| wpC_ret <| rt <| rt <| re <| fin h (r1 (ss rfl rfl) <| r0) rfl)
    (fun b10 h => wpC_skip <| kpN [(0, .d ((cLs (cXEdit (cLs cI rfl)) rfl).enc v0)), (1, .d ((cLs (cXEdit (cLs cI rfl)) rfl).enc v1))] (by kernel_rfl) <| xn <| wpC_seq <| wpC_kp <| wpC_seq <| reg_s <| x_asg (sc cI (0 : Int) rfl) <| seqN [(0, .d ((cLs (cXEdit (cLs cI rfl)) rfl).enc v0)), (1, .d ((cLs (cXEdit (cLs cI rfl)) rfl).enc v1)), (5, .d (cI.enc (0 : Int)))] (by kernel_rfl) <|
    xn <| wpC_blk <| lpF (fun (s142 : Int) => [(0, .d ((cLs (cXEdit (cLs cI rfl)) rfl).enc v0)), (1, .d ((cLs (cXEdit (cLs cI rfl)) rfl).enc v1)), (5, .d (cI.enc s142))]) (0 : Int) rfl h
    fun G231 nx229 s142 hn230 h => wpC_seq <| wpC_kp <| wpC_seq <| reg_s <| st rfl <| mvd rfl rfl <| st rfl <| mvd rfl rfl <| stw rfl <| lens rfl fun l236 => st rfl <| b_lss (k := .i64) rfl rfl <| seqN [(0, .d ((cLs (cXEdit (cLs cI rfl)) rfl).enc v0)), (1, .d ((cLs (cXEdit (cLs cI rfl)) rfl).enc v1)), (5, .d (cI.enc s142)), (14, .d (cB.enc (decide (s142 < (v0.length : Int)))))] (by kernel_rfl) <|
    xn <| cnd rfl h (fun b237 h => wpC_skip <| kpN [(0, .d ((cLs (cXEdit (cLs cI rfl)) rfl).enc v0)), (1, .d ((cLs (cXEdit (cLs cI rfl)) rfl).enc v1)), (5, .d (cI.enc s142))] (by kernel_rfl) <| xn <| wpC_seq <| wpC_kp <| wpC_blk <| wpC_seq <| drw_s <| pst rfl <| mvd rfl rfl ⟨rfl, pst rfl <| mvd rfl rfl ⟨rfl, getO_kp h fun x263 i264 g265 h => pst rfl <| ias rfl rfl i264 g265 rfl ⟨rfl, pst rfl <| ldi rfl rfl rfl rfl ⟨rfl, pst rfl <| mvd rfl rfl ⟨rfl, pst rfl <| mvd rfl rfl ⟨rfl, getO_kp h fun x266 i267 g268 h => pst rfl <| ias rfl rfl i267 g268 rfl ⟨rfl, pst rfl <| ldi rfl rfl rfl rfl ⟨rfl, bndp h fun x269 e270 h => pst rfl <| o_call (a1 (c := (cXEdit (cLs cI rfl))) (tXEdit (tLs tK)) rfl (a1 (c := (cXEdit (cLs cI rfl))) (tXEdit (tLs tK)) rfl a0)) (con_laws_eqEdit e270) (.inl (so1 sB so0)) ⟨rfl, pst rfl <| o_nt rfl ⟨rfl, preN <| seqN [(0, .d ((cLs (cXEdit (cLs cI rfl)) rfl).enc v0)), (1, .d ((cLs (cXEdit (cLs cI rfl)) rfl).enc v1)), (5, .d (cI.enc s142)), (26, .d (cB.enc (!x269)))] (by kernel_rfl) <|
    xn <| cnd rfl h (fun b271 h => wpC_seq <| reg_s <| x_asg (sc cB false rfl) <| seqN [(4, .d (cB.enc false))] (by kernel_rfl) <|
    xn <| wpC_ret <| rb <| rt <| rt <| rt <| rb <| rt <| rt <| re <| fin h (r1 (ss rfl rfl) <| r0) rfl)
    (fun b271 h => wpC_skip <| xbb <| kpN [(0, .d ((cLs (cXEdit (cLs cI rfl)) rfl).enc v0)), (1, .d ((cLs (cXEdit (cLs cI rfl)) rfl).enc v1)), (5, .d (cI.enc s142))] (by kernel_rfl) <| xn <| reg_s <| st rfl <| mvd rfl rfl <| ckI_k h fun i272 h => st rfl <| b_add (k := .i64) rfl rfl i272 <| x_asg (ss rfl rfl) <| seqN [(0, .d ((cLs (cXEdit (cLs cI rfl)) rfl).enc v0)), (1, .d ((cLs (cXEdit (cLs cI rfl)) rfl).enc v1)), (5, .d (cI.enc (s142 + (1 : Int))))] (by kernel_rfl) <|
    xn <| hn230 (s142 + (1 : Int)) h)⟩⟩⟩⟩⟩⟩⟩⟩⟩⟩)
    (fun b237 h => wpC_exit <| xt <| xt <| xt <| xb <| kpN [] (by kernel_rfl) <| xn <| wpC_seq <| reg_s <| x_asg (sc cB true rfl) <| seqN [(4, .d (cB.enc true))] (by kernel_rfl) <|
    xn <| wpC_ret <| re <| fin h (r1 (ss rfl rfl) <| r0) rfl))

def rs_spec_sFits (r : Bool) : List D := [cB.enc r]
def m88 : MC := .seq (.reg [⟨some 4, .asg (.c (.bool false)), none⟩] [0, 1])
  (.seq (.kp [0, 1] (.seq (.reg [⟨some 7, .mv (.t 1), none⟩,
    ⟨some 8, .len false (.t 7), none⟩,
    ⟨some 9, .mv (.t 0), none⟩,
    ⟨some 10, .len false (.t 9), none⟩,
    ⟨some 11, .bin .neq (.t 8) (.t 10), none⟩] [0, 1, 11])
  (.cond (.t 11) (.seq (.reg [⟨some 4, .asg (.c (.bool false)), none⟩] [4])
  (.ret)) (.skip))))
  (.seq (.kp [] (.seq (.reg [⟨some 12, .mv (.t 0), none⟩,
    ⟨some 13, .len false (.t 12), none⟩,
    ⟨some 14, .mv (.c (.int .i64 0)), none⟩] [0, 1, 12, 13, 14])
  (.blk 0 (.loop (.seq (.reg [⟨some 15, .bin .lss (.t 14) (.t 13), none⟩] [0, 1, 12, 13, 14, 15])
  (.seq (.kp [0, 1, 12, 13, 14] (.cond (.t 15) (.skip) (.exit 0)))
  (.seq (.kp [0, 1, 12, 13, 14] (.blk 1 (.seq (.reg [⟨some 16, .mv (.t 14), none⟩,
    ⟨some 17, .ia 12 (.t 14) 2, none⟩,
    ⟨some 18, .ld 17 2 true, none⟩,
    ⟨some 6, .alloc (.agg [.str [], .int .i64 0]), none⟩,
    ⟨some 5, .asg (.t 16), none⟩,
    ⟨none, .st 6 (.t 18) 2, none⟩] [0, 1, 5, 6, 12, 13, 14])
  (.seq (.drw [⟨0, ⟨some 19, .mv (.t 1), none⟩, [20, 21, 22, 23, 24, 25, 26, 27]⟩,
    ⟨1, ⟨some 20, .mv (.t 5), none⟩, [19, 21, 22, 23, 24, 25, 26, 27]⟩,
    ⟨2, ⟨some 21, .ia 19 (.t 20) 1, none⟩, [22, 23, 24, 25, 26, 27]⟩,
    ⟨3, ⟨some 22, .ld 21 1 false, none⟩, [23, 24, 25, 26, 27]⟩,
    ⟨4, ⟨some 23, .fa 6 1 1, none⟩, [19, 20, 21, 22, 24, 25, 26, 27]⟩,
    ⟨5, ⟨some 24, .ld 23 1 false, none⟩, [19, 20, 21, 22, 25, 26, 27]⟩,
    ⟨6, ⟨some 25, .bin .sub (.t 24) (.c (.int .i64 1)), none⟩, [19, 20, 21, 22, 26, 27]⟩,
    ⟨7, ⟨some 26, .call 60 [(.t 22), (.c (.int .i64 0)), (.t 25)], none⟩, [27]⟩,
    ⟨8, ⟨some 27, .nt (.t 26), none⟩, []⟩]
    [] [0, 1, 12, 13, 14, 27])
  (.cond (.t 27) (.seq (.reg [⟨some 4, .asg (.c (.bool false)), none⟩] [4])
  (.ret)) (.skip))))))
  (.reg [⟨some 28, .bin .add (.t 14) (.c (.int .i64 1)), none⟩,
    ⟨some 14, .mv (.t 28), none⟩] [0, 1, 12, 13, 14]))))))))
  (.seq (.reg [⟨some 4, .asg (.c (.bool true)), none⟩] [4])
  (.ret))))
theorem con_spec_sFits {v0 : (List XVariable)} {v1 : (List Int)} {r : Bool} (h : sh_spec_sFits v0 v1 = some r) : Con Try.prog 88 [(cLs (cXVariable cS cI) rfl).enc v0, (cLs cI rfl).enc v1] [] (rs_spec_sFits r) := by
  delta sh_spec_sFits at h
  refine top (out := none) (f := Try.f88) (m := m88) (rs := [.t 4]) (by kernel_rfl) rfl (by kernel_rfl) (by kernel_rfl) (by kernel_rfl) (by kernel_rfl) (by kernel_rfl) ?_
  exact
   ini [(0, .d ((cLs (cXVariable cS cI) rfl).enc v0)), (1, .d ((cLs cI rfl).enc v1))] rfl <| wpC_seq <| reg_s <| x_asg (sc cB false rfl) <| seqN [(0, .d ((cLs (cXVariable cS cI) rfl).enc v0)), (1, .d ((cLs cI rfl).enc v1))] (by kernel_rfl) <|
    xn <| wpC_seq <| wpC_kp <| wpC_seq <| reg_s <| st rfl <| mvd rfl rfl <| stw rfl <| lens rfl fun l8 => st rfl <| mvd rfl rfl <| stw rfl <| lens rfl fun l9 => st rfl <| b_neq (k := .i64) rfl rfl <| seqN [(0, .d ((cLs (cXVariable cS cI) rfl).enc v0)), (1, .d ((cLs cI rfl).enc v1)), (11, .d (cB.enc (decide ((v1.length : Int) ≠ (v0.length : Int)))))] (by kernel_rfl) <|
    xn <| cnd rfl h (fun b10 h => wpC_seq <| reg_s <| x_asg (sc cB false rfl) <| seqN [(4, .d (cB.enc false))] (by kernel_rfl) <|
    xn <| wpC_ret <| rt <| rt <| re <| fin h (r1 (ss rfl rfl) <| r0) rfl)
    (fun b10 h => wpC_skip <| kpN [(0, .d ((cLs (cXVariable cS cI) rfl).enc v0)), (1, .d ((cLs cI rfl).enc v1))] (by kernel_rfl) <| xn <| wpC_seq <| wpC_kp <| wpC_seq <| reg_s <| st rfl <| mvd rfl rfl <| stw rfl <| lens rfl fun l74 => st rfl <| mvc cI (0 : Int) rfl <| seqN [(0, .d ((cLs (cXVariable cS cI) rfl).enc v0)), (1, .d ((cLs cI rfl).enc v1)), (12, .d ((cLs (cXVariable cS cI) rfl).enc v0)), (13, .d (cI.enc (v0.length : Int))), (14, .d (cI.enc (0 : Int)))] (by kernel_rfl) <|
    xn <| wpC_blk <| lpR (fun (k76 : Nat) (s75 : Unit) => [(0, .d ((cLs (cXVariable cS cI) rfl).enc v0)), (1, .d ((cLs cI rfl).enc v1)), (12, .d ((cLs (cXVariable cS cI) rfl).enc v0)), (13, .d (cI.enc (v0.length : Int))), (14, .d (cI.enc (k76 : Int)))]) () rfl h
    (fun G108 s75 h => wpC_seq <| reg_s <| st rfl <| b_lss (k := .i64) rfl rfl <| seqN [(0, .d ((cLs (cXVariable cS cI) rfl).enc v0)), (1, .d ((cLs cI rfl).enc v1)), (12, .d ((cLs (cXVariable cS cI) rfl).enc v0)), (13, .d (cI.enc (v0.length : Int))), (14, .d (cI.enc (v0.length : Int))), (15, .d (cB.enc (decide ((v0.length : Int) < (v0.length : Int)))))] (by kernel_rfl) <|
    xn <| wpC_seq <| wpC_kp <| cnd0 rfl (dlf _) <| wpC_exit <| xt <| xt <| xt <| xb <| kpN [] (by kernel_rfl) <| xn <| wpC_seq <| reg_s <| x_asg (sc cB true rfl) <| seqN [(4, .d (cB.enc true))] (by kernel_rfl) <|
    xn <| wpC_ret <| re <| fin h (r1 (ss rfl rfl) <| r0) rfl)
    (fun G108 nx106 k76 s75 x77 hk78 hx79 hn107 h => wpC_seq <| reg_s <| st rfl <| b_lss (k := .i64) rfl rfl <| seqN [(0, .d ((cLs (cXVariable cS cI) rfl).enc v0)), (1, .d ((cLs cI rfl).enc v1)), (12, .d ((cLs (cXVariable cS cI) rfl).enc v0)), (13, .d (cI.enc (v0.length : Int))), (14, .d (cI.enc (k76 : Int))), (15, .d (cB.enc (decide ((k76 : Int) < (v0.length : Int)))))] (by kernel_rfl) <|
    xn <| wpC_seq <| wpC_kp <| cnd1 rfl (dlt hk78) <| wpC_skip <| kpN [(0, .d ((cLs (cXVariable cS cI) rfl).enc v0)), (1, .d ((cLs cI rfl).enc v1)), (12, .d ((cLs (cXVariable cS cI) rfl).enc v0)), (13, .d (cI.enc (v0.length : Int))), (14, .d (cI.enc (k76 : Int)))] (by kernel_rfl) <| xn <| wpC_seq <| wpC_kp <| wpC_blk <| wpC_seq <| reg_s <| st rfl <| mvd rfl rfl <| st rfl <| ias rfl rfl (Int.natCast_nonneg _) hx79 rfl <| st rfl <| ldi rfl rfl rfl rfl <| x_all (cXVariable cS cI) (⟨([] : List UInt8), (0 : Int)⟩ : XVariable) rfl <| x_asg (ss rfl rfl) <| x_stb (ss rfl rfl) rfl (Cd.h_sz _ _) rfl <| seqN [(0, .d ((cLs (cXVariable cS cI) rfl).enc v0)), (1, .d ((cLs cI rfl).enc v1)), (5, .d (cI.enc (k76 : Int))), (6, .box ((cXVariable cS cI).enc x77)), (12, .d ((cLs (cXVariable cS cI) rfl).enc v0)), (13, .d (cI.enc (v0.length : Int))), (14, .d (cI.enc (k76 : Int)))] (by kernel_rfl) <|
    xn <| wpC_seq <| drw_s <| pst rfl <| mvd rfl rfl ⟨rfl, pst rfl <| mvd rfl rfl ⟨rfl, getO_kp h fun x128 i129 g130 h => pst rfl <| ias rfl rfl i129 g130 rfl ⟨rfl, pst rfl <| ldi rfl rfl rfl rfl ⟨rfl, pst rfl <| fab rfl rfl rfl rfl ⟨rfl, pst rfl <| lda rfl rfl rfl rfl rfl rfl ⟨rfl, ckI_kp h fun i131 h => pst rfl <| b_sub (k := .i64) rfl rfl i131 ⟨rfl, bndp h fun x132 e133 h => pst rfl <| o_call (a1 (c := cI) tK rfl (a1 (c := cI) tK rfl (a1 (c := cI) tK rfl a0))) (con_spec_l1In e133) (.inl (so1 sB so0)) ⟨rfl, pst rfl <| o_nt rfl ⟨rfl, preN <| seqN [(0, .d ((cLs (cXVariable cS cI) rfl).enc v0)), (1, .d ((cLs cI rfl).enc v1)), (12, .d ((cLs (cXVariable cS cI) rfl).enc v0)), (13, .d (cI.enc (v0.length : Int))), (14, .d (cI.enc (k76 : Int))), (27, .d (cB.enc (!x132)))] (by kernel_rfl) <|
    xn <| cnd rfl h (fun b134 h => wpC_seq <| reg_s <| x_asg (sc cB false rfl) <| seqN [(4, .d (cB.enc false))] (by kernel_rfl) <|
    xn <| wpC_ret <| rb <| rt <| rt <| rt <| rb <| rt <| rt <| re <| fin h (r1 (ss rfl rfl) <| r0) rfl)
    (fun b134 h => wpC_skip <| xbb <| kpN [(0, .d ((cLs (cXVariable cS cI) rfl).enc v0)), (1, .d ((cLs cI rfl).enc v1)), (12, .d ((cLs (cXVariable cS cI) rfl).enc v0)), (13, .d (cI.enc (v0.length : Int))), (14, .d (cI.enc (k76 : Int)))] (by kernel_rfl) <| xn <| reg_s <| st rfl <| b_inc rfl rfl l74 hk78 <| st rfl <| mvd rfl rfl <| seqN [(0, .d ((cLs (cXVariable cS cI) rfl).enc v0)), (1, .d ((cLs cI rfl).enc v1)), (12, .d ((cLs (cXVariable cS cI) rfl).enc v0)), (13, .d (cI.enc (v0.length : Int))), (14, .d (cI.enc ((k76 + 1 : Nat) : Int)))] (by kernel_rfl) <|
    xn <| hn107 () h)⟩⟩⟩⟩⟩⟩⟩⟩⟩))

def rs_impl_areValues (r : Bool) : List D := [cB.enc r]
def m93 : MC := .seq (.reg [⟨some 4, .asg (.c (.bool false)), none⟩] [0, 1])
  (.seq (.kp [0, 1] (.seq (.reg [⟨some 7, .mv (.t 1), none⟩,
    ⟨some 8, .len false (.t 7), none⟩,
    ⟨some 9, .mv (.t 0), none⟩,
    ⟨some 10, .len false (.t 9), none⟩,
    ⟨some 11, .bin .neq (.t 8) (.t 10), none⟩] [0, 1, 11])
  (.cond (.t 11) (.seq (.reg [⟨some 4, .asg (.c (.bool false)), none⟩] [4])
  (.ret)) (.skip))))
  (.seq (.kp [] (.seq (.reg [⟨some 12, .mv (.t 1), none⟩,
    ⟨some 13, .len false (.t 12), none⟩,
    ⟨some 14, .mv (.c (.int .i64 0)), none⟩] [0, 1, 12, 13, 14])
  (.blk 0 (.loop (.seq (.reg [⟨some 15, .bin .lss (.t 14) (.t 13), none⟩] [0, 1, 12, 13, 14, 15])
  (.seq (.kp [0, 1, 12, 13, 14] (.cond (.t 15) (.skip) (.exit 0)))
  (.seq (.kp [0, 1, 12, 13, 14] (.blk 1 (.seq (.reg [⟨some 16, .mv (.t 14), none⟩,
    ⟨some 17, .ia 12 (.t 14) 1, none⟩,
    ⟨some 18, .ld 17 1 false, none⟩,
    ⟨some 5, .asg (.t 16), none⟩,
    ⟨some 6, .asg (.t 18), none⟩] [0, 1, 5, 6, 12, 13, 14])
  (.seq (.reg [⟨some 19, .mv (.t 6), none⟩,
    ⟨some 20, .bin .lss (.t 19) (.c (.int .i64 0)), none⟩,
    ⟨some 21, .mv (.t 20), none⟩,
    ⟨some 22, .mv (.t 6), some (21, false)⟩,
    ⟨some 23, .mv (.t 0), some (21, false)⟩,
    ⟨some 24, .mv (.t 5), some (21, false)⟩,
    ⟨some 25, .ia 23 (.t 24) 2, some (21, false)⟩,
    ⟨some 26, .fa 25 1 1, some (21, false)⟩,
    ⟨some 27, .ld 26 1 false, some (21, false)⟩,
    ⟨some 28, .bin .geq (.t 22) (.t 27), some (21, false)⟩,
    ⟨some 29, .pick (.t 21) (.c (.bool true)) (.t 28), none⟩] [0, 1, 12, 13, 14, 29])
  (.cond (.t 29) (.seq (.reg [⟨some 4, .asg (.c (.bool false)), none⟩] [4])
  (.ret)) (.skip))))))
  (.reg [⟨some 30, .bin .add (.t 14) (.c (.int .i64 1)), none⟩,
    ⟨some 14, .mv (.t 30), none⟩] [0, 1, 12, 13, 14]))))))))
  (.seq (.reg [⟨some 4, .asg (.c (.bool true)), none⟩] [4])
  (.ret))))
theorem con_impl_areValues {v0 : (List XVariable)} {v1 : (List Int)} {r : Bool} (h : sh_impl_areValues v0 v1 = some r) : Con Try.prog 93 [(cLs (cXVariable cS cI) rfl).enc v0, (cLs cI rfl).enc v1] [] (rs_impl_areValues r) := by
  delta sh_impl_areValues at h
  refine top (out := none) (f := Try.f93) (m := m93) (rs := [.t 4]) (by kernel_rfl) rfl (by kernel_rfl) (by kernel_rfl) (by kernel_rfl) (by kernel_rfl) (by kernel_rfl) ?_
  exact
   ini [(0, .d ((cLs (cXVariable cS cI) rfl).enc v0)), (1, .d ((cLs cI rfl).enc v1))] rfl <| wpC_seq <| reg_s <| x_asg (sc cB false rfl) <| seqN [(0, .d ((cLs (cXVariable cS cI) rfl).enc v0)), (1, .d ((cLs cI rfl).enc v1))] (by kernel_rfl) <|
    xn <| wpC_seq <| wpC_kp <| wpC_seq <| reg_s <| st rfl <| mvd rfl rfl <| stw rfl <| lens rfl fun l8 => st rfl <| mvd rfl rfl <| stw rfl <| lens rfl fun l9 => st rfl <| b_neq (k := .i64) rfl rfl <| seqN [(0, .d ((cLs (cXVariable cS cI) rfl).enc v0)), (1, .d ((cLs cI rfl).enc v1)), (11, .d (cB.enc (decide ((v1.length : Int) ≠ (v0.length : Int)))))] (by kernel_rfl) <|
    xn <| cnd rfl h (fun b10 h => wpC_seq <| reg_s <| x_asg (sc cB false rfl) <| seqN [(4, .d (cB.enc false))] (by kernel_rfl) <|
    xn <| wpC_ret <| rt <| rt <| re <| fin h (r1 (ss rfl rfl) <| r0) rfl)
    (fun b10 h => wpC_skip <| kpN [(0, .d ((cLs (cXVariable cS cI) rfl).enc v0)), (1, .d ((cLs cI rfl).enc v1))] (by kernel_rfl) <| xn <| wpC_seq <| wpC_kp <| wpC_seq <| reg_s <| st rfl <| mvd rfl rfl <| stw rfl <| lens rfl fun l58 => st rfl <| mvc cI (0 : Int) rfl <| seqN [(0, .d ((cLs (cXVariable cS cI) rfl).enc v0)), (1, .d ((cLs cI rfl).enc v1)), (12, .d ((cLs cI rfl).enc v1)), (13, .d (cI.enc (v1.length : Int))), (14, .d (cI.enc (0 : Int)))] (by kernel_rfl) <|
    xn <| wpC_blk <| lpR (fun (k60 : Nat) (s59 : Unit) => [(0, .d ((cLs (cXVariable cS cI) rfl).enc v0)), (1, .d ((cLs cI rfl).enc v1)), (12, .d ((cLs cI rfl).enc v1)), (13, .d (cI.enc (v1.length : Int))), (14, .d (cI.enc (k60 : Int)))]) () rfl h
    (fun G84 s59 h => wpC_seq <| reg_s <| st rfl <| b_lss (k := .i64) rfl rfl <| seqN [(0, .d ((cLs (cXVariable cS cI) rfl).enc v0)), (1, .d ((cLs cI rfl).enc v1)), (12, .d ((cLs cI rfl).enc v1)), (13, .d (cI.enc (v1.length : Int))), (14, .d (cI.enc (v1.length : Int))), (15, .d (cB.enc (decide ((v1.length : Int) < (v1.length : Int)))))] (by kernel_rfl) <|
    xn <| wpC_seq <| wpC_kp <| cnd0 rfl (dlf _) <| wpC_exit <| xt <| xt <| xt <| xb <| kpN [] (by kernel_rfl) <| xn <| wpC_seq <| reg_s <| x_asg (sc cB true rfl) <| seqN [(4, .d (cB.enc true))] (by kernel_rfl) <|
    xn <| wpC_ret <| re <| fin h (r1 (ss rfl rfl) <| r0) rfl)
    (fun G84 nx82 k60 s59 x61 hk62 hx63 hn83 h => wpC_seq <| reg_s <| st rfl <| b_lss (k := .i64) rfl rfl <| seqN [(0, .d ((cLs (cXVariable cS cI) rfl).enc v0)), (1, .d ((cLs cI rfl).enc v1)), (12, .d ((cLs cI rfl).enc v1)), (13, .d (cI.enc (v1.length : Int))), (14, .d (cI.enc (k60 : Int))), (15, .d (cB.enc (decide ((k60 : Int) < (v1.length : Int)))))] (by kernel_rfl) <|
    xn <| wpC_seq <| wpC_kp <| cnd1 rfl (dlt hk62) <| wpC_skip <| kpN [(0, .d ((cLs (cXVariable cS cI) rfl).enc v0)), (1, .d ((cLs cI rfl).enc v1)), (12, .d ((cLs cI rfl).enc v1)), (13, .d (cI.enc (v1.length : Int))), (14, .d (cI.enc (k60 : Int)))] (by kernel_rfl) <| xn <| wpC_seq <| wpC_kp <| wpC_blk <| wpC_seq <| reg_s <| st rfl <| mvd rfl rfl <| st rfl <| ias rfl rfl (Int.natCast_nonneg _) hx63 rfl <| st rfl <| ldi rfl rfl rfl rfl <| x_asg (ss rfl rfl) <| x_asg (ss rfl rfl) <| seqN [(0, .d ((cLs (cXVariable cS cI) rfl).enc v0)), (1, .d ((cLs cI rfl).enc v1)), (5, .d (cI.enc (k60 : Int))), (6, .d (cI.enc x61)), (12, .d ((cLs cI rfl).enc v1)), (13, .d (cI.enc (v1.length : Int))), (14, .d (cI.enc (k60 : Int)))] (by kernel_rfl) <|
    xn <| wpC_seq <| reg_s <| st rfl <| mvd rfl rfl <| st rfl <| b_lss (k := .i64) rfl rfl <| st rfl <| mvd rfl rfl <| ite_k h (fun b98 h => gf rfl b98 <| gf rfl b98 <| gf rfl b98 <| gf rfl b98 <| gf rfl b98 <| gf rfl b98 <| gf rfl b98 <| st rfl <| pick1 rfl b98 (cd := cB) (v := true) rfl rfl <| seqN [(0, .d ((cLs (cXVariable cS cI) rfl).enc v0)), (1, .d ((cLs cI rfl).enc v1)), (12, .d ((cLs cI rfl).enc v1)), (13, .d (cI.enc (v1.length : Int))), (14, .d (cI.enc (k60 : Int))), (29, .d (cB.enc true))] (by kernel_rfl) <|
    xn <| cnd1 rfl rfl <| wpC_seq <| reg_s <| x_asg (sc cB false rfl) <| seqN [(4, .d (cB.enc false))] (by kernel_rfl) <|
    xn <| wpC_ret <| rb <| rt <| rt <| rt <| rb <| rt <| rt <| re <| fin h (r1 (ss rfl rfl) <| r0) rfl)
    (fun b98 h => gt' rfl b98 <| st rfl <| mvd rfl rfl <| gt' rfl b98 <| st rfl <| mvd rfl rfl <| gt' rfl b98 <| st rfl <| mvd rfl rfl <| gt' rfl b98 <| getO_k h fun x99 i100 g101 h => st rfl <| ias rfl rfl i100 g101 rfl <| gt' rfl b98 <| st rfl <| fai rfl rfl rfl rfl <| gt' rfl b98 <| st rfl <| ldi rfl rfl rfl rfl <| gt' rfl b98 <| st rfl <| b_geq (k := .i64) rfl rfl <| st rfl <| pick0 rfl b98 (cd := cB) (v := (decide (x99.Levels ≤ x61))) rfl rfl <| seqN [(0, .d ((cLs (cXVariable cS cI) rfl).enc v0)), (1, .d ((cLs cI rfl).enc v1)), (12, .d ((cLs cI rfl).enc v1)), (13, .d (cI.enc (v1.length : Int))), (14, .d (cI.enc (k60 : Int))), (29, .d (cB.enc (decide (x99.Levels ≤ x61))))] (by kernel_rfl) <|
    xn <| cnd rfl h (fun b102 h => wpC_seq <| reg_s <| x_asg (sc cB false rfl) <| seqN [(4, .d (cB.enc false))] (by kernel_rfl) <|
    xn <| wpC_ret <| rb <| rt <| rt <| rt <| rb <| rt <| rt <| re <| fin h (r1 (ss rfl rfl) <| r0) rfl)
    (fun b102 h => wpC_skip <| xbb <| kpN [(0, .d ((cLs (cXVariable cS cI) rfl).enc v0)), (1, .d ((cLs cI rfl).enc v1)), (12, .d ((cLs cI rfl).enc v1)), (13, .d (cI.enc (v1.length : Int))), (14, .d (cI.enc (k60 : Int)))] (by kernel_rfl) <| xn <| reg_s <| st rfl <| b_inc rfl rfl l58 hk62 <| st rfl <| mvd rfl rfl <| seqN [(0, .d ((cLs (cXVariable cS cI) rfl).enc v0)), (1, .d ((cLs cI rfl).enc v1)), (12, .d ((cLs cI rfl).enc v1)), (13, .d (cI.enc (v1.length : Int))), (14, .d (cI.enc ((k60 + 1 : Nat) : Int)))] (by kernel_rfl) <|
    xn <| hn83 () h))))

def rs_spec_l1Rising (r : Bool) : List D := [cB.enc r]
def m89 : MC := .seq (.reg [⟨some 6, .asg (.c (.bool false)), none⟩] [0, 1, 2])
  (.seq (.kp [] (.seq (.reg [⟨some 9, .mv (.t 0), none⟩,
    ⟨some 10, .len false (.t 9), none⟩,
    ⟨some 11, .mv (.c (.int .i64 0)), none⟩] [0, 1, 2, 9, 10, 11])
  (.blk 0 (.loop (.seq (.reg [⟨some 12, .bin .lss (.t 11) (.t 10), none⟩] [0, 1, 2, 9, 10, 11, 12])
  (.seq (.kp [0, 1, 2, 9, 10, 11] (.cond (.t 12) (.skip) (.exit 0)))
  (.seq (.kp [0, 1, 2, 9, 10, 11] (.blk 1 (.seq (.reg [⟨some 13, .mv (.t 11), none⟩,
    ⟨some 14, .ia 9 (.t 11) 1, none⟩,
    ⟨some 15, .ld 14 1 false, none⟩,
    ⟨some 7, .asg (.t 13), none⟩,
    ⟨some 8, .asg (.t 15), none⟩] [0, 1, 2, 7, 8, 9, 10, 11])
  (.seq (.reg [⟨some 16, .mv (.t 8), none⟩,
    ⟨some 17, .mv (.t 1), none⟩,
    ⟨some 18, .mv (.t 2), none⟩,
    ⟨some 19, .call 60 [(.t 16), (.t 17), (.t 18)], none⟩,
    ⟨some 20, .nt (.t 19), none⟩,
    ⟨some 21, .mv (.t 20), none⟩,
    ⟨some 22, .mv (.t 7), some (21, false)⟩,
    ⟨some 23, .bin .gtr (.t 22) (.c (.int .i64 0)), some (21, false)⟩,
    ⟨some 24, .mv (.t 23), some (21, false)⟩,
    ⟨some 25, .mv (.t 0), some (24, true)⟩,
    ⟨some 26, .mv (.t 7), some (24, true)⟩,
    ⟨some 27, .bin .sub (.t 26) (.c (.int .i64 1)), some (24, true)⟩,
    ⟨some 28, .ia 25 (.t 27) 1, some (24, true)⟩,
    ⟨some 29, .ld 28 1 false, some (24, true)⟩,
    ⟨some 30, .mv (.t 8), some (24, true)⟩,
    ⟨some 31, .bin .geq (.t 29) (.t 30), some (24, true)⟩,
    ⟨some 32, .pick (.t 24) (.t 31) (.c (.bool false)), some (21, false)⟩,
    ⟨some 33, .pick (.t 21) (.c (.bool true)) (.t 32), none⟩] [0, 1, 2, 9, 10, 11, 33])
  (.cond (.t 33) (.seq (.reg [⟨some 6, .asg (.c (.bool false)), none⟩] [6])
  (.ret)) (.skip))))))
  (.reg [⟨some 34, .bin .add (.t 11) (.c (.int .i64 1)), none⟩,
    ⟨some 11, .mv (.t 34), none⟩] [0, 1, 2, 9, 10, 11]))))))))
  (.seq (.reg [⟨some 6, .asg (.c (.bool true)), none⟩] [6])
  (.ret)))
theorem con_spec_l1Rising {v0 : (List Int)} {v1 : Int} {v2 : Int} {r : Bool} (h : sh_spec_l1Rising v0 v1 v2 = some r) : Con Try.prog 89 [(cLs cI rfl).enc v0, cI.enc v1, cI.enc v2] [] (rs_spec_l1Rising r) := by
  delta sh_spec_l1Rising at h
  refine top (out := none) (f := Try.f89) (m := m89) (rs := [.t 6]) (by kernel_rfl) rfl (by kernel_rfl) (by kernel_rfl) (by kernel_rfl) (by kernel_rfl) (by kernel_rfl) ?_
  exact
   ini [(0, .d ((cLs cI rfl).enc v0)), (1, .d (cI.enc v1)), (2, .d (cI.enc v2))] rfl <| wpC_seq <| reg_s <| x_asg (sc cB false rfl) <| seqN [(0, .d ((cLs cI rfl).enc v0)), (1, .d (cI.enc v1)), (2, .d (cI.enc v2))] (by kernel_rfl) <|
    xn <| wpC_seq <| wpC_kp <| wpC_seq <| reg_s <| st rfl <| mvd rfl rfl <| stw rfl <| lens rfl fun l80 => st rfl <| mvc cI (0 : Int) rfl <| seqN [(0, .d ((cLs cI rfl).enc v0)), (1, .d (cI.enc v1)), (2, .d (cI.enc v2)), (9, .d ((cLs cI rfl).enc v0)), (10, .d (cI.enc (v0.length : Int))), (11, .d (cI.enc (0 : Int)))] (by kernel_rfl) <|
    xn <| wpC_blk <| lpR (fun (k82 : Nat) (s81 : Unit) => [(0, .d ((cLs cI rfl).enc v0)), (1, .d (cI.enc v1)), (2, .d (cI.enc v2)), (9, .d ((cLs cI rfl).enc v0)), (10, .d (cI.enc (v0.length : Int))), (11, .d (cI.enc (k82 : Int)))]) () rfl h
    (fun G122 s81 h => wpC_seq <| reg_s <| st rfl <| b_lss (k := .i64) rfl rfl <| seqN [(0, .d ((cLs cI rfl).enc v0)), (1, .d (cI.enc v1)), (2, .d (cI.enc v2)), (9, .d ((cLs cI rfl).enc v0)), (10, .d (cI.enc (v0.length : Int))), (11, .d (cI.enc (v0.length : Int))), (12, .d (cB.enc (decide ((v0.length : Int) < (v0.length : Int)))))] (by kernel_rfl) <|
    xn <| wpC_seq <| wpC_kp <| cnd0 rfl (dlf _) <| wpC_exit <| xt <| xt <| xt <| xb <| kpN [] (by kernel_rfl) <| xn <| wpC_seq <| reg_s <| x_asg (sc cB true rfl) <| seqN [(6, .d (cB.enc true))] (by kernel_rfl) <|
    xn <| wpC_ret <| re <| fin h (r1 (ss rfl rfl) <| r0) rfl)
    (fun G122 nx120 k82 s81 x83 hk84 hx85 hn121 h => wpC_seq <| reg_s <| st rfl <| b_lss (k := .i64) rfl rfl <| seqN [(0, .d ((cLs cI rfl).enc v0)), (1, .d (cI.enc v1)), (2, .d (cI.enc v2)), (9, .d ((cLs cI rfl).enc v0)), (10, .d (cI.enc (v0.length : Int))), (11, .d (cI.enc (k82 : Int))), (12, .d (cB.enc (decide ((k82 : Int) < (v0.length : Int)))))] (by kernel_rfl) <|
    xn <| wpC_seq <| wpC_kp <| cnd1 rfl (dlt hk84) <| wpC_skip <| kpN [(0, .d ((cLs cI rfl).enc v0)), (1, .d (cI.enc v1)), (2, .d (cI.enc v2)), (9, .d ((cLs cI rfl).enc v0)), (10, .d (cI.enc (v0.length : Int))), (11, .d (cI.enc (k82 : Int)))] (by kernel_rfl) <| xn <| wpC_seq <| wpC_kp <| wpC_blk <| wpC_seq <| reg_s <| st rfl <| mvd rfl rfl <| st rfl <| ias rfl rfl (Int.natCast_nonneg _) hx85 rfl <| st rfl <| ldi rfl rfl rfl rfl <| x_asg (ss rfl rfl) <| x_asg (ss rfl rfl) <| seqN [(0, .d ((cLs cI rfl).enc v0)), (1, .d (cI.enc v1)), (2, .d (cI.enc v2)), (7, .d (cI.enc (k82 : Int))), (8, .d (cI.enc x83)), (9, .d ((cLs cI rfl).enc v0)), (10, .d (cI.enc (v0.length : Int))), (11, .d (cI.enc (k82 : Int)))] (by kernel_rfl) <|
    xn <| wpC_seq <| reg_s <| st rfl <| mvd rfl rfl <| st rfl <| mvd rfl rfl <| st rfl <| mvd rfl rfl <| bnd h fun x148 e149 h => st rfl <| o_call (a1 (c := cI) tK rfl (a1 (c := cI) tK rfl (a1 (c := cI) tK rfl a0))) (con_spec_l1In e149) (.inl (so1 sB so0)) <| st rfl <| o_nt rfl <| st rfl <| mvd rfl rfl <| ite_k h (fun b150 h => gf rfl b150 <| gf rfl b150 <| gf rfl b150 <| gu rfl <| gu rfl <| gu rfl <| gu rfl <| gu rfl <| gu rfl <| gu rfl <| gf rfl b150 <| st rfl <| pick1 rfl b150 (cd := cB) (v := true) rfl rfl <| seqN [(0, .d ((cLs cI rfl).enc v0)), (1, .d (cI.enc v1)), (2, .d (cI.enc v2)), (9, .d ((cLs cI rfl).enc v0)), (10, .d (cI.enc (v0.length : Int))), (11, .d (cI.enc (k82 : Int))), (33, .d (cB.enc true))] (by kernel_rfl) <|
    xn <| cnd1 rfl rfl <| wpC_seq <| reg_s <| x_asg (sc cB false rfl) <| seqN [(6, .d (cB.enc false))] (by kernel_rfl) <|
    xn <| wpC_ret <| rb <| rt <| rt <| rt <| rb <| rt <| rt <| re <| fin h (r1 (ss rfl rfl) <| r0) rfl)
    (fun b150 h => gt' rfl b150 <| st rfl <| mvd rfl rfl <| gt' rfl b150 <| st rfl <| b_gtr (k := .i64) rfl rfl <| gt' rfl b150 <| st rfl <| mvd rfl rfl <| ite_k h (fun b151 h => gt' rfl b151 <| st rfl <| mvd rfl rfl <| gt' rfl b151 <| st rfl <| mvd rfl rfl <| gt' rfl b151 <| ckI_k h fun i152 h => st rfl <| b_sub (k := .i64) rfl rfl i152 <| gt' rfl b151 <| getO_k h fun x153 i154 g155 h => st rfl <| ias rfl rfl i154 g155 rfl <| gt' rfl b151 <| st rfl <| ldi rfl rfl rfl rfl <| gt' rfl b151 <| st rfl <| mvd rfl rfl <| gt' rfl b151 <| st rfl <| b_geq (k := .i64) rfl rfl <| gt' rfl b150 <| st rfl <| pick1 rfl b151 (cd := cB) (v := (decide (x83 ≤ x153))) rfl rfl <| st rfl <| pick0 rfl b150 (cd := cB) (v := (decide (x83 ≤ x153))) rfl rfl <| seqN [(0, .d ((cLs cI rfl).enc v0)), (1, .d (cI.enc v1)), (2, .d (cI.enc v2)), (9, .d ((cLs cI rfl).enc v0)), (10, .d (cI.enc (v0.length : Int))), (11, .d (cI.enc (k82 : Int))), (33, .d (cB.enc (decide (x83 ≤ x153))))] (by kernel_rfl) <|
    xn <| cnd rfl h (fun b156 h => wpC_seq <| reg_s <| x_asg (sc cB false rfl) <| seqN [(6, .d (cB.enc false))] (by kernel_rfl) <|
    xn <| wpC_ret <| rb <| rt <| rt <| rt <| rb <| rt <| rt <| re <| fin h (r1 (ss rfl rfl) <| r0) rfl)
    (fun b156 h => wpC_skip <| xbb <| kpN [(0, .d ((cLs cI rfl).enc v0)), (1, .d (cI.enc v1)), (2, .d (cI.enc v2)), (9, .d ((cLs cI rfl).enc v0)), (10, .d (cI.enc (v0.length : Int))), (11, .d (cI.enc (k82 : Int)))] (by kernel_rfl) <| xn <| reg_s <| st rfl <| b_inc rfl rfl l80 hk84 <| st rfl <| mvd rfl rfl <| seqN [(0, .d ((cLs cI rfl).enc v0)), (1, .d (cI.enc v1)), (2, .d (cI.enc v2)), (9, .d ((cLs cI rfl).enc v0)), (10, .d (cI.enc (v0.length : Int))), (11, .d (cI.enc ((k82 + 1 : Nat) : Int)))] (by kernel_rfl) <|
    xn <| hn121 () h))
    (fun b151 h => gf rfl b151 <| gf rfl b151 <| gf rfl b151 <| gf rfl b151 <| gf rfl b151 <| gf rfl b151 <| gf rfl b151 <| gt' rfl b150 <| st rfl <| pick0 rfl b151 (cd := cB) (v := false) rfl rfl <| st rfl <| pick0 rfl b150 (cd := cB) (v := false) rfl rfl <| seqN [(0, .d ((cLs cI rfl).enc v0)), (1, .d (cI.enc v1)), (2, .d (cI.enc v2)), (9, .d ((cLs cI rfl).enc v0)), (10, .d (cI.enc (v0.length : Int))), (11, .d (cI.enc (k82 : Int))), (33, .d (cB.enc false))] (by kernel_rfl) <|
    xn <| cnd0 rfl rfl <| wpC_skip <| xbb <| kpN [(0, .d ((cLs cI rfl).enc v0)), (1, .d (cI.enc v1)), (2, .d (cI.enc v2)), (9, .d ((cLs cI rfl).enc v0)), (10, .d (cI.enc (v0.length : Int))), (11, .d (cI.enc (k82 : Int)))] (by kernel_rfl) <| xn <| reg_s <| st rfl <| b_inc rfl rfl l80 hk84 <| st rfl <| mvd rfl rfl <| seqN [(0, .d ((cLs cI rfl).enc v0)), (1, .d (cI.enc v1)), (2, .d (cI.enc v2)), (9, .d ((cLs cI rfl).enc v0)), (10, .d (cI.enc (v0.length : Int))), (11, .d (cI.enc ((k82 + 1 : Nat) : Int)))] (by kernel_rfl) <|
    xn <| hn121 () h)))

def rs_spec_l1Has (r : Bool) : List D := [cB.enc r]
def m91 : MC := .seq (.reg [⟨some 4, .asg (.c (.bool false)), none⟩] [0, 1])
  (.seq (.kp [] (.seq (.reg [⟨some 7, .mv (.t 0), none⟩,
    ⟨some 8, .len false (.t 7), none⟩,
    ⟨some 9, .mv (.c (.int .i64 0)), none⟩] [0, 1, 7, 8, 9])
  (.blk 0 (.loop (.seq (.reg [⟨some 10, .bin .lss (.t 9) (.t 8), none⟩] [0, 1, 7, 8, 9, 10])
  (.seq (.kp [0, 1, 7, 8, 9] (.cond (.t 10) (.skip) (.exit 0)))
  (.seq (.kp [0, 1, 7, 8, 9] (.blk 1 (.seq (.reg [⟨some 11, .ia 7 (.t 9) 1, none⟩,
    ⟨some 12, .ld 11 1 false, none⟩,
    ⟨some 6, .asg (.t 12), none⟩] [0, 1, 6, 7, 8, 9])
  (.seq (.reg [⟨some 13, .mv (.t 6), none⟩,
    ⟨some 14, .mv (.t 1), none⟩,
    ⟨some 15, .bin .eql (.t 13) (.t 14), none⟩] [0, 1, 7, 8, 9, 15])
  (.cond (.t 15) (.seq (.reg [⟨some 4, .asg (.c (.bool true)), none⟩] [4])
  (.ret)) (.skip))))))
  (.reg [⟨some 16, .bin .add (.t 9) (.c (.int .i64 1)), none⟩,
    ⟨some 9, .mv (.t 16), none⟩] [0, 1, 7, 8, 9]))))))))
  (.seq (.reg [⟨some 4, .asg (.c (.bool false)), none⟩] [4])
  (.ret)))
theorem con_spec_l1Has {v0 : (List Int)} {v1 : Int} {r : Bool} (h : sh_spec_l1Has v0 v1 = some r) : Con Try.prog 91 [(cLs cI rfl).enc v0, cI.enc v1] [] (rs_spec_l1Has r) := by
  delta sh_spec_l1Has at h
  refine top (out := none) (f := Try.f91) (m := m91) (rs := [.t 4]) (by kernel_rfl) rfl (by kernel_rfl) (by kernel_rfl) (by kernel_rfl) (by kernel_rfl) (by kernel_rfl) ?_
  exact
   ini [(0, .d ((cLs cI rfl).enc v0)), (1, .d (cI.enc v1))] rfl <| wpC_seq <| reg_s <| x_asg (sc cB false rfl) <| seqN [(0, .d ((cLs cI rfl).enc v0)), (1, .d (cI.enc v1))] (by kernel_rfl) <|
    xn <| wpC_seq <| wpC_kp <| wpC_seq <| reg_s <| st rfl <| mvd rfl rfl <| stw rfl <| lens rfl fun l16 => st rfl <| mvc cI (0 : Int) rfl <| seqN [(0, .d ((cLs cI rfl).enc v0)), (1, .d (cI.enc v1)), (7, .d ((cLs cI rfl).enc v0)), (8, .d (cI.enc (v0.length : Int))), (9, .d (cI.enc (0 : Int)))] (by kernel_rfl) <|
    xn <| wpC_blk <| lpR (fun (k18 : Nat) (s17 : Unit) => [(0, .d ((cLs cI rfl).enc v0)), (1, .d (cI.enc v1)), (7, .d ((cLs cI rfl).enc v0)), (8, .d (cI.enc (v0.length : Int))), (9, .d (cI.enc (k18 : Int)))]) () rfl h
    (fun G26 s17 h => wpC_seq <| reg_s <| st rfl <| b_lss (k := .i64) rfl rfl <| seqN [(0, .d ((cLs cI rfl).enc v0)), (1, .d (cI.enc v1)), (7, .d ((cLs cI rfl).enc v0)), (8, .d (cI.enc (v0.length : Int))), (9, .d (cI.enc (v0.length : Int))), (10, .d (cB.enc (decide ((v0.length : Int) < (v0.length : Int)))))] (by kernel_rfl) <|
    xn <| wpC_seq <| wpC_kp <| cnd0 rfl (dlf _) <| wpC_exit <| xt <| xt <| xt <| xb <| kpN [] (by kernel_rfl) <| xn <| wpC_seq <| reg_s <| x_asg (sc cB false rfl) <| seqN [(4, .d (cB.enc false))] (by kernel_rfl) <|
    xn <| wpC_ret <| re <| fin h (r1 (ss rfl rfl) <| r0) rfl)
    (fun G26 nx24 k18 s17 x19 hk20 hx21 hn25 h => wpC_seq <| reg_s <| st rfl <| b_lss (k := .i64) rfl rfl <| seqN [(0, .d ((cLs cI rfl).enc v0)), (1, .d (cI.enc v1)), (7, .d ((cLs cI rfl).enc v0)), (8, .d (cI.enc (v0.length : Int))), (9, .d (cI.enc (k18 : Int))), (10, .d (cB.enc (decide ((k18 : Int) < (v0.length : Int)))))] (by kernel_rfl) <|
    xn <| wpC_seq <| wpC_kp <| cnd1 rfl (dlt hk20) <| wpC_skip <| kpN [(0, .d ((cLs cI rfl).enc v0)), (1, .d (cI.enc v1)), (7, .d ((cLs cI rfl).enc v0)), (8, .d (cI.enc (v0.length : Int))), (9, .d (cI.enc (k18 : Int)))] (by kernel_rfl) <| xn <| wpC_seq <| wpC_kp <| wpC_blk <| wpC_seq <| reg_s <| st rfl <| ias rfl rfl (Int.natCast_nonneg _) hx21 rfl <| st rfl <| ldi rfl rfl rfl rfl <| x_asg (ss rfl rfl) <| seqN [(0, .d ((cLs cI rfl).enc v0)), (1, .d (cI.enc v1)), (6, .d (cI.enc x19)), (7, .d ((cLs cI rfl).enc v0)), (8, .d (cI.enc (v0.length : Int))), (9, .d (cI.enc (k18 : Int)))] (by kernel_rfl) <|
    xn <| wpC_seq <| reg_s <| st rfl <| mvd rfl rfl <| st rfl <| mvd rfl rfl <| st rfl <| b_eql (k := .i64) rfl rfl <| seqN [(0, .d ((cLs cI rfl).enc v0)), (1, .d (cI.enc v1)), (7, .d ((cLs cI rfl).enc v0)), (8, .d (cI.enc (v0.length : Int))), (9, .d (cI.enc (k18 : Int))), (15, .d (cB.enc (decide (x19 = v1))))] (by kernel_rfl) <|
    xn <| cnd rfl h (fun b28 h => wpC_seq <| reg_s <| x_asg (sc cB true rfl) <| seqN [(4, .d (cB.enc true))] (by kernel_rfl) <|
    xn <| wpC_ret <| rb <| rt <| rt <| rt <| rb <| rt <| rt <| re <| fin h (r1 (ss rfl rfl) <| r0) rfl)
    (fun b28 h => wpC_skip <| xbb <| kpN [(0, .d ((cLs cI rfl).enc v0)), (1, .d (cI.enc v1)), (7, .d ((cLs cI rfl).enc v0)), (8, .d (cI.enc (v0.length : Int))), (9, .d (cI.enc (k18 : Int)))] (by kernel_rfl) <| xn <| reg_s <| st rfl <| b_inc rfl rfl l16 hk20 <| st rfl <| mvd rfl rfl <| seqN [(0, .d ((cLs cI rfl).enc v0)), (1, .d (cI.enc v1)), (7, .d ((cLs cI rfl).enc v0)), (8, .d (cI.enc (v0.length : Int))), (9, .d (cI.enc ((k18 + 1 : Nat) : Int)))] (by kernel_rfl) <|
    xn <| hn25 () h))

def rs_spec_IsMend (r : (Bool × Bool)) : List D := [cB.enc r.1, cB.enc r.2]
def m40 : MC := .seq (.reg [⟨some 10, .asg (.c (.bool false)), none⟩,
    ⟨some 11, .asg (.c (.bool false)), none⟩] [0, 1, 2, 3, 4])
  (.seq (.kp [0, 1, 2, 3, 4] (.seq (.reg [⟨some 13, .mv (.t 0), none⟩,
    ⟨some 14, .mv (.t 1), none⟩,
    ⟨some 15, .call 59 [(.t 13), (.t 14)], none⟩,
    ⟨some 16, .nt (.t 15), none⟩,
    ⟨some 17, .mv (.t 16), none⟩,
    ⟨some 18, .mv (.t 0), some (17, false)⟩,
    ⟨some 19, .mv (.t 3), some (17, false)⟩,
    ⟨some 20, .call 88 [(.t 18), (.t 19)], some (17, false)⟩,
    ⟨some 21, .nt (.t 20), some (17, false)⟩,
    ⟨some 22, .pick (.t 17) (.c (.bool true)) (.t 21), none⟩,
    ⟨some 23, .mv (.t 22), none⟩,
    ⟨some 24, .mv (.t 2), some (23, false)⟩,
    ⟨some 25, .mv (.t 0), some (23, false)⟩,
    ⟨some 26, .len false (.t 25), some (23, false)⟩,
    ⟨some 27, .bin .sub (.t 26) (.c (.int .i64 1)), some (23, false)⟩,
    ⟨some 28, .call 89 [(.t 24), (.c (.int .i64 0)), (.t 27)], some (23, false)⟩,
    ⟨some 29, .nt (.t 28), some (23, false)⟩,
    ⟨some 30, .pick (.t 23) (.c (.bool true)) (.t 29), none⟩] [0, 1, 2, 3, 4, 30])
  (.cond (.t 30) (.seq (.reg [⟨some 10, .asg (.c (.bool false)), none⟩,
    ⟨some 11, .asg (.c (.bool false)), none⟩] [10, 11])
  (.ret)) (.skip))))
  (.seq (.kp [2, 3, 4] (.seq (.reg [⟨some 31, .mv (.t 0), none⟩,
    ⟨some 32, .mv (.t 4), none⟩,
    ⟨some 33, .call 88 [(.t 31), (.t 32)], none⟩,
    ⟨some 34, .nt (.t 33), none⟩,
    ⟨some 35, .mv (.t 34), none⟩,
    ⟨some 36, .mv (.t 1), some (35, false)⟩,
    ⟨some 37, .mv (.t 4), some (35, false)⟩,
    ⟨some 38, .call 90 [(.t 36), (.t 37)], some (35, false)⟩,
    ⟨some 39, .len false (.t 38), some (35, false)⟩,
    ⟨some 40, .bin .gtr (.t 39) (.c (.int .i64 0)), some (35, false)⟩,
    ⟨some 41, .pick (.t 35) (.c (.bool true)) (.t 40), none⟩] [2, 3, 4, 41])
  (.cond (.t 41) (.seq (.reg [⟨some 10, .asg (.c (.bool false)), none⟩,
    ⟨some 11, .asg (.c (.bool true)), none⟩] [10, 11])
  (.ret)) (.skip))))
  (.seq (.kp [] (.seq (.reg [⟨some 42, .mv (.t 4), none⟩,
    ⟨some 43, .len false (.t 42), none⟩,
    ⟨some 44, .mv (.c (.int .i64 0)), none⟩] [2, 3, 4, 43, 44])
  (.blk 0 (.loop (.seq (.reg [⟨some 45, .bin .lss (.t 44) (.t 43), none⟩] [2, 3, 4, 43, 44, 45])
  (.seq (.kp [2, 3, 4, 43, 44] (.cond (.t 45) (.skip) (.exit 0)))
  (.seq (.kp [2, 3, 4, 43, 44] (.blk 1 (.seq (.reg [⟨some 46, .mv (.t 44), none⟩,
    ⟨some 12, .asg (.t 46), none⟩] [2, 3, 4, 12, 43, 44])
  (.seq (.drw [⟨0, ⟨some 47, .mv (.t 4), none⟩, [48, 49, 50, 51, 52, 53, 54, 55, 56, 57, 58, 59, 60, 61]⟩,
    ⟨1, ⟨some 48, .mv (.t 12), none⟩, [47, 49, 50, 51, 52, 53, 54, 55, 56, 57, 58, 59, 60, 61]⟩,
    ⟨2, ⟨some 49, .ia 47 (.t 48) 1, none⟩, [50, 51, 52, 53, 54, 55, 56, 57, 58, 59, 60, 61]⟩,
    ⟨3, ⟨some 50, .ld 49 1 false, none⟩, [51, 52, 53, 54, 55, 56, 57, 58, 59, 60, 61]⟩,
    ⟨4, ⟨some 51, .mv (.t 3), none⟩, [47, 48, 49, 50, 52, 53, 54, 55, 56, 57, 58, 59, 60, 61]⟩,
    ⟨5, ⟨some 52, .mv (.t 12), none⟩, [47, 48, 49, 50, 51, 53, 54, 55, 56, 57, 58, 59, 60, 61]⟩,
    ⟨6, ⟨some 53, .ia 51 (.t 52) 1, none⟩, [47, 48, 49, 50, 54, 55, 56, 57, 58, 59, 60, 61]⟩,
    ⟨7, ⟨some 54, .ld 53 1 false, none⟩, [47, 48, 49, 50, 55, 56, 57, 58, 59, 60, 61]⟩,
    ⟨8, ⟨some 55, .bin .neq (.t 50) (.t 54), none⟩, [56, 57, 58, 59, 60, 61]⟩,
    ⟨9, ⟨some 56, .mv (.t 55), none⟩, [57, 58, 59, 60, 61]⟩,
    ⟨10, ⟨some 57, .mv (.t 2), some (56, true)⟩, [58, 59, 60, 61]⟩,
    ⟨11, ⟨some 58, .mv (.t 12), some (56, true)⟩, [57, 59, 60, 61]⟩,
    ⟨12, ⟨some 59, .call 91 [(.t 57), (.t 58)], some (56, true)⟩, [60, 61]⟩,
    ⟨13, ⟨some 60, .nt (.t 59), some (56, true)⟩, [61]⟩,
    ⟨14, ⟨some 61, .pick (.t 56) (.t 60) (.c (.bool false)), none⟩, []⟩]
    [] [2, 3, 4, 43, 44, 61])
  (.cond (.t 61) (.seq (.reg [⟨some 10, .asg (.c (.bool false)), none⟩,
    ⟨some 11, .asg (.c (.bool true)), none⟩] [10, 11])
  (.ret)) (.skip))))))
  (.reg [⟨some 62, .bin .add (.t 44) (.c (.int .i64 1)), none⟩,
    ⟨some 44, .mv (.t 62), none⟩] [2, 3, 4, 43, 44]))))))))
  (.seq (.reg [⟨some 10, .asg (.c (.bool true)), none⟩,
    ⟨some 11, .asg (.c (.bool true)), none⟩] [10, 11])
  (.ret)))))
theorem con_spec_IsMend {v0 : (List XVariable)} {v1 : (List XEdit)} {v2 : (List Int)} {v3 : (List Int)} {v4 : (List Int)} {r : (Bool × Bool)} (h : sh_spec_IsMend v0 v1 v2 v3 v4 = some r) : Con Try.prog 40 [(cLs (cXVariable cS cI) rfl).enc v0, (cLs (cXEdit (cLs cI rfl)) rfl).enc v1, (cLs cI rfl).enc v2, (cLs cI rfl).enc v3, (cLs cI rfl).enc v4] [] (rs_spec_IsMend r) := by
  delta sh_spec_IsMend at h
  refine top (out := none) (f := Try.f40) (m := m40) (rs := [.t 10, .t 11]) (by kernel_rfl) rfl (by kernel_rfl) (by kernel_rfl) (by kernel_rfl) (by kernel_rfl) (by kernel_rfl) ?_
  exact
   ini [(0, .d ((cLs (cXVariable cS cI) rfl).enc v0)), (1, .d ((cLs (cXEdit (cLs cI rfl)) rfl).enc v1)), (2, .d ((cLs cI rfl).enc v2)), (3, .d ((cLs cI rfl).enc v3)), (4, .d ((cLs cI rfl).enc v4))] rfl <| wpC_seq <| reg_s <| x_asg (sc cB false rfl) <| x_asg (sc cB false rfl) <| seqN [(0, .d ((cLs (cXVariable cS cI) rfl).enc v0)), (1, .d ((cLs (cXEdit (cLs cI rfl)) rfl).enc v1)), (2, .d ((cLs cI rfl).enc v2)), (3, .d ((cLs cI rfl).enc v3)), (4, .d ((cLs cI rfl).enc v4))] (by kernel_rfl) <|
    xn <| wpC_seq <| wpC_kp <| wpC_seq <| reg_s <| st rfl <| mvd rfl rfl <| st rfl <| mvd rfl rfl <| bnd h fun x32 e33 h => st rfl <| o_call (a1 (c := (cLs (cXVariable cS cI) rfl)) (tLs (tXVariable tS tK)) rfl (a1 (c := (cLs (cXEdit (cLs cI rfl)) rfl)) (tLs (tXEdit (tLs tK))) rfl a0)) (con_spec_eSmall e33) (.inl (so1 sB so0)) <| st rfl <| o_nt rfl <| st rfl <| mvd rfl rfl <| ite_k h (fun b34 h => gf rfl b34 <| gf rfl b34 <| gf rfl b34 <| gf rfl b34 <| st rfl <| pick1 rfl b34 (cd := cB) (v := true) rfl rfl <| st rfl <| mvd rfl rfl <| gf rfl rfl <| gf rfl rfl <| gf rfl rfl <| gf rfl rfl <| gf rfl rfl <| gf rfl rfl <| st rfl <| pick1 rfl rfl (cd := cB) (v := true) rfl rfl <| seqN [(0, .d ((cLs (cXVariable cS cI) rfl).enc v0)), (1, .d ((cLs (cXEdit (cLs cI rfl)) rfl).enc v1)), (2, .d ((cLs cI rfl).enc v2)), (3, .d ((cLs cI rfl).enc v3)), (4, .d ((cLs cI rfl).enc v4)), (30, .d (cB.enc true))] (by kernel_rfl) <|
    xn <| cnd1 rfl rfl <| wpC_seq <| reg_s <| x_asg (sc cB false rfl) <| x_asg (sc cB false rfl) <| seqN [(10, .d (cB.enc false)), (11, .d (cB.enc false))] (by kernel_rfl) <|
    xn <| wpC_ret <| rt <| rt <| re <| fin h (r1 (ss rfl rfl) <| r1 (ss rfl rfl) <| r0) rfl)
    (fun b34 h => gt' rfl b34 <| st rfl <| mvd rfl rfl <| gt' rfl b34 <| st rfl <| mvd rfl rfl <| gt' rfl b34 <| bnd h fun x35 e36 h => st rfl <| o_call (a1 (c := (cLs (cXVariable cS cI) rfl)) (tLs (tXVariable tS tK)) rfl (a1 (c := (cLs cI rfl)) (tLs tK) rfl a0)) (con_spec_sFits e36) (.inl (so1 sB so0)) <| gt' rfl b34 <| st rfl <| o_nt rfl <| st rfl <| pick0 rfl b34 (cd := cB) (v := (!x35)) rfl rfl <| st rfl <| mvd rfl rfl <| ite_k h (fun b37 h => gf rfl b37 <| gf rfl b37 <| gf rfl b37 <| gf rfl b37 <| gf rfl b37 <| gf rfl b37 <| st rfl <| pick1 rfl b37 (cd := cB) (v := true) rfl rfl <| seqN [(0, .d ((cLs (cXVariable cS cI) rfl).enc v0)), (1, .d ((cLs (cXEdit (cLs cI rfl)) rfl).enc v1)), (2, .d ((cLs cI rfl).enc v2)), (3, .d ((cLs cI rfl).enc v3)), (4, .d ((cLs cI rfl).enc v4)), (30, .d (cB.enc true))] (by kernel_rfl) <|
    xn <| cnd1 rfl rfl <| wpC_seq <| reg_s <| x_asg (sc cB false rfl) <| x_asg (sc cB false rfl) <| seqN [(10, .d (cB.enc false)), (11, .d (cB.enc false))] (by kernel_rfl) <|
    xn <| wpC_ret <| rt <| rt <| re <| fin h (r1 (ss rfl rfl) <| r1 (ss rfl rfl) <| r0) rfl)
    (fun b37 h => gt' rfl b37 <| st rfl <| mvd rfl rfl <| gt' rfl b37 <| st rfl <| mvd rfl rfl <| gt' rfl b37 <| stw rfl <| lens rfl fun l38 => gt' rfl b37 <| ckI_k h fun i39 h => st rfl <| b_sub (k := .i64) rfl rfl i39 <| gt' rfl b37 <| bnd h fun x40 e41 h => st rfl <| o_call (a1 (c := (cLs cI rfl)) (tLs tK) rfl (a1 (c := cI) tK rfl (a1 (c := cI) tK rfl a0))) (con_spec_l1Rising e41) (.inl (so1 sB so0)) <| gt' rfl b37 <| st rfl <| o_nt rfl <| st rfl <| pick0 rfl b37 (cd := cB) (v := (!x40)) rfl rfl <| seqN [(0, .d ((cLs (cXVariable cS cI) rfl).enc v0)), (1, .d ((cLs (cXEdit (cLs cI rfl)) rfl).enc v1)), (2, .d ((cLs cI rfl).enc v2)), (3, .d ((cLs cI rfl).enc v3)), (4, .d ((cLs cI rfl).enc v4)), (30, .d (cB.enc (!x40)))] (by kernel_rfl) <|
    xn <| cnd rfl h (fun b42 h => wpC_seq <| reg_s <| x_asg (sc cB false rfl) <| x_asg (sc cB false rfl) <| seqN [(10, .d (cB.enc false)), (11, .d (cB.enc false))] (by kernel_rfl) <|
    xn <| wpC_ret <| rt <| rt <| re <| fin h (r1 (ss rfl rfl) <| r1 (ss rfl rfl) <| r0) rfl)
    (fun b42 h => wpC_skip <| kpN [(0, .d ((cLs (cXVariable cS cI) rfl).enc v0)), (1, .d ((cLs (cXEdit (cLs cI rfl)) rfl).enc v1)), (2, .d ((cLs cI rfl).enc v2)), (3, .d ((cLs cI rfl).enc v3)), (4, .d ((cLs cI rfl).enc v4))] (by kernel_rfl) <| xn <| wpC_seq <| wpC_kp <| wpC_seq <| reg_s <| st rfl <| mvd rfl rfl <| st rfl <| mvd rfl rfl <| bnd h fun x62 e63 h => st rfl <| o_call (a1 (c := (cLs (cXVariable cS cI) rfl)) (tLs (tXVariable tS tK)) rfl (a1 (c := (cLs cI rfl)) (tLs tK) rfl a0)) (con_spec_sFits e63) (.inl (so1 sB so0)) <| st rfl <| o_nt rfl <| st rfl <| mvd rfl rfl <| ite_k h (fun b64 h => gf rfl b64 <| gf rfl b64 <| gf rfl b64 <| gf rfl b64 <| gf rfl b64 <| st rfl <| pick1 rfl b64 (cd := cB) (v := true) rfl rfl <| seqN [(2, .d ((cLs cI rfl).enc v2)), (3, .d ((cLs cI rfl).enc v3)), (4, .d ((cLs cI rfl).enc v4)), (41, .d (cB.enc true))] (by kernel_rfl) <|
    xn <| cnd1 rfl rfl <| wpC_seq <| reg_s <| x_asg (sc cB false rfl) <| x_asg (sc cB true rfl) <| seqN [(10, .d (cB.enc false)), (11, .d (cB.enc true))] (by kernel_rfl) <|
    xn <| wpC_ret <| rt <| rt <| re <| fin h (r1 (ss rfl rfl) <| r1 (ss rfl rfl) <| r0) rfl)
    (fun b64 h => gt' rfl b64 <| st rfl <| mvd rfl rfl <| gt' rfl b64 <| st rfl <| mvd rfl rfl <| gt' rfl b64 <| bnd h fun x65 e66 h => st rfl <| o_call (a1 (c := (cLs (cXEdit (cLs cI rfl)) rfl)) (tLs (tXEdit (tLs tK))) rfl (a1 (c := (cLs cI rfl)) (tLs tK) rfl a0)) (con_spec_eFailed e66) (.inl (so1 (sLo sK) so0)) <| gt' rfl b64 <| stw rfl <| leno rfl fun l67 => gt' rfl b64 <| st rfl <| b_gtr (k := .i64) rfl rfl <| st rfl <| pick0 rfl b64 (cd := cB) (v := (decide ((0 : Int) < (x65.length : Int)))) rfl rfl <| seqN [(2, .d ((cLs cI rfl).enc v2)), (3, .d ((cLs cI rfl).enc v3)), (4, .d ((cLs cI rfl).enc v4)), (41, .d (cB.enc (decide ((0 : Int) < (x65.length : Int)))))] (by kernel_rfl) <|
    xn <| cnd rfl h (fun b68 h => wpC_seq <| reg_s <| x_asg (sc cB false rfl) <| x_asg (sc cB true rfl) <| seqN [(10, .d (cB.enc false)), (11, .d (cB.enc true))] (by kernel_rfl) <|
    xn <| wpC_ret <| rt <| rt <| re <| fin h (r1 (ss rfl rfl) <| r1 (ss rfl rfl) <| r0) rfl)
    (fun b68 h => wpC_skip <| kpN [(2, .d ((cLs cI rfl).enc v2)), (3, .d ((cLs cI rfl).enc v3)), (4, .d ((cLs cI rfl).enc v4))] (by kernel_rfl) <| xn <| wpC_seq <| wpC_kp <| wpC_seq <| reg_s <| st rfl <| mvd rfl rfl <| stw rfl <| lens rfl fun l132 => st rfl <| mvc cI (0 : Int) rfl <| seqN [(2, .d ((cLs cI rfl).enc v2)), (3, .d ((cLs cI rfl).enc v3)), (4, .d ((cLs cI rfl).enc v4)), (43, .d (cI.enc (v4.length : Int))), (44, .d (cI.enc (0 : Int)))] (by kernel_rfl) <|
    xn <| wpC_blk <| lpR (fun (k134 : Nat) (s133 : Unit) => [(2, .d ((cLs cI rfl).enc v2)), (3, .d ((cLs cI rfl).enc v3)), (4, .d ((cLs cI rfl).enc v4)), (43, .d (cI.enc (v4.length : Int))), (44, .d (cI.enc (k134 : Int)))]) () rfl h
    (fun G166 s133 h => wpC_seq <| reg_s <| st rfl <| b_lss (k := .i64) rfl rfl <| seqN [(2, .d ((cLs cI rfl).enc v2)), (3, .d ((cLs cI rfl).enc v3)), (4, .d ((cLs cI rfl).enc v4)), (43, .d (cI.enc (v4.length : Int))), (44, .d (cI.enc (v4.length : Int))), (45, .d (cB.enc (decide ((v4.length : Int) < (v4.length : Int)))))] (by kernel_rfl) <|
    xn <| wpC_seq <| wpC_kp <| cnd0 rfl (dlf _) <| wpC_exit <| xt <| xt <| xt <| xb <| kpN [] (by kernel_rfl) <| xn <| wpC_seq <| reg_s <| x_asg (sc cB true rfl) <| x_asg (sc cB true rfl) <| seqN [(10, .d (cB.enc true)), (11, .d (cB.enc true))] (by kernel_rfl) <|
    xn <| wpC_ret <| re <| fin h (r1 (ss rfl rfl) <| r1 (ss rfl rfl) <| r0) rfl)
    (fun G166 nx164 k134 s133 x135 hk136 hx137 hn165 h => wpC_seq <| reg_s <| st rfl <| b_lss (k := .i64) rfl rfl <| seqN [(2, .d ((cLs cI rfl).enc v2)), (3, .d ((cLs cI rfl).enc v3)), (4, .d ((cLs cI rfl).enc v4)), (43, .d (cI.enc (v4.length : Int))), (44, .d (cI.enc (k134 : Int))), (45, .d (cB.enc (decide ((k134 : Int) < (v4.length : Int)))))] (by kernel_rfl) <|
    xn <| wpC_seq <| wpC_kp <| cnd1 rfl (dlt hk136) <| wpC_skip <| kpN [(2, .d ((cLs cI rfl).enc v2)), (3, .d ((cLs cI rfl).enc v3)), (4, .d ((cLs cI rfl).enc v4)), (43, .d (cI.enc (v4.length : Int))), (44, .d (cI.enc (k134 : Int)))] (by kernel_rfl) <| xn <| wpC_seq <| wpC_kp <| wpC_blk <| wpC_seq <| reg_s <| st rfl <| mvd rfl rfl <| x_asg (ss rfl rfl) <| seqN [(2, .d ((cLs cI rfl).enc v2)), (3, .d ((cLs cI rfl).enc v3)), (4, .d ((cLs cI rfl).enc v4)), (12, .d (cI.enc (k134 : Int))), (43, .d (cI.enc (v4.length : Int))), (44, .d (cI.enc (k134 : Int)))] (by kernel_rfl) <|
    xn <| wpC_seq <| drw_s <| pst rfl <| mvd rfl rfl ⟨rfl, pst rfl <| mvd rfl rfl ⟨rfl, pst rfl <| ias rfl rfl (Int.natCast_nonneg _) hx137 rfl ⟨rfl, pst rfl <| ldi rfl rfl rfl rfl ⟨rfl, pst rfl <| mvd rfl rfl ⟨rfl, pst rfl <| mvd rfl rfl ⟨rfl, getO_kp h fun x186 i187 g188 h => pst rfl <| ias rfl rfl i187 g188 rfl ⟨rfl, pst rfl <| ldi rfl rfl rfl rfl ⟨rfl, pst rfl <| b_neq (k := .i64) rfl rfl ⟨rfl, pst rfl <| mvd rfl rfl ⟨rfl, ite_kp h (fun b189 h => pgt rfl b189 <| pst rfl <| mvd rfl rfl ⟨rfl, pgt rfl b189 <| pst rfl <| mvd rfl rfl ⟨rfl, pgt rfl b189 <| bndp h fun x190 e191 h => pst rfl <| o_call (a1 (c := (cLs cI rfl)) (tLs tK) rfl (a1 (c := cI) tK rfl a0)) (con_spec_l1Has e191) (.inl (so1 sB so0)) ⟨rfl, pgt rfl b189 <| pst rfl <| o_nt rfl ⟨rfl, pst rfl <| pick1 rfl b189 (cd := cB) (v := (!x190)) rfl rfl ⟨rfl, preN <| seqN [(2, .d ((cLs cI rfl).enc v2)), (3, .d ((cLs cI rfl).enc v3)), (4, .d ((cLs cI rfl).enc v4)), (43, .d (cI.enc (v4.length : Int))), (44, .d (cI.enc (k134 : Int))), (61, .d (cB.enc (!x190)))] (by kernel_rfl) <|
    xn <| cnd rfl h (fun b192 h => wpC_seq <| reg_s <| x_asg (sc cB false rfl) <| x_asg (sc cB true rfl) <| seqN [(10, .d (cB.enc false)), (11, .d (cB.enc true))] (by kernel_rfl) <|
    xn <| wpC_ret <| rb <| rt <| rt <| rt <| rb <| rt <| rt <| re <| fin h (r1 (ss rfl rfl) <| r1 (ss rfl rfl) <| r0) rfl)
    (fun b192 h => wpC_skip <| xbb <| kpN [(2, .d ((cLs cI rfl).enc v2)), (3, .d ((cLs cI rfl).enc v3)), (4, .d ((cLs cI rfl).enc v4)), (43, .d (cI.enc (v4.length : Int))), (44, .d (cI.enc (k134 : Int)))] (by kernel_rfl) <| xn <| reg_s <| st rfl <| b_inc rfl rfl l132 hk136 <| st rfl <| mvd rfl rfl <| seqN [(2, .d ((cLs cI rfl).enc v2)), (3, .d ((cLs cI rfl).enc v3)), (4, .d ((cLs cI rfl).enc v4)), (43, .d (cI.enc (v4.length : Int))), (44, .d (cI.enc ((k134 + 1 : Nat) : Int)))] (by kernel_rfl) <|
    xn <| hn165 () h)⟩⟩⟩⟩⟩)
    (fun b189 h => pgf rfl rfl b189 <| pgf rfl rfl b189 <| pgf rfl rfl b189 <| pgf rfl rfl b189 <| pst rfl <| pick0 rfl b189 (cd := cB) (v := false) rfl rfl ⟨rfl, preN <| seqN [(2, .d ((cLs cI rfl).enc v2)), (3, .d ((cLs cI rfl).enc v3)), (4, .d ((cLs cI rfl).enc v4)), (43, .d (cI.enc (v4.length : Int))), (44, .d (cI.enc (k134 : Int))), (61, .d (cB.enc false))] (by kernel_rfl) <|
    xn <| cnd0 rfl rfl <| wpC_skip <| xbb <| kpN [(2, .d ((cLs cI rfl).enc v2)), (3, .d ((cLs cI rfl).enc v3)), (4, .d ((cLs cI rfl).enc v4)), (43, .d (cI.enc (v4.length : Int))), (44, .d (cI.enc (k134 : Int)))] (by kernel_rfl) <| xn <| reg_s <| st rfl <| b_inc rfl rfl l132 hk136 <| st rfl <| mvd rfl rfl <| seqN [(2, .d ((cLs cI rfl).enc v2)), (3, .d ((cLs cI rfl).enc v3)), (4, .d ((cLs cI rfl).enc v4)), (43, .d (cI.enc (v4.length : Int))), (44, .d (cI.enc ((k134 + 1 : Nat) : Int)))] (by kernel_rfl) <|
    xn <| hn165 () h⟩)⟩⟩⟩⟩⟩⟩⟩⟩⟩⟩))))))

def rs_impl_areVars (r : Bool) : List D := [cB.enc r]
def m92 : MC := .seq (.reg [⟨some 4, .asg (.c (.bool false)), none⟩] [0, 1])
  (.seq (.reg [⟨some 5, .asg (.c (.int .i64 (-1))), none⟩] [0, 1, 5])
  (.seq (.kp [] (.seq (.reg [⟨some 8, .mv (.t 1), none⟩,
    ⟨some 9, .len false (.t 8), none⟩,
    ⟨some 10, .mv (.c (.int .i64 0)), none⟩] [0, 1, 5, 8, 9, 10])
  (.blk 0 (.loop (.seq (.reg [⟨some 11, .bin .lss (.t 10) (.t 9), none⟩] [0, 1, 5, 8, 9, 10, 11])
  (.seq (.kp [0, 1, 5, 8, 9, 10] (.cond (.t 11) (.skip) (.exit 0)))
  (.seq (.kp [0, 1, 5, 8, 9, 10] (.blk 1 (.seq (.reg [⟨some 12, .ia 8 (.t 10) 1, none⟩,
    ⟨some 13, .ld 12 1 false, none⟩,
    ⟨some 7, .asg (.t 13), none⟩] [0, 1, 5, 7, 8, 9, 10])
  (.seq (.kp [0, 1, 7, 8, 9, 10] (.seq (.reg [⟨some 14, .mv (.t 7), none⟩,
    ⟨some 15, .mv (.t 5), none⟩,
    ⟨some 16, .bin .leq (.t 14) (.t 15), none⟩,
    ⟨some 17, .mv (.t 16), none⟩,
    ⟨some 18, .mv (.t 7), some (17, false)⟩,
    ⟨some 19, .mv (.t 0), some (17, false)⟩,
    ⟨some 20, .len false (.t 19), some (17, false)⟩,
    ⟨some 21, .bin .geq (.t 18) (.t 20), some (17, false)⟩,
    ⟨some 22, .pick (.t 17) (.c (.bool true)) (.t 21), none⟩] [0, 1, 7, 8, 9, 10, 22])
  (.cond (.t 22) (.seq (.reg [⟨some 4, .asg (.c (.bool false)), none⟩] [4])
  (.ret)) (.skip))))
  (.reg [⟨some 23, .mv (.t 7), none⟩,
    ⟨some 5, .asg (.t 23), none⟩] [0, 1, 5, 8, 9, 10])))))
  (.reg [⟨some 24, .bin .add (.t 10) (.c (.int .i64 1)), none⟩,
    ⟨some 10, .mv (.t 24), none⟩] [0, 1, 5, 8, 9, 10]))))))))
  (.seq (.reg [⟨some 4, .asg (.c (.bool true)), none⟩] [4])
  (.ret))))
theorem con_impl_areVars {v0 : (List XVariable)} {v1 : (List Int)} {r : Bool} (h : sh_impl_areVars v0 v1 = some r) : Con Try.prog 92 [(cLs (cXVariable cS cI) rfl).enc v0, (cLs cI rfl).enc v1] [] (rs_impl_areVars r) := by
  delta sh_impl_areVars at h
  refine top (out := none) (f := Try.f92) (m := m92) (rs := [.t 4]) (by kernel_rfl) rfl (by kernel_rfl) (by kernel_rfl) (by kernel_rfl) (by kernel_rfl) (by kernel_rfl) ?_
  exact
   ini [(0, .d ((cLs (cXVariable cS cI) rfl).enc v0)), (1, .d ((cLs cI rfl).enc v1))] rfl <| wpC_seq <| reg_s <| x_asg (sc cB false rfl) <| seqN [(0, .d ((cLs (cXVariable cS cI) rfl).enc v0)), (1, .d ((cLs cI rfl).enc v1))] (by kernel_rfl) <|
    xn <| wpC_seq <| reg_s <| x_asg (sc cI (-1 : Int) rfl) <| seqN [(0, .d ((cLs (cXVariable cS cI) rfl).enc v0)), (1, .d ((cLs cI rfl).enc v1)), (5, .d (cI.enc (-1 : Int)))] (by kernel_rfl) <|
    xn <| wpC_seq <| wpC_kp <| wpC_seq <| reg_s <| st rfl <| mvd rfl rfl <| stw rfl <| lens rfl fun l72 => st rfl <| mvc cI (0 : Int) rfl <| seqN [(0, .d ((cLs (cXVariable cS cI) rfl).enc v0)), (1, .d ((cLs cI rfl).enc v1)), (5, .d (cI.enc (-1 : Int))), (8, .d ((cLs cI rfl).enc v1)), (9, .d (cI.enc (v1.length : Int))), (10, .d (cI.enc (0 : Int)))] (by kernel_rfl) <|
    xn <| wpC_blk <| lpR (fun (k74 : Nat) (s73 : Int) => [(0, .d ((cLs (cXVariable cS cI) rfl).enc v0)), (1, .d ((cLs cI rfl).enc v1)), (5, .d (cI.enc s73)), (8, .d ((cLs cI rfl).enc v1)), (9, .d (cI.enc (v1.length : Int))), (10, .d (cI.enc (k74 : Int)))]) (-1 : Int) rfl h
    (fun G120 s73 h => wpC_seq <| reg_s <| st rfl <| b_lss (k := .i64) rfl rfl <| seqN [(0, .d ((cLs (cXVariable cS cI) rfl).enc v0)), (1, .d ((cLs cI rfl).enc v1)), (5, .d (cI.enc s73)), (8, .d ((cLs cI rfl).enc v1)), (9, .d (cI.enc (v1.length : Int))), (10, .d (cI.enc (v1.length : Int))), (11, .d (cB.enc (decide ((v1.length : Int) < (v1.length : Int)))))] (by kernel_rfl) <|
    xn <| wpC_seq <| wpC_kp <| cnd0 rfl (dlf _) <| wpC_exit <| xt <| xt <| xt <| xb <| kpN [] (by kernel_rfl) <| xn <| wpC_seq <| reg_s <| x_asg (sc cB true rfl) <| seqN [(4, .d (cB.enc true))] (by kernel_rfl) <|
    xn <| wpC_ret <| re <| fin h (r1 (ss rfl rfl) <| r0) rfl)
    (fun G120 nx118 k74 s73 x75 hk76 hx77 hn119 h => wpC_seq <| reg_s <| st rfl <| b_lss (k := .i64) rfl rfl <| seqN [(0, .d ((cLs (cXVariable cS cI) rfl).enc v0)), (1, .d ((cLs cI rfl).enc v1)), (5, .d (cI.enc s73)), (8, .d ((cLs cI rfl).enc v1)), (9, .d (cI.enc (v1.length : Int))), (10, .d (cI.enc (k74 : Int))), (11, .d (cB.enc (decide ((k74 : Int) < (v1.length : Int)))))] (by kernel_rfl) <|
    xn <| wpC_seq <| wpC_kp <| cnd1 rfl (dlt hk76) <| wpC_skip <| kpN [(0, .d ((cLs (cXVariable cS cI) rfl).enc v0)), (1, .d ((cLs cI rfl).enc v1)), (5, .d (cI.enc s73)), (8, .d ((cLs cI rfl).enc v1)), (9, .d (cI.enc (v1.length : Int))), (10, .d (cI.enc (k74 : Int)))] (by kernel_rfl) <| xn <| wpC_seq <| wpC_kp <| wpC_blk <| wpC_seq <| reg_s <| st rfl <| ias rfl rfl (Int.natCast_nonneg _) hx77 rfl <| st rfl <| ldi rfl rfl rfl rfl <| x_asg (ss rfl rfl) <| seqN [(0, .d ((cLs (cXVariable cS cI) rfl).enc v0)), (1, .d ((cLs cI rfl).enc v1)), (5, .d (cI.enc s73)), (7, .d (cI.enc x75)), (8, .d ((cLs cI rfl).enc v1)), (9, .d (cI.enc (v1.length : Int))), (10, .d (cI.enc (k74 : Int)))] (by kernel_rfl) <|
    xn <| wpC_seq <| wpC_kp <| wpC_seq <| reg_s <| st rfl <| mvd rfl rfl <| st rfl <| mvd rfl rfl <| st rfl <| b_leq (k := .i64) rfl rfl <| st rfl <| mvd rfl rfl <| ite_k h (fun b138 h => gf rfl b138 <| gf rfl b138 <| gf rfl b138 <| gf rfl b138 <| st rfl <| pick1 rfl b138 (cd := cB) (v := true) rfl rfl <| seqN [(0, .d ((cLs (cXVariable cS cI) rfl).enc v0)), (1, .d ((cLs cI rfl).enc v1)), (7, .d (cI.enc x75)), (8, .d ((cLs cI rfl).enc v1)), (9, .d (cI.enc (v1.length : Int))), (10, .d (cI.enc (k74 : Int))), (22, .d (cB.enc true))] (by kernel_rfl) <|
    xn <| cnd1 rfl rfl <| wpC_seq <| reg_s <| x_asg (sc cB false rfl) <| seqN [(4, .d (cB.enc false))] (by kernel_rfl) <|
    xn <| wpC_ret <| rt <| rt <| rb <| rt <| rt <| rt <| rb <| rt <| rt <| re <| fin h (r1 (ss rfl rfl) <| r0) rfl)
    (fun b138 h => gt' rfl b138 <| st rfl <| mvd rfl rfl <| gt' rfl b138 <| st rfl <| mvd rfl rfl <| gt' rfl b138 <| stw rfl <| lens rfl fun l139 => gt' rfl b138 <| st rfl <| b_geq (k := .i64) rfl rfl <| st rfl <| pick0 rfl b138 (cd := cB) (v := (decide ((v0.length : Int) ≤ x75))) rfl rfl <| seqN [(0, .d ((cLs (cXVariable cS cI) rfl).enc v0)), (1, .d ((cLs cI rfl).enc v1)), (7, .d (cI.enc x75)), (8, .d ((cLs cI rfl).enc v1)), (9, .d (cI.enc (v1.length : Int))), (10, .d (cI.enc (k74 : Int))), (22, .d (cB.enc (decide ((v0.length : Int) ≤ x75))))] (by kernel_rfl) <|
    xn <| cnd rfl h (fun b140 h => wpC_seq <| reg_s <| x_asg (sc cB false rfl) <| seqN [(4, .d (cB.enc false))] (by kernel_rfl) <|
    xn <| wpC_ret <| rt <| rt <| rb <| rt <| rt <| rt <| rb <| rt <| rt <| re <| fin h (r1 (ss rfl rfl) <| r0) rfl)
    (fun b140 h => wpC_skip <| kpN [(0, .d ((cLs (cXVariable cS cI) rfl).enc v0)), (1, .d ((cLs cI rfl).enc v1)), (7, .d (cI.enc x75)), (8, .d ((cLs cI rfl).enc v1)), (9, .d (cI.enc (v1.length : Int))), (10, .d (cI.enc (k74 : Int)))] (by kernel_rfl) <| xn <| reg_s <| st rfl <| mvd rfl rfl <| x_asg (ss rfl rfl) <| seqN [(0, .d ((cLs (cXVariable cS cI) rfl).enc v0)), (1, .d ((cLs cI rfl).enc v1)), (5, .d (cI.enc x75)), (8, .d ((cLs cI rfl).enc v1)), (9, .d (cI.enc (v1.length : Int))), (10, .d (cI.enc (k74 : Int)))] (by kernel_rfl) <|
    xbb <| kpN [(0, .d ((cLs (cXVariable cS cI) rfl).enc v0)), (1, .d ((cLs cI rfl).enc v1)), (5, .d (cI.enc x75)), (8, .d ((cLs cI rfl).enc v1)), (9, .d (cI.enc (v1.length : Int))), (10, .d (cI.enc (k74 : Int)))] (by kernel_rfl) <| xn <| reg_s <| st rfl <| b_inc rfl rfl l72 hk76 <| st rfl <| mvd rfl rfl <| seqN [(0, .d ((cLs (cXVariable cS cI) rfl).enc v0)), (1, .d ((cLs cI rfl).enc v1)), (5, .d (cI.enc x75)), (8, .d ((cLs cI rfl).enc v1)), (9, .d (cI.enc (v1.length : Int))), (10, .d (cI.enc ((k74 + 1 : Nat) : Int)))] (by kernel_rfl) <|
    xn <| hn119 x75 h)))

def rs_slices_Index_int (r : Int) : List D := [cI.enc r]
def m130 : MC := .seq (.reg [⟨some 4, .asg (.c (.int .i64 0)), none⟩] [0, 1])
  (.seq (.kp [] (.seq (.reg [⟨some 6, .mv (.t 0), none⟩,
    ⟨some 7, .len false (.t 6), none⟩,
    ⟨some 8, .mv (.c (.int .i64 0)), none⟩] [0, 1, 7, 8])
  (.blk 0 (.loop (.seq (.reg [⟨some 9, .bin .lss (.t 8) (.t 7), none⟩] [0, 1, 7, 8, 9])
  (.seq (.kp [0, 1, 7, 8] (.cond (.t 9) (.skip) (.exit 0)))
  (.seq (.kp [0, 1, 7, 8] (.blk 1 (.seq (.reg [⟨some 10, .mv (.t 8), none⟩,
    ⟨some 5, .asg (.t 10), none⟩] [0, 1, 5, 7, 8])
  (.seq (.reg [⟨some 11, .mv (.t 1), none⟩,
    ⟨some 12, .mv (.t 0), none⟩,
    ⟨some 13, .mv (.t 5), none⟩,
    ⟨some 14, .ia 12 (.t 13) 1, none⟩,
    ⟨some 15, .ld 14 1 false, none⟩,
    ⟨some 16, .bin .eql (.t 11) (.t 15), none⟩] [0, 1, 5, 7, 8, 16])
  (.cond (.t 16) (.seq (.reg [⟨some 17, .mv (.t 5), none⟩,
    ⟨some 4, .asg (.t 17), none⟩] [4])
  (.ret)) (.skip))))))
  (.reg [⟨some 18, .bin .add (.t 8) (.c (.int .i64 1)), none⟩,
    ⟨some 8, .mv (.t 18), none⟩] [0, 1, 7, 8]))))))))
  (.seq (.reg [⟨some 4, .asg (.c (.int .i64 (-1))), none⟩] [4])
  (.ret)))
theorem con_slices_Index_int {v0 : (List Int)} {v1 : Int} {r : Int} (h : sh_slices_Index_int v0 v1 = some r) : Con Try.prog 130 [(cLs cI rfl).enc v0, cI.enc v1] [] (rs_slices_Index_int r) := by
  delta sh_slices_Index_int at h
  refine top (out := none) (f := Try.f130) (m := m130) (rs := [.t 4]) (by kernel_rfl) rfl (by kernel_rfl) (by kernel_rfl) (by kernel_rfl) (by kernel_rfl) (by kernel_rfl) ?_
  exact
   ini [(0, .d ((cLs cI rfl).enc v0)), (1, .d (cI.enc v1))] rfl <| wpC_seq <| reg_s <| x_asg (sc cI (0 : Int) rfl) <| seqN [(0, .d ((cLs cI rfl).enc v0)), (1, .d (cI.enc v1))] (by kernel_rfl) <|
    xn <| wpC_seq <| wpC_kp <| wpC_seq <| reg_s <| st rfl <| mvd rfl rfl <| stw rfl <| lens rfl fun l16 => st rfl <| mvc cI (0 : Int) rfl <| seqN [(0, .d ((cLs cI rfl).enc v0)), (1, .d (cI.enc v1)), (7, .d (cI.enc (v0.length : Int))), (8, .d (cI.enc (0 : Int)))] (by kernel_rfl) <|
    xn <| wpC_blk <| lpR (fun (k18 : Nat) (s17 : Unit) => [(0, .d ((cLs cI rfl).enc v0)), (1, .d (cI.enc v1)), (7, .d (cI.enc (v0.length : Int))), (8, .d (cI.enc (k18 : Int)))]) () rfl h
    (fun G26 s17 h => wpC_seq <| reg_s <| st rfl <| b_lss (k := .i64) rfl rfl <| seqN [(0, .d ((cLs cI rfl).enc v0)), (1, .d (cI.enc v1)), (7, .d (cI.enc (v0.length : Int))), (8, .d (cI.enc (v0.length : Int))), (9, .d (cB.enc (decide ((v0.length : Int) < (v0.length : Int)))))] (by kernel_rfl) <|
    xn <| wpC_seq <| wpC_kp <| cnd0 rfl (dlf _) <| wpC_exit <| xt <| xt <| xt <| xb <| kpN [] (by kernel_rfl) <| xn <| wpC_seq <| reg_s <| x_asg (sc cI (-1 : Int) rfl) <| seqN [(4, .d (cI.enc (-1 : Int)))] (by kernel_rfl) <|
    xn <| wpC_ret <| re <| fin h (r1 (ss rfl rfl) <| r0) rfl)
    (fun G26 nx24 k18 s17 x19 hk20 hx21 hn25 h => wpC_seq <| reg_s <| st rfl <| b_lss (k := .i64) rfl rfl <| seqN [(0, .d ((cLs cI rfl).enc v0)), (1, .d (cI.enc v1)), (7, .d (cI.enc (v0.length : Int))), (8, .d (cI.enc (k18 : Int))), (9, .d (cB.enc (decide ((k18 : Int) < (v0.length : Int)))))] (by kernel_rfl) <|
    xn <| wpC_seq <| wpC_kp <| cnd1 rfl (dlt hk20) <| wpC_skip <| kpN [(0, .d ((cLs cI rfl).enc v0)), (1, .d (cI.enc v1)), (7, .d (cI.enc (v0.length : Int))), (8, .d (cI.enc (k18 : Int)))] (by kernel_rfl) <| xn <| wpC_seq <| wpC_kp <| wpC_blk <| wpC_seq <| reg_s <| st rfl <| mvd rfl rfl <| x_asg (ss rfl rfl) <| seqN [(0, .d ((cLs cI rfl).enc v0)), (1, .d (cI.enc v1)), (5, .d (cI.enc (k18 : Int))), (7, .d (cI.enc (v0.length : Int))), (8, .d (cI.enc (k18 : Int)))] (by kernel_rfl) <|
    xn <| wpC_seq <| reg_s <| st rfl <| mvd rfl rfl <| st rfl <| mvd rfl rfl <| st rfl <| mvd rfl rfl <| st rfl <| ias rfl rfl (Int.natCast_nonneg _) hx21 rfl <| st rfl <| ldi rfl rfl rfl rfl <| st rfl <| b_eql (k := .i64) rfl rfl <| seqN [(0, .d ((cLs cI rfl).enc v0)), (1, .d (cI.enc v1)), (5, .d (cI.enc (k18 : Int))), (7, .d (cI.enc (v0.length : Int))), (8, .d (cI.enc (k18 : Int))), (16, .d (cB.enc (decide (v1 = x19))))] (by kernel_rfl) <|
    xn <| cnd rfl h (fun b28 h => wpC_seq <| reg_s <| st rfl <| mvd rfl rfl <| x_asg (ss rfl rfl) <| seqN [(4, .d (cI.enc (k18 : Int)))] (by kernel_rfl) <|
    xn <| wpC_ret <| rb <| rt <| rt <| rt <| rb <| rt <| rt <| re <| fin h (r1 (ss rfl rfl) <| r0) rfl)
    (fun b28 h => wpC_skip <| xbb <| kpN [(0, .d ((cLs cI rfl).enc v0)), (1, .d (cI.enc v1)), (7, .d (cI.enc (v0.length : Int))), (8, .d (cI.enc (k18 : Int)))] (by kernel_rfl) <| xn <| reg_s <| st rfl <| b_inc rfl rfl l16 hk20 <| st rfl <| mvd rfl rfl <| seqN [(0, .d ((cLs cI rfl).enc v0)), (1, .d (cI.enc v1)), (7, .d (cI.enc (v0.length : Int))), (8, .d (cI.enc ((k18 + 1 : Nat) : Int)))] (by kernel_rfl) <|
    xn <| hn25 () h))

def rs_slices_Contains_int (r : Bool) : List D := [cB.enc r]
def m120 : MC := .seq (.reg [⟨some 4, .asg (.c (.bool false)), none⟩] [0, 1])
  (.seq (.reg [⟨some 5, .mv (.t 0), none⟩,
    ⟨some 6, .mv (.t 1), none⟩,
    ⟨some 7, .call 130 [(.t 5), (.t 6)], none⟩,
    ⟨some 8, .bin .geq (.t 7) (.c (.int .i64 0)), none⟩,
    ⟨some 4, .asg (.t 8), none⟩] [4])
  (.ret))
theorem con_slices_Contains_int {v0 : (List Int)} {v1 : Int} {r : Bool} (h : sh_slices_Contains_int v0 v1 = some r) : Con Try.prog 120 [(cLs cI rfl).enc v0, cI.enc v1] [] (rs_slices_Contains_int r) := by
  delta sh_slices_Contains_int at h
  refine top (out := none) (f := Try.f120) (m := m120) (rs := [.t 4]) (by kernel_rfl) rfl (by kernel_rfl) (by kernel_rfl) (by kernel_rfl) (by kernel_rfl) (by kernel_rfl) ?_
  exact
   ini [(0, .d ((cLs cI rfl).enc v0)), (1, .d (cI.enc v1))] rfl <| wpC_seq <| reg_s <| x_asg (sc cB false rfl) <| seqN [(0, .d ((cLs cI rfl).enc v0)), (1, .d (cI.enc v1))] (by kernel_rfl) <|
    xn <| wpC_seq <| reg_s <| st rfl <| mvd rfl rfl <| st rfl <| mvd rfl rfl <| bnd h fun x3 e4 h => st rfl <| o_call (a1 (c := (cLs cI rfl)) (tLs tK) rfl (a1 (c := cI) tK rfl a0)) (con_slices_Index_int e4) (.inl (so1 sK so0)) <| st rfl <| b_geq (k := .i64) rfl rfl <| x_asg (ss rfl rfl) <| seqN [(4, .d (cB.enc (decide ((0 : Int) ≤ x3))))] (by kernel_rfl) <|
    xn <| wpC_ret <| re <| fin h (r1 (ss rfl rfl) <| r0) rfl

def rs_impl_otherVars (r : (List Int)) : List D := [(cLo cI).enc r]
def m94 : MC := .seq (.reg [⟨some 4, .asg (.c (.slice true [])), none⟩] [0, 1])
  (.seq (.reg [⟨some 5, .asg (.c (.slice true [])), none⟩] [0, 1, 5])
  (.seq (.kp [5] (.seq (.reg [⟨some 7, .mv (.t 0), none⟩,
    ⟨some 8, .len false (.t 7), none⟩,
    ⟨some 9, .mv (.c (.int .i64 0)), none⟩] [1, 5, 8, 9])
  (.blk 0 (.loop (.seq (.reg [⟨some 10, .bin .lss (.t 9) (.t 8), none⟩] [1, 5, 8, 9, 10])
  (.seq (.kp [1, 5, 8, 9] (.cond (.t 10) (.skip) (.exit 0)))
  (.seq (.kp [1, 5, 8, 9] (.blk 1 (.seq (.reg [⟨some 11, .mv (.t 9), none⟩,
    ⟨some 6, .asg (.t 11), none⟩] [1, 5, 6, 8, 9])
  (.seq (.reg [⟨some 12, .mv (.t 1), none⟩,
    ⟨some 13, .mv (.t 6), none⟩,
    ⟨some 14, .call 120 [(.t 12), (.t 13)], none⟩,
    ⟨some 15, .nt (.t 14), none⟩] [1, 5, 6, 8, 9, 15])
  (.cond (.t 15) (.reg [⟨some 16, .mv (.t 5), none⟩,
    ⟨some 17, .mv (.t 6), none⟩,
    ⟨some 18, .bsl [(.t 17)] 1, none⟩,
    ⟨some 19, .app (.t 16) (.t 18) 1, none⟩,
    ⟨some 5, .asg (.t 19), none⟩] [1, 5, 8, 9]) (.skip))))))
  (.reg [⟨some 20, .bin .add (.t 9) (.c (.int .i64 1)), none⟩,
    ⟨some 9, .mv (.t 20), none⟩] [1, 5, 8, 9]))))))))
  (.seq (.reg [⟨some 21, .mv (.t 5), none⟩,
    ⟨some 4, .asg (.t 21), none⟩] [4])
  (.ret))))
theorem con_impl_otherVars {v0 : (List XVariable)} {v1 : (List Int)} {r : (List Int)} (h : sh_impl_otherVars v0 v1 = some r) : Con Try.prog 94 [(cLs (cXVariable cS cI) rfl).enc v0, (cLs cI rfl).enc v1] [] (rs_impl_otherVars r) := by
  delta sh_impl_otherVars at h
  refine top (out := none) (f := Try.f94) (m := m94) (rs := [.t 4]) (by kernel_rfl) rfl (by kernel_rfl) (by kernel_rfl) (by kernel_rfl) (by kernel_rfl) (by kernel_rfl) ?_
  exact
   ini [(0, .d ((cLs (cXVariable cS cI) rfl).enc v0)), (1, .d ((cLs cI rfl).enc v1))] rfl <| wpC_seq <| reg_s <| x_asg (sc (cLo cI) ([] : List Int) rfl) <| seqN [(0, .d ((cLs (cXVariable cS cI) rfl).enc v0)), (1, .d ((cLs cI rfl).enc v1))] (by kernel_rfl) <|
    xn <| wpC_seq <| reg_s <| x_asg (sc (cLo cI) ([] : List Int) rfl) <| seqN [(0, .d ((cLs (cXVariable cS cI) rfl).enc v0)), (1, .d ((cLs cI rfl).enc v1)), (5, .d ((cLo cI).enc ([] : List Int)))] (by kernel_rfl) <|
    xn <| wpC_seq <| wpC_kp <| wpC_seq <| reg_s <| st rfl <| mvd rfl rfl <| stw rfl <| lens rfl fun l48 => st rfl <| mvc cI (0 : Int) rfl <| seqN [(1, .d ((cLs cI rfl).enc v1)), (5, .d ((cLo cI).enc ([] : List Int))), (8, .d (cI.enc (v0.length : Int))), (9, .d (cI.enc (0 : Int)))] (by kernel_rfl) <|
    xn <| wpC_blk <| lpR (fun (k50 : Nat) (s49 : (List Int)) => [(1, .d ((cLs cI rfl).enc v1)), (5, .d ((cLo cI).enc s49)), (8, .d (cI.enc (v0.length : Int))), (9, .d (cI.enc (k50 : Int)))]) ([] : List Int) rfl h
    (fun G80 s49 h => wpC_seq <| reg_s <| st rfl <| b_lss (k := .i64) rfl rfl <| seqN [(1, .d ((cLs cI rfl).enc v1)), (5, .d ((cLo cI).enc s49)), (8, .d (cI.enc (v0.length : Int))), (9, .d (cI.enc (v0.length : Int))), (10, .d (cB.enc (decide ((v0.length : Int) < (v0.length : Int)))))] (by kernel_rfl) <|
    xn <| wpC_seq <| wpC_kp <| cnd0 rfl (dlf _) <| wpC_exit <| xt <| xt <| xt <| xb <| kpN [(5, .d ((cLo cI).enc s49))] (by kernel_rfl) <| xn <| wpC_seq <| reg_s <| st rfl <| mvo rfl rfl <| x_asg (sr rfl rfl) <| seqN [(4, .d ((cLo cI).enc s49))] (by kernel_rfl) <|
    xn <| wpC_ret <| re <| fin h (r1 (so rfl rfl) <| r0) rfl)
    (fun G80 nx78 k50 s49 x51 hk52 hx53 hn79 h => wpC_seq <| reg_s <| st rfl <| b_lss (k := .i64) rfl rfl <| seqN [(1, .d ((cLs cI rfl).enc v1)), (5, .d ((cLo cI).enc s49)), (8, .d (cI.enc (v0.length : Int))), (9, .d (cI.enc (k50 : Int))), (10, .d (cB.enc (decide ((k50 : Int) < (v0.length : Int)))))] (by kernel_rfl) <|
    xn <| wpC_seq <| wpC_kp <| cnd1 rfl (dlt hk52) <| wpC_skip <| kpN [(1, .d ((cLs cI rfl).enc v1)), (5, .d ((cLo cI).enc s49)), (8, .d (cI.enc (v0.length : Int))), (9, .d (cI.enc (k50 : Int)))] (by kernel_rfl) <| xn <| wpC_seq <| wpC_kp <| wpC_blk <| wpC_seq <| reg_s <| st rfl <| mvd rfl rfl <| x_asg (ss rfl rfl) <| seqN [(1, .d ((cLs cI rfl).enc v1)), (5, .d ((cLo cI).enc s49)), (6, .d (cI.enc (k50 : Int))), (8, .d (cI.enc (v0.length : Int))), (9, .d (cI.enc (k50 : Int)))] (by kernel_rfl) <|
    xn <| wpC_seq <| reg_s <| st rfl <| mvd rfl rfl <| st rfl <| mvd rfl rfl <| bnd h fun x89 e90 h => st rfl <| o_call (a1 (c := (cLs cI rfl)) (tLs tK) rfl (a1 (c := cI) tK rfl a0)) (con_slices_Contains_int e90) (.inl (so1 sB so0)) <| st rfl <| o_nt rfl <| seqN [(1, .d ((cLs cI rfl).enc v1)), (5, .d ((cLo cI).enc s49)), (6, .d (cI.enc (k50 : Int))), (8, .d (cI.enc (v0.length : Int))), (9, .d (cI.enc (k50 : Int))), (15, .d (cB.enc (!x89)))] (by kernel_rfl) <|
    xn <| cnd rfl h (fun b91 h => reg_s <| st rfl <| mvo rfl rfl <| st rfl <| mvd rfl rfl <| x_bsl cI [(k50 : Int)] (t1 (ss rfl rfl) rfl t0) rfl rfl <| lnO_k h fun l92 h => x_app (sr rfl rfl) (to rfl rfl) l92 rfl <| x_asg (so rfl rfl) <| seqN [(1, .d ((cLs cI rfl).enc v1)), (5, .d ((cLo cI).enc (s49 ++ [(k50 : Int)]))), (8, .d (cI.enc (v0.length : Int))), (9, .d (cI.enc (k50 : Int)))] (by kernel_rfl) <|
    xbb <| kpN [(1, .d ((cLs cI rfl).enc v1)), (5, .d ((cLo cI).enc (s49 ++ [(k50 : Int)]))), (8, .d (cI.enc (v0.length : Int))), (9, .d (cI.enc (k50 : Int)))] (by kernel_rfl) <| xn <| reg_s <| st rfl <| b_inc rfl rfl l48 hk52 <| st rfl <| mvd rfl rfl <| seqN [(1, .d ((cLs cI rfl).enc v1)), (5, .d ((cLo cI).enc (s49 ++ [(k50 : Int)]))), (8, .d (cI.enc (v0.length : Int))), (9, .d (cI.enc ((k50 + 1 : Nat) : Int)))] (by kernel_rfl) <|
    xn <| hn79 (s49 ++ [(k50 : Int)]) h)
    (fun b91 h => wpC_skip <| xbb <| kpN [(1, .d ((cLs cI rfl).enc v1)), (5, .d ((cLo cI).enc s49)), (8, .d (cI.enc (v0.length : Int))), (9, .d (cI.enc (k50 : Int)))] (by kernel_rfl) <| xn <| reg_s <| st rfl <| b_inc rfl rfl l48 hk52 <| st rfl <| mvd rfl rfl <| seqN [(1, .d ((cLs cI rfl).enc v1)), (5, .d ((cLo cI).enc s49)), (8, .d (cI.enc (v0.length : Int))), (9, .d (cI.enc ((k50 + 1 : Nat) : Int)))] (by kernel_rfl) <|
    xn <| hn79 s49 h))

def rs_impl_IsMend (r : (Bool × Bool)) : List D := [cB.enc r.1, cB.enc r.2]
def m42 : MC := .seq (.reg [⟨some 10, .asg (.c (.bool false)), none⟩,
    ⟨some 11, .asg (.c (.bool false)), none⟩] [0, 1, 2, 3, 4])
  (.seq (.kp [0, 1, 2, 3, 4] (.seq (.reg [⟨some 14, .mv (.t 0), none⟩,
    ⟨some 15, .call 64 [(.t 14)], none⟩,
    ⟨some 16, .nt (.t 15), none⟩,
    ⟨some 17, .mv (.t 16), none⟩,
    ⟨some 18, .mv (.t 0), some (17, false)⟩,
    ⟨some 19, .mv (.t 1), some (17, false)⟩,
    ⟨some 20, .call 71 [(.t 18), (.t 19)], some (17, false)⟩,
    ⟨some 21, .nt (.t 20), some (17, false)⟩,
    ⟨some 22, .pick (.t 17) (.c (.bool true)) (.t 21), none⟩,
    ⟨some 23, .mv (.t 22), none⟩,
    ⟨some 24, .mv (.t 0), some (23, false)⟩,
    ⟨some 25, .mv (.t 2), some (23, false)⟩,
    ⟨some 26, .call 92 [(.t 24), (.t 25)], some (23, false)⟩,
    ⟨some 27, .nt (.t 26), some (23, false)⟩,
    ⟨some 28, .pick (.t 23) (.c (.bool true)) (.t 27), none⟩,
    ⟨some 29, .mv (.t 28), none⟩,
    ⟨some 30, .mv (.t 0), some (29, false)⟩,
    ⟨some 31, .mv (.t 3), some (29, false)⟩,
    ⟨some 32, .call 93 [(.t 30), (.t 31)], some (29, false)⟩,
    ⟨some 33, .nt (.t 32), some (29, false)⟩,
    ⟨some 34, .pick (.t 29) (.c (.bool true)) (.t 33), none⟩] [0, 1, 2, 3, 4, 34])
  (.cond (.t 34) (.seq (.reg [⟨some 10, .asg (.c (.bool false)), none⟩,
    ⟨some 11, .asg (.c (.bool false)), none⟩] [10, 11])
  (.ret)) (.skip))))
  (.seq (.kp [0, 2, 3, 4] (.seq (.reg [⟨some 35, .mv (.t 0), none⟩,
    ⟨some 36, .mv (.t 4), none⟩,
    ⟨some 37, .call 93 [(.t 35), (.t 36)], none⟩,
    ⟨some 38, .nt (.t 37), none⟩,
    ⟨some 39, .mv (.t 38), none⟩,
    ⟨some 40, .mv (.t 1), some (39, false)⟩,
    ⟨some 41, .mv (.t 4), some (39, false)⟩,
    ⟨some 42, .call 75 [(.t 40), (.t 41)], some (39, false)⟩,
    ⟨some 43, .pick (.t 39) (.c (.bool true)) (.t 42), none⟩] [0, 2, 3, 4, 43])
  (.cond (.t 43) (.seq (.reg [⟨some 10, .asg (.c (.bool false)), none⟩,
    ⟨some 11, .asg (.c (.bool true)), none⟩] [10, 11])
  (.ret)) (.skip))))
  (.seq (.kp [] (.seq (.reg [⟨some 44, .mv (.t 0), none⟩,
    ⟨some 45, .mv (.t 2), none⟩,
    ⟨some 46, .call 94 [(.t 44), (.t 45)], none⟩,
    ⟨some 47, .len false (.t 46), none⟩,
    ⟨some 48, .mv (.c (.int .i64 0)), none⟩] [3, 4, 46, 47, 48])
  (.blk 0 (.loop (.seq (.reg [⟨some 49, .bin .lss (.t 48) (.t 47), none⟩] [3, 4, 46, 47, 48, 49])
  (.seq (.kp [3, 4, 46, 47, 48] (.cond (.t 49) (.skip) (.exit 0)))
  (.seq (.kp [3, 4, 46, 47, 48] (.blk 1 (.seq (.reg [⟨some 50, .ia 46 (.t 48) 1, none⟩,
    ⟨some 51, .ld 50 1 false, none⟩,
    ⟨some 13, .asg (.t 51), none⟩] [3, 4, 13, 46, 47, 48])
  (.seq (.drw [⟨0, ⟨some 52, .mv (.t 4), none⟩, [53, 54, 55, 56, 57, 58, 59, 60]⟩,
    ⟨1, ⟨some 53, .mv (.t 13), none⟩, [52, 54, 55, 56, 57, 58, 59, 60]⟩,
    ⟨2, ⟨some 54, .ia 52 (.t 53) 1, none⟩, [55, 56, 57, 58, 59, 60]⟩,
    ⟨3, ⟨some 55, .ld 54 1 false, none⟩, [56, 57, 58, 59, 60]⟩,
    ⟨4, ⟨some 56, .mv (.t 3), none⟩, [52, 53, 54, 55, 57, 58, 59, 60]⟩,
    ⟨5, ⟨some 57, .mv (.t 13), none⟩, [52, 53, 54, 55, 56, 58, 59, 60]⟩,
    ⟨6, ⟨some 58, .ia 56 (.t 57) 1, none⟩, [52, 53, 54, 55, 59, 60]⟩,
    ⟨7, ⟨some 59, .ld 58 1 false, none⟩, [52, 53, 54, 55, 60]⟩,
    ⟨8, ⟨some 60, .bin .neq (.t 55) (.t 59), none⟩, []⟩]
    [] [3, 4, 46, 47, 48, 60])
  (.cond (.t 60) (.seq (.reg [⟨some 10, .asg (.c (.bool false)), none⟩,
    ⟨some 11, .asg (.c (.bool true)), none⟩] [10, 11])
  (.ret)) (.skip))))))
  (.reg [⟨some 61, .bin .add (.t 48) (.c (.int .i64 1)), none⟩,
    ⟨some 48, .mv (.t 61), none⟩] [3, 4, 46, 47, 48]))))))))
  (.seq (.reg [⟨some 10, .asg (.c (.bool true)), none⟩,
    ⟨some 11, .asg (.c (.bool true)), none⟩] [10, 11])
  (.ret)))))
theorem con_impl_IsMend {v0 : (List XVariable)} {v1 : (List XEdit)} {v2 : (List Int)} {v3 : (List Int)} {v4 : (List Int)} {r : (Bool × Bool)} (h : sh_impl_IsMend v0 v1 v2 v3 v4 = some r) : Con Try.prog 42 [(cLs (cXVariable cS cI) rfl).enc v0, (cLs (cXEdit (cLs cI rfl)) rfl).enc v1, (cLs cI rfl).enc v2, (cLs cI rfl).enc v3, (cLs cI rfl).enc v4] [] (rs_impl_IsMend r) := by
  delta sh_impl_IsMend at h
  refine top (out := none) (f := Try.f42) (m := m42) (rs := [.t 10, .t 11]) (by kernel_rfl) rfl (by kernel_rfl) (by kernel_rfl) (by kernel_rfl) (by kernel_rfl) (by kernel_rfl) ?_
  exact
   ini [(0, .d ((cLs (cXVariable cS cI) rfl).enc v0)), (1, .d ((cLs (cXEdit (cLs cI rfl)) rfl).enc v1)), (2, .d ((cLs cI rfl).enc v2)), (3, .d ((cLs cI rfl).enc v3)), (4, .d ((cLs cI rfl).enc v4))] rfl <| wpC_seq <| reg_s <| x_asg (sc cB false rfl) <| x_asg (sc cB false rfl) <| seqN [(0, .d ((cLs (cXVariable cS cI) rfl).enc v0)), (1, .d ((cLs (cXEdit (cLs cI rfl)) rfl).enc v1)), (2, .d ((cLs cI rfl).enc v2)), (3, .d ((cLs cI rfl).enc v3)), (4, .d ((cLs cI rfl).enc v4))] (by kernel_rfl) <|
    xn <| wpC_seq <| wpC_kp <| wpC_seq <| jw (fun (s37 : Bool) => [(0, .d ((cLs (cXVariable cS cI) rfl).enc v0)), (1, .d ((cLs (cXEdit (cLs cI rfl)) rfl).enc v1)), (2, .d ((cLs cI rfl).enc v2)), (3, .d ((cLs cI rfl).enc v3)), (4, .d ((cLs cI rfl).enc v4)), (34, .d (cB.enc s37))]) h (fun s37 h => xn <| cnd rfl h (fun b39 h => wpC_seq <| reg_s <| x_asg (sc cB false rfl) <| x_asg (sc cB false rfl) <| seqN [(10, .d (cB.enc false)), (11, .d (cB.enc false))] (by kernel_rfl) <|
    xn <| wpC_ret <| rt <| rt <| re <| fin h (r1 (ss rfl rfl) <| r1 (ss rfl rfl) <| r0) rfl)
    (fun b39 h => wpC_skip <| kpN [(0, .d ((cLs (cXVariable cS cI) rfl).enc v0)), (1, .d ((cLs (cXEdit (cLs cI rfl)) rfl).enc v1)), (2, .d ((cLs cI rfl).enc v2)), (3, .d ((cLs cI rfl).enc v3)), (4, .d ((cLs cI rfl).enc v4))] (by kernel_rfl) <| xn <| wpC_seq <| wpC_kp <| wpC_seq <| reg_s <| st rfl <| mvd rfl rfl <| st rfl <| mvd rfl rfl <| bnd h fun x56 e57 h => st rfl <| o_call (a1 (c := (cLs (cXVariable cS cI) rfl)) (tLs (tXVariable tS tK)) rfl (a1 (c := (cLs cI rfl)) (tLs tK) rfl a0)) (con_impl_areValues e57) (.inl (so1 sB so0)) <| st rfl <| o_nt rfl <| st rfl <| mvd rfl rfl <| ite_k h (fun b58 h => gf rfl b58 <| gf rfl b58 <| gf rfl b58 <| st rfl <| pick1 rfl b58 (cd := cB) (v := true) rfl rfl <| seqN [(0, .d ((cLs (cXVariable cS cI) rfl).enc v0)), (2, .d ((cLs cI rfl).enc v2)), (3, .d ((cLs cI rfl).enc v3)), (4, .d ((cLs cI rfl).enc v4)), (43, .d (cB.enc true))] (by kernel_rfl) <|
    xn <| cnd1 rfl rfl <| wpC_seq <| reg_s <| x_asg (sc cB false rfl) <| x_asg (sc cB true rfl) <| seqN [(10, .d (cB.enc false)), (11, .d (cB.enc true))] (by kernel_rfl) <|
    xn <| wpC_ret <| rt <| rt <| re <| fin h (r1 (ss rfl rfl) <| r1 (ss rfl rfl) <| r0) rfl)
    (fun b58 h => gt' rfl b58 <| st rfl <| mvd rfl rfl <| gt' rfl b58 <| st rfl <| mvd rfl rfl <| gt' rfl b58 <| bnd h fun x59 e60 h => st rfl <| o_call (a1 (c := (cLs (cXEdit (cLs cI rfl)) rfl)) (tLs (tXEdit (tLs tK))) rfl (a1 (c := (cLs cI rfl)) (tLs tK) rfl a0)) (con_impl_failsOne e60) (.inl (so1 sB so0)) <| st rfl <| pick0 rfl b58 (cd := cB) (v := x59) rfl rfl <| seqN [(0, .d ((cLs (cXVariable cS cI) rfl).enc v0)), (2, .d ((cLs cI rfl).enc v2)), (3, .d ((cLs cI rfl).enc v3)), (4, .d ((cLs cI rfl).enc v4)), (43, .d (cB.enc x59))] (by kernel_rfl) <|
    xn <| cnd rfl h (fun b61 h => wpC_seq <| reg_s <| x_asg (sc cB false rfl) <| x_asg (sc cB true rfl) <| seqN [(10, .d (cB.enc false)), (11, .d (cB.enc true))] (by kernel_rfl) <|
    xn <| wpC_ret <| rt <| rt <| re <| fin h (r1 (ss rfl rfl) <| r1 (ss rfl rfl) <| r0) rfl)
    (fun b61 h => wpC_skip <| kpN [(0, .d ((cLs (cXVariable cS cI) rfl).enc v0)), (2, .d ((cLs cI rfl).enc v2)), (3, .d ((cLs cI rfl).enc v3)), (4, .d ((cLs cI rfl).enc v4))] (by kernel_rfl) <| xn <| wpC_seq <| wpC_kp <| wpC_seq <| reg_s <| st rfl <| mvd rfl rfl <| st rfl <| mvd rfl rfl <| bnd h fun x131 e132 h => st rfl <| o_call (a1 (c := (cLs (cXVariable cS cI) rfl)) (tLs (tXVariable tS tK)) rfl (a1 (c := (cLs cI rfl)) (tLs tK) rfl a0)) (con_impl_otherVars e132) (.inl (so1 (sLo sK) so0)) <| stw rfl <| leno rfl fun l133 => st rfl <| mvc cI (0 : Int) rfl <| seqN [(3, .d ((cLs cI rfl).enc v3)), (4, .d ((cLs cI rfl).enc v4)), (46, .d ((cLo cI).enc x131)), (47, .d (cI.enc (x131.length : Int))), (48, .d (cI.enc (0 : Int)))] (by kernel_rfl) <|
    xn <| wpC_blk <| lpR (fun (k135 : Nat) (s134 : Unit) => [(3, .d ((cLs cI rfl).enc v3)), (4, .d ((cLs cI rfl).enc v4)), (46, .d ((cLo cI).enc x131)), (47, .d (cI.enc (x131.length : Int))), (48, .d (cI.enc (k135 : Int)))]) () rfl h
    (fun G167 s134 h => wpC_seq <| reg_s <| st rfl <| b_lss (k := .i64) rfl rfl <| seqN [(3, .d ((cLs cI rfl).enc v3)), (4, .d ((cLs cI rfl).enc v4)), (46, .d ((cLo cI).enc x131)), (47, .d (cI.enc (x131.length : Int))), (48, .d (cI.enc (x131.length : Int))), (49, .d (cB.enc (decide ((x131.length : Int) < (x131.length : Int)))))] (by kernel_rfl) <|
    xn <| wpC_seq <| wpC_kp <| cnd0 rfl (dlf _) <| wpC_exit <| xt <| xt <| xt <| xb <| kpN [] (by kernel_rfl) <| xn <| wpC_seq <| reg_s <| x_asg (sc cB true rfl) <| x_asg (sc cB true rfl) <| seqN [(10, .d (cB.enc true)), (11, .d (cB.enc true))] (by kernel_rfl) <|
    xn <| wpC_ret <| re <| fin h (r1 (ss rfl rfl) <| r1 (ss rfl rfl) <| r0) rfl)
    (fun G167 nx165 k135 s134 x136 hk137 hx138 hn166 h => wpC_seq <| reg_s <| st rfl <| b_lss (k := .i64) rfl rfl <| seqN [(3, .d ((cLs cI rfl).enc v3)), (4, .d ((cLs cI rfl).enc v4)), (46, .d ((cLo cI).enc x131)), (47, .d (cI.enc (x131.length : Int))), (48, .d (cI.enc (k135 : Int))), (49, .d (cB.enc (decide ((k135 : Int) < (x131.length : Int)))))] (by kernel_rfl) <|
    xn <| wpC_seq <| wpC_kp <| cnd1 rfl (dlt hk137) <| wpC_skip <| kpN [(3, .d ((cLs cI rfl).enc v3)), (4, .d ((cLs cI rfl).enc v4)), (46, .d ((cLo cI).enc x131)), (47, .d (cI.enc (x131.length : Int))), (48, .d (cI.enc (k135 : Int)))] (by kernel_rfl) <| xn <| wpC_seq <| wpC_kp <| wpC_blk <| wpC_seq <| reg_s <| st rfl <| iao rfl rfl (Int.natCast_nonneg _) hx138 rfl <| st rfl <| lda rfl rfl (Gt.idx hx138 Gt.nil) rfl rfl rfl <| x_asg (ss rfl rfl) <| seqN [(3, .d ((cLs cI rfl).enc v3)), (4, .d ((cLs cI rfl).enc v4)), (13, .d (cI.enc x136)), (46, .d ((cLo cI).enc x131)), (47, .d (cI.enc (x131.length : Int))), (48, .d (cI.enc (k135 : Int)))] (by kernel_rfl) <|
    xn <| wpC_seq <| drw_s <| pst rfl <| mvd rfl rfl ⟨rfl, pst rfl <| mvd rfl rfl ⟨rfl, getO_kp h fun x187 i188 g189 h => pst rfl <| ias rfl rfl i188 g189 rfl ⟨rfl, pst rfl <| ldi rfl rfl rfl rfl ⟨rfl, pst rfl <| mvd rfl rfl ⟨rfl, pst rfl <| mvd rfl rfl ⟨rfl, getO_kp h fun x190 i191 g192 h => pst rfl <| ias rfl rfl i191 g192 rfl ⟨rfl, pst rfl <| ldi rfl rfl rfl rfl ⟨rfl, pst rfl <| b_neq (k := .i64) rfl rfl ⟨rfl, preN <| seqN [(3, .d ((cLs cI rfl).enc v3)), (4, .d ((cLs cI rfl).enc v4)), (46, .d ((cLo cI).enc x131)), (47, .d (cI.enc (x131.length : Int))), (48, .d (cI.enc (k135 : Int))), (60, .d (cB.enc (decide (x187 ≠ x190))))] (by kernel_rfl) <|
    xn <| cnd rfl h (fun b193 h => wpC_seq <| reg_s <| x_asg (sc cB false rfl) <| x_asg (sc cB true rfl) <| seqN [(10, .d (cB.enc false)), (11, .d (cB.enc true))] (by kernel_rfl) <|
    xn <| wpC_ret <| rb <| rt <| rt <| rt <| rb <| rt <| rt <| re <| fin h (r1 (ss rfl rfl) <| r1 (ss rfl rfl) <| r0) rfl)
    (fun b193 h => wpC_skip <| xbb <| kpN [(3, .d ((cLs cI rfl).enc v3)), (4, .d ((cLs cI rfl).enc v4)), (46, .d ((cLo cI).enc x131)), (47, .d (cI.enc (x131.length : Int))), (48, .d (cI.enc (k135 : Int)))] (by kernel_rfl) <| xn <| reg_s <| st rfl <| b_inc rfl rfl l133 hk137 <| st rfl <| mvd rfl rfl <| seqN [(3, .d ((cLs cI rfl).enc v3)), (4, .d ((cLs cI rfl).enc v4)), (46, .d ((cLo cI).enc x131)), (47, .d (cI.enc (x131.length : Int))), (48, .d (cI.enc ((k135 + 1 : Nat) : Int)))] (by kernel_rfl) <|
    xn <| hn166 () h)⟩⟩⟩⟩⟩⟩⟩⟩⟩)))))
    fun s37' q38 h => reg_s <| st rfl <| mvd rfl rfl <| bnd h fun x194 e195 h => st rfl <| o_call (a1 (c := (cLs (cXVariable cS cI) rfl)) (tLs (tXVariable tS tK)) rfl a0) (con_impl_isSmall e195) (.inl (so1 sB so0)) <| st rfl <| o_nt rfl <| st rfl <| mvd rfl rfl <| ite_k h (fun b196 h => gf rfl b196 <| gf rfl b196 <| gf rfl b196 <| gf rfl b196 <| st rfl <| pick1 rfl b196 (cd := cB) (v := true) rfl rfl <| st rfl <| mvd rfl rfl <| gf rfl rfl <| gf rfl rfl <| gf rfl rfl <| gf rfl rfl <| st rfl <| pick1 rfl rfl (cd := cB) (v := true) rfl rfl <| st rfl <| mvd rfl rfl <| gf rfl rfl <| gf rfl rfl <| gf rfl rfl <| gf rfl rfl <| st rfl <| pick1 rfl rfl (cd := cB) (v := true) rfl rfl <| seqN [(0, .d ((cLs (cXVariable cS cI) rfl).enc v0)), (1, .d ((cLs (cXEdit (cLs cI rfl)) rfl).enc v1)), (2, .d ((cLs cI rfl).enc v2)), (3, .d ((cLs cI rfl).enc v3)), (4, .d ((cLs cI rfl).enc v4)), (34, .d (cB.enc true))] (by kernel_rfl) <|
    lfn (S := (fun (s37 : Bool) => [(0, .d ((cLs (cXVariable cS cI) rfl).enc v0)), (1, .d ((cLs (cXEdit (cLs cI rfl)) rfl).enc v1)), (2, .d ((cLs cI rfl).enc v2)), (3, .d ((cLs cI rfl).enc v3)), (4, .d ((cLs cI rfl).enc v4)), (34, .d (cB.enc s37))])) h q38 rfl)
    (fun b196 h => gt' rfl b196 <| st rfl <| mvd rfl rfl <| gt' rfl b196 <| st rfl <| mvd rfl rfl <| gt' rfl b196 <| bnd h fun x197 e198 h => st rfl <| o_call (a1 (c := (cLs (cXVariable cS cI) rfl)) (tLs (tXVariable tS tK)) rfl (a1 (c := (cLs (cXEdit (cLs cI rfl)) rfl)) (tLs (tXEdit (tLs tK))) rfl a0)) (con_impl_areEdits e198) (.inl (so1 sB so0)) <| gt' rfl b196 <| st rfl <| o_nt rfl <| st rfl <| pick0 rfl b196 (cd := cB) (v := (!x197)) rfl rfl <| st rfl <| mvd rfl rfl <| ite_k h (fun b199 h => gf rfl b199 <| gf rfl b199 <| gf rfl b199 <| gf rfl b199 <| st rfl <| pick1 rfl b199 (cd := cB) (v := true) rfl rfl <| st rfl <| mvd rfl rfl <| gf rfl rfl <| gf rfl rfl <| gf rfl rfl <| gf rfl rfl <| st rfl <| pick1 rfl rfl (cd := cB) (v := true) rfl rfl <| seqN [(0, .d ((cLs (cXVariable cS cI) rfl).enc v0)), (1, .d ((cLs (cXEdit (cLs cI rfl)) rfl).enc v1)), (2, .d ((cLs cI rfl).enc v2)), (3, .d ((cLs cI rfl).enc v3)), (4, .d ((cLs cI rfl).enc v4)), (34, .d (cB.enc true))] (by kernel_rfl) <|
    lfn (S := (fun (s37 : Bool) => [(0, .d ((cLs (cXVariable cS cI) rfl).enc v0)), (1, .d ((cLs (cXEdit (cLs cI rfl)) rfl).enc v1)), (2, .d ((cLs cI rfl).enc v2)), (3, .d ((cLs cI rfl).enc v3)), (4, .d ((cLs cI rfl).enc v4)), (34, .d (cB.enc s37))])) h q38 rfl)
    (fun b199 h => gt' rfl b199 <| st rfl <| mvd rfl rfl <| gt' rfl b199 <| st rfl <| mvd rfl rfl <| gt' rfl b199 <| bnd h fun x200 e201 h => st rfl <| o_call (a1 (c := (cLs (cXVariable cS cI) rfl)) (tLs (tXVariable tS tK)) rfl (a1 (c := (cLs cI rfl)) (tLs tK) rfl a0)) (con_impl_areVars e201) (.inl (so1 sB so0)) <| gt' rfl b199 <| st rfl <| o_nt rfl <| st rfl <| pick0 rfl b199 (cd := cB) (v := (!x200)) rfl rfl <| st rfl <| mvd rfl rfl <| ite_k h (fun b202 h => gf rfl b202 <| gf rfl b202 <| gf rfl b202 <| gf rfl b202 <| st rfl <| pick1 rfl b202 (cd := cB) (v := true) rfl rfl <| seqN [(0, .d ((cLs (cXVariable cS cI) rfl).enc v0)), (1, .d ((cLs (cXEdit (cLs cI rfl)) rfl).enc v1)), (2, .d ((cLs cI rfl).enc v2)), (3, .d ((cLs cI rfl).enc v3)), (4, .d ((cLs cI rfl).enc v4)), (34, .d (cB.enc true))] (by kernel_rfl) <|
    lfn (S := (fun (s37 : Bool) => [(0, .d ((cLs (cXVariable cS cI) rfl).enc v0)), (1, .d ((cLs (cXEdit (cLs cI rfl)) rfl).enc v1)), (2, .d ((cLs cI rfl).enc v2)), (3, .d ((cLs cI rfl).enc v3)), (4, .d ((cLs cI rfl).enc v4)), (34, .d (cB.enc s37))])) h q38 rfl)
    (fun b202 h => gt' rfl b202 <| st rfl <| mvd rfl rfl <| gt' rfl b202 <| st rfl <| mvd rfl rfl <| gt' rfl b202 <| bnd h fun x203 e204 h => st rfl <| o_call (a1 (c := (cLs (cXVariable cS cI) rfl)) (tLs (tXVariable tS tK)) rfl (a1 (c := (cLs cI rfl)) (tLs tK) rfl a0)) (con_impl_areValues e204) (.inl (so1 sB so0)) <| gt' rfl b202 <| st rfl <| o_nt rfl <| st rfl <| pick0 rfl b202 (cd := cB) (v := (!x203)) rfl rfl <| seqN [(0, .d ((cLs (cXVariable cS cI) rfl).enc v0)), (1, .d ((cLs (cXEdit (cLs cI rfl)) rfl).enc v1)), (2, .d ((cLs cI rfl).enc v2)), (3, .d ((cLs cI rfl).enc v3)), (4, .d ((cLs cI rfl).enc v4)), (34, .d (cB.enc (!x203)))] (by kernel_rfl) <|
    lfn (S := (fun (s37 : Bool) => [(0, .d ((cLs (cXVariable cS cI) rfl).enc v0)), (1, .d ((cLs (cXEdit (cLs cI rfl)) rfl).enc v1)), (2, .d ((cLs cI rfl).enc v2)), (3, .d ((cLs cI rfl).enc v3)), (4, .d ((cLs cI rfl).enc v4)), (34, .d (cB.enc s37))])) h q38 rfl)))

def rs_laws_FnExactIsMend (r : Bool) : List D := [cB.enc r]
def m8 : MC := .seq (.reg [⟨some 10, .asg (.c (.bool false)), none⟩] [0, 1, 2, 3, 4])
  (.seq (.kp [0, 1, 2, 3, 4] (.seq (.reg [⟨some 21, .mv (.t 2), none⟩,
    ⟨some 22, .len false (.t 21), none⟩,
    ⟨some 23, .bin .gtr (.t 22) (.c (.int .i64 1048576)), none⟩] [0, 1, 2, 3, 4, 23])
  (.cond (.t 23) (.seq (.reg [⟨some 10, .asg (.c (.bool true)), none⟩] [10])
  (.ret)) (.skip))))
  (.seq (.kp [0, 1, 2, 3, 4] (.seq (.reg [⟨some 24, .mv (.t 3), none⟩,
    ⟨some 25, .len false (.t 24), none⟩,
    ⟨some 26, .bin .gtr (.t 25) (.c (.int .i64 1048576)), none⟩] [0, 1, 2, 3, 4, 26])
  (.cond (.t 26) (.seq (.reg [⟨some 10, .asg (.c (.bool true)), none⟩] [10])
  (.ret)) (.skip))))
  (.seq (.kp [0, 1, 2, 3, 4] (.seq (.reg [⟨some 27, .mv (.t 4), none⟩,
    ⟨some 28, .len false (.t 27), none⟩,
    ⟨some 29, .bin .gtr (.t 28) (.c (.int .i64 1048576)), none⟩] [0, 1, 2, 3, 4, 29])
  (.cond (.t 29) (.seq (.reg [⟨some 10, .asg (.c (.bool true)), none⟩] [10])
  (.ret)) (.skip))))
  (.seq (.reg [⟨some 11, .asg (.c (.int .i64 1048576)), none⟩] [0, 1, 2, 3, 4, 11])
  (.seq (.reg [⟨some 30, .mv (.t 0), none⟩,
    ⟨some 31, .mv (.t 11), none⟩,
    ⟨some 32, .call 14 [(.t 30), (.t 31)], none⟩,
    ⟨some 11, .asg (.t 32), none⟩] [0, 1, 2, 3, 4, 11])
  (.seq (.kp [0, 1, 2, 3, 4, 11] (.seq (.reg [⟨some 33, .mv (.t 11), none⟩,
    ⟨some 34, .bin .lss (.t 33) (.c (.int .i64 0)), none⟩] [0, 1, 2, 3, 4, 11, 34])
  (.cond (.t 34) (.seq (.reg [⟨some 10, .asg (.c (.bool true)), none⟩] [10])
  (.ret)) (.skip))))
  (.seq (.reg [⟨some 35, .mv (.t 1), none⟩,
    ⟨some 36, .mv (.t 11), none⟩,
    ⟨some 37, .call 25 [(.t 35), (.t 36)], none⟩,
    ⟨some 11, .asg (.t 37), none⟩] [0, 1, 2, 3, 4, 11])
  (.seq (.kp [0, 1, 2, 3, 4] (.seq (.reg [⟨some 38, .mv (.t 11), none⟩,
    ⟨some 39, .bin .lss (.t 38) (.c (.int .i64 0)), none⟩] [0, 1, 2, 3, 4, 39])
  (.cond (.t 39) (.seq (.reg [⟨some 10, .asg (.c (.bool true)), none⟩] [10])
  (.ret)) (.skip))))
  (.seq (.reg [⟨some 41, .mv (.t 0), none⟩,
    ⟨some 42, .call 17 [(.t 41)], none⟩,
    ⟨some 43, .mv (.t 1), none⟩,
    ⟨some 44, .call 27 [(.t 43)], none⟩,
    ⟨some 45, .mv (.t 2), none⟩,
    ⟨some 46, .call 41 [(.t 45)], none⟩,
    ⟨some 47, .mv (.t 3), none⟩,
    ⟨some 48, .call 41 [(.t 47)], none⟩,
    ⟨some 49, .mv (.t 4), none⟩,
    ⟨some 50, .call 41 [(.t 49)], none⟩,
    ⟨some 51, .call 40 [(.t 42), (.t 44), (.t 46), (.t 48), (.t 50)], none⟩,
    ⟨some 40, .mvt 51, none⟩,
    ⟨some 52, .ext 40 0, none⟩,
    ⟨some 53, .ext 40 1, none⟩,
    ⟨some 12, .asg (.t 52), none⟩,
    ⟨some 13, .asg (.t 53), none⟩] [0, 1, 2, 3, 4, 12, 13])
  (.seq (.reg [⟨some 54, .mv (.t 0), none⟩,
    ⟨some 55, .call 17 [(.t 54)], none⟩,
    ⟨some 14, .asg (.t 55), none⟩] [0, 1, 2, 3, 4, 12, 13, 14])
  (.seq (.reg [⟨some 56, .mv (.t 1), none⟩,
    ⟨some 57, .call 27 [(.t 56)], none⟩,
    ⟨some 15, .asg (.t 57), none⟩] [0, 1, 2, 3, 4, 12, 13, 14, 15])
  (.seq (.reg [⟨some 58, .mv (.t 2), none⟩,
    ⟨some 59, .call 41 [(.t 58)], none⟩,
    ⟨some 16, .asg (.t 59), none⟩] [0, 1, 2, 3, 4, 12, 13, 14, 15, 16])
  (.seq (.reg [⟨some 60, .mv (.t 3), none⟩,
    ⟨some 61, .call 41 [(.t 60)], none⟩,
    ⟨some 17, .asg (.t 61), none⟩] [0, 1, 2, 3, 4, 12, 13, 14, 15, 16, 17])
  (.seq (.reg [⟨some 62, .mv (.t 4), none⟩,
    ⟨some 63, .call 41 [(.t 62)], none⟩,
    ⟨some 18, .asg (.t 63), none⟩] [0, 1, 2, 3, 4, 12, 13, 14, 15, 16, 17, 18])
  (.seq (.reg [⟨some 65, .mv (.t 14), none⟩,
    ⟨some 66, .mv (.t 15), none⟩,
    ⟨some 67, .mv (.t 16), none⟩,
    ⟨some 68, .mv (.t 17), none⟩,
    ⟨some 69, .mv (.t 18), none⟩,
    ⟨some 70, .call 42 [(.t 65), (.t 66), (.t 67), (.t 68), (.t 69)], none⟩,
    ⟨some 64, .mvt 70, none⟩,
    ⟨some 71, .ext 64 0, none⟩,
    ⟨some 72, .ext 64 1, none⟩,
    ⟨some 19, .asg (.t 71), none⟩,
    ⟨some 20, .asg (.t 72), none⟩] [0, 1, 2, 3, 4, 12, 13, 14, 15, 16, 17, 18, 19, 20])
  (.seq (.kp [0, 1, 2, 3, 4, 14, 15, 16, 17, 18] (.seq (.reg [⟨some 73, .mv (.t 19), none⟩,
    ⟨some 74, .mv (.t 12), none⟩,
    ⟨some 75, .eqb true (.t 73) (.t 74), none⟩,
    ⟨some 76, .mv (.t 75), none⟩,
    ⟨some 77, .mv (.t 20), some (76, false)⟩,
    ⟨some 78, .mv (.t 13), some (76, false)⟩,
    ⟨some 79, .eqb true (.t 77) (.t 78), some (76, false)⟩,
    ⟨some 80, .pick (.t 76) (.c (.bool true)) (.t 79), none⟩] [0, 1, 2, 3, 4, 14, 15, 16, 17, 18, 80])
  (.cond (.t 80) (.seq (.reg [⟨some 10, .asg (.c (.bool false)), none⟩] [10])
  (.ret)) (.skip))))
  (.seq (.kp [1, 2, 3, 4, 15, 16, 17, 18] (.seq (.reg [⟨some 81, .mv (.t 14), none⟩,
    ⟨some 82, .mv (.t 0), none⟩,
    ⟨some 83, .call 17 [(.t 82)], none⟩,
    ⟨some 84, .call 21 [(.t 81), (.t 83)], none⟩,
    ⟨some 85, .nt (.t 84), none⟩] [1, 2, 3, 4, 15, 16, 17, 18, 85])
  (.cond (.t 85) (.seq (.reg [⟨some 10, .asg (.c (.bool false)), none⟩] [10])
  (.ret)) (.skip))))
  (.seq (.kp [2, 3, 4, 16, 17, 18] (.seq (.reg [⟨some 86, .mv (.t 15), none⟩,
    ⟨some 87, .mv (.t 1), none⟩,
    ⟨some 88, .call 27 [(.t 87)], none⟩,
    ⟨some 89, .call 29 [(.t 86), (.t 88)], none⟩,
    ⟨some 90, .nt (.t 89), none⟩] [2, 3, 4, 16, 17, 18, 90])
  (.cond (.t 90) (.seq (.reg [⟨some 10, .asg (.c (.bool false)), none⟩] [10])
  (.ret)) (.skip))))
  (.seq (.kp [3, 4, 17, 18] (.seq (.reg [⟨some 91, .mv (.t 16), none⟩,
    ⟨some 92, .mv (.t 2), none⟩,
    ⟨some 93, .call 41 [(.t 92)], none⟩,
    ⟨some 94, .call 36 [(.t 91), (.t 93)], none⟩,
    ⟨some 95, .nt (.t 94), none⟩] [3, 4, 17, 18, 95])
  (.cond (.t 95) (.seq (.reg [⟨some 10, .asg (.c (.bool false)), none⟩] [10])
  (.ret)) (.skip))))
  (.seq (.kp [4, 18] (.seq (.reg [⟨some 96, .mv (.t 17), none⟩,
    ⟨some 97, .mv (.t 3), none⟩,
    ⟨some 98, .call 41 [(.t 97)], none⟩,
    ⟨some 99, .call 36 [(.t 96), (.t 98)], none⟩,
    ⟨some 100, .nt (.t 99), none⟩] [4, 18, 100])
  (.cond (.t 100) (.seq (.reg [⟨some 10, .asg (.c (.bool false)), none⟩] [10])
  (.ret)) (.skip))))
  (.seq (.kp [] (.seq (.reg [⟨some 101, .mv (.t 18), none⟩,
    ⟨some 102, .mv (.t 4), none⟩,
    ⟨some 103, .call 41 [(.t 102)], none⟩,
    ⟨some 104, .call 36 [(.t 101), (.t 103)], none⟩,
    ⟨some 105, .nt (.t 104), none⟩] [105])
  (.cond (.t 105) (.seq (.reg [⟨some 10, .asg (.c (.bool false)), none⟩] [10])
  (.ret)) (.skip))))
  (.seq (.reg [⟨some 10, .asg (.c (.bool true)), none⟩] [10])
  (.ret)))))))))))))))))))))))
theorem con_laws_FnExactIsMend {v0 : (List XVariable)} {v1 : (List XEdit)} {v2 : (List Int)} {v3 : (List Int)} {v4 : (List Int)} {r : Bool} (h : sh_laws_FnExactIsMend v0 v1 v2 v3 v4 = some r) : Con Try.prog 8 [(cLs (cXVariable cS cI) rfl).enc v0, (cLs (cXEdit (cLs cI rfl)) rfl).enc v1, (cLs cI rfl).enc v2, (cLs cI rfl).enc v3, (cLs cI rfl).enc v4] [] (rs_laws_FnExactIsMend r) := by
  delta sh_laws_FnExactIsMend at h
  refine top (out := none) (f := Try.f8) (m := m8) (rs := [.t 10]) (by kernel_rfl) rfl (by kernel_rfl) (by kernel_rfl) (by kernel_rfl) (by kernel_rfl) (by kernel_rfl) ?_
  exact
   ini [(0, .d ((cLs (cXVariable cS cI) rfl).enc v0)), (1, .d ((cLs (cXEdit (cLs cI rfl)) rfl).enc v1)), (2, .d ((cLs cI rfl).enc v2)), (3, .d ((cLs cI rfl).enc v3)), (4, .d ((cLs cI rfl).enc v4))] rfl <| wpC_seq <| reg_s <| x_asg (sc cB false rfl) <| seqN [(0, .d ((cLs (cXVariable cS cI) rfl).enc v0)), (1, .d ((cLs (cXEdit (cLs cI rfl)) rfl).enc v1)), (2, .d ((cLs cI rfl).enc v2)), (3, .d ((cLs cI rfl).enc v3)), (4, .d ((cLs cI rfl).enc v4))] (by kernel_rfl) <|
    xn <| wpC_seq <| wpC_kp <| wpC_seq <| reg_s <| st rfl <| mvd rfl rfl <| stw rfl <| lens rfl fun l5 => st rfl <| b_gtr (k := .i64) rfl rfl <| seqN [(0, .d ((cLs (cXVariable cS cI) rfl).enc v0)), (1, .d ((cLs (cXEdit (cLs cI rfl)) rfl).enc v1)), (2, .d ((cLs cI rfl).enc v2)), (3, .d ((cLs cI rfl).enc v3)), (4, .d ((cLs cI rfl).enc v4)), (23, .d (cB.enc (decide ((1048576 : Int) < (v2.length : Int)))))] (by kernel_rfl) <|
    xn <| cnd rfl h (fun b6 h => wpC_seq <| reg_s <| x_asg (sc cB true rfl) <| seqN [(10, .d (cB.enc true))] (by kernel_rfl) <|
    xn <| wpC_ret <| rt <| rt <| re <| fin h (r1 (ss rfl rfl) <| r0) rfl)
    (fun b6 h => wpC_skip <| kpN [(0, .d ((cLs (cXVariable cS cI) rfl).enc v0)), (1, .d ((cLs (cXEdit (cLs cI rfl)) rfl).enc v1)), (2, .d ((cLs cI rfl).enc v2)), (3, .d ((cLs cI rfl).enc v3)), (4, .d ((cLs cI rfl).enc v4))] (by kernel_rfl) <| xn <| wpC_seq <| wpC_kp <| wpC_seq <| reg_s <| st rfl <| mvd rfl rfl <| stw rfl <| lens rfl fun l11 => st rfl <| b_gtr (k := .i64) rfl rfl <| seqN [(0, .d ((cLs (cXVariable cS cI) rfl).enc v0)), (1, .d ((cLs (cXEdit (cLs cI rfl)) rfl).enc v1)), (2, .d ((cLs cI rfl).enc v2)), (3, .d ((cLs cI rfl).enc v3)), (4, .d ((cLs cI rfl).enc v4)), (26, .d (cB.enc (decide ((1048576 : Int) < (v3.length : Int)))))] (by kernel_rfl) <|
    xn <| cnd rfl h (fun b12 h => wpC_seq <| reg_s <| x_asg (sc cB true rfl) <| seqN [(10, .d (cB.enc true))] (by kernel_rfl) <|
    xn <| wpC_ret <| rt <| rt <| re <| fin h (r1 (ss rfl rfl) <| r0) rfl)
    (fun b12 h => wpC_skip <| kpN [(0, .d ((cLs (cXVariable cS cI) rfl).enc v0)), (1, .d ((cLs (cXEdit (cLs cI rfl)) rfl).enc v1)), (2, .d ((cLs cI rfl).enc v2)), (3, .d ((cLs cI rfl).enc v3)), (4, .d ((cLs cI rfl).enc v4))] (by kernel_rfl) <| xn <| wpC_seq <| wpC_kp <| wpC_seq <| reg_s <| st rfl <| mvd rfl rfl <| stw rfl <| lens rfl fun l17 => st rfl <| b_gtr (k := .i64) rfl rfl <| seqN [(0, .d ((cLs (cXVariable cS cI) rfl).enc v0)), (1, .d ((cLs (cXEdit (cLs cI rfl)) rfl).enc v1)), (2, .d ((cLs cI rfl).enc v2)), (3, .d ((cLs cI rfl).enc v3)), (4, .d ((cLs cI rfl).enc v4)), (29, .d (cB.enc (decide ((1048576 : Int) < (v4.length : Int)))))] (by kernel_rfl) <|
    xn <| cnd rfl h (fun b18 h => wpC_seq <| reg_s <| x_asg (sc cB true rfl) <| seqN [(10, .d (cB.enc true))] (by kernel_rfl) <|
    xn <| wpC_ret <| rt <| rt <| re <| fin h (r1 (ss rfl rfl) <| r0) rfl)
    (fun b18 h => wpC_skip <| kpN [(0, .d ((cLs (cXVariable cS cI) rfl).enc v0)), (1, .d ((cLs (cXEdit (cLs cI rfl)) rfl).enc v1)), (2, .d ((cLs cI rfl).enc v2)), (3, .d ((cLs cI rfl).enc v3)), (4, .d ((cLs cI rfl).enc v4))] (by kernel_rfl) <| xn <| wpC_seq <| reg_s <| x_asg (sc cI (1048576 : Int) rfl) <| seqN [(0, .d ((cLs (cXVariable cS cI) rfl).enc v0)), (1, .d ((cLs (cXEdit (cLs cI rfl)) rfl).enc v1)), (2, .d ((cLs cI rfl).enc v2)), (3, .d ((cLs cI rfl).enc v3)), (4, .d ((cLs cI rfl).enc v4)), (11, .d (cI.enc (1048576 : Int)))] (by kernel_rfl) <|
    xn <| wpC_seq <| reg_s <| st rfl <| mvd rfl rfl <| st rfl <| mvd rfl rfl <| bnd h fun x21 e22 h => st rfl <| o_call (a1 (c := (cLs (cXVariable cS cI) rfl)) (tLs (tXVariable tS tK)) rfl (a1 (c := cI) tK rfl a0)) (con_laws_szVariableS e22) (.inl (so1 sK so0)) <| x_asg (ss rfl rfl) <| seqN [(0, .d ((cLs (cXVariable cS cI) rfl).enc v0)), (1, .d ((cLs (cXEdit (cLs cI rfl)) rfl).enc v1)), (2, .d ((cLs cI rfl).enc v2)), (3, .d ((cLs cI rfl).enc v3)), (4, .d ((cLs cI rfl).enc v4)), (11, .d (cI.enc x21))] (by kernel_rfl) <|
    xn <| wpC_seq <| wpC_kp <| wpC_seq <| reg_s <| st rfl <| mvd rfl rfl <| st rfl <| b_lss (k := .i64) rfl rfl <| seqN [(0, .d ((cLs (cXVariable cS cI) rfl).enc v0)), (1, .d ((cLs (cXEdit (cLs cI rfl)) rfl).enc v1)), (2, .d ((cLs cI rfl).enc v2)), (3, .d ((cLs cI rfl).enc v3)), (4, .d ((cLs cI rfl).enc v4)), (11, .d (cI.enc x21)), (34, .d (cB.enc (decide (x21 < (0 : Int)))))] (by kernel_rfl) <|
    xn <| cnd rfl h (fun b24 h => wpC_seq <| reg_s <| x_asg (sc cB true rfl) <| seqN [(10, .d (cB.enc true))] (by kernel_rfl) <|
    xn <| wpC_ret <| rt <| rt <| re <| fin h (r1 (ss rfl rfl) <| r0) rfl)
    (fun b24 h => wpC_skip <| kpN [(0, .d ((cLs (cXVariable cS cI) rfl).enc v0)), (1, .d ((cLs (cXEdit (cLs cI rfl)) rfl).enc v1)), (2, .d ((cLs cI rfl).enc v2)), (3, .d ((cLs cI rfl).enc v3)), (4, .d ((cLs cI rfl).enc v4)), (11, .d (cI.enc x21))] (by kernel_rfl) <| xn <| wpC_seq <| reg_s <| st rfl <| mvd rfl rfl <| st rfl <| mvd rfl rfl <| bnd h fun x27 e28 h => st rfl <| o_call (a1 (c := (cLs (cXEdit (cLs cI rfl)) rfl)) (tLs (tXEdit (tLs tK))) rfl (a1 (c := cI) tK rfl a0)) (con_laws_szEditS e28) (.inl (so1 sK so0)) <| x_asg (ss rfl rfl) <| seqN [(0, .d ((cLs (cXVariable cS cI) rfl).enc v0)), (1, .d ((cLs (cXEdit (cLs cI rfl)) rfl).enc v1)), (2, .d ((cLs cI rfl).enc v2)), (3, .d ((cLs cI rfl).enc v3)), (4, .d ((cLs cI rfl).enc v4)), (11, .d (cI.enc x27))] (by kernel_rfl) <|
    xn <| wpC_seq <| wpC_kp <| wpC_seq <| reg_s <| st rfl <| mvd rfl rfl <| st rfl <| b_lss (k := .i64) rfl rfl <| seqN [(0, .d ((cLs (cXVariable cS cI) rfl).enc v0)), (1, .d ((cLs (cXEdit (cLs cI rfl)) rfl).enc v1)), (2, .d ((cLs cI rfl).enc v2)), (3, .d ((cLs cI rfl).enc v3)), (4, .d ((cLs cI rfl).enc v4)), (39, .d (cB.enc (decide (x27 < (0 : Int)))))] (by kernel_rfl) <|
    xn <| cnd rfl h (fun b30 h => wpC_seq <| reg_s <| x_asg (sc cB true rfl) <| seqN [(10, .d (cB.enc true))] (by kernel_rfl) <|
    xn <| wpC_ret <| rt <| rt <| re <| fin h (r1 (ss rfl rfl) <| r0) rfl)
    (fun b30 h => wpC_skip <| kpN [(0, .d ((cLs (cXVariable cS cI) rfl).enc v0)), (1, .d ((cLs (cXEdit (cLs cI rfl)) rfl).enc v1)), (2, .d ((cLs cI rfl).enc v2)), (3, .d ((cLs cI rfl).enc v3)), (4, .d ((cLs cI rfl).enc v4))] (by kernel_rfl) <| xn <| wpC_seq <| reg_s <| st rfl <| mvd rfl rfl <| bnd h fun x43 e44 h => st rfl <| o_call (a1 (c := (cLs (cXVariable cS cI) rfl)) (tLs (tXVariable tS tK)) rfl a0) (con_laws_toVariableS e44) (.inl (so1 (sLo (sXVariable sS sK)) so0)) <| st rfl <| mvd rfl rfl <| bnd h fun x45 e46 h => st rfl <| o_call (a1 (c := (cLs (cXEdit (cLs cI rfl)) rfl)) (tLs (tXEdit (tLs tK))) rfl a0) (con_laws_toEditS e46) (.inl (so1 (sLo (sXEdit (sLo sK))) so0)) <| st rfl <| mvd rfl rfl <| bnd h fun x47 e48 h => st rfl <| o_call (a1 (c := (cLs cI rfl)) (tLs tK) rfl a0) (con_laws_toIntS e48) (.inl (so1 (sLo sK) so0)) <| st rfl <| mvd rfl rfl <| bnd h fun x49 e50 h => st rfl <| o_call (a1 (c := (cLs cI rfl)) (tLs tK) rfl a0) (con_laws_toIntS e50) (.inl (so1 (sLo sK) so0)) <| st rfl <| mvd rfl rfl <| bnd h fun x51 e52 h => st rfl <| o_call (a1 (c := (cLs cI rfl)) (tLs tK) rfl a0) (con_laws_toIntS e52) (.inl (so1 (sLo sK) so0)) <| bnd h fun x53 e54 h => st rfl <| o_call (a1 (c := (cLo (cXVariable cS cI))) (tLo (tXVariable tS tK)) rfl (a1 (c := (cLo (cXEdit (cLo cI)))) (tLo (tXEdit (tLo tK))) rfl (a1 (c := (cLo cI)) (tLo tK) rfl (a1 (c := (cLo cI)) (tLo tK) rfl (a1 (c := (cLo cI)) (tLo tK) rfl a0))))) (con_spec_IsMend e54) (.inl (so1 sB (so1 sB so0))) <| x_mvt rfl <| x_ext rfl rfl <| x_ext rfl rfl <| x_asg (ss rfl rfl) <| x_asg (ss rfl rfl) <| seqN [(0, .d ((cLs (cXVariable cS cI) rfl).enc v0)), (1, .d ((cLs (cXEdit (cLs cI rfl)) rfl).enc v1)), (2, .d ((cLs cI rfl).enc v2)), (3, .d ((cLs cI rfl).enc v3)), (4, .d ((cLs cI rfl).enc v4)), (12, .d (cB.enc x53.1)), (13, .d (cB.enc x53.2))] (by kernel_rfl) <|
    xn <| wpC_seq <| reg_s <| st rfl <| mvd rfl rfl <| bnd h fun x57 e58 h => st rfl <| o_call (a1 (c := (cLs (cXVariable cS cI) rfl)) (tLs (tXVariable tS tK)) rfl a0) (con_laws_toVariableS e58) (.inl (so1 (sLo (sXVariable sS sK)) so0)) <| x_asg (so rfl rfl) <| seqN [(0, .d ((cLs (cXVariable cS cI) rfl).enc v0)), (1, .d ((cLs (cXEdit (cLs cI rfl)) rfl).enc v1)), (2, .d ((cLs cI rfl).enc v2)), (3, .d ((cLs cI rfl).enc v3)), (4, .d ((cLs cI rfl).enc v4)), (12, .d (cB.enc x53.1)), (13, .d (cB.enc x53.2)), (14, .d ((cLo (cXVariable cS cI)).enc x57))] (by kernel_rfl) <|
    xn <| wpC_seq <| reg_s <| st rfl <| mvd rfl rfl <| bnd h fun x61 e62 h => st rfl <| o_call (a1 (c := (cLs (cXEdit (cLs cI rfl)) rfl)) (tLs (tXEdit (tLs tK))) rfl a0) (con_laws_toEditS e62) (.inl (so1 (sLo (sXEdit (sLo sK))) so0)) <| x_asg (so rfl rfl) <| seqN [(0, .d ((cLs (cXVariable cS cI) rfl).enc v0)), (1, .d ((cLs (cXEdit (cLs cI rfl)) rfl).enc v1)), (2, .d ((cLs cI rfl).enc v2)), (3, .d ((cLs cI rfl).enc v3)), (4, .d ((cLs cI rfl).enc v4)), (12, .d (cB.enc x53.1)), (13, .d (cB.enc x53.2)), (14, .d ((cLo (cXVariable cS cI)).enc x57)), (15, .d ((cLo (cXEdit (cLo cI))).enc x61))] (by kernel_rfl) <|
    xn <| wpC_seq <| reg_s <| st rfl <| mvd rfl rfl <| bnd h fun x65 e66 h => st rfl <| o_call (a1 (c := (cLs cI rfl)) (tLs tK) rfl a0) (con_laws_toIntS e66) (.inl (so1 (sLo sK) so0)) <| x_asg (so rfl rfl) <| seqN [(0, .d ((cLs (cXVariable cS cI) rfl).enc v0)), (1, .d ((cLs (cXEdit (cLs cI rfl)) rfl).enc v1)), (2, .d ((cLs cI rfl).enc v2)), (3, .d ((cLs cI rfl).enc v3)), (4, .d ((cLs cI rfl).enc v4)), (12, .d (cB.enc x53.1)), (13, .d (cB.enc x53.2)), (14, .d ((cLo (cXVariable cS cI)).enc x57)), (15, .d ((cLo (cXEdit (cLo cI))).enc x61)), (16, .d ((cLo cI).enc x65))] (by kernel_rfl) <|
    xn <| wpC_seq <| reg_s <| st rfl <| mvd rfl rfl <| bnd h fun x69 e70 h => st rfl <| o_call (a1 (c := (cLs cI rfl)) (tLs tK) rfl a0) (con_laws_toIntS e70) (.inl (so1 (sLo sK) so0)) <| x_asg (so rfl rfl) <| seqN [(0, .d ((cLs (cXVariable cS cI) rfl).enc v0)), (1, .d ((cLs (cXEdit (cLs cI rfl)) rfl).enc v1)), (2, .d ((cLs cI rfl).enc v2)), (3, .d ((cLs cI rfl).enc v3)), (4, .d ((cLs cI rfl).enc v4)), (12, .d (cB.enc x53.1)), (13, .d (cB.enc x53.2)), (14, .d ((cLo (cXVariable cS cI)).enc x57)), (15, .d ((cLo (cXEdit (cLo cI))).enc x61)), (16, .d ((cLo cI).enc x65)), (17, .d ((cLo cI).enc x69))] (by kernel_rfl) <|
    xn <| wpC_seq <| reg_s <| st rfl <| mvd rfl rfl <| bnd h fun x73 e74 h => st rfl <| o_call (a1 (c := (cLs cI rfl)) (tLs tK) rfl a0) (con_laws_toIntS e74) (.inl (so1 (sLo sK) so0)) <| x_asg (so rfl rfl) <| seqN [(0, .d ((cLs (cXVariable cS cI) rfl).enc v0)), (1, .d ((cLs (cXEdit (cLs cI rfl)) rfl).enc v1)), (2, .d ((cLs cI rfl).enc v2)), (3, .d ((cLs cI rfl).enc v3)), (4, .d ((cLs cI rfl).enc v4)), (12, .d (cB.enc x53.1)), (13, .d (cB.enc x53.2)), (14, .d ((cLo (cXVariable cS cI)).enc x57)), (15, .d ((cLo (cXEdit (cLo cI))).enc x61)), (16, .d ((cLo cI).enc x65)), (17, .d ((cLo cI).enc x69)), (18, .d ((cLo cI).enc x73))] (by kernel_rfl) <|
    xn <| wpC_seq <| reg_s <| st rfl <| mvo rfl rfl <| st rfl <| mvo rfl rfl <| st rfl <| mvo rfl rfl <| st rfl <| mvo rfl rfl <| st rfl <| mvo rfl rfl <| bnd h fun x77 e78 h => st rfl <| o_call (a1 (c := (cLo (cXVariable cS cI))) (tLo (tXVariable tS tK)) rfl (a1 (c := (cLo (cXEdit (cLo cI)))) (tLo (tXEdit (tLo tK))) rfl (a1 (c := (cLo cI)) (tLo tK) rfl (a1 (c := (cLo cI)) (tLo tK) rfl (a1 (c := (cLo cI)) (tLo tK) rfl a0))))) (con_impl_IsMend e78) (.inl (so1 sB (so1 sB so0))) <| x_mvt rfl <| x_ext rfl rfl <| x_ext rfl rfl <| x_asg (ss rfl rfl) <| x_asg (ss rfl rfl) <| seqN [(0, .d ((cLs (cXVariable cS cI) rfl).enc v0)), (1, .d ((cLs (cXEdit (cLs cI rfl)) rfl).enc v1)), (2, .d ((cLs cI rfl).enc v2)), (3, .d ((cLs cI rfl).enc v3)), (4, .d ((cLs cI rfl).enc v4)), (12, .d (cB.enc x53.1)), (13, .d (cB.enc x53.2)), (14, .d ((cLo (cXVariable cS cI)).enc x57)), (15, .d ((cLo (cXEdit (cLo cI))).enc x61)), (16, .d ((cLo cI).enc x65)), (17, .d ((cLo cI).enc x69)), (18, .d ((cLo cI).enc x73)), (19, .d (cB.enc x77.1)), (20, .d (cB.enc x77.2))] (by kernel_rfl) <|
    xn <| wpC_seq <| wpC_kp <| wpC_seq <| reg_s <| st rfl <| mvd rfl rfl <| st rfl <| mvd rfl rfl <| st rfl <| eqb1 rfl rfl <| st rfl <| mvd rfl rfl <| ite_k h (fun b83 h => gf rfl b83 <| gf rfl b83 <| gf rfl b83 <| st rfl <| pick1 rfl b83 (cd := cB) (v := true) rfl rfl <| seqN [(0, .d ((cLs (cXVariable cS cI) rfl).enc v0)), (1, .d ((cLs (cXEdit (cLs cI rfl)) rfl).enc v1)), (2, .d ((cLs cI rfl).enc v2)), (3, .d ((cLs cI rfl).enc v3)), (4, .d ((cLs cI rfl).enc v4)), (14, .d ((cLo (cXVariable cS cI)).enc x57)), (15, .d ((cLo (cXEdit (cLo cI))).enc x61)), (16, .d ((cLo cI).enc x65)), (17, .d ((cLo cI).enc x69)), (18, .d ((cLo cI).enc x73)), (80, .d (cB.enc true))] (by kernel_rfl) <|
    xn <| cnd1 rfl rfl <| wpC_seq <| reg_s <| x_asg (sc cB false rfl) <| seqN [(10, .d (cB.enc false))] (by kernel_rfl) <|
    xn <| wpC_ret <| rt <| rt <| re <| fin h (r1 (ss rfl rfl) <| r0) rfl)
    (fun b83 h => gt' rfl b83 <| st rfl <| mvd rfl rfl <| gt' rfl b83 <| st rfl <| mvd rfl rfl <| gt' rfl b83 <| st rfl <| eqb1 rfl rfl <| st rfl <| pick0 rfl b83 (cd := cB) (v := (x77.2 != x53.2)) rfl rfl <| seqN [(0, .d ((cLs (cXVariable cS cI) rfl).enc v0)), (1, .d ((cLs (cXEdit (cLs cI rfl)) rfl).enc v1)), (2, .d ((cLs cI rfl).enc v2)), (3, .d ((cLs cI rfl).enc v3)), (4, .d ((cLs cI rfl).enc v4)), (14, .d ((cLo (cXVariable cS cI)).enc x57)), (15, .d ((cLo (cXEdit (cLo cI))).enc x61)), (16, .d ((cLo cI).enc x65)), (17, .d ((cLo cI).enc x69)), (18, .d ((cLo cI).enc x73)), (80, .d (cB.enc (x77.2 != x53.2)))] (by kernel_rfl) <|
    xn <| cnd rfl h (fun b84 h => wpC_seq <| reg_s <| x_asg (sc cB false rfl) <| seqN [(10, .d (cB.enc false))] (by kernel_rfl) <|
    xn <| wpC_ret <| rt <| rt <| re <| fin h (r1 (ss rfl rfl) <| r0) rfl)
    (fun b84 h => wpC_skip <| kpN [(0, .d ((cLs (cXVariable cS cI) rfl).enc v0)), (1, .d ((cLs (cXEdit (cLs cI rfl)) rfl).enc v1)), (2, .d ((cLs cI rfl).enc v2)), (3, .d ((cLs cI rfl).enc v3)), (4, .d ((cLs cI rfl).enc v4)), (14, .d ((cLo (cXVariable cS cI)).enc x57)), (15, .d ((cLo (cXEdit (cLo cI))).enc x61)), (16, .d ((cLo cI).enc x65)), (17, .d ((cLo cI).enc x69)), (18, .d ((cLo cI).enc x73))] (by kernel_rfl) <| xn <| wpC_seq <| wpC_kp <| wpC_seq <| reg_s <| st rfl <| mvo rfl rfl <| st rfl <| mvd rfl rfl <| bnd h fun x98 e99 h => st rfl <| o_call (a1 (c := (cLs (cXVariable cS cI) rfl)) (tLs (tXVariable tS tK)) rfl a0) (con_laws_toVariableS e99) (.inl (so1 (sLo (sXVariable sS sK)) so0)) <| bnd h fun x100 e101 h => st rfl <| o_call (a1 (c := (cLo (cXVariable cS cI))) (tLo (tXVariable tS tK)) rfl (a1 (c := (cLo (cXVariable cS cI))) (tLo (tXVariable tS tK)) rfl a0)) (con_laws_eqVariableS e101) (.inl (so1 sB so0)) <| st rfl <| o_nt rfl <| seqN [(1, .d ((cLs (cXEdit (cLs cI rfl)) rfl).enc v1)), (2, .d ((cLs cI rfl).enc v2)), (3, .d ((cLs cI rfl).enc v3)), (4, .d ((cLs cI rfl).enc v4)), (15, .d ((cLo (cXEdit (cLo cI))).enc x61)), (16, .d ((cLo cI).enc x65)), (17, .d ((cLo cI).enc x69)), (18, .d ((cLo cI).enc x73)), (85, .d (cB.enc (!x100)))] (by kernel_rfl) <|
    xn <| cnd rfl h (fun b102 h => wpC_seq <| reg_s <| x_asg (sc cB false rfl) <| seqN [(10, .d (cB.enc false))] (by kernel_rfl) <|
    xn <| wpC_ret <| rt <| rt <| re <| fin h (r1 (ss rfl rfl) <| r0) rfl)
    (fun b102 h => wpC_skip <| kpN [(1, .d ((cLs (cXEdit (cLs cI rfl)) rfl).enc v1)), (2, .d ((cLs cI rfl).enc v2)), (3, .d ((cLs cI rfl).enc v3)), (4, .d ((cLs cI rfl).enc v4)), (15, .d ((cLo (cXEdit (cLo cI))).enc x61)), (16, .d ((cLo cI).enc x65)), (17, .d ((cLo cI).enc x69)), (18, .d ((cLo cI).enc x73))] (by kernel_rfl) <| xn <| wpC_seq <| wpC_kp <| wpC_seq <| reg_s <| st rfl <| mvo rfl rfl <| st rfl <| mvd rfl rfl <| bnd h fun x116 e117 h => st rfl <| o_call (a1 (c := (cLs (cXEdit (cLs cI rfl)) rfl)) (tLs (tXEdit (tLs tK))) rfl a0) (con_laws_toEditS e117) (.inl (so1 (sLo (sXEdit (sLo sK))) so0)) <| bnd h fun x118 e119 h => st rfl <| o_call (a1 (c := (cLo (cXEdit (cLo cI)))) (tLo (tXEdit (tLo tK))) rfl (a1 (c := (cLo (cXEdit (cLo cI)))) (tLo (tXEdit (tLo tK))) rfl a0)) (con_laws_eqEditS e119) (.inl (so1 sB so0)) <| st rfl <| o_nt rfl <| seqN [(2, .d ((cLs cI rfl).enc v2)), (3, .d ((cLs cI rfl).enc v3)), (4, .d ((cLs cI rfl).enc v4)), (16, .d ((cLo cI).enc x65)), (17, .d ((cLo cI).enc x69)), (18, .d ((cLo cI).enc x73)), (90, .d (cB.enc (!x118)))] (by kernel_rfl) <|
    xn <| cnd rfl h (fun b120 h => wpC_seq <| reg_s <| x_asg (sc cB false rfl) <| seqN [(10, .d (cB.enc false))] (by kernel_rfl) <|
    xn <| wpC_ret <| rt <| rt <| re <| fin h (r1 (ss rfl rfl) <| r0) rfl)
    (fun b120 h => wpC_skip <| kpN [(2, .d ((cLs cI rfl).enc v2)), (3, .d ((cLs cI rfl).enc v3)), (4, .d ((cLs cI rfl).enc v4)), (16, .d ((cLo cI).enc x65)), (17, .d ((cLo cI).enc x69)), (18, .d ((cLo cI).enc x73))] (by kernel_rfl) <| xn <| wpC_seq <| wpC_kp <| wpC_seq <| reg_s <| st rfl <| mvo rfl rfl <| st rfl <| mvd rfl rfl <| bnd h fun x134 e135 h => st rfl <| o_call (a1 (c := (cLs cI rfl)) (tLs tK) rfl a0) (con_laws_toIntS e135) (.inl (so1 (sLo sK) so0)) <| bnd h fun x136 e137 h => st rfl <| o_call (a1 (c := (cLo cI)) (tLo tK) rfl (a1 (c := (cLo cI)) (tLo tK) rfl a0)) (con_laws_eqIntS e137) (.inl (so1 sB so0)) <| st rfl <| o_nt rfl <| seqN [(3, .d ((cLs cI rfl).enc v3)), (4, .d ((cLs cI rfl).enc v4)), (17, .d ((cLo cI).enc x69)), (18, .d ((cLo cI).enc x73)), (95, .d (cB.enc (!x136)))] (by kernel_rfl) <|
    xn <| cnd rfl h (fun b138 h => wpC_seq <| reg_s <| x_asg (sc cB false rfl) <| seqN [(10, .d (cB.enc false))] (by kernel_rfl) <|
    xn <| wpC_ret <| rt <| rt <| re <| fin h (r1 (ss rfl rfl) <| r0) rfl)
    (fun b138 h => wpC_skip <| kpN [(3, .d ((cLs cI rfl).enc v3)), (4, .d ((cLs cI rfl).enc v4)), (17, .d ((cLo cI).enc x69)), (18, .d ((cLo cI).enc x73))] (by kernel_rfl) <| xn <| wpC_seq <| wpC_kp <| wpC_seq <| reg_s <| st rfl <| mvo rfl rfl <| st rfl <| mvd rfl rfl <| bnd h fun x152 e153 h => st rfl <| o_call (a1 (c := (cLs cI rfl)) (tLs tK) rfl a0) (con_laws_toIntS e153) (.inl (so1 (sLo sK) so0)) <| bnd h fun x154 e155 h => st rfl <| o_call (a1 (c := (cLo cI)) (tLo tK) rfl (a1 (c := (cLo cI)) (tLo tK) rfl a0)) (con_laws_eqIntS e155) (.inl (so1 sB so0)) <| st rfl <| o_nt rfl <| seqN [(4, .d ((cLs cI rfl).enc v4)), (18, .d ((cLo cI).enc x73)), (100, .d (cB.enc (!x154)))] (by kernel_rfl) <|
    xn <| cnd rfl h (fun b156 h => wpC_seq <| reg_s <| x_asg (sc cB false rfl) <| seqN [(10, .d (cB.enc false))] (by kernel_rfl) <|
    xn <| wpC_ret <| rt <| rt <| re <| fin h (r1 (ss rfl rfl) <| r0) rfl)
    (fun b156 h => wpC_skip <| kpN [(4, .d ((cLs cI rfl).enc v4)), (18, .d ((cLo cI).enc x73))] (by kernel_rfl) <| xn <| wpC_seq <| wpC_kp <| wpC_seq <| reg_s <| st rfl <| mvo rfl rfl <| st rfl <| mvd rfl rfl <| bnd h fun x170 e171 h => st rfl <| o_call (a1 (c := (cLs cI rfl)) (tLs tK) rfl a0) (con_laws_toIntS e171) (.inl (so1 (sLo sK) so0)) <| bnd h fun x172 e173 h => st rfl <| o_call (a1 (c := (cLo cI)) (tLo tK) rfl (a1 (c := (cLo cI)) (tLo tK) rfl a0)) (con_laws_eqIntS e173) (.inl (so1 sB so0)) <| st rfl <| o_nt rfl <| seqN [(105, .d (cB.enc (!x172)))] (by kernel_rfl) <|
    xn <| cnd rfl h (fun b174 h => wpC_seq <| reg_s <| x_asg (sc cB false rfl) <| seqN [(10, .d (cB.enc false))] (by kernel_rfl) <|
    xn <| wpC_ret <| rt <| rt <| re <| fin h (r1 (ss rfl rfl) <| r0) rfl)
    (fun b174 h => wpC_skip <| kpN [] (by kernel_rfl) <| xn <| wpC_seq <| reg_s <| x_asg (sc cB true rfl) <| seqN [(10, .d (cB.enc true))] (by kernel_rfl) <|
    xn <| wpC_ret <| re <| fin h (r1 (ss rfl rfl) <| r0) rfl))))))))))))
end AS.W
