/- The program computes the plain functions. No condition. -/
import Derived.Test.YtdfohcbjmdniiaaQIsContradictoryS
import Derived.Test.YtdfohcbjmdniiaaProg
import Derived.Test.YtdfohcbjmdniiaaQIsContradictoryL0
set_option maxRecDepth 100000
set_option linter.unusedVariables false
set_option linter.unusedSimpArgs false
namespace AS.W
open Go Go.Proofs
def rs_spec_sAt (r : (List Int)) : List D := [(cLo cI).enc r]
def m110 : MC := .seq (.reg [⟨some 4, .asg (.c (.slice true [])), none⟩] [0, 1])
  (.seq (.reg [⟨some 7, .mv (.t 0), none⟩,
    ⟨some 8, .len false (.t 7), none⟩,
    ⟨some 9, .mk (.int .i64 0) (.t 8), none⟩,
    ⟨some 5, .asg (.t 9), none⟩] [0, 1, 5])
  (.seq (.kp [5] (.seq (.reg [⟨some 10, .mv (.t 0), none⟩,
    ⟨some 11, .len false (.t 10), none⟩,
    ⟨some 12, .bin .sub (.t 11) (.c (.int .i64 1)), none⟩,
    ⟨some 6, .asg (.t 12), none⟩] [0, 1, 5, 6])
  (.blk 0 (.loop (.seq (.kp [0, 1, 5, 6] (.seq (.reg [⟨some 13, .mv (.t 6), none⟩,
    ⟨some 14, .bin .geq (.t 13) (.c (.int .i64 0)), none⟩] [0, 1, 5, 6, 14])
  (.cond (.t 14) (.skip) (.exit 0))))
  (.seq (.kp [0, 1, 5, 6] (.blk 1 (.seq (.reg [⟨some 17, .mv (.t 5), none⟩,
    ⟨some 18, .mv (.t 6), none⟩,
    ⟨some 19, .mv (.t 1), none⟩,
    ⟨some 20, .mv (.t 0), none⟩,
    ⟨some 21, .mv (.t 6), none⟩,
    ⟨some 22, .ia 20 (.t 21) 2, none⟩,
    ⟨some 23, .fa 22 1 1, none⟩,
    ⟨some 24, .ld 23 1 false, none⟩,
    ⟨some 25, .bin .rem (.t 19) (.t 24), none⟩,
    ⟨some 26, .ia 17 (.t 18) 1, none⟩,
    ⟨none, .st 26 (.t 25) 1, none⟩] [0, 1, 5, 6])
  (.reg [⟨some 27, .mv (.t 1), none⟩,
    ⟨some 28, .mv (.t 0), none⟩,
    ⟨some 29, .mv (.t 6), none⟩,
    ⟨some 30, .ia 28 (.t 29) 2, none⟩,
    ⟨some 31, .fa 30 1 1, none⟩,
    ⟨some 32, .ld 31 1 false, none⟩,
    ⟨some 33, .bin .quo (.t 27) (.t 32), none⟩,
    ⟨some 1, .asg (.t 33), none⟩] [0, 1, 5, 6]))))
  (.reg [⟨some 15, .mv (.t 6), none⟩,
    ⟨some 16, .bin .sub (.t 15) (.c (.int .i64 1)), none⟩,
    ⟨some 6, .asg (.t 16), none⟩] [0, 1, 5, 6])))))))
  (.seq (.reg [⟨some 34, .mv (.t 5), none⟩,
    ⟨some 4, .asg (.t 34), none⟩] [4])
  (.ret))))
theorem con_spec_sAt {v0 : (List XVariable)} {v1 : Int} {r : (List Int)} (h : sh_spec_sAt v0 v1 = some r) : Con Try.prog 110 [(cLs (cXVariable cS cI) rfl).enc v0, cI.enc v1] [] (rs_spec_sAt r) := by
  delta sh_spec_sAt at h
  refine top (out := none) (f := Try.f110) (m := m110) (rs := [.t 4]) (by kernel_rfl) rfl (by kernel_rfl) (by kernel_rfl) (by kernel_rfl) (by kernel_rfl) (by kernel_rfl) ?_
  exact
   ini [(0, .d ((cLs (cXVariable cS cI) rfl).enc v0)), (1, .d (cI.enc v1))] rfl <| wpC_seq <| reg_s <| x_asg (sc (cLo cI) ([] : List Int) rfl) <| seqN [(0, .d ((cLs (cXVariable cS cI) rfl).enc v0)), (1, .d (cI.enc v1))] (by kernel_rfl) <|
    xn <| wpC_seq <| reg_s <| st rfl <| mvd rfl rfl <| stw rfl <| lens rfl fun l4 => mkO_k h fun i5 l6 h => st rfl <| o_mk (c := cI) (a0 := (0 : Int)) rfl (k := .i64) rfl i5 l6 <| x_asg (so rfl rfl) <| seqN [(0, .d ((cLs (cXVariable cS cI) rfl).enc v0)), (1, .d (cI.enc v1)), (5, .d ((cLo cI).enc (List.replicate ((v0.length : Int)).toNat (0 : Int))))] (by kernel_rfl) <|
    xn <| wpC_seq <| wpC_kp <| wpC_seq <| reg_s <| st rfl <| mvd rfl rfl <| stw rfl <| lens rfl fun l126 => ckI_k h fun i127 h => st rfl <| b_sub (k := .i64) rfl rfl i127 <| x_asg (ss rfl rfl) <| seqN [(0, .d ((cLs (cXVariable cS cI) rfl).enc v0)), (1, .d (cI.enc v1)), (5, .d ((cLo cI).enc (List.replicate ((v0.length : Int)).toNat (0 : Int)))), (6, .d (cI.enc ((v0.length : Int) - (1 : Int))))] (by kernel_rfl) <|
    xn <| wpC_blk <| lpF (fun (s128 : (Int × (List Int) × Int)) => [(0, .d ((cLs (cXVariable cS cI) rfl).enc v0)), (1, .d (cI.enc s128.1)), (5, .d ((cLo cI).enc s128.2.1)), (6, .d (cI.enc s128.2.2))]) (v1, (List.replicate ((v0.length : Int)).toNat (0 : Int)), ((v0.length : Int) - (1 : Int))) rfl h
    fun G205 nx203 s128 hn204 h => wpC_seq <| wpC_kp <| wpC_seq <| reg_s <| st rfl <| mvd rfl rfl <| st rfl <| b_geq (k := .i64) rfl rfl <| seqN [(0, .d ((cLs (cXVariable cS cI) rfl).enc v0)), (1, .d (cI.enc s128.1)), (5, .d ((cLo cI).enc s128.2.1)), (6, .d (cI.enc s128.2.2)), (14, .d (cB.enc (decide ((0 : Int) ≤ s128.2.2))))] (by kernel_rfl) <|
    xn <| cnd rfl h (fun b207 h => wpC_skip <| kpN [(0, .d ((cLs (cXVariable cS cI) rfl).enc v0)), (1, .d (cI.enc s128.1)), (5, .d ((cLo cI).enc s128.2.1)), (6, .d (cI.enc s128.2.2))] (by kernel_rfl) <| xn <| wpC_seq <| wpC_kp <| wpC_blk <| wpC_seq <| reg_s <| st rfl <| mvo rfl rfl <| st rfl <| mvd rfl rfl <| st rfl <| mvd rfl rfl <| st rfl <| mvd rfl rfl <| st rfl <| mvd rfl rfl <| getO_k h fun x231 i232 g233 h => st rfl <| ias rfl rfl i232 g233 rfl <| st rfl <| fai rfl rfl rfl rfl <| st rfl <| ldi rfl rfl rfl rfl <| ck_k h fun i234 h => st rfl <| b_rem (k := .i64) rfl rfl i234 <| getO_k h fun x235 i236 g237 h => st rfl <| iar rfl rfl rfl rfl i236 g237 rfl <| x_sta ((cLo cI).enc (s128.2.1.set (s128.2.2).toNat (s128.1.tmod x231.Levels))) (ss rfl rfl) rfl rfl (Ln.idx g237 Ln.nil) (Cd.h_sz cI _) rfl <| seqN [(0, .d ((cLs (cXVariable cS cI) rfl).enc v0)), (1, .d (cI.enc s128.1)), (5, .d ((cLo cI).enc (s128.2.1.set (s128.2.2).toNat (s128.1.tmod x231.Levels)))), (6, .d (cI.enc s128.2.2))] (by kernel_rfl) <|
    xn <| reg_s <| st rfl <| mvd rfl rfl <| st rfl <| mvd rfl rfl <| st rfl <| mvd rfl rfl <| st rfl <| ias rfl rfl i232 g233 rfl <| st rfl <| fai rfl rfl rfl rfl <| st rfl <| ldi rfl rfl rfl rfl <| ck_k h fun i238 h => ckI_k h fun i239 h => st rfl <| b_quo (k := .i64) rfl rfl i238 i239 <| x_asg (ss rfl rfl) <| seqN [(0, .d ((cLs (cXVariable cS cI) rfl).enc v0)), (1, .d (cI.enc (s128.1.tdiv x231.Levels))), (5, .d ((cLo cI).enc (s128.2.1.set (s128.2.2).toNat (s128.1.tmod x231.Levels)))), (6, .d (cI.enc s128.2.2))] (by kernel_rfl) <|
    xbb <| kpN [(0, .d ((cLs (cXVariable cS cI) rfl).enc v0)), (1, .d (cI.enc (s128.1.tdiv x231.Levels))), (5, .d ((cLo cI).enc (s128.2.1.set (s128.2.2).toNat (s128.1.tmod x231.Levels)))), (6, .d (cI.enc s128.2.2))] (by kernel_rfl) <| xn <| reg_s <| st rfl <| mvd rfl rfl <| ckI_k h fun i240 h => st rfl <| b_sub (k := .i64) rfl rfl i240 <| x_asg (ss rfl rfl) <| seqN [(0, .d ((cLs (cXVariable cS cI) rfl).enc v0)), (1, .d (cI.enc (s128.1.tdiv x231.Levels))), (5, .d ((cLo cI).enc (s128.2.1.set (s128.2.2).toNat (s128.1.tmod x231.Levels)))), (6, .d (cI.enc (s128.2.2 - (1 : Int))))] (by kernel_rfl) <|
    xn <| hn204 ((s128.1.tdiv x231.Levels), (s128.2.1.set (s128.2.2).toNat (s128.1.tmod x231.Levels)), (s128.2.2 - (1 : Int))) h)
    (fun b207 h => wpC_exit <| xt <| xt <| xt <| xb <| kpN [(5, .d ((cLo cI).enc s128.2.1))] (by kernel_rfl) <| xn <| wpC_seq <| reg_s <| st rfl <| mvo rfl rfl <| x_asg (sr rfl rfl) <| seqN [(4, .d ((cLo cI).enc s128.2.1))] (by kernel_rfl) <|
    xn <| wpC_ret <| re <| fin h (r1 (so rfl rfl) <| r0) rfl)

def rs_spec_eFails (r : Bool) : List D := [cB.enc r]
def m109 : MC := .seq (.reg [⟨some 2, .box (.t 0), none⟩,
    ⟨some 4, .asg (.c (.bool false)), none⟩] [1, 2])
  (.seq (.kp [] (.seq (.reg [⟨some 7, .mv (.t 1), none⟩,
    ⟨some 8, .len false (.t 7), none⟩,
    ⟨some 9, .mv (.c (.int .i64 0)), none⟩] [1, 2, 7, 8, 9])
  (.blk 0 (.loop (.seq (.reg [⟨some 10, .bin .lss (.t 9) (.t 8), none⟩] [1, 2, 7, 8, 9, 10])
  (.seq (.kp [1, 2, 7, 8, 9] (.cond (.t 10) (.skip) (.exit 0)))
  (.seq (.kp [1, 2, 7, 8, 9] (.blk 1 (.seq (.reg [⟨some 11, .mv (.t 9), none⟩,
    ⟨some 12, .ia 7 (.t 9) 1, none⟩,
    ⟨some 13, .ld 12 1 false, none⟩,
    ⟨some 5, .asg (.t 11), none⟩,
    ⟨some 6, .asg (.t 13), none⟩] [1, 2, 5, 6, 7, 8, 9])
  (.seq (.reg [⟨some 14, .fa 2 0 0, none⟩,
    ⟨some 15, .ld 14 1 false, none⟩,
    ⟨some 16, .mv (.t 5), none⟩,
    ⟨some 17, .ia 15 (.t 16) 1, none⟩,
    ⟨some 18, .ld 17 1 false, none⟩,
    ⟨some 19, .mv (.t 6), none⟩,
    ⟨some 20, .cvi .u64 (.t 19), none⟩,
    ⟨some 21, .bin .shr (.t 18) (.t 20), none⟩,
    ⟨some 22, .bin .and (.t 21) (.c (.int .i64 1)), none⟩,
    ⟨some 23, .bin .eql (.t 22) (.c (.int .i64 0)), none⟩] [1, 2, 7, 8, 9, 23])
  (.cond (.t 23) (.seq (.reg [⟨some 4, .asg (.c (.bool false)), none⟩] [4])
  (.ret)) (.skip))))))
  (.reg [⟨some 24, .bin .add (.t 9) (.c (.int .i64 1)), none⟩,
    ⟨some 9, .mv (.t 24), none⟩] [1, 2, 7, 8, 9]))))))))
  (.seq (.reg [⟨some 4, .asg (.c (.bool true)), none⟩] [4])
  (.ret)))
theorem con_spec_eFails {v0 : XEdit} {v1 : (List Int)} {r : Bool} (h : sh_spec_eFails v0 v1 = some r) : Con Try.prog 109 [(cXEdit (cLs cI rfl)).enc v0, (cLs cI rfl).enc v1] [] (rs_spec_eFails r) := by
  delta sh_spec_eFails at h
  refine top (out := none) (f := Try.f109) (m := m109) (rs := [.t 4]) (by kernel_rfl) rfl (by kernel_rfl) (by kernel_rfl) (by kernel_rfl) (by kernel_rfl) (by kernel_rfl) ?_
  exact
   ini [(0, .d ((cXEdit (cLs cI rfl)).enc v0)), (1, .d ((cLs cI rfl).enc v1))] rfl <| wpC_seq <| reg_s <| x_box (ss rfl rfl) <| x_asg (sc cB false rfl) <| seqN [(1, .d ((cLs cI rfl).enc v1)), (2, .box ((cXEdit (cLs cI rfl)).enc v0))] (by kernel_rfl) <|
    xn <| wpC_seq <| wpC_kp <| wpC_seq <| reg_s <| st rfl <| mvd rfl rfl <| stw rfl <| lens rfl fun l88 => st rfl <| mvc cI (0 : Int) rfl <| seqN [(1, .d ((cLs cI rfl).enc v1)), (2, .box ((cXEdit (cLs cI rfl)).enc v0)), (7, .d ((cLs cI rfl).enc v1)), (8, .d (cI.enc (v1.length : Int))), (9, .d (cI.enc (0 : Int)))] (by kernel_rfl) <|
    xn <| wpC_blk <| lpR (fun (k90 : Nat) (s89 : Unit) => [(1, .d ((cLs cI rfl).enc v1)), (2, .box ((cXEdit (cLs cI rfl)).enc v0)), (7, .d ((cLs cI rfl).enc v1)), (8, .d (cI.enc (v1.length : Int))), (9, .d (cI.enc (k90 : Int)))]) () rfl h
    (fun G134 s89 h => wpC_seq <| reg_s <| st rfl <| b_lss (k := .i64) rfl rfl <| seqN [(1, .d ((cLs cI rfl).enc v1)), (2, .box ((cXEdit (cLs cI rfl)).enc v0)), (7, .d ((cLs cI rfl).enc v1)), (8, .d (cI.enc (v1.length : Int))), (9, .d (cI.enc (v1.length : Int))), (10, .d (cB.enc (decide ((v1.length : Int) < (v1.length : Int)))))] (by kernel_rfl) <|
    xn <| wpC_seq <| wpC_kp <| cnd0 rfl (dlf _) <| wpC_exit <| xt <| xt <| xt <| xb <| kpN [] (by kernel_rfl) <| xn <| wpC_seq <| reg_s <| x_asg (sc cB true rfl) <| seqN [(4, .d (cB.enc true))] (by kernel_rfl) <|
    xn <| wpC_ret <| re <| fin h (r1 (ss rfl rfl) <| r0) rfl)
    (fun G134 nx132 k90 s89 x91 hk92 hx93 hn133 h => wpC_seq <| reg_s <| st rfl <| b_lss (k := .i64) rfl rfl <| seqN [(1, .d ((cLs cI rfl).enc v1)), (2, .box ((cXEdit (cLs cI rfl)).enc v0)), (7, .d ((cLs cI rfl).enc v1)), (8, .d (cI.enc (v1.length : Int))), (9, .d (cI.enc (k90 : Int))), (10, .d (cB.enc (decide ((k90 : Int) < (v1.length : Int)))))] (by kernel_rfl) <|
    xn <| wpC_seq <| wpC_kp <| cnd1 rfl (dlt hk92) <| wpC_skip <| kpN [(1, .d ((cLs cI rfl).enc v1)), (2, .box ((cXEdit (cLs cI rfl)).enc v0)), (7, .d ((cLs cI rfl).enc v1)), (8, .d (cI.enc (v1.length : Int))), (9, .d (cI.enc (k90 : Int)))] (by kernel_rfl) <| xn <| wpC_seq <| wpC_kp <| wpC_blk <| wpC_seq <| reg_s <| st rfl <| mvd rfl rfl <| st rfl <| ias rfl rfl (Int.natCast_nonneg _) hx93 rfl <| st rfl <| ldi rfl rfl rfl rfl <| x_asg (ss rfl rfl) <| x_asg (ss rfl rfl) <| seqN [(1, .d ((cLs cI rfl).enc v1)), (2, .box ((cXEdit (cLs cI rfl)).enc v0)), (5, .d (cI.enc (k90 : Int))), (6, .d (cI.enc x91)), (7, .d ((cLs cI rfl).enc v1)), (8, .d (cI.enc (v1.length : Int))), (9, .d (cI.enc (k90 : Int)))] (by kernel_rfl) <|
    xn <| wpC_seq <| reg_s <| st rfl <| fab rfl rfl rfl rfl <| st rfl <| lda rfl rfl rfl rfl rfl rfl <| st rfl <| mvd rfl rfl <| getO_k h fun x163 i164 g165 h => st rfl <| ias rfl rfl i164 g165 rfl <| st rfl <| ldi rfl rfl rfl rfl <| st rfl <| mvd rfl rfl <| ckK_k h fun i166 h => st rfl <| o_cvi (k := .i64) (k' := .u64) rfl i166 <| ck_k h fun i167 h => st rfl <| b_shr (k := .i64) (k' := .u64) rfl rfl i167 rfl <| ck_k h fun i168 h => ckK_k h fun i169 h => ck_k h fun i170 h => ckK_k h fun i171 h => st rfl <| b_and (k := .i64) rfl rfl ⟨i168, i169⟩ ⟨i170, i171⟩ <| st rfl <| b_eql (k := .i64) rfl rfl <| seqN [(1, .d ((cLs cI rfl).enc v1)), (2, .box ((cXEdit (cLs cI rfl)).enc v0)), (7, .d ((cLs cI rfl).enc v1)), (8, .d (cI.enc (v1.length : Int))), (9, .d (cI.enc (k90 : Int))), (23, .d (cB.enc (decide ((((x163 / 2 ^ (x91).toNat).toNat &&& (1 : Int).toNat : Nat) : Int) = (0 : Int)))))] (by kernel_rfl) <|
    xn <| cnd rfl h (fun b172 h => wpC_seq <| reg_s <| x_asg (sc cB false rfl) <| seqN [(4, .d (cB.enc false))] (by kernel_rfl) <|
    xn <| wpC_ret <| rb <| rt <| rt <| rt <| rb <| rt <| rt <| re <| fin h (r1 (ss rfl rfl) <| r0) rfl)
    (fun b172 h => wpC_skip <| xbb <| kpN [(1, .d ((cLs cI rfl).enc v1)), (2, .box ((cXEdit (cLs cI rfl)).enc v0)), (7, .d ((cLs cI rfl).enc v1)), (8, .d (cI.enc (v1.length : Int))), (9, .d (cI.enc (k90 : Int)))] (by kernel_rfl) <| xn <| reg_s <| st rfl <| b_inc rfl rfl l88 hk92 <| st rfl <| mvd rfl rfl <| seqN [(1, .d ((cLs cI rfl).enc v1)), (2, .box ((cXEdit (cLs cI rfl)).enc v0)), (7, .d ((cLs cI rfl).enc v1)), (8, .d (cI.enc (v1.length : Int))), (9, .d (cI.enc ((k90 + 1 : Nat) : Int)))] (by kernel_rfl) <|
    xn <| hn133 () h))

def rs_spec_eFailed (r : (List Int)) : List D := [(cLo cI).enc r]
def m90 : MC := .seq (.reg [⟨some 4, .asg (.c (.slice true [])), none⟩] [0, 1])
  (.seq (.reg [⟨some 5, .asg (.c (.slice true [])), none⟩] [0, 1, 5])
  (.seq (.kp [5] (.seq (.reg [⟨some 8, .mv (.t 0), none⟩,
    ⟨some 9, .len false (.t 8), none⟩,
    ⟨some 10, .mv (.c (.int .i64 0)), none⟩] [0, 1, 5, 8, 9, 10])
  (.blk 0 (.loop (.seq (.reg [⟨some 11, .bin .lss (.t 10) (.t 9), none⟩] [0, 1, 5, 8, 9, 10, 11])
  (.seq (.kp [0, 1, 5, 8, 9, 10] (.cond (.t 11) (.skip) (.exit 0)))
  (.seq (.kp [0, 1, 5, 8, 9, 10] (.blk 1 (.seq (.reg [⟨some 12, .mv (.t 10), none⟩,
    ⟨some 13, .ia 8 (.t 10) 1, none⟩,
    ⟨some 14, .ld 13 1 true, none⟩,
    ⟨some 7, .alloc (.agg [.slice true []]), none⟩,
    ⟨some 6, .asg (.t 12), none⟩,
    ⟨none, .st 7 (.t 14) 1, none⟩] [0, 1, 5, 6, 7, 8, 9, 10])
  (.seq (.reg [⟨some 15, .ld 7 1 true, none⟩,
    ⟨some 16, .mv (.t 1), none⟩,
    ⟨some 17, .call 109 [(.t 15), (.t 16)], none⟩] [0, 1, 5, 6, 8, 9, 10, 17])
  (.cond (.t 17) (.reg [⟨some 18, .mv (.t 5), none⟩,
    ⟨some 19, .mv (.t 6), none⟩,
    ⟨some 20, .bsl [(.t 19)] 1, none⟩,
    ⟨some 21, .app (.t 18) (.t 20) 1, none⟩,
    ⟨some 5, .asg (.t 21), none⟩] [0, 1, 5, 8, 9, 10]) (.skip))))))
  (.reg [⟨some 22, .bin .add (.t 10) (.c (.int .i64 1)), none⟩,
    ⟨some 10, .mv (.t 22), none⟩] [0, 1, 5, 8, 9, 10]))))))))
  (.seq (.reg [⟨some 23, .mv (.t 5), none⟩,
    ⟨some 4, .asg (.t 23), none⟩] [4])
  (.ret))))
theorem con_spec_eFailed {v0 : (List XEdit)} {v1 : (List Int)} {r : (List Int)} (h : sh_spec_eFailed v0 v1 = some r) : Con Try.prog 90 [(cLs (cXEdit (cLs cI rfl)) rfl).enc v0, (cLs cI rfl).enc v1] [] (rs_spec_eFailed r) := by
  delta sh_spec_eFailed at h
  refine top (out := none) (f := Try.f90) (m := m90) (rs := [.t 4]) (by kernel_rfl) rfl (by kernel_rfl) (by kernel_rfl) (by kernel_rfl) (by kernel_rfl) (by kernel_rfl) ?_
  exact
   ini [(0, .d ((cLs (cXEdit (cLs cI rfl)) rfl).enc v0)), (1, .d ((cLs cI rfl).enc v1))] rfl <| wpC_seq <| reg_s <| x_asg (sc (cLo cI) ([] : List Int) rfl) <| seqN [(0, .d ((cLs (cXEdit (cLs cI rfl)) rfl).enc v0)), (1, .d ((cLs cI rfl).enc v1))] (by kernel_rfl) <|
    xn <| wpC_seq <| reg_s <| x_asg (sc (cLo cI) ([] : List Int) rfl) <| seqN [(0, .d ((cLs (cXEdit (cLs cI rfl)) rfl).enc v0)), (1, .d ((cLs cI rfl).enc v1)), (5, .d ((cLo cI).enc ([] : List Int)))] (by kernel_rfl) <|
    xn <| wpC_seq <| wpC_kp <| wpC_seq <| reg_s <| st rfl <| mvd rfl rfl <| stw rfl <| lens rfl fun l48 => st rfl <| mvc cI (0 : Int) rfl <| seqN [(0, .d ((cLs (cXEdit (cLs cI rfl)) rfl).enc v0)), (1, .d ((cLs cI rfl).enc v1)), (5, .d ((cLo cI).enc ([] : List Int))), (8, .d ((cLs (cXEdit (cLs cI rfl)) rfl).enc v0)), (9, .d (cI.enc (v0.length : Int))), (10, .d (cI.enc (0 : Int)))] (by kernel_rfl) <|
    xn <| wpC_blk <| lpR (fun (k50 : Nat) (s49 : (List Int)) => [(0, .d ((cLs (cXEdit (cLs cI rfl)) rfl).enc v0)), (1, .d ((cLs cI rfl).enc v1)), (5, .d ((cLo cI).enc s49)), (8, .d ((cLs (cXEdit (cLs cI rfl)) rfl).enc v0)), (9, .d (cI.enc (v0.length : Int))), (10, .d (cI.enc (k50 : Int)))]) ([] : List Int) rfl h
    (fun G80 s49 h => wpC_seq <| reg_s <| st rfl <| b_lss (k := .i64) rfl rfl <| seqN [(0, .d ((cLs (cXEdit (cLs cI rfl)) rfl).enc v0)), (1, .d ((cLs cI rfl).enc v1)), (5, .d ((cLo cI).enc s49)), (8, .d ((cLs (cXEdit (cLs cI rfl)) rfl).enc v0)), (9, .d (cI.enc (v0.length : Int))), (10, .d (cI.enc (v0.length : Int))), (11, .d (cB.enc (decide ((v0.length : Int) < (v0.length : Int)))))] (by kernel_rfl) <|
    xn <| wpC_seq <| wpC_kp <| cnd0 rfl (dlf _) <| wpC_exit <| xt <| xt <| xt <| xb <| kpN [(5, .d ((cLo cI).enc s49))] (by kernel_rfl) <| xn <| wpC_seq <| reg_s <| st rfl <| mvo rfl rfl <| x_asg (sr rfl rfl) <| seqN [(4, .d ((cLo cI).enc s49))] (by kernel_rfl) <|
    xn <| wpC_ret <| re <| fin h (r1 (so rfl rfl) <| r0) rfl)
    (fun G80 nx78 k50 s49 x51 hk52 hx53 hn79 h => wpC_seq <| reg_s <| st rfl <| b_lss (k := .i64) rfl rfl <| seqN [(0, .d ((cLs (cXEdit (cLs cI rfl)) rfl).enc v0)), (1, .d ((cLs cI rfl).enc v1)), (5, .d ((cLo cI).enc s49)), (8, .d ((cLs (cXEdit (cLs cI rfl)) rfl).enc v0)), (9, .d (cI.enc (v0.length : Int))), (10, .d (cI.enc (k50 : Int))), (11, .d (cB.enc (decide ((k50 : Int) < (v0.length : Int)))))] (by kernel_rfl) <|
    xn <| wpC_seq <| wpC_kp <| cnd1 rfl (dlt hk52) <| wpC_skip <| kpN [(0, .d ((cLs (cXEdit (cLs cI rfl)) rfl).enc v0)), (1, .d ((cLs cI rfl).enc v1)), (5, .d ((cLo cI).enc s49)), (8, .d ((cLs (cXEdit (cLs cI rfl)) rfl).enc v0)), (9, .d (cI.enc (v0.length : Int))), (10, .d (cI.enc (k50 : Int)))] (by kernel_rfl) <| xn <| wpC_seq <| wpC_kp <| wpC_blk <| wpC_seq <| reg_s <| st rfl <| mvd rfl rfl <| st rfl <| ias rfl rfl (Int.natCast_nonneg _) hx53 rfl <| st rfl <| ldi rfl rfl rfl rfl <| x_all (cXEdit (cLo cI)) (⟨([] : List Int)⟩ : XEdit) rfl <| x_asg (ss rfl rfl) <| x_stb (ss rfl rfl) rfl (Cd.h_sz _ _) rfl <| seqN [(0, .d ((cLs (cXEdit (cLs cI rfl)) rfl).enc v0)), (1, .d ((cLs cI rfl).enc v1)), (5, .d ((cLo cI).enc s49)), (6, .d (cI.enc (k50 : Int))), (7, .box ((cXEdit (cLs cI rfl)).enc x51)), (8, .d ((cLs (cXEdit (cLs cI rfl)) rfl).enc v0)), (9, .d (cI.enc (v0.length : Int))), (10, .d (cI.enc (k50 : Int)))] (by kernel_rfl) <|
    xn <| wpC_seq <| reg_s <| st rfl <| ldb rfl rfl rfl rfl <| st rfl <| mvd rfl rfl <| bnd h fun x89 e90 h => st rfl <| o_call (a1 (c := (cXEdit (cLs cI rfl))) (tXEdit (tLs tK)) rfl (a1 (c := (cLs cI rfl)) (tLs tK) rfl a0)) (con_spec_eFails e90) (.inl (so1 sB so0)) <| seqN [(0, .d ((cLs (cXEdit (cLs cI rfl)) rfl).enc v0)), (1, .d ((cLs cI rfl).enc v1)), (5, .d ((cLo cI).enc s49)), (6, .d (cI.enc (k50 : Int))), (8, .d ((cLs (cXEdit (cLs cI rfl)) rfl).enc v0)), (9, .d (cI.enc (v0.length : Int))), (10, .d (cI.enc (k50 : Int))), (17, .d (cB.enc x89))] (by kernel_rfl) <|
    xn <| cnd rfl h (fun b91 h => reg_s <| st rfl <| mvo rfl rfl <| st rfl <| mvd rfl rfl <| x_bsl cI [(k50 : Int)] (t1 (ss rfl rfl) rfl t0) rfl rfl <| lnO_k h fun l92 h => x_app (sr rfl rfl) (to rfl rfl) l92 rfl <| x_asg (so rfl rfl) <| seqN [(0, .d ((cLs (cXEdit (cLs cI rfl)) rfl).enc v0)), (1, .d ((cLs cI rfl).enc v1)), (5, .d ((cLo cI).enc (s49 ++ [(k50 : Int)]))), (8, .d ((cLs (cXEdit (cLs cI rfl)) rfl).enc v0)), (9, .d (cI.enc (v0.length : Int))), (10, .d (cI.enc (k50 : Int)))] (by kernel_rfl) <|
    xbb <| kpN [(0, .d ((cLs (cXEdit (cLs cI rfl)) rfl).enc v0)), (1, .d ((cLs cI rfl).enc v1)), (5, .d ((cLo cI).enc (s49 ++ [(k50 : Int)]))), (8, .d ((cLs (cXEdit (cLs cI rfl)) rfl).enc v0)), (9, .d (cI.enc (v0.length : Int))), (10, .d (cI.enc (k50 : Int)))] (by kernel_rfl) <| xn <| reg_s <| st rfl <| b_inc rfl rfl l48 hk52 <| st rfl <| mvd rfl rfl <| seqN [(0, .d ((cLs (cXEdit (cLs cI rfl)) rfl).enc v0)), (1, .d ((cLs cI rfl).enc v1)), (5, .d ((cLo cI).enc (s49 ++ [(k50 : Int)]))), (8, .d ((cLs (cXEdit (cLs cI rfl)) rfl).enc v0)), (9, .d (cI.enc (v0.length : Int))), (10, .d (cI.enc ((k50 + 1 : Nat) : Int)))] (by kernel_rfl) <|
    xn <| hn79 (s49 ++ [(k50 : Int)]) h)
    (fun b91 h => wpC_skip <| xbb <| kpN [(0, .d ((cLs (cXEdit (cLs cI rfl)) rfl).enc v0)), (1, .d ((cLs cI rfl).enc v1)), (5, .d ((cLo cI).enc s49)), (8, .d ((cLs (cXEdit (cLs cI rfl)) rfl).enc v0)), (9, .d (cI.enc (v0.length : Int))), (10, .d (cI.enc (k50 : Int)))] (by kernel_rfl) <| xn <| reg_s <| st rfl <| b_inc rfl rfl l48 hk52 <| st rfl <| mvd rfl rfl <| seqN [(0, .d ((cLs (cXEdit (cLs cI rfl)) rfl).enc v0)), (1, .d ((cLs cI rfl).enc v1)), (5, .d ((cLo cI).enc s49)), (8, .d ((cLs (cXEdit (cLs cI rfl)) rfl).enc v0)), (9, .d (cI.enc (v0.length : Int))), (10, .d (cI.enc ((k50 + 1 : Nat) : Int)))] (by kernel_rfl) <|
    xn <| hn79 s49 h))

def rs_impl_areEdits (r : Bool) : List D := [cB.enc r]
def m71 : MC := .seq (.reg [⟨some 4, .asg (.c (.bool false)), none⟩] [0, 1])
  (.seq (.kp [0, 1] (.seq (.reg [⟨some 7, .mv (.t 1), none⟩,
    ⟨some 8, .len false (.t 7), none⟩,
    ⟨some 9, .bin .gtr (.t 8) (.c (.int .i64 40)), none⟩] [0, 1, 9])
  (.cond (.t 9) (.seq (.reg [⟨some 4, .asg (.c (.bool false)), none⟩] [4])
  (.ret)) (.skip))))
  (.seq (.kp [] (.seq (.reg [⟨some 10, .mv (.t 1), none⟩,
    ⟨some 11, .len false (.t 10), none⟩,
    ⟨some 12, .mv (.c (.int .i64 0)), none⟩] [0, 1, 10, 11, 12])
  (.blk 0 (.loop (.seq (.reg [⟨some 13, .bin .lss (.t 12) (.t 11), none⟩] [0, 1, 10, 11, 12, 13])
  (.seq (.kp [0, 1, 10, 11, 12] (.cond (.t 13) (.skip) (.exit 0)))
  (.seq (.kp [0, 1, 10, 11, 12] (.blk 1 (.seq (.reg [⟨some 14, .ia 10 (.t 12) 1, none⟩,
    ⟨some 15, .ld 14 1 true, none⟩,
    ⟨some 6, .alloc (.agg [.slice true []]), none⟩,
    ⟨none, .st 6 (.t 15) 1, none⟩] [0, 1, 6, 10, 11, 12])
  (.seq (.reg [⟨some 16, .mv (.t 0), none⟩,
    ⟨some 17, .ld 6 1 true, none⟩,
    ⟨some 18, .call 65 [(.t 16), (.t 17)], none⟩,
    ⟨some 19, .nt (.t 18), none⟩] [0, 1, 10, 11, 12, 19])
  (.cond (.t 19) (.seq (.reg [⟨some 4, .asg (.c (.bool false)), none⟩] [4])
  (.ret)) (.skip))))))
  (.reg [⟨some 20, .bin .add (.t 12) (.c (.int .i64 1)), none⟩,
    ⟨some 12, .mv (.t 20), none⟩] [0, 1, 10, 11, 12]))))))))
  (.seq (.reg [⟨some 4, .asg (.c (.bool true)), none⟩] [4])
  (.ret))))
theorem con_impl_areEdits {v0 : (List XVariable)} {v1 : (List XEdit)} {r : Bool} (h : sh_impl_areEdits v0 v1 = some r) : Con Try.prog 71 [(cLs (cXVariable cS cI) rfl).enc v0, (cLs (cXEdit (cLs cI rfl)) rfl).enc v1] [] (rs_impl_areEdits r) := by
  delta sh_impl_areEdits at h
  refine top (out := none) (f := Try.f71) (m := m71) (rs := [.t 4]) (by kernel_rfl) rfl (by kernel_rfl) (by kernel_rfl) (by kernel_rfl) (by kernel_rfl) (by kernel_rfl) ?_
  exact
   ini [(0, .d ((cLs (cXVariable cS cI) rfl).enc v0)), (1, .d ((cLs (cXEdit (cLs cI rfl)) rfl).enc v1))] rfl <| wpC_seq <| reg_s <| x_asg (sc cB false rfl) <| seqN [(0, .d ((cLs (cXVariable cS cI) rfl).enc v0)), (1, .d ((cLs (cXEdit (cLs cI rfl)) rfl).enc v1))] (by kernel_rfl) <|
    xn <| wpC_seq <| wpC_kp <| wpC_seq <| reg_s <| st rfl <| mvd rfl rfl <| stw rfl <| lens rfl fun l5 => st rfl <| b_gtr (k := .i64) rfl rfl <| seqN [(0, .d ((cLs (cXVariable cS cI) rfl).enc v0)), (1, .d ((cLs (cXEdit (cLs cI rfl)) rfl).enc v1)), (9, .d (cB.enc (decide ((40 : Int) < (v1.length : Int)))))] (by kernel_rfl) <|
    xn <| cnd rfl h (fun b6 h => wpC_seq <| reg_s <| x_asg (sc cB false rfl) <| seqN [(4, .d (cB.enc false))] (by kernel_rfl) <|
    xn <| wpC_ret <| rt <| rt <| re <| fin h (r1 (ss rfl rfl) <| r0) rfl)
    (fun b6 h => wpC_skip <| kpN [(0, .d ((cLs (cXVariable cS cI) rfl).enc v0)), (1, .d ((cLs (cXEdit (cLs cI rfl)) rfl).enc v1))] (by kernel_rfl) <| xn <| wpC_seq <| wpC_kp <| wpC_seq <| reg_s <| st rfl <| mvd rfl rfl <| stw rfl <| lens rfl fun l38 => st rfl <| mvc cI (0 : Int) rfl <| seqN [(0, .d ((cLs (cXVariable cS cI) rfl).enc v0)), (1, .d ((cLs (cXEdit (cLs cI rfl)) rfl).enc v1)), (10, .d ((cLs (cXEdit (cLs cI rfl)) rfl).enc v1)), (11, .d (cI.enc (v1.length : Int))), (12, .d (cI.enc (0 : Int)))] (by kernel_rfl) <|
    xn <| wpC_blk <| lpR (fun (k40 : Nat) (s39 : Unit) => [(0, .d ((cLs (cXVariable cS cI) rfl).enc v0)), (1, .d ((cLs (cXEdit (cLs cI rfl)) rfl).enc v1)), (10, .d ((cLs (cXEdit (cLs cI rfl)) rfl).enc v1)), (11, .d (cI.enc (v1.length : Int))), (12, .d (cI.enc (k40 : Int)))]) () rfl h
    (fun G56 s39 h => wpC_seq <| reg_s <| st rfl <| b_lss (k := .i64) rfl rfl <| seqN [(0, .d ((cLs (cXVariable cS cI) rfl).enc v0)), (1, .d ((cLs (cXEdit (cLs cI rfl)) rfl).enc v1)), (10, .d ((cLs (cXEdit (cLs cI rfl)) rfl).enc v1)), (11, .d (cI.enc (v1.length : Int))), (12, .d (cI.enc (v1.length : Int))), (13, .d (cB.enc (decide ((v1.length : Int) < (v1.length : Int)))))] (by kernel_rfl) <|
    xn <| wpC_seq <| wpC_kp <| cnd0 rfl (dlf _) <| wpC_exit <| xt <| xt <| xt <| xb <| kpN [] (by kernel_rfl) <| xn <| wpC_seq <| reg_s <| x_asg (sc cB true rfl) <| seqN [(4, .d (cB.enc true))] (by kernel_rfl) <|
    xn <| wpC_ret <| re <| fin h (r1 (ss rfl rfl) <| r0) rfl)
    (fun G56 nx54 k40 s39 x41 hk42 hx43 hn55 h => wpC_seq <| reg_s <| st rfl <| b_lss (k := .i64) rfl rfl <| seqN [(0, .d ((cLs (cXVariable cS cI) rfl).enc v0)), (1, .d ((cLs (cXEdit (cLs cI rfl)) rfl).enc v1)), (10, .d ((cLs (cXEdit (cLs cI rfl)) rfl).enc v1)), (11, .d (cI.enc (v1.length : Int))), (12, .d (cI.enc (k40 : Int))), (13, .d (cB.enc (decide ((k40 : Int) < (v1.length : Int)))))] (by kernel_rfl) <|
    xn <| wpC_seq <| wpC_kp <| cnd1 rfl (dlt hk42) <| wpC_skip <| kpN [(0, .d ((cLs (cXVariable cS cI) rfl).enc v0)), (1, .d ((cLs (cXEdit (cLs cI rfl)) rfl).enc v1)), (10, .d ((cLs (cXEdit (cLs cI rfl)) rfl).enc v1)), (11, .d (cI.enc (v1.length : Int))), (12, .d (cI.enc (k40 : Int)))] (by kernel_rfl) <| xn <| wpC_seq <| wpC_kp <| wpC_blk <| wpC_seq <| reg_s <| st rfl <| ias rfl rfl (Int.natCast_nonneg _) hx43 rfl <| st rfl <| ldi rfl rfl rfl rfl <| x_all (cXEdit (cLo cI)) (⟨([] : List Int)⟩ : XEdit) rfl <| x_stb (ss rfl rfl) rfl (Cd.h_sz _ _) rfl <| seqN [(0, .d ((cLs (cXVariable cS cI) rfl).enc v0)), (1, .d ((cLs (cXEdit (cLs cI rfl)) rfl).enc v1)), (6, .box ((cXEdit (cLs cI rfl)).enc x41)), (10, .d ((cLs (cXEdit (cLs cI rfl)) rfl).enc v1)), (11, .d (cI.enc (v1.length : Int))), (12, .d (cI.enc (k40 : Int)))] (by kernel_rfl) <|
    xn <| wpC_seq <| reg_s <| st rfl <| mvd rfl rfl <| st rfl <| ldb rfl rfl rfl rfl <| bnd h fun x64 e65 h => st rfl <| o_call (a1 (c := (cLs (cXVariable cS cI) rfl)) (tLs (tXVariable tS tK)) rfl (a1 (c := (cXEdit (cLs cI rfl))) (tXEdit (tLs tK)) rfl a0)) (con_impl_isEdit e65) (.inl (so1 sB so0)) <| st rfl <| o_nt rfl <| seqN [(0, .d ((cLs (cXVariable cS cI) rfl).enc v0)), (1, .d ((cLs (cXEdit (cLs cI rfl)) rfl).enc v1)), (10, .d ((cLs (cXEdit (cLs cI rfl)) rfl).enc v1)), (11, .d (cI.enc (v1.length : Int))), (12, .d (cI.enc (k40 : Int))), (19, .d (cB.enc (!x64)))] (by kernel_rfl) <|
    xn <| cnd rfl h (fun b66 h => wpC_seq <| reg_s <| x_asg (sc cB false rfl) <| seqN [(4, .d (cB.enc false))] (by kernel_rfl) <|
    xn <| wpC_ret <| rb <| rt <| rt <| rt <| rb <| rt <| rt <| re <| fin h (r1 (ss rfl rfl) <| r0) rfl)
    (fun b66 h => wpC_skip <| xbb <| kpN [(0, .d ((cLs (cXVariable cS cI) rfl).enc v0)), (1, .d ((cLs (cXEdit (cLs cI rfl)) rfl).enc v1)), (10, .d ((cLs (cXEdit (cLs cI rfl)) rfl).enc v1)), (11, .d (cI.enc (v1.length : Int))), (12, .d (cI.enc (k40 : Int)))] (by kernel_rfl) <| xn <| reg_s <| st rfl <| b_inc rfl rfl l38 hk42 <| st rfl <| mvd rfl rfl <| seqN [(0, .d ((cLs (cXVariable cS cI) rfl).enc v0)), (1, .d ((cLs (cXEdit (cLs cI rfl)) rfl).enc v1)), (10, .d ((cLs (cXEdit (cLs cI rfl)) rfl).enc v1)), (11, .d (cI.enc (v1.length : Int))), (12, .d (cI.enc ((k40 + 1 : Nat) : Int)))] (by kernel_rfl) <|
    xn <| hn55 () h)))

def rs_impl_valuesAt (r : (List Int)) : List D := [(cLo cI).enc r]
def m73 : MC := .seq (.reg [⟨some 4, .asg (.c (.slice true [])), none⟩] [0, 1])
  (.seq (.reg [⟨some 7, .mv (.t 0), none⟩,
    ⟨some 8, .len false (.t 7), none⟩,
    ⟨some 9, .mk (.int .i64 0) (.t 8), none⟩,
    ⟨some 5, .asg (.t 9), none⟩] [0, 1, 5])
  (.seq (.kp [5] (.seq (.reg [⟨some 10, .mv (.t 0), none⟩,
    ⟨some 11, .len false (.t 10), none⟩,
    ⟨some 12, .bin .sub (.t 11) (.c (.int .i64 1)), none⟩,
    ⟨some 6, .asg (.t 12), none⟩] [0, 1, 5, 6])
  (.blk 0 (.loop (.seq (.kp [0, 1, 5, 6] (.seq (.reg [⟨some 13, .mv (.t 6), none⟩,
    ⟨some 14, .bin .geq (.t 13) (.c (.int .i64 0)), none⟩] [0, 1, 5, 6, 14])
  (.cond (.t 14) (.skip) (.exit 0))))
  (.seq (.kp [0, 1, 5, 6] (.blk 1 (.seq (.reg [⟨some 17, .mv (.t 5), none⟩,
    ⟨some 18, .mv (.t 6), none⟩,
    ⟨some 19, .mv (.t 1), none⟩,
    ⟨some 20, .mv (.t 0), none⟩,
    ⟨some 21, .mv (.t 6), none⟩,
    ⟨some 22, .ia 20 (.t 21) 2, none⟩,
    ⟨some 23, .fa 22 1 1, none⟩,
    ⟨some 24, .ld 23 1 false, none⟩,
    ⟨some 25, .bin .rem (.t 19) (.t 24), none⟩,
    ⟨some 26, .ia 17 (.t 18) 1, none⟩,
    ⟨none, .st 26 (.t 25) 1, none⟩] [0, 1, 5, 6])
  (.reg [⟨some 27, .mv (.t 1), none⟩,
    ⟨some 28, .mv (.t 0), none⟩,
    ⟨some 29, .mv (.t 6), none⟩,
    ⟨some 30, .ia 28 (.t 29) 2, none⟩,
    ⟨some 31, .fa 30 1 1, none⟩,
    ⟨some 32, .ld 31 1 false, none⟩,
    ⟨some 33, .bin .quo (.t 27) (.t 32), none⟩,
    ⟨some 1, .asg (.t 33), none⟩] [0, 1, 5, 6]))))
  (.reg [⟨some 15, .mv (.t 6), none⟩,
    ⟨some 16, .bin .sub (.t 15) (.c (.int .i64 1)), none⟩,
    ⟨some 6, .asg (.t 16), none⟩] [0, 1, 5, 6])))))))
  (.seq (.reg [⟨some 34, .mv (.t 5), none⟩,
    ⟨some 4, .asg (.t 34), none⟩] [4])
  (.ret))))
theorem con_impl_valuesAt {v0 : (List XVariable)} {v1 : Int} {r : (List Int)} (h : sh_impl_valuesAt v0 v1 = some r) : Con Try.prog 73 [(cLs (cXVariable cS cI) rfl).enc v0, cI.enc v1] [] (rs_impl_valuesAt r) := by
  delta sh_impl_valuesAt at h
  refine top (out := none) (f := Try.f73) (m := m73) (rs := [.t 4]) (by kernel_rfl) rfl (by kernel_rfl) (by kernel_rfl) (by kernel_rfl) (by kernel_rfl) (by kernel_rfl) ?_
  exact
   ini [(0, .d ((cLs (cXVariable cS cI) rfl).enc v0)), (1, .d (cI.enc v1))] rfl <| wpC_seq <| reg_s <| x_asg (sc (cLo cI) ([] : List Int) rfl) <| seqN [(0, .d ((cLs (cXVariable cS cI) rfl).enc v0)), (1, .d (cI.enc v1))] (by kernel_rfl) <|
    xn <| wpC_seq <| reg_s <| st rfl <| mvd rfl rfl <| stw rfl <| lens rfl fun l4 => mkO_k h fun i5 l6 h => st rfl <| o_mk (c := cI) (a0 := (0 : Int)) rfl (k := .i64) rfl i5 l6 <| x_asg (so rfl rfl) <| seqN [(0, .d ((cLs (cXVariable cS cI) rfl).enc v0)), (1, .d (cI.enc v1)), (5, .d ((cLo cI).enc (List.replicate ((v0.length : Int)).toNat (0 : Int))))] (by kernel_rfl) <|
    xn <| wpC_seq <| wpC_kp <| wpC_seq <| reg_s <| st rfl <| mvd rfl rfl <| stw rfl <| lens rfl fun l126 => ckI_k h fun i127 h => st rfl <| b_sub (k := .i64) rfl rfl i127 <| x_asg (ss rfl rfl) <| seqN [(0, .d ((cLs (cXVariable cS cI) rfl).enc v0)), (1, .d (cI.enc v1)), (5, .d ((cLo cI).enc (List.replicate ((v0.length : Int)).toNat (0 : Int)))), (6, .d (cI.enc ((v0.length : Int) - (1 : Int))))] (by kernel_rfl) <|
    xn <| wpC_blk <| lpF (fun (s128 : (Int × (List Int) × Int)) => [(0, .d ((cLs (cXVariable cS cI) rfl).enc v0)), (1, .d (cI.enc s128.1)), (5, .d ((cLo cI).enc s128.2.1)), (6, .d (cI.enc s128.2.2))]) (v1, (List.replicate ((v0.length : Int)).toNat (0 : Int)), ((v0.length : Int) - (1 : Int))) rfl h
    fun G205 nx203 s128 hn204 h => wpC_seq <| wpC_kp <| wpC_seq <| reg_s <| st rfl <| mvd rfl rfl <| st rfl <| b_geq (k := .i64) rfl rfl <| seqN [(0, .d ((cLs (cXVariable cS cI) rfl).enc v0)), (1, .d (cI.enc s128.1)), (5, .d ((cLo cI).enc s128.2.1)), (6, .d (cI.enc s128.2.2)), (14, .d (cB.enc (decide ((0 : Int) ≤ s128.2.2))))] (by kernel_rfl) <|
    xn <| cnd rfl h (fun b207 h => wpC_skip <| kpN [(0, .d ((cLs (cXVariable cS cI) rfl).enc v0)), (1, .d (cI.enc s128.1)), (5, .d ((cLo cI).enc s128.2.1)), (6, .d (cI.enc s128.2.2))] (by kernel_rfl) <| xn <| wpC_seq <| wpC_kp <| wpC_blk <| wpC_seq <| reg_s <| st rfl <| mvo rfl rfl <| st rfl <| mvd rfl rfl <| st rfl <| mvd rfl rfl <| st rfl <| mvd rfl rfl <| st rfl <| mvd rfl rfl <| getO_k h fun x231 i232 g233 h => st rfl <| ias rfl rfl i232 g233 rfl <| st rfl <| fai rfl rfl rfl rfl <| st rfl <| ldi rfl rfl rfl rfl <| ck_k h fun i234 h => st rfl <| b_rem (k := .i64) rfl rfl i234 <| getO_k h fun x235 i236 g237 h => st rfl <| iar rfl rfl rfl rfl i236 g237 rfl <| x_sta ((cLo cI).enc (s128.2.1.set (s128.2.2).toNat (s128.1.tmod x231.Levels))) (ss rfl rfl) rfl rfl (Ln.idx g237 Ln.nil) (Cd.h_sz cI _) rfl <| seqN [(0, .d ((cLs (cXVariable cS cI) rfl).enc v0)), (1, .d (cI.enc s128.1)), (5, .d ((cLo cI).enc (s128.2.1.set (s128.2.2).toNat (s128.1.tmod x231.Levels)))), (6, .d (cI.enc s128.2.2))] (by kernel_rfl) <|
    xn <| reg_s <| st rfl <| mvd rfl rfl <| st rfl <| mvd rfl rfl <| st rfl <| mvd rfl rfl <| st rfl <| ias rfl rfl i232 g233 rfl <| st rfl <| fai rfl rfl rfl rfl <| st rfl <| ldi rfl rfl rfl rfl <| ck_k h fun i238 h => ckI_k h fun i239 h => st rfl <| b_quo (k := .i64) rfl rfl i238 i239 <| x_asg (ss rfl rfl) <| seqN [(0, .d ((cLs (cXVariable cS cI) rfl).enc v0)), (1, .d (cI.enc (s128.1.tdiv x231.Levels))), (5, .d ((cLo cI).enc (s128.2.1.set (s128.2.2).toNat (s128.1.tmod x231.Levels)))), (6, .d (cI.enc s128.2.2))] (by kernel_rfl) <|
    xbb <| kpN [(0, .d ((cLs (cXVariable cS cI) rfl).enc v0)), (1, .d (cI.enc (s128.1.tdiv x231.Levels))), (5, .d ((cLo cI).enc (s128.2.1.set (s128.2.2).toNat (s128.1.tmod x231.Levels)))), (6, .d (cI.enc s128.2.2))] (by kernel_rfl) <| xn <| reg_s <| st rfl <| mvd rfl rfl <| ckI_k h fun i240 h => st rfl <| b_sub (k := .i64) rfl rfl i240 <| x_asg (ss rfl rfl) <| seqN [(0, .d ((cLs (cXVariable cS cI) rfl).enc v0)), (1, .d (cI.enc (s128.1.tdiv x231.Levels))), (5, .d ((cLo cI).enc (s128.2.1.set (s128.2.2).toNat (s128.1.tmod x231.Levels)))), (6, .d (cI.enc (s128.2.2 - (1 : Int))))] (by kernel_rfl) <|
    xn <| hn204 ((s128.1.tdiv x231.Levels), (s128.2.1.set (s128.2.2).toNat (s128.1.tmod x231.Levels)), (s128.2.2 - (1 : Int))) h)
    (fun b207 h => wpC_exit <| xt <| xt <| xt <| xb <| kpN [(5, .d ((cLo cI).enc s128.2.1))] (by kernel_rfl) <| xn <| wpC_seq <| reg_s <| st rfl <| mvo rfl rfl <| x_asg (sr rfl rfl) <| seqN [(4, .d ((cLo cI).enc s128.2.1))] (by kernel_rfl) <|
    xn <| wpC_ret <| re <| fin h (r1 (so rfl rfl) <| r0) rfl)

def rs_impl_fails (r : Bool) : List D := [cB.enc r]
def m74 : MC := .seq (.reg [⟨some 2, .box (.t 0), none⟩,
    ⟨some 4, .asg (.c (.bool false)), none⟩] [1, 2])
  (.seq (.kp [] (.seq (.reg [⟨some 7, .mv (.t 1), none⟩,
    ⟨some 8, .len false (.t 7), none⟩,
    ⟨some 9, .mv (.c (.int .i64 0)), none⟩] [1, 2, 7, 8, 9])
  (.blk 0 (.loop (.seq (.reg [⟨some 10, .bin .lss (.t 9) (.t 8), none⟩] [1, 2, 7, 8, 9, 10])
  (.seq (.kp [1, 2, 7, 8, 9] (.cond (.t 10) (.skip) (.exit 0)))
  (.seq (.kp [1, 2, 7, 8, 9] (.blk 1 (.seq (.reg [⟨some 11, .mv (.t 9), none⟩,
    ⟨some 12, .ia 7 (.t 9) 1, none⟩,
    ⟨some 13, .ld 12 1 false, none⟩,
    ⟨some 5, .asg (.t 11), none⟩,
    ⟨some 6, .asg (.t 13), none⟩] [1, 2, 5, 6, 7, 8, 9])
  (.seq (.reg [⟨some 14, .fa 2 0 0, none⟩,
    ⟨some 15, .ld 14 1 false, none⟩,
    ⟨some 16, .mv (.t 5), none⟩,
    ⟨some 17, .ia 15 (.t 16) 1, none⟩,
    ⟨some 18, .ld 17 1 false, none⟩,
    ⟨some 19, .mv (.t 6), none⟩,
    ⟨some 20, .bin .shr (.t 18) (.t 19), none⟩,
    ⟨some 21, .bin .and (.t 20) (.c (.int .i64 1)), none⟩,
    ⟨some 22, .bin .eql (.t 21) (.c (.int .i64 0)), none⟩] [1, 2, 7, 8, 9, 22])
  (.cond (.t 22) (.seq (.reg [⟨some 4, .asg (.c (.bool false)), none⟩] [4])
  (.ret)) (.skip))))))
  (.reg [⟨some 23, .bin .add (.t 9) (.c (.int .i64 1)), none⟩,
    ⟨some 9, .mv (.t 23), none⟩] [1, 2, 7, 8, 9]))))))))
  (.seq (.reg [⟨some 4, .asg (.c (.bool true)), none⟩] [4])
  (.ret)))
theorem con_impl_fails {v0 : XEdit} {v1 : (List Int)} {r : Bool} (h : sh_impl_fails v0 v1 = some r) : Con Try.prog 74 [(cXEdit (cLs cI rfl)).enc v0, (cLs cI rfl).enc v1] [] (rs_impl_fails r) := by
  delta sh_impl_fails at h
  refine top (out := none) (f := Try.f74) (m := m74) (rs := [.t 4]) (by kernel_rfl) rfl (by kernel_rfl) (by kernel_rfl) (by kernel_rfl) (by kernel_rfl) (by kernel_rfl) ?_
  exact
   ini [(0, .d ((cXEdit (cLs cI rfl)).enc v0)), (1, .d ((cLs cI rfl).enc v1))] rfl <| wpC_seq <| reg_s <| x_box (ss rfl rfl) <| x_asg (sc cB false rfl) <| seqN [(1, .d ((cLs cI rfl).enc v1)), (2, .box ((cXEdit (cLs cI rfl)).enc v0))] (by kernel_rfl) <|
    xn <| wpC_seq <| wpC_kp <| wpC_seq <| reg_s <| st rfl <| mvd rfl rfl <| stw rfl <| lens rfl fun l80 => st rfl <| mvc cI (0 : Int) rfl <| seqN [(1, .d ((cLs cI rfl).enc v1)), (2, .box ((cXEdit (cLs cI rfl)).enc v0)), (7, .d ((cLs cI rfl).enc v1)), (8, .d (cI.enc (v1.length : Int))), (9, .d (cI.enc (0 : Int)))] (by kernel_rfl) <|
    xn <| wpC_blk <| lpR (fun (k82 : Nat) (s81 : Unit) => [(1, .d ((cLs cI rfl).enc v1)), (2, .box ((cXEdit (cLs cI rfl)).enc v0)), (7, .d ((cLs cI rfl).enc v1)), (8, .d (cI.enc (v1.length : Int))), (9, .d (cI.enc (k82 : Int)))]) () rfl h
    (fun G122 s81 h => wpC_seq <| reg_s <| st rfl <| b_lss (k := .i64) rfl rfl <| seqN [(1, .d ((cLs cI rfl).enc v1)), (2, .box ((cXEdit (cLs cI rfl)).enc v0)), (7, .d ((cLs cI rfl).enc v1)), (8, .d (cI.enc (v1.length : Int))), (9, .d (cI.enc (v1.length : Int))), (10, .d (cB.enc (decide ((v1.length : Int) < (v1.length : Int)))))] (by kernel_rfl) <|
    xn <| wpC_seq <| wpC_kp <| cnd0 rfl (dlf _) <| wpC_exit <| xt <| xt <| xt <| xb <| kpN [] (by kernel_rfl) <| xn <| wpC_seq <| reg_s <| x_asg (sc cB true rfl) <| seqN [(4, .d (cB.enc true))] (by kernel_rfl) <|
    xn <| wpC_ret <| re <| fin h (r1 (ss rfl rfl) <| r0) rfl)
    (fun G122 nx120 k82 s81 x83 hk84 hx85 hn121 h => wpC_seq <| reg_s <| st rfl <| b_lss (k := .i64) rfl rfl <| seqN [(1, .d ((cLs cI rfl).enc v1)), (2, .box ((cXEdit (cLs cI rfl)).enc v0)), (7, .d ((cLs cI rfl).enc v1)), (8, .d (cI.enc (v1.length : Int))), (9, .d (cI.enc (k82 : Int))), (10, .d (cB.enc (decide ((k82 : Int) < (v1.length : Int)))))] (by kernel_rfl) <|
    xn <| wpC_seq <| wpC_kp <| cnd1 rfl (dlt hk84) <| wpC_skip <| kpN [(1, .d ((cLs cI rfl).enc v1)), (2, .box ((cXEdit (cLs cI rfl)).enc v0)), (7, .d ((cLs cI rfl).enc v1)), (8, .d (cI.enc (v1.length : Int))), (9, .d (cI.enc (k82 : Int)))] (by kernel_rfl) <| xn <| wpC_seq <| wpC_kp <| wpC_blk <| wpC_seq <| reg_s <| st rfl <| mvd rfl rfl <| st rfl <| ias rfl rfl (Int.natCast_nonneg _) hx85 rfl <| st rfl <| ldi rfl rfl rfl rfl <| x_asg (ss rfl rfl) <| x_asg (ss rfl rfl) <| seqN [(1, .d ((cLs cI rfl).enc v1)), (2, .box ((cXEdit (cLs cI rfl)).enc v0)), (5, .d (cI.enc (k82 : Int))), (6, .d (cI.enc x83)), (7, .d ((cLs cI rfl).enc v1)), (8, .d (cI.enc (v1.length : Int))), (9, .d (cI.enc (k82 : Int)))] (by kernel_rfl) <|
    xn <| wpC_seq <| reg_s <| st rfl <| fab rfl rfl rfl rfl <| st rfl <| lda rfl rfl rfl rfl rfl rfl <| st rfl <| mvd rfl rfl <| getO_k h fun x148 i149 g150 h => st rfl <| ias rfl rfl i149 g150 rfl <| st rfl <| ldi rfl rfl rfl rfl <| st rfl <| mvd rfl rfl <| ck_k h fun i151 h => st rfl <| b_shr (k := .i64) (k' := .i64) rfl rfl i151 rfl <| ck_k h fun i152 h => ckK_k h fun i153 h => ck_k h fun i154 h => ckK_k h fun i155 h => st rfl <| b_and (k := .i64) rfl rfl ⟨i152, i153⟩ ⟨i154, i155⟩ <| st rfl <| b_eql (k := .i64) rfl rfl <| seqN [(1, .d ((cLs cI rfl).enc v1)), (2, .box ((cXEdit (cLs cI rfl)).enc v0)), (7, .d ((cLs cI rfl).enc v1)), (8, .d (cI.enc (v1.length : Int))), (9, .d (cI.enc (k82 : Int))), (22, .d (cB.enc (decide ((((x148 / 2 ^ (x83).toNat).toNat &&& (1 : Int).toNat : Nat) : Int) = (0 : Int)))))] (by kernel_rfl) <|
    xn <| cnd rfl h (fun b156 h => wpC_seq <| reg_s <| x_asg (sc cB false rfl) <| seqN [(4, .d (cB.enc false))] (by kernel_rfl) <|
    xn <| wpC_ret <| rb <| rt <| rt <| rt <| rb <| rt <| rt <| re <| fin h (r1 (ss rfl rfl) <| r0) rfl)
    (fun b156 h => wpC_skip <| xbb <| kpN [(1, .d ((cLs cI rfl).enc v1)), (2, .box ((cXEdit (cLs cI rfl)).enc v0)), (7, .d ((cLs cI rfl).enc v1)), (8, .d (cI.enc (v1.length : Int))), (9, .d (cI.enc (k82 : Int)))] (by kernel_rfl) <| xn <| reg_s <| st rfl <| b_inc rfl rfl l80 hk84 <| st rfl <| mvd rfl rfl <| seqN [(1, .d ((cLs cI rfl).enc v1)), (2, .box ((cXEdit (cLs cI rfl)).enc v0)), (7, .d ((cLs cI rfl).enc v1)), (8, .d (cI.enc (v1.length : Int))), (9, .d (cI.enc ((k82 + 1 : Nat) : Int)))] (by kernel_rfl) <|
    xn <| hn121 () h))

def rs_impl_failsOne (r : Bool) : List D := [cB.enc r]
def m75 : MC := .seq (.reg [⟨some 4, .asg (.c (.bool false)), none⟩] [0, 1])
  (.seq (.kp [] (.seq (.reg [⟨some 7, .mv (.t 0), none⟩,
    ⟨some 8, .len false (.t 7), none⟩,
    ⟨some 9, .mv (.c (.int .i64 0)), none⟩] [0, 1, 7, 8, 9])
  (.blk 0 (.loop (.seq (.reg [⟨some 10, .bin .lss (.t 9) (.t 8), none⟩] [0, 1, 7, 8, 9, 10])
  (.seq (.kp [0, 1, 7, 8, 9] (.cond (.t 10) (.skip) (.exit 0)))
  (.seq (.kp [0, 1, 7, 8, 9] (.blk 1 (.seq (.reg [⟨some 11, .ia 7 (.t 9) 1, none⟩,
    ⟨some 12, .ld 11 1 true, none⟩,
    ⟨some 6, .alloc (.agg [.slice true []]), none⟩,
    ⟨none, .st 6 (.t 12) 1, none⟩] [0, 1, 6, 7, 8, 9])
  (.seq (.reg [⟨some 13, .ld 6 1 true, none⟩,
    ⟨some 14, .mv (.t 1), none⟩,
    ⟨some 15, .call 74 [(.t 13), (.t 14)], none⟩] [0, 1, 7, 8, 9, 15])
  (.cond (.t 15) (.seq (.reg [⟨some 4, .asg (.c (.bool true)), none⟩] [4])
  (.ret)) (.skip))))))
  (.reg [⟨some 16, .bin .add (.t 9) (.c (.int .i64 1)), none⟩,
    ⟨some 9, .mv (.t 16), none⟩] [0, 1, 7, 8, 9]))))))))
  (.seq (.reg [⟨some 4, .asg (.c (.bool false)), none⟩] [4])
  (.ret)))
theorem con_impl_failsOne {v0 : (List XEdit)} {v1 : (List Int)} {r : Bool} (h : sh_impl_failsOne v0 v1 = some r) : Con Try.prog 75 [(cLs (cXEdit (cLs cI rfl)) rfl).enc v0, (cLs cI rfl).enc v1] [] (rs_impl_failsOne r) := by
  delta sh_impl_failsOne at h
  refine top (out := none) (f := Try.f75) (m := m75) (rs := [.t 4]) (by kernel_rfl) rfl (by kernel_rfl) (by kernel_rfl) (by kernel_rfl) (by kernel_rfl) (by kernel_rfl) ?_
  exact
   ini [(0, .d ((cLs (cXEdit (cLs cI rfl)) rfl).enc v0)), (1, .d ((cLs cI rfl).enc v1))] rfl <| wpC_seq <| reg_s <| x_asg (sc cB false rfl) <| seqN [(0, .d ((cLs (cXEdit (cLs cI rfl)) rfl).enc v0)), (1, .d ((cLs cI rfl).enc v1))] (by kernel_rfl) <|
    xn <| wpC_seq <| wpC_kp <| wpC_seq <| reg_s <| st rfl <| mvd rfl rfl <| stw rfl <| lens rfl fun l32 => st rfl <| mvc cI (0 : Int) rfl <| seqN [(0, .d ((cLs (cXEdit (cLs cI rfl)) rfl).enc v0)), (1, .d ((cLs cI rfl).enc v1)), (7, .d ((cLs (cXEdit (cLs cI rfl)) rfl).enc v0)), (8, .d (cI.enc (v0.length : Int))), (9, .d (cI.enc (0 : Int)))] (by kernel_rfl) <|
    xn <| wpC_blk <| lpR (fun (k34 : Nat) (s33 : Unit) => [(0, .d ((cLs (cXEdit (cLs cI rfl)) rfl).enc v0)), (1, .d ((cLs cI rfl).enc v1)), (7, .d ((cLs (cXEdit (cLs cI rfl)) rfl).enc v0)), (8, .d (cI.enc (v0.length : Int))), (9, .d (cI.enc (k34 : Int)))]) () rfl h
    (fun G50 s33 h => wpC_seq <| reg_s <| st rfl <| b_lss (k := .i64) rfl rfl <| seqN [(0, .d ((cLs (cXEdit (cLs cI rfl)) rfl).enc v0)), (1, .d ((cLs cI rfl).enc v1)), (7, .d ((cLs (cXEdit (cLs cI rfl)) rfl).enc v0)), (8, .d (cI.enc (v0.length : Int))), (9, .d (cI.enc (v0.length : Int))), (10, .d (cB.enc (decide ((v0.length : Int) < (v0.length : Int)))))] (by kernel_rfl) <|
    xn <| wpC_seq <| wpC_kp <| cnd0 rfl (dlf _) <| wpC_exit <| xt <| xt <| xt <| xb <| kpN [] (by kernel_rfl) <| xn <| wpC_seq <| reg_s <| x_asg (sc cB false rfl) <| seqN [(4, .d (cB.enc false))] (by kernel_rfl) <|
    xn <| wpC_ret <| re <| fin h (r1 (ss rfl rfl) <| r0) rfl)
    (fun G50 nx48 k34 s33 x35 hk36 hx37 hn49 h => wpC_seq <| reg_s <| st rfl <| b_lss (k := .i64) rfl rfl <| seqN [(0, .d ((cLs (cXEdit (cLs cI rfl)) rfl).enc v0)), (1, .d ((cLs cI rfl).enc v1)), (7, .d ((cLs (cXEdit (cLs cI rfl)) rfl).enc v0)), (8, .d (cI.enc (v0.length : Int))), (9, .d (cI.enc (k34 : Int))), (10, .d (cB.enc (decide ((k34 : Int) < (v0.length : Int)))))] (by kernel_rfl) <|
    xn <| wpC_seq <| wpC_kp <| cnd1 rfl (dlt hk36) <| wpC_skip <| kpN [(0, .d ((cLs (cXEdit (cLs cI rfl)) rfl).enc v0)), (1, .d ((cLs cI rfl).enc v1)), (7, .d ((cLs (cXEdit (cLs cI rfl)) rfl).enc v0)), (8, .d (cI.enc (v0.length : Int))), (9, .d (cI.enc (k34 : Int)))] (by kernel_rfl) <| xn <| wpC_seq <| wpC_kp <| wpC_blk <| wpC_seq <| reg_s <| st rfl <| ias rfl rfl (Int.natCast_nonneg _) hx37 rfl <| st rfl <| ldi rfl rfl rfl rfl <| x_all (cXEdit (cLo cI)) (⟨([] : List Int)⟩ : XEdit) rfl <| x_stb (ss rfl rfl) rfl (Cd.h_sz _ _) rfl <| seqN [(0, .d ((cLs (cXEdit (cLs cI rfl)) rfl).enc v0)), (1, .d ((cLs cI rfl).enc v1)), (6, .box ((cXEdit (cLs cI rfl)).enc x35)), (7, .d ((cLs (cXEdit (cLs cI rfl)) rfl).enc v0)), (8, .d (cI.enc (v0.length : Int))), (9, .d (cI.enc (k34 : Int)))] (by kernel_rfl) <|
    xn <| wpC_seq <| reg_s <| st rfl <| ldb rfl rfl rfl rfl <| st rfl <| mvd rfl rfl <| bnd h fun x58 e59 h => st rfl <| o_call (a1 (c := (cXEdit (cLs cI rfl))) (tXEdit (tLs tK)) rfl (a1 (c := (cLs cI rfl)) (tLs tK) rfl a0)) (con_impl_fails e59) (.inl (so1 sB so0)) <| seqN [(0, .d ((cLs (cXEdit (cLs cI rfl)) rfl).enc v0)), (1, .d ((cLs cI rfl).enc v1)), (7, .d ((cLs (cXEdit (cLs cI rfl)) rfl).enc v0)), (8, .d (cI.enc (v0.length : Int))), (9, .d (cI.enc (k34 : Int))), (15, .d (cB.enc x58))] (by kernel_rfl) <|
    xn <| cnd rfl h (fun b60 h => wpC_seq <| reg_s <| x_asg (sc cB true rfl) <| seqN [(4, .d (cB.enc true))] (by kernel_rfl) <|
    xn <| wpC_ret <| rb <| rt <| rt <| rt <| rb <| rt <| rt <| re <| fin h (r1 (ss rfl rfl) <| r0) rfl)
    (fun b60 h => wpC_skip <| xbb <| kpN [(0, .d ((cLs (cXEdit (cLs cI rfl)) rfl).enc v0)), (1, .d ((cLs cI rfl).enc v1)), (7, .d ((cLs (cXEdit (cLs cI rfl)) rfl).enc v0)), (8, .d (cI.enc (v0.length : Int))), (9, .d (cI.enc (k34 : Int)))] (by kernel_rfl) <| xn <| reg_s <| st rfl <| b_inc rfl rfl l32 hk36 <| st rfl <| mvd rfl rfl <| seqN [(0, .d ((cLs (cXEdit (cLs cI rfl)) rfl).enc v0)), (1, .d ((cLs cI rfl).enc v1)), (7, .d ((cLs (cXEdit (cLs cI rfl)) rfl).enc v0)), (8, .d (cI.enc (v0.length : Int))), (9, .d (cI.enc ((k34 + 1 : Nat) : Int)))] (by kernel_rfl) <|
    xn <| hn49 () h))

def rs_laws_eqEditS (r : Bool) : List D := [cB.enc r]
def m29 : MC := .seq (.reg [⟨some 4, .asg (.c (.bool false)), none⟩] [0, 1])
  (.seq (.kp [0, 1] (.seq (.reg [⟨some 6, .mv (.t 0), none⟩,
    ⟨some 7, .len false (.t 6), none⟩,
    ⟨some 8, .mv (.t 1), none⟩,
    ⟨some 9, .len false (.t 8), none⟩,
    ⟨some 10, .bin .neq (.t 7) (.t 9), none⟩] [0, 1, 10])
  (.cond (.t 10) (.seq (.reg [⟨some 4, .asg (.c (.bool false)), none⟩] [4])
  (.ret)) (.skip))))
  (.seq (.kp [] (.seq (.reg [⟨some 5, .asg (.c (.int .i64 0)), none⟩] [0, 1, 5])
  (.blk 0 (.loop (.seq (.kp [0, 1, 5] (.seq (.reg [⟨some 11, .mv (.t 5), none⟩,
    ⟨some 12, .mv (.t 0), none⟩,
    ⟨some 13, .len false (.t 12), none⟩,
    ⟨some 14, .bin .lss (.t 11) (.t 13), none⟩] [0, 1, 5, 14])
  (.cond (.t 14) (.skip) (.exit 0))))
  (.seq (.kp [0, 1, 5] (.blk 1 (.seq (.drw [⟨0, ⟨some 17, .mv (.t 0), none⟩, [18, 19, 20, 21, 22, 23, 24, 25, 26]⟩,
    ⟨1, ⟨some 18, .mv (.t 5), none⟩, [17, 19, 20, 21, 22, 23, 24, 25, 26]⟩,
    ⟨2, ⟨some 19, .ia 17 (.t 18) 1, none⟩, [20, 21, 22, 23, 24, 25, 26]⟩,
    ⟨3, ⟨some 20, .ld 19 1 true, none⟩, [21, 22, 23, 24, 25, 26]⟩,
    ⟨4, ⟨some 21, .mv (.t 1), none⟩, [17, 18, 19, 20, 22, 23, 24, 25, 26]⟩,
    ⟨5, ⟨some 22, .mv (.t 5), none⟩, [17, 18, 19, 20, 21, 23, 24, 25, 26]⟩,
    ⟨6, ⟨some 23, .ia 21 (.t 22) 1, none⟩, [17, 18, 19, 20, 24, 25, 26]⟩,
    ⟨7, ⟨some 24, .ld 23 1 true, none⟩, [17, 18, 19, 20, 25, 26]⟩,
    ⟨8, ⟨some 25, .call 20 [(.t 20), (.t 24)], none⟩, [26]⟩,
    ⟨9, ⟨some 26, .nt (.t 25), none⟩, []⟩]
    [] [0, 1, 5, 26])
  (.cond (.t 26) (.seq (.reg [⟨some 4, .asg (.c (.bool false)), none⟩] [4])
  (.ret)) (.skip)))))
  (.reg [⟨some 15, .mv (.t 5), none⟩,
    ⟨some 16, .bin .add (.t 15) (.c (.int .i64 1)), none⟩,
    ⟨some 5, .asg (.t 16), none⟩] [0, 1, 5])))))))
  (.seq (.reg [⟨some 4, .asg (.c (.bool true)), none⟩] [4])
  (.ret))))
theorem con_laws_eqEditS {v0 : (List XEdit)} {v1 : (List XEdit)} {r : Bool} (h : sh_laws_eqEditS v0 v1 = some r) : Con Try.prog 29 [(cLs (cXEdit (cLs cI rfl)) rfl).enc v0, (cLs (cXEdit (cLs cI rfl)) rfl).enc v1] [] (rs_laws_eqEditS r) := by
  delta sh_laws_eqEditS at h
  refine top (out := none) (f := Try.f29) (m := m29) (rs := [.t 4]) (by kernel_rfl) rfl (by kernel_rfl) (by kernel_rfl) (by kernel_rfl) (by kernel_rfl) (by kernel_rfl) ?_
  exact
   ini [(0, .d ((cLs (cXEdit (cLs cI rfl)) rfl).enc v0)), (1, .d ((cLs (cXEdit (cLs cI rfl)) rfl).enc v1))] rfl <| wpC_seq <| reg_s <| x_asg (sc cB false rfl) <| seqN [(0, .d ((cLs (cXEdit (cLs cI rfl)) rfl).enc v0)), (1, .d ((cLs (cXEdit (cLs cI rfl)) rfl).enc v1))] (by kernel_rfl) <|
    xn <| wpC_seq <| wpC_kp <| wpC_seq <| reg_s <| st rfl <| mvd rfl rfl <| stw rfl <| lens rfl fun l8 => st rfl <| mvd rfl rfl <| stw rfl <| lens rfl fun l9 => st rfl <| b_neq (k := .i64) rfl rfl <| seqN [(0, .d ((cLs (cXEdit (cLs cI rfl)) rfl).enc v0)), (1, .d ((cLs (cXEdit (cLs cI rfl)) rfl).enc v1)), (10, .d (cB.enc (decide ((v0.length : Int) ≠ (v1.length : Int)))))] (by kernel_rfl) <|
    xn <| cnd rfl h (fun b10 h => wpC_seq <| reg_s <| x_asg (sc cB false rfl) <| seqN [(4, .d (cB.enc false))] (by kernel_rfl) <|
    xn <| wpC_ret <| rt <| rt <| re <| fin h (r1 (ss rfl rfl) <| r0) rfl)
    (fun b10 h => wpC_skip <| kpN [(0, .d ((cLs (cXEdit (cLs cI rfl)) rfl).enc v0)), (1, .d ((cLs (cXEdit (cLs cI rfl)) rfl).enc v1))] (by kernel_rfl) <| xn <| wpC_seq <| wpC_kp <| wpC_seq <| reg_s <| x_asg (sc cI (0 : Int) rfl) <| seqN [(0, .d ((cLs (cXEdit (cLs cI rfl)) rfl).enc v0)), (1, .d ((cLs (cXEdit (cLs cI rfl)) rfl).enc v1)), (5, .d (cI.enc (0 : Int)))] (by kernel_rfl) <|
    xn <| wpC_blk <| lpF (fun (s142 : Int) => [(0, .d ((cLs (cXEdit (cLs cI rfl)) rfl).enc v0)), (1, .d ((cLs (cXEdit (cLs cI rfl)) rfl).enc v1)), (5, .d (cI.enc s142))]) (0 : Int) rfl h
    fun G231 nx229 s142 hn230 h => wpC_seq <| wpC_kp <| wpC_seq <| reg_s <| st rfl <| mvd rfl rfl <| st rfl <| mvd rfl rfl <| stw rfl <| lens rfl fun l236 => st rfl <| b_lss (k := .i64) rfl rfl <| seqN [(0, .d ((cLs (cXEdit (cLs cI rfl)) rfl).enc v0)), (1, .d ((cLs (cXEdit (cLs cI rfl)) rfl).enc v1)), (5, .d (cI.enc s142)), (14, .d (cB.enc (decide (s142 < (v0.length : Int)))))] (by kernel_rfl) <|
    xn <| cnd rfl h (fun b237 h => wpC_skip <| kpN [(0, .d ((cLs (cXEdit (cLs cI rfl)) rfl).enc v0)), (1, .d ((cLs (cXEdit (cLs cI rfl)) rfl).enc v1)), (5, .d (cI.enc s142))] (by kernel_rfl) <| xn <| wpC_seq <| wpC_kp <| wpC_blk <| wpC_seq <| drw_s <| pst rfl <| mvd rfl rfl ⟨rfl, pst rfl <| mvd rfl rfl ⟨rfl, getO_kp h fun x263 i264 g265 h => pst rfl <| ias rfl rfl i264 g265 rfl ⟨rfl, pst rfl <| ldi rfl rfl rfl rfl ⟨rfl, pst rfl <| mvd rfl rfl ⟨rfl, pst rfl <| mvd rfl rfl ⟨rfl, getO_kp h fun x266 i267 g268 h => pst rfl <| ias rfl rfl i267 g268 rfl ⟨rfl, pst rfl <| ldi rfl rfl rfl rfl ⟨rfl, bndp h fun x269 e270 h => pst rfl <| o_call (a1 (c := (cXEdit (cLs cI rfl))) (tXEdit (tLs tK)) rfl (a1 (c := (cXEdit (cLs cI rfl))) (tXEdit (tLs tK)) rfl a0)) (con_laws_eqEdit e270) (.inl (so1 sB so0)) ⟨rfl, pst rfl <| o_nt rfl ⟨rfl, preN <| seqN [(0, .d ((cLs (cXEdit (cLs cI rfl)) rfl).enc v0)), (1, .d ((cLs (cXEdit (cLs cI rfl)) rfl).enc v1)), (5, .d (cI.enc s142)), (26, .d (cB.enc (!x269)))] (by kernel_rfl) <|
    xn <| cnd rfl h (fun b271 h => wpC_seq <| reg_s <| x_asg (sc cB false rfl) <| seqN [(4, .d (cB.enc false))] (by kernel_rfl) <|
    xn <| wpC_ret <| rb <| rt <| rt <| rt <| rb <| rt <| rt <| re <| fin h (r1 (ss rfl rfl) <| r0) rfl)
    (fun b271 h => wpC_skip <| xbb <| kpN [(0, .d ((cLs (cXEdit (cLs cI rfl)) rfl).enc v0)), (1, .d ((cLs (cXEdit (cLs cI rfl)) rfl).enc v1)), (5, .d (cI.enc s142))] (by kernel_rfl) <| xn <| reg_s <| st rfl <| mvd rfl rfl <| ckI_k h fun i272 h => st rfl <| b_add (k := .i64) rfl rfl i272 <| x_asg (ss rfl rfl) <| seqN [(0, .d ((cLs (cXEdit (cLs cI rfl)) rfl).enc v0)), (1, .d ((cLs (cXEdit (cLs cI rfl)) rfl).enc v1)), (5, .d (cI.enc (s142 + (1 : Int))))] (by kernel_rfl) <|
    xn <| hn230 (s142 + (1 : Int)) h)⟩⟩⟩⟩⟩⟩⟩⟩⟩⟩)
    (fun b237 h => wpC_exit <| xt <| xt <| xt <| xb <| kpN [] (by kernel_rfl) <| xn <| wpC_seq <| reg_s <| x_asg (sc cB true rfl) <| seqN [(4, .d (cB.enc true))] (by kernel_rfl) <|
    xn <| wpC_ret <| re <| fin h (r1 (ss rfl rfl) <| r0) rfl))

def rs_spec_ePassing (r : (Int × (List Int))) : List D := [cI.enc r.1, (cLo cI).enc r.2]
def m82 : MC := .seq (.reg [⟨some 4, .asg (.c (.int .i64 0)), none⟩,
    ⟨some 5, .asg (.c (.slice true [])), none⟩] [0, 1])
  (.seq (.reg [⟨some 6, .asg (.c (.int .i64 0)), none⟩] [0, 1, 6])
  (.seq (.reg [⟨some 7, .asg (.c (.slice true [])), none⟩] [0, 1, 6, 7])
  (.seq (.kp [6, 7] (.seq (.reg [⟨some 8, .asg (.c (.int .i64 0)), none⟩] [0, 1, 6, 7, 8])
  (.blk 0 (.loop (.seq (.kp [0, 1, 6, 7, 8] (.seq (.reg [⟨some 10, .mv (.t 8), none⟩,
    ⟨some 11, .mv (.t 0), none⟩,
    ⟨some 12, .call 85 [(.t 11)], none⟩,
    ⟨some 13, .bin .lss (.t 10) (.t 12), none⟩] [0, 1, 6, 7, 8, 13])
  (.cond (.t 13) (.skip) (.exit 0))))
  (.seq (.kp [0, 1, 6, 7, 8] (.blk 1 (.seq (.reg [⟨some 16, .mv (.t 0), none⟩,
    ⟨some 17, .mv (.t 8), none⟩,
    ⟨some 18, .call 110 [(.t 16), (.t 17)], none⟩,
    ⟨some 9, .asg (.t 18), none⟩] [0, 1, 6, 7, 8, 9])
  (.seq (.reg [⟨some 19, .mv (.t 1), none⟩,
    ⟨some 20, .mv (.t 9), none⟩,
    ⟨some 21, .call 90 [(.t 19), (.t 20)], none⟩,
    ⟨some 22, .len false (.t 21), none⟩,
    ⟨some 23, .bin .eql (.t 22) (.c (.int .i64 0)), none⟩] [0, 1, 6, 7, 8, 9, 23])
  (.cond (.t 23) (.seq (.kp [0, 1, 6, 7, 8] (.seq (.reg [⟨some 24, .mv (.t 6), none⟩,
    ⟨some 25, .bin .eql (.t 24) (.c (.int .i64 0)), none⟩] [0, 1, 6, 7, 8, 9, 25])
  (.cond (.t 25) (.reg [⟨some 26, .mv (.t 9), none⟩,
    ⟨some 7, .asg (.t 26), none⟩] [0, 1, 6, 7, 8]) (.skip))))
  (.reg [⟨some 27, .mv (.t 6), none⟩,
    ⟨some 28, .bin .add (.t 27) (.c (.int .i64 1)), none⟩,
    ⟨some 6, .asg (.t 28), none⟩] [0, 1, 6, 7, 8])) (.skip))))))
  (.reg [⟨some 14, .mv (.t 8), none⟩,
    ⟨some 15, .bin .add (.t 14) (.c (.int .i64 1)), none⟩,
    ⟨some 8, .asg (.t 15), none⟩] [0, 1, 6, 7, 8])))))))
  (.seq (.reg [⟨some 29, .mv (.t 6), none⟩,
    ⟨some 30, .mv (.t 7), none⟩,
    ⟨some 4, .asg (.t 29), none⟩,
    ⟨some 5, .asg (.t 30), none⟩] [4, 5])
  (.ret)))))
theorem con_spec_ePassing {v0 : (List XVariable)} {v1 : (List XEdit)} {r : (Int × (List Int))} (h : sh_spec_ePassing v0 v1 = some r) : Con Try.prog 82 [(cLs (cXVariable cS cI) rfl).enc v0, (cLs (cXEdit (cLs cI rfl)) rfl).enc v1] [] (rs_spec_ePassing r) := by
  delta sh_spec_ePassing at h
  refine top (out := none) (f := Try.f82) (m := m82) (rs := [.t 4, .t 5]) (by kernel_rfl) rfl (by kernel_rfl) (by kernel_rfl) (by kernel_rfl) (by kernel_rfl) (by kernel_rfl) ?_
  exact
   ini [(0, .d ((cLs (cXVariable cS cI) rfl).enc v0)), (1, .d ((cLs (cXEdit (cLs cI rfl)) rfl).enc v1))] rfl <| wpC_seq <| reg_s <| x_asg (sc cI (0 : Int) rfl) <| x_asg (sc (cLo cI) ([] : List Int) rfl) <| seqN [(0, .d ((cLs (cXVariable cS cI) rfl).enc v0)), (1, .d ((cLs (cXEdit (cLs cI rfl)) rfl).enc v1))] (by kernel_rfl) <|
    xn <| wpC_seq <| reg_s <| x_asg (sc cI (0 : Int) rfl) <| seqN [(0, .d ((cLs (cXVariable cS cI) rfl).enc v0)), (1, .d ((cLs (cXEdit (cLs cI rfl)) rfl).enc v1)), (6, .d (cI.enc (0 : Int)))] (by kernel_rfl) <|
    xn <| wpC_seq <| reg_s <| x_asg (sc (cLo cI) ([] : List Int) rfl) <| seqN [(0, .d ((cLs (cXVariable cS cI) rfl).enc v0)), (1, .d ((cLs (cXEdit (cLs cI rfl)) rfl).enc v1)), (6, .d (cI.enc (0 : Int))), (7, .d ((cLo cI).enc ([] : List Int)))] (by kernel_rfl) <|
    xn <| wpC_seq <| wpC_kp <| wpC_seq <| reg_s <| x_asg (sc cI (0 : Int) rfl) <| seqN [(0, .d ((cLs (cXVariable cS cI) rfl).enc v0)), (1, .d ((cLs (cXEdit (cLs cI rfl)) rfl).enc v1)), (6, .d (cI.enc (0 : Int))), (7, .d ((cLo cI).enc ([] : List Int))), (8, .d (cI.enc (0 : Int)))] (by kernel_rfl) <|
    xn <| wpC_blk <| lpF (fun (s138 : (Int × (List Int) × Int)) => [(0, .d ((cLs (cXVariable cS cI) rfl).enc v0)), (1, .d ((cLs (cXEdit (cLs cI rfl)) rfl).enc v1)), (6, .d (cI.enc s138.1)), (7, .d ((cLo cI).enc s138.2.1)), (8, .d (cI.enc s138.2.2))]) ((0 : Int), ([] : List Int), (0 : Int)) rfl h
    fun G231 nx229 s138 hn230 h => wpC_seq <| wpC_kp <| wpC_seq <| reg_s <| st rfl <| mvd rfl rfl <| st rfl <| mvd rfl rfl <| bnd h fun x239 e240 h => st rfl <| o_call (a1 (c := (cLs (cXVariable cS cI) rfl)) (tLs (tXVariable tS tK)) rfl a0) (con_spec_sCount e240) (.inl (so1 sK so0)) <| st rfl <| b_lss (k := .i64) rfl rfl <| seqN [(0, .d ((cLs (cXVariable cS cI) rfl).enc v0)), (1, .d ((cLs (cXEdit (cLs cI rfl)) rfl).enc v1)), (6, .d (cI.enc s138.1)), (7, .d ((cLo cI).enc s138.2.1)), (8, .d (cI.enc s138.2.2)), (13, .d (cB.enc (decide (s138.2.2 < x239))))] (by kernel_rfl) <|
    xn <| cnd rfl h (fun b241 h => wpC_skip <| kpN [(0, .d ((cLs (cXVariable cS cI) rfl).enc v0)), (1, .d ((cLs (cXEdit (cLs cI rfl)) rfl).enc v1)), (6, .d (cI.enc s138.1)), (7, .d ((cLo cI).enc s138.2.1)), (8, .d (cI.enc s138.2.2))] (by kernel_rfl) <| xn <| wpC_seq <| wpC_kp <| wpC_blk <| wpC_seq <| reg_s <| st rfl <| mvd rfl rfl <| st rfl <| mvd rfl rfl <| bnd h fun x259 e260 h => st rfl <| o_call (a1 (c := (cLs (cXVariable cS cI) rfl)) (tLs (tXVariable tS tK)) rfl (a1 (c := cI) tK rfl a0)) (con_spec_sAt e260) (.inl (so1 (sLo sK) so0)) <| x_asg (so rfl rfl) <| seqN [(0, .d ((cLs (cXVariable cS cI) rfl).enc v0)), (1, .d ((cLs (cXEdit (cLs cI rfl)) rfl).enc v1)), (6, .d (cI.enc s138.1)), (7, .d ((cLo cI).enc s138.2.1)), (8, .d (cI.enc s138.2.2)), (9, .d ((cLo cI).enc x259))] (by kernel_rfl) <|
    xn <| wpC_seq <| reg_s <| st rfl <| mvd rfl rfl <| st rfl <| mvo rfl rfl <| bnd h fun x264 e265 h => st rfl <| o_call (a1 (c := (cLs (cXEdit (cLs cI rfl)) rfl)) (tLs (tXEdit (tLs tK))) rfl (a1 (c := (cLo cI)) (tLo tK) rfl a0)) (con_spec_eFailed e265) (.inl (so1 (sLo sK) so0)) <| stw rfl <| leno rfl fun l266 => st rfl <| b_eql (k := .i64) rfl rfl <| seqN [(0, .d ((cLs (cXVariable cS cI) rfl).enc v0)), (1, .d ((cLs (cXEdit (cLs cI rfl)) rfl).enc v1)), (6, .d (cI.enc s138.1)), (7, .d ((cLo cI).enc s138.2.1)), (8, .d (cI.enc s138.2.2)), (9, .d ((cLo cI).enc x259)), (23, .d (cB.enc (decide ((x264.length : Int) = (0 : Int)))))] (by kernel_rfl) <|
    xn <| cnd rfl h (fun b267 h => wpC_seq <| wpC_kp <| wpC_seq <| reg_s <| st rfl <| mvd rfl rfl <| st rfl <| b_eql (k := .i64) rfl rfl <| seqN [(0, .d ((cLs (cXVariable cS cI) rfl).enc v0)), (1, .d ((cLs (cXEdit (cLs cI rfl)) rfl).enc v1)), (6, .d (cI.enc s138.1)), (7, .d ((cLo cI).enc s138.2.1)), (8, .d (cI.enc s138.2.2)), (9, .d ((cLo cI).enc x259)), (25, .d (cB.enc (decide (s138.1 = (0 : Int)))))] (by kernel_rfl) <|
    xn <| cnd rfl h (fun b269 h => reg_s <| st rfl <| mvo rfl rfl <| x_asg (sr rfl rfl) <| seqN [(0, .d ((cLs (cXVariable cS cI) rfl).enc v0)), (1, .d ((cLs (cXEdit (cLs cI rfl)) rfl).enc v1)), (6, .d (cI.enc s138.1)), (7, .d ((cLo cI).enc x259)), (8, .d (cI.enc s138.2.2))] (by kernel_rfl) <|
    kpN [(0, .d ((cLs (cXVariable cS cI) rfl).enc v0)), (1, .d ((cLs (cXEdit (cLs cI rfl)) rfl).enc v1)), (6, .d (cI.enc s138.1)), (7, .d ((cLo cI).enc x259)), (8, .d (cI.enc s138.2.2))] (by kernel_rfl) <| xn <| reg_s <| st rfl <| mvd rfl rfl <| ckI_k h fun i270 h => st rfl <| b_add (k := .i64) rfl rfl i270 <| x_asg (ss rfl rfl) <| seqN [(0, .d ((cLs (cXVariable cS cI) rfl).enc v0)), (1, .d ((cLs (cXEdit (cLs cI rfl)) rfl).enc v1)), (6, .d (cI.enc (s138.1 + (1 : Int)))), (7, .d ((cLo cI).enc x259)), (8, .d (cI.enc s138.2.2))] (by kernel_rfl) <|
    xbb <| kpN [(0, .d ((cLs (cXVariable cS cI) rfl).enc v0)), (1, .d ((cLs (cXEdit (cLs cI rfl)) rfl).enc v1)), (6, .d (cI.enc (s138.1 + (1 : Int)))), (7, .d ((cLo cI).enc x259)), (8, .d (cI.enc s138.2.2))] (by kernel_rfl) <| xn <| reg_s <| st rfl <| mvd rfl rfl <| ckI_k h fun i271 h => st rfl <| b_add (k := .i64) rfl rfl i271 <| x_asg (ss rfl rfl) <| seqN [(0, .d ((cLs (cXVariable cS cI) rfl).enc v0)), (1, .d ((cLs (cXEdit (cLs cI rfl)) rfl).enc v1)), (6, .d (cI.enc (s138.1 + (1 : Int)))), (7, .d ((cLo cI).enc x259)), (8, .d (cI.enc (s138.2.2 + (1 : Int))))] (by kernel_rfl) <|
    xn <| hn230 ((s138.1 + (1 : Int)), x259, (s138.2.2 + (1 : Int))) h)
    (fun b269 h => wpC_skip <| kpN [(0, .d ((cLs (cXVariable cS cI) rfl).enc v0)), (1, .d ((cLs (cXEdit (cLs cI rfl)) rfl).enc v1)), (6, .d (cI.enc s138.1)), (7, .d ((cLo cI).enc s138.2.1)), (8, .d (cI.enc s138.2.2))] (by kernel_rfl) <| xn <| reg_s <| st rfl <| mvd rfl rfl <| ckI_k h fun i272 h => st rfl <| b_add (k := .i64) rfl rfl i272 <| x_asg (ss rfl rfl) <| seqN [(0, .d ((cLs (cXVariable cS cI) rfl).enc v0)), (1, .d ((cLs (cXEdit (cLs cI rfl)) rfl).enc v1)), (6, .d (cI.enc (s138.1 + (1 : Int)))), (7, .d ((cLo cI).enc s138.2.1)), (8, .d (cI.enc s138.2.2))] (by kernel_rfl) <|
    xbb <| kpN [(0, .d ((cLs (cXVariable cS cI) rfl).enc v0)), (1, .d ((cLs (cXEdit (cLs cI rfl)) rfl).enc v1)), (6, .d (cI.enc (s138.1 + (1 : Int)))), (7, .d ((cLo cI).enc s138.2.1)), (8, .d (cI.enc s138.2.2))] (by kernel_rfl) <| xn <| reg_s <| st rfl <| mvd rfl rfl <| ckI_k h fun i273 h => st rfl <| b_add (k := .i64) rfl rfl i273 <| x_asg (ss rfl rfl) <| seqN [(0, .d ((cLs (cXVariable cS cI) rfl).enc v0)), (1, .d ((cLs (cXEdit (cLs cI rfl)) rfl).enc v1)), (6, .d (cI.enc (s138.1 + (1 : Int)))), (7, .d ((cLo cI).enc s138.2.1)), (8, .d (cI.enc (s138.2.2 + (1 : Int))))] (by kernel_rfl) <|
    xn <| hn230 ((s138.1 + (1 : Int)), s138.2.1, (s138.2.2 + (1 : Int))) h))
    (fun b267 h => wpC_skip <| xbb <| kpN [(0, .d ((cLs (cXVariable cS cI) rfl).enc v0)), (1, .d ((cLs (cXEdit (cLs cI rfl)) rfl).enc v1)), (6, .d (cI.enc s138.1)), (7, .d ((cLo cI).enc s138.2.1)), (8, .d (cI.enc s138.2.2))] (by kernel_rfl) <| xn <| reg_s <| st rfl <| mvd rfl rfl <| ckI_k h fun i274 h => st rfl <| b_add (k := .i64) rfl rfl i274 <| x_asg (ss rfl rfl) <| seqN [(0, .d ((cLs (cXVariable cS cI) rfl).enc v0)), (1, .d ((cLs (cXEdit (cLs cI rfl)) rfl).enc v1)), (6, .d (cI.enc s138.1)), (7, .d ((cLo cI).enc s138.2.1)), (8, .d (cI.enc (s138.2.2 + (1 : Int))))] (by kernel_rfl) <|
    xn <| hn230 (s138.1, s138.2.1, (s138.2.2 + (1 : Int))) h))
    (fun b241 h => wpC_exit <| xt <| xt <| xt <| xb <| kpN [(6, .d (cI.enc s138.1)), (7, .d ((cLo cI).enc s138.2.1))] (by kernel_rfl) <| xn <| wpC_seq <| reg_s <| st rfl <| mvd rfl rfl <| st rfl <| mvo rfl rfl <| x_asg (ss rfl rfl) <| x_asg (sr rfl rfl) <| seqN [(4, .d (cI.enc s138.1)), (5, .d ((cLo cI).enc s138.2.1))] (by kernel_rfl) <|
    xn <| wpC_ret <| re <| fin h (r1 (ss rfl rfl) <| r1 (so rfl rfl) <| r0) rfl)

def rs_spec_IsContradictory (r : (Bool × Bool)) : List D := [cB.enc r.1, cB.enc r.2]
def m32 : MC := .seq (.reg [⟨some 4, .asg (.c (.bool false)), none⟩,
    ⟨some 5, .asg (.c (.bool false)), none⟩] [0, 1])
  (.seq (.kp [0, 1] (.seq (.reg [⟨some 8, .mv (.t 0), none⟩,
    ⟨some 9, .mv (.t 1), none⟩,
    ⟨some 10, .call 59 [(.t 8), (.t 9)], none⟩,
    ⟨some 11, .nt (.t 10), none⟩] [0, 1, 11])
  (.cond (.t 11) (.seq (.reg [⟨some 4, .asg (.c (.bool false)), none⟩,
    ⟨some 5, .asg (.c (.bool false)), none⟩] [4, 5])
  (.ret)) (.skip))))
  (.seq (.reg [⟨some 13, .mv (.t 0), none⟩,
    ⟨some 14, .mv (.t 1), none⟩,
    ⟨some 15, .call 82 [(.t 13), (.t 14)], none⟩,
    ⟨some 12, .mvt 15, none⟩,
    ⟨some 16, .ext 12 0, none⟩,
    ⟨some 17, .ext 12 1, none⟩,
    ⟨some 6, .asg (.t 16), none⟩,
    ⟨some 7, .asg (.t 17), none⟩] [6])
  (.seq (.reg [⟨some 18, .mv (.t 6), none⟩,
    ⟨some 19, .bin .eql (.t 18) (.c (.int .i64 0)), none⟩,
    ⟨some 4, .asg (.t 19), none⟩,
    ⟨some 5, .asg (.c (.bool true)), none⟩] [4, 5])
  (.ret))))
theorem con_spec_IsContradictory {v0 : (List XVariable)} {v1 : (List XEdit)} {r : (Bool × Bool)} (h : sh_spec_IsContradictory v0 v1 = some r) : Con Try.prog 32 [(cLs (cXVariable cS cI) rfl).enc v0, (cLs (cXEdit (cLs cI rfl)) rfl).enc v1] [] (rs_spec_IsContradictory r) := by
  delta sh_spec_IsContradictory at h
  refine top (out := none) (f := Try.f32) (m := m32) (rs := [.t 4, .t 5]) (by kernel_rfl) rfl (by kernel_rfl) (by kernel_rfl) (by kernel_rfl) (by kernel_rfl) (by kernel_rfl) ?_
  exact
   ini [(0, .d ((cLs (cXVariable cS cI) rfl).enc v0)), (1, .d ((cLs (cXEdit (cLs cI rfl)) rfl).enc v1))] rfl <| wpC_seq <| reg_s <| x_asg (sc cB false rfl) <| x_asg (sc cB false rfl) <| seqN [(0, .d ((cLs (cXVariable cS cI) rfl).enc v0)), (1, .d ((cLs (cXEdit (cLs cI rfl)) rfl).enc v1))] (by kernel_rfl) <|
    xn <| wpC_seq <| wpC_kp <| wpC_seq <| reg_s <| st rfl <| mvd rfl rfl <| st rfl <| mvd rfl rfl <| bnd h fun x8 e9 h => st rfl <| o_call (a1 (c := (cLs (cXVariable cS cI) rfl)) (tLs (tXVariable tS tK)) rfl (a1 (c := (cLs (cXEdit (cLs cI rfl)) rfl)) (tLs (tXEdit (tLs tK))) rfl a0)) (con_spec_eSmall e9) (.inl (so1 sB so0)) <| st rfl <| o_nt rfl <| seqN [(0, .d ((cLs (cXVariable cS cI) rfl).enc v0)), (1, .d ((cLs (cXEdit (cLs cI rfl)) rfl).enc v1)), (11, .d (cB.enc (!x8)))] (by kernel_rfl) <|
    xn <| cnd rfl h (fun b10 h => wpC_seq <| reg_s <| x_asg (sc cB false rfl) <| x_asg (sc cB false rfl) <| seqN [(4, .d (cB.enc false)), (5, .d (cB.enc false))] (by kernel_rfl) <|
    xn <| wpC_ret <| rt <| rt <| re <| fin h (r1 (ss rfl rfl) <| r1 (ss rfl rfl) <| r0) rfl)
    (fun b10 h => wpC_skip <| kpN [(0, .d ((cLs (cXVariable cS cI) rfl).enc v0)), (1, .d ((cLs (cXEdit (cLs cI rfl)) rfl).enc v1))] (by kernel_rfl) <| xn <| wpC_seq <| reg_s <| st rfl <| mvd rfl rfl <| st rfl <| mvd rfl rfl <| bnd h fun x13 e14 h => st rfl <| o_call (a1 (c := (cLs (cXVariable cS cI) rfl)) (tLs (tXVariable tS tK)) rfl (a1 (c := (cLs (cXEdit (cLs cI rfl)) rfl)) (tLs (tXEdit (tLs tK))) rfl a0)) (con_spec_ePassing e14) (.inl (so1 sK (so1 (sLo sK) so0))) <| x_mvt rfl <| x_ext rfl rfl <| x_ext rfl rfl <| x_asg (ss rfl rfl) <| x_asg (so rfl rfl) <| seqN [(6, .d (cI.enc x13.1))] (by kernel_rfl) <|
    xn <| wpC_seq <| reg_s <| st rfl <| mvd rfl rfl <| st rfl <| b_eql (k := .i64) rfl rfl <| x_asg (ss rfl rfl) <| x_asg (sc cB true rfl) <| seqN [(4, .d (cB.enc (decide (x13.1 = (0 : Int))))), (5, .d (cB.enc true))] (by kernel_rfl) <|
    xn <| wpC_ret <| re <| fin h (r1 (ss rfl rfl) <| r1 (ss rfl rfl) <| r0) rfl)

def rs_impl_failing (r : (List Bool)) : List D := [(cLo cB).enc r]
def m84 : MC := .seq (.reg [⟨some 4, .asg (.c (.slice true [])), none⟩] [0, 1])
  (.seq (.reg [⟨some 7, .mv (.t 0), none⟩,
    ⟨some 8, .call 72 [(.t 7)], none⟩,
    ⟨some 9, .mk (.bool false) (.t 8), none⟩,
    ⟨some 5, .asg (.t 9), none⟩] [0, 1, 5])
  (.seq (.kp [5] (.seq (.reg [⟨some 10, .mv (.t 5), none⟩,
    ⟨some 11, .len false (.t 10), none⟩,
    ⟨some 12, .mv (.c (.int .i64 0)), none⟩] [0, 1, 5, 11, 12])
  (.blk 0 (.loop (.seq (.reg [⟨some 13, .bin .lss (.t 12) (.t 11), none⟩] [0, 1, 5, 11, 12, 13])
  (.seq (.kp [0, 1, 5, 11, 12] (.cond (.t 13) (.skip) (.exit 0)))
  (.seq (.kp [0, 1, 5, 11, 12] (.blk 1 (.seq (.reg [⟨some 14, .mv (.t 12), none⟩,
    ⟨some 6, .asg (.t 14), none⟩] [0, 1, 5, 6, 11, 12])
  (.reg [⟨some 15, .mv (.t 5), none⟩,
    ⟨some 16, .mv (.t 6), none⟩,
    ⟨some 17, .mv (.t 1), none⟩,
    ⟨some 18, .mv (.t 0), none⟩,
    ⟨some 19, .mv (.t 6), none⟩,
    ⟨some 20, .call 73 [(.t 18), (.t 19)], none⟩,
    ⟨some 21, .call 75 [(.t 17), (.t 20)], none⟩,
    ⟨some 22, .ia 15 (.t 16) 1, none⟩,
    ⟨none, .st 22 (.t 21) 1, none⟩] [0, 1, 5, 11, 12]))))
  (.reg [⟨some 23, .bin .add (.t 12) (.c (.int .i64 1)), none⟩,
    ⟨some 12, .mv (.t 23), none⟩] [0, 1, 5, 11, 12]))))))))
  (.seq (.reg [⟨some 24, .mv (.t 5), none⟩,
    ⟨some 4, .asg (.t 24), none⟩] [4])
  (.ret))))
theorem con_impl_failing {v0 : (List XVariable)} {v1 : (List XEdit)} {r : (List Bool)} (h : sh_impl_failing v0 v1 = some r) : Con Try.prog 84 [(cLs (cXVariable cS cI) rfl).enc v0, (cLs (cXEdit (cLs cI rfl)) rfl).enc v1] [] (rs_impl_failing r) := by
  delta sh_impl_failing at h
  refine top (out := none) (f := Try.f84) (m := m84) (rs := [.t 4]) (by kernel_rfl) rfl (by kernel_rfl) (by kernel_rfl) (by kernel_rfl) (by kernel_rfl) (by kernel_rfl) ?_
  exact
   ini [(0, .d ((cLs (cXVariable cS cI) rfl).enc v0)), (1, .d ((cLs (cXEdit (cLs cI rfl)) rfl).enc v1))] rfl <| wpC_seq <| reg_s <| x_asg (sc (cLo cB) ([] : List Bool) rfl) <| seqN [(0, .d ((cLs (cXVariable cS cI) rfl).enc v0)), (1, .d ((cLs (cXEdit (cLs cI rfl)) rfl).enc v1))] (by kernel_rfl) <|
    xn <| wpC_seq <| reg_s <| st rfl <| mvd rfl rfl <| bnd h fun x5 e6 h => st rfl <| o_call (a1 (c := (cLs (cXVariable cS cI) rfl)) (tLs (tXVariable tS tK)) rfl a0) (con_impl_combinations e6) (.inl (so1 sK so0)) <| mkO_k h fun i7 l8 h => st rfl <| o_mk (c := cB) (a0 := false) rfl (k := .i64) rfl i7 l8 <| x_asg (so rfl rfl) <| seqN [(0, .d ((cLs (cXVariable cS cI) rfl).enc v0)), (1, .d ((cLs (cXEdit (cLs cI rfl)) rfl).enc v1)), (5, .d ((cLo cB).enc (List.replicate (x5).toNat false)))] (by kernel_rfl) <|
    xn <| wpC_seq <| wpC_kp <| wpC_seq <| reg_s <| st rfl <| mvo rfl rfl <| stw rfl <| leno rfl fun l56 => st rfl <| mvc cI (0 : Int) rfl <| seqN [(0, .d ((cLs (cXVariable cS cI) rfl).enc v0)), (1, .d ((cLs (cXEdit (cLs cI rfl)) rfl).enc v1)), (5, .d ((cLo cB).enc (List.replicate (x5).toNat false))), (11, .d (cI.enc ((List.replicate (x5).toNat false).length : Int))), (12, .d (cI.enc (0 : Int)))] (by kernel_rfl) <|
    xn <| wpC_blk <| lpR (fun (k58 : Nat) (s57 : (List Bool)) => [(0, .d ((cLs (cXVariable cS cI) rfl).enc v0)), (1, .d ((cLs (cXEdit (cLs cI rfl)) rfl).enc v1)), (5, .d ((cLo cB).enc s57)), (11, .d (cI.enc ((List.replicate (x5).toNat false).length : Int))), (12, .d (cI.enc (k58 : Int)))]) (List.replicate (x5).toNat false) rfl h
    (fun G86 s57 h => wpC_seq <| reg_s <| st rfl <| b_lss (k := .i64) rfl rfl <| seqN [(0, .d ((cLs (cXVariable cS cI) rfl).enc v0)), (1, .d ((cLs (cXEdit (cLs cI rfl)) rfl).enc v1)), (5, .d ((cLo cB).enc s57)), (11, .d (cI.enc ((List.replicate (x5).toNat false).length : Int))), (12, .d (cI.enc ((List.replicate (x5).toNat false).length : Int))), (13, .d (cB.enc (decide (((List.replicate (x5).toNat false).length : Int) < ((List.replicate (x5).toNat false).length : Int)))))] (by kernel_rfl) <|
    xn <| wpC_seq <| wpC_kp <| cnd0 rfl (dlf _) <| wpC_exit <| xt <| xt <| xt <| xb <| kpN [(5, .d ((cLo cB).enc s57))] (by kernel_rfl) <| xn <| wpC_seq <| reg_s <| st rfl <| mvo rfl rfl <| x_asg (sr rfl rfl) <| seqN [(4, .d ((cLo cB).enc s57))] (by kernel_rfl) <|
    xn <| wpC_ret <| re <| fin h (r1 (so rfl rfl) <| r0) rfl)
    (fun G86 nx84 k58 s57 x59 hk60 hx61 hn85 h => wpC_seq <| reg_s <| st rfl <| b_lss (k := .i64) rfl rfl <| seqN [(0, .d ((cLs (cXVariable cS cI) rfl).enc v0)), (1, .d ((cLs (cXEdit (cLs cI rfl)) rfl).enc v1)), (5, .d ((cLo cB).enc s57)), (11, .d (cI.enc ((List.replicate (x5).toNat false).length : Int))), (12, .d (cI.enc (k58 : Int))), (13, .d (cB.enc (decide ((k58 : Int) < ((List.replicate (x5).toNat false).length : Int)))))] (by kernel_rfl) <|
    xn <| wpC_seq <| wpC_kp <| cnd1 rfl (dlt hk60) <| wpC_skip <| kpN [(0, .d ((cLs (cXVariable cS cI) rfl).enc v0)), (1, .d ((cLs (cXEdit (cLs cI rfl)) rfl).enc v1)), (5, .d ((cLo cB).enc s57)), (11, .d (cI.enc ((List.replicate (x5).toNat false).length : Int))), (12, .d (cI.enc (k58 : Int)))] (by kernel_rfl) <| xn <| wpC_seq <| wpC_kp <| wpC_blk <| wpC_seq <| reg_s <| st rfl <| mvd rfl rfl <| x_asg (ss rfl rfl) <| seqN [(0, .d ((cLs (cXVariable cS cI) rfl).enc v0)), (1, .d ((cLs (cXEdit (cLs cI rfl)) rfl).enc v1)), (5, .d ((cLo cB).enc s57)), (6, .d (cI.enc (k58 : Int))), (11, .d (cI.enc ((List.replicate (x5).toNat false).length : Int))), (12, .d (cI.enc (k58 : Int)))] (by kernel_rfl) <|
    xn <| reg_s <| st rfl <| mvo rfl rfl <| st rfl <| mvd rfl rfl <| st rfl <| mvd rfl rfl <| st rfl <| mvd rfl rfl <| st rfl <| mvd rfl rfl <| bnd h fun x94 e95 h => st rfl <| o_call (a1 (c := (cLs (cXVariable cS cI) rfl)) (tLs (tXVariable tS tK)) rfl (a1 (c := cI) tK rfl a0)) (con_impl_valuesAt e95) (.inl (so1 (sLo sK) so0)) <| bnd h fun x96 e97 h => st rfl <| o_call (a1 (c := (cLs (cXEdit (cLs cI rfl)) rfl)) (tLs (tXEdit (tLs tK))) rfl (a1 (c := (cLo cI)) (tLo tK) rfl a0)) (con_impl_failsOne e97) (.inl (so1 sB so0)) <| getO_k h fun x98 i99 g100 h => st rfl <| iar rfl rfl rfl rfl i99 g100 rfl <| x_sta ((cLo cB).enc (s57.set ((k58 : Int)).toNat x96)) (ss rfl rfl) rfl rfl (Ln.idx g100 Ln.nil) (Cd.h_sz cB _) rfl <| seqN [(0, .d ((cLs (cXVariable cS cI) rfl).enc v0)), (1, .d ((cLs (cXEdit (cLs cI rfl)) rfl).enc v1)), (5, .d ((cLo cB).enc (s57.set ((k58 : Int)).toNat x96))), (11, .d (cI.enc ((List.replicate (x5).toNat false).length : Int))), (12, .d (cI.enc (k58 : Int)))] (by kernel_rfl) <|
    xbb <| kpN [(0, .d ((cLs (cXVariable cS cI) rfl).enc v0)), (1, .d ((cLs (cXEdit (cLs cI rfl)) rfl).enc v1)), (5, .d ((cLo cB).enc (s57.set ((k58 : Int)).toNat x96))), (11, .d (cI.enc ((List.replicate (x5).toNat false).length : Int))), (12, .d (cI.enc (k58 : Int)))] (by kernel_rfl) <| xn <| reg_s <| st rfl <| b_inc rfl rfl l56 hk60 <| st rfl <| mvd rfl rfl <| seqN [(0, .d ((cLs (cXVariable cS cI) rfl).enc v0)), (1, .d ((cLs (cXEdit (cLs cI rfl)) rfl).enc v1)), (5, .d ((cLo cB).enc (s57.set ((k58 : Int)).toNat x96))), (11, .d (cI.enc ((List.replicate (x5).toNat false).length : Int))), (12, .d (cI.enc ((k58 + 1 : Nat) : Int)))] (by kernel_rfl) <|
    xn <| hn85 (s57.set ((k58 : Int)).toNat x96) h)

def rs_slices_Index_bool_bool (r : Int) : List D := [cI.enc r]
def m119 : MC := .seq (.reg [⟨some 4, .asg (.c (.int .i64 0)), none⟩] [0, 1])
  (.seq (.kp [] (.seq (.reg [⟨some 6, .mv (.t 0), none⟩,
    ⟨some 7, .len false (.t 6), none⟩,
    ⟨some 8, .mv (.c (.int .i64 0)), none⟩] [0, 1, 7, 8])
  (.blk 0 (.loop (.seq (.reg [⟨some 9, .bin .lss (.t 8) (.t 7), none⟩] [0, 1, 7, 8, 9])
  (.seq (.kp [0, 1, 7, 8] (.cond (.t 9) (.skip) (.exit 0)))
  (.seq (.kp [0, 1, 7, 8] (.blk 1 (.seq (.reg [⟨some 10, .mv (.t 8), none⟩,
    ⟨some 5, .asg (.t 10), none⟩] [0, 1, 5, 7, 8])
  (.seq (.reg [⟨some 11, .mv (.t 1), none⟩,
    ⟨some 12, .mv (.t 0), none⟩,
    ⟨some 13, .mv (.t 5), none⟩,
    ⟨some 14, .ia 12 (.t 13) 1, none⟩,
    ⟨some 15, .ld 14 1 false, none⟩,
    ⟨some 16, .eqb false (.t 11) (.t 15), none⟩] [0, 1, 5, 7, 8, 16])
  (.cond (.t 16) (.seq (.reg [⟨some 17, .mv (.t 5), none⟩,
    ⟨some 4, .asg (.t 17), none⟩] [4])
  (.ret)) (.skip))))))
  (.reg [⟨some 18, .bin .add (.t 8) (.c (.int .i64 1)), none⟩,
    ⟨some 8, .mv (.t 18), none⟩] [0, 1, 7, 8]))))))))
  (.seq (.reg [⟨some 4, .asg (.c (.int .i64 (-1))), none⟩] [4])
  (.ret)))
theorem con_slices_Index_bool_bool {v0 : (List Bool)} {v1 : Bool} {r : Int} (h : sh_slices_Index_bool_bool v0 v1 = some r) : Con Try.prog 119 [(cLs cB rfl).enc v0, cB.enc v1] [] (rs_slices_Index_bool_bool r) := by
  delta sh_slices_Index_bool_bool at h
  refine top (out := none) (f := Try.f119) (m := m119) (rs := [.t 4]) (by kernel_rfl) rfl (by kernel_rfl) (by kernel_rfl) (by kernel_rfl) (by kernel_rfl) (by kernel_rfl) ?_
  exact
   ini [(0, .d ((cLs cB rfl).enc v0)), (1, .d (cB.enc v1))] rfl <| wpC_seq <| reg_s <| x_asg (sc cI (0 : Int) rfl) <| seqN [(0, .d ((cLs cB rfl).enc v0)), (1, .d (cB.enc v1))] (by kernel_rfl) <|
    xn <| wpC_seq <| wpC_kp <| wpC_seq <| reg_s <| st rfl <| mvd rfl rfl <| stw rfl <| lens rfl fun l16 => st rfl <| mvc cI (0 : Int) rfl <| seqN [(0, .d ((cLs cB rfl).enc v0)), (1, .d (cB.enc v1)), (7, .d (cI.enc (v0.length : Int))), (8, .d (cI.enc (0 : Int)))] (by kernel_rfl) <|
    xn <| wpC_blk <| lpR (fun (k18 : Nat) (s17 : Unit) => [(0, .d ((cLs cB rfl).enc v0)), (1, .d (cB.enc v1)), (7, .d (cI.enc (v0.length : Int))), (8, .d (cI.enc (k18 : Int)))]) () rfl h
    (fun G26 s17 h => wpC_seq <| reg_s <| st rfl <| b_lss (k := .i64) rfl rfl <| seqN [(0, .d ((cLs cB rfl).enc v0)), (1, .d (cB.enc v1)), (7, .d (cI.enc (v0.length : Int))), (8, .d (cI.enc (v0.length : Int))), (9, .d (cB.enc (decide ((v0.length : Int) < (v0.length : Int)))))] (by kernel_rfl) <|
    xn <| wpC_seq <| wpC_kp <| cnd0 rfl (dlf _) <| wpC_exit <| xt <| xt <| xt <| xb <| kpN [] (by kernel_rfl) <| xn <| wpC_seq <| reg_s <| x_asg (sc cI (-1 : Int) rfl) <| seqN [(4, .d (cI.enc (-1 : Int)))] (by kernel_rfl) <|
    xn <| wpC_ret <| re <| fin h (r1 (ss rfl rfl) <| r0) rfl)
    (fun G26 nx24 k18 s17 x19 hk20 hx21 hn25 h => wpC_seq <| reg_s <| st rfl <| b_lss (k := .i64) rfl rfl <| seqN [(0, .d ((cLs cB rfl).enc v0)), (1, .d (cB.enc v1)), (7, .d (cI.enc (v0.length : Int))), (8, .d (cI.enc (k18 : Int))), (9, .d (cB.enc (decide ((k18 : Int) < (v0.length : Int)))))] (by kernel_rfl) <|
    xn <| wpC_seq <| wpC_kp <| cnd1 rfl (dlt hk20) <| wpC_skip <| kpN [(0, .d ((cLs cB rfl).enc v0)), (1, .d (cB.enc v1)), (7, .d (cI.enc (v0.length : Int))), (8, .d (cI.enc (k18 : Int)))] (by kernel_rfl) <| xn <| wpC_seq <| wpC_kp <| wpC_blk <| wpC_seq <| reg_s <| st rfl <| mvd rfl rfl <| x_asg (ss rfl rfl) <| seqN [(0, .d ((cLs cB rfl).enc v0)), (1, .d (cB.enc v1)), (5, .d (cI.enc (k18 : Int))), (7, .d (cI.enc (v0.length : Int))), (8, .d (cI.enc (k18 : Int)))] (by kernel_rfl) <|
    xn <| wpC_seq <| reg_s <| st rfl <| mvd rfl rfl <| st rfl <| mvd rfl rfl <| st rfl <| mvd rfl rfl <| st rfl <| ias rfl rfl (Int.natCast_nonneg _) hx21 rfl <| st rfl <| ldi rfl rfl rfl rfl <| st rfl <| eqb0 rfl rfl <| seqN [(0, .d ((cLs cB rfl).enc v0)), (1, .d (cB.enc v1)), (5, .d (cI.enc (k18 : Int))), (7, .d (cI.enc (v0.length : Int))), (8, .d (cI.enc (k18 : Int))), (16, .d (cB.enc (v1 == x19)))] (by kernel_rfl) <|
    xn <| cnd rfl h (fun b28 h => wpC_seq <| reg_s <| st rfl <| mvd rfl rfl <| x_asg (ss rfl rfl) <| seqN [(4, .d (cI.enc (k18 : Int)))] (by kernel_rfl) <|
    xn <| wpC_ret <| rb <| rt <| rt <| rt <| rb <| rt <| rt <| re <| fin h (r1 (ss rfl rfl) <| r0) rfl)
    (fun b28 h => wpC_skip <| xbb <| kpN [(0, .d ((cLs cB rfl).enc v0)), (1, .d (cB.enc v1)), (7, .d (cI.enc (v0.length : Int))), (8, .d (cI.enc (k18 : Int)))] (by kernel_rfl) <| xn <| reg_s <| st rfl <| b_inc rfl rfl l16 hk20 <| st rfl <| mvd rfl rfl <| seqN [(0, .d ((cLs cB rfl).enc v0)), (1, .d (cB.enc v1)), (7, .d (cI.enc (v0.length : Int))), (8, .d (cI.enc ((k18 + 1 : Nat) : Int)))] (by kernel_rfl) <|
    xn <| hn25 () h))

def rs_slices_Contains_bool_bool (r : Bool) : List D := [cB.enc r]
def m83 : MC := .seq (.reg [⟨some 4, .asg (.c (.bool false)), none⟩] [0, 1])
  (.seq (.reg [⟨some 5, .mv (.t 0), none⟩,
    ⟨some 6, .mv (.t 1), none⟩,
    ⟨some 7, .call 119 [(.t 5), (.t 6)], none⟩,
    ⟨some 8, .bin .geq (.t 7) (.c (.int .i64 0)), none⟩,
    ⟨some 4, .asg (.t 8), none⟩] [4])
  (.ret))
theorem con_slices_Contains_bool_bool {v0 : (List Bool)} {v1 : Bool} {r : Bool} (h : sh_slices_Contains_bool_bool v0 v1 = some r) : Con Try.prog 83 [(cLs cB rfl).enc v0, cB.enc v1] [] (rs_slices_Contains_bool_bool r) := by
  delta sh_slices_Contains_bool_bool at h
  refine top (out := none) (f := Try.f83) (m := m83) (rs := [.t 4]) (by kernel_rfl) rfl (by kernel_rfl) (by kernel_rfl) (by kernel_rfl) (by kernel_rfl) (by kernel_rfl) ?_
  exact
   ini [(0, .d ((cLs cB rfl).enc v0)), (1, .d (cB.enc v1))] rfl <| wpC_seq <| reg_s <| x_asg (sc cB false rfl) <| seqN [(0, .d ((cLs cB rfl).enc v0)), (1, .d (cB.enc v1))] (by kernel_rfl) <|
    xn <| wpC_seq <| reg_s <| st rfl <| mvd rfl rfl <| st rfl <| mvd rfl rfl <| bnd h fun x3 e4 h => st rfl <| o_call (a1 (c := (cLs cB rfl)) (tLs tB) rfl (a1 (c := cB) tB rfl a0)) (con_slices_Index_bool_bool e4) (.inl (so1 sK so0)) <| st rfl <| b_geq (k := .i64) rfl rfl <| x_asg (ss rfl rfl) <| seqN [(4, .d (cB.enc (decide ((0 : Int) ≤ x3))))] (by kernel_rfl) <|
    xn <| wpC_ret <| re <| fin h (r1 (ss rfl rfl) <| r0) rfl

def rs_impl_IsContradictory (r : (Bool × Bool)) : List D := [cB.enc r.1, cB.enc r.2]
def m33 : MC := .seq (.reg [⟨some 4, .asg (.c (.bool false)), none⟩,
    ⟨some 5, .asg (.c (.bool false)), none⟩] [0, 1])
  (.seq (.kp [0, 1] (.seq (.reg [⟨some 6, .mv (.t 0), none⟩,
    ⟨some 7, .call 64 [(.t 6)], none⟩,
    ⟨some 8, .nt (.t 7), none⟩,
    ⟨some 9, .mv (.t 8), none⟩,
    ⟨some 10, .mv (.t 0), some (9, false)⟩,
    ⟨some 11, .mv (.t 1), some (9, false)⟩,
    ⟨some 12, .call 71 [(.t 10), (.t 11)], some (9, false)⟩,
    ⟨some 13, .nt (.t 12), some (9, false)⟩,
    ⟨some 14, .pick (.t 9) (.c (.bool true)) (.t 13), none⟩] [0, 1, 14])
  (.cond (.t 14) (.seq (.reg [⟨some 4, .asg (.c (.bool false)), none⟩,
    ⟨some 5, .asg (.c (.bool false)), none⟩] [4, 5])
  (.ret)) (.skip))))
  (.seq (.reg [⟨some 15, .mv (.t 0), none⟩,
    ⟨some 16, .mv (.t 1), none⟩,
    ⟨some 17, .call 84 [(.t 15), (.t 16)], none⟩,
    ⟨some 18, .call 83 [(.t 17), (.c (.bool false))], none⟩,
    ⟨some 19, .nt (.t 18), none⟩,
    ⟨some 4, .asg (.t 19), none⟩,
    ⟨some 5, .asg (.c (.bool true)), none⟩] [4, 5])
  (.ret)))
theorem con_impl_IsContradictory {v0 : (List XVariable)} {v1 : (List XEdit)} {r : (Bool × Bool)} (h : sh_impl_IsContradictory v0 v1 = some r) : Con Try.prog 33 [(cLs (cXVariable cS cI) rfl).enc v0, (cLs (cXEdit (cLs cI rfl)) rfl).enc v1] [] (rs_impl_IsContradictory r) := by
  delta sh_impl_IsContradictory at h
  refine top (out := none) (f := Try.f33) (m := m33) (rs := [.t 4, .t 5]) (by kernel_rfl) rfl (by kernel_rfl) (by kernel_rfl) (by kernel_rfl) (by kernel_rfl) (by kernel_rfl) ?_
  exact
   ini [(0, .d ((cLs (cXVariable cS cI) rfl).enc v0)), (1, .d ((cLs (cXEdit (cLs cI rfl)) rfl).enc v1))] rfl <| wpC_seq <| reg_s <| x_asg (sc cB false rfl) <| x_asg (sc cB false rfl) <| seqN [(0, .d ((cLs (cXVariable cS cI) rfl).enc v0)), (1, .d ((cLs (cXEdit (cLs cI rfl)) rfl).enc v1))] (by kernel_rfl) <|
    xn <| wpC_seq <| wpC_kp <| wpC_seq <| reg_s <| st rfl <| mvd rfl rfl <| bnd h fun x17 e18 h => st rfl <| o_call (a1 (c := (cLs (cXVariable cS cI) rfl)) (tLs (tXVariable tS tK)) rfl a0) (con_impl_isSmall e18) (.inl (so1 sB so0)) <| st rfl <| o_nt rfl <| st rfl <| mvd rfl rfl <| ite_k h (fun b19 h => gf rfl b19 <| gf rfl b19 <| gf rfl b19 <| gf rfl b19 <| st rfl <| pick1 rfl b19 (cd := cB) (v := true) rfl rfl <| seqN [(0, .d ((cLs (cXVariable cS cI) rfl).enc v0)), (1, .d ((cLs (cXEdit (cLs cI rfl)) rfl).enc v1)), (14, .d (cB.enc true))] (by kernel_rfl) <|
    xn <| cnd1 rfl rfl <| wpC_seq <| reg_s <| x_asg (sc cB false rfl) <| x_asg (sc cB false rfl) <| seqN [(4, .d (cB.enc false)), (5, .d (cB.enc false))] (by kernel_rfl) <|
    xn <| wpC_ret <| rt <| rt <| re <| fin h (r1 (ss rfl rfl) <| r1 (ss rfl rfl) <| r0) rfl)
    (fun b19 h => gt' rfl b19 <| st rfl <| mvd rfl rfl <| gt' rfl b19 <| st rfl <| mvd rfl rfl <| gt' rfl b19 <| bnd h fun x20 e21 h => st rfl <| o_call (a1 (c := (cLs (cXVariable cS cI) rfl)) (tLs (tXVariable tS tK)) rfl (a1 (c := (cLs (cXEdit (cLs cI rfl)) rfl)) (tLs (tXEdit (tLs tK))) rfl a0)) (con_impl_areEdits e21) (.inl (so1 sB so0)) <| gt' rfl b19 <| st rfl <| o_nt rfl <| st rfl <| pick0 rfl b19 (cd := cB) (v := (!x20)) rfl rfl <| seqN [(0, .d ((cLs (cXVariable cS cI) rfl).enc v0)), (1, .d ((cLs (cXEdit (cLs cI rfl)) rfl).enc v1)), (14, .d (cB.enc (!x20)))] (by kernel_rfl) <|
    xn <| cnd rfl h (fun b22 h => wpC_seq <| reg_s <| x_asg (sc cB false rfl) <| x_asg (sc cB false rfl) <| seqN [(4, .d (cB.enc false)), (5, .d (cB.enc false))] (by kernel_rfl) <|
    xn <| wpC_ret <| rt <| rt <| re <| fin h (r1 (ss rfl rfl) <| r1 (ss rfl rfl) <| r0) rfl)
    (fun b22 h => wpC_skip <| kpN [(0, .d ((cLs (cXVariable cS cI) rfl).enc v0)), (1, .d ((cLs (cXEdit (cLs cI rfl)) rfl).enc v1))] (by kernel_rfl) <| xn <| wpC_seq <| reg_s <| st rfl <| mvd rfl rfl <| st rfl <| mvd rfl rfl <| bnd h fun x27 e28 h => st rfl <| o_call (a1 (c := (cLs (cXVariable cS cI) rfl)) (tLs (tXVariable tS tK)) rfl (a1 (c := (cLs (cXEdit (cLs cI rfl)) rfl)) (tLs (tXEdit (tLs tK))) rfl a0)) (con_impl_failing e28) (.inl (so1 (sLo sB) so0)) <| bnd h fun x29 e30 h => st rfl <| o_call (a1 (c := (cLo cB)) (tLo tB) rfl (a1 (c := cB) tB rfl a0)) (con_slices_Contains_bool_bool e30) (.inl (so1 sB so0)) <| st rfl <| o_nt rfl <| x_asg (ss rfl rfl) <| x_asg (sc cB true rfl) <| seqN [(4, .d (cB.enc (!x29))), (5, .d (cB.enc true))] (by kernel_rfl) <|
    xn <| wpC_ret <| re <| fin h (r1 (ss rfl rfl) <| r1 (ss rfl rfl) <| r0) rfl))

def rs_laws_FnExactIsContradictory (r : Bool) : List D := [cB.enc r]
def m6 : MC := .seq (.reg [⟨some 4, .asg (.c (.bool false)), none⟩] [0, 1])
  (.seq (.reg [⟨some 5, .asg (.c (.int .i64 1048576)), none⟩] [0, 1, 5])
  (.seq (.reg [⟨some 12, .mv (.t 0), none⟩,
    ⟨some 13, .mv (.t 5), none⟩,
    ⟨some 14, .call 14 [(.t 12), (.t 13)], none⟩,
    ⟨some 5, .asg (.t 14), none⟩] [0, 1, 5])
  (.seq (.kp [0, 1, 5] (.seq (.reg [⟨some 15, .mv (.t 5), none⟩,
    ⟨some 16, .bin .lss (.t 15) (.c (.int .i64 0)), none⟩] [0, 1, 5, 16])
  (.cond (.t 16) (.seq (.reg [⟨some 4, .asg (.c (.bool true)), none⟩] [4])
  (.ret)) (.skip))))
  (.seq (.reg [⟨some 17, .mv (.t 1), none⟩,
    ⟨some 18, .mv (.t 5), none⟩,
    ⟨some 19, .call 25 [(.t 17), (.t 18)], none⟩,
    ⟨some 5, .asg (.t 19), none⟩] [0, 1, 5])
  (.seq (.kp [0, 1] (.seq (.reg [⟨some 20, .mv (.t 5), none⟩,
    ⟨some 21, .bin .lss (.t 20) (.c (.int .i64 0)), none⟩] [0, 1, 21])
  (.cond (.t 21) (.seq (.reg [⟨some 4, .asg (.c (.bool true)), none⟩] [4])
  (.ret)) (.skip))))
  (.seq (.reg [⟨some 23, .mv (.t 0), none⟩,
    ⟨some 24, .call 17 [(.t 23)], none⟩,
    ⟨some 25, .mv (.t 1), none⟩,
    ⟨some 26, .call 27 [(.t 25)], none⟩,
    ⟨some 27, .call 32 [(.t 24), (.t 26)], none⟩,
    ⟨some 22, .mvt 27, none⟩,
    ⟨some 28, .ext 22 0, none⟩,
    ⟨some 29, .ext 22 1, none⟩,
    ⟨some 6, .asg (.t 28), none⟩,
    ⟨some 7, .asg (.t 29), none⟩] [0, 1, 6, 7])
  (.seq (.reg [⟨some 30, .mv (.t 0), none⟩,
    ⟨some 31, .call 17 [(.t 30)], none⟩,
    ⟨some 8, .asg (.t 31), none⟩] [0, 1, 6, 7, 8])
  (.seq (.reg [⟨some 32, .mv (.t 1), none⟩,
    ⟨some 33, .call 27 [(.t 32)], none⟩,
    ⟨some 9, .asg (.t 33), none⟩] [0, 1, 6, 7, 8, 9])
  (.seq (.reg [⟨some 35, .mv (.t 8), none⟩,
    ⟨some 36, .mv (.t 9), none⟩,
    ⟨some 37, .call 33 [(.t 35), (.t 36)], none⟩,
    ⟨some 34, .mvt 37, none⟩,
    ⟨some 38, .ext 34 0, none⟩,
    ⟨some 39, .ext 34 1, none⟩,
    ⟨some 10, .asg (.t 38), none⟩,
    ⟨some 11, .asg (.t 39), none⟩] [0, 1, 6, 7, 8, 9, 10, 11])
  (.seq (.kp [0, 1, 8, 9] (.seq (.reg [⟨some 40, .mv (.t 10), none⟩,
    ⟨some 41, .mv (.t 6), none⟩,
    ⟨some 42, .eqb true (.t 40) (.t 41), none⟩,
    ⟨some 43, .mv (.t 42), none⟩,
    ⟨some 44, .mv (.t 11), some (43, false)⟩,
    ⟨some 45, .mv (.t 7), some (43, false)⟩,
    ⟨some 46, .eqb true (.t 44) (.t 45), some (43, false)⟩,
    ⟨some 47, .pick (.t 43) (.c (.bool true)) (.t 46), none⟩] [0, 1, 8, 9, 47])
  (.cond (.t 47) (.seq (.reg [⟨some 4, .asg (.c (.bool false)), none⟩] [4])
  (.ret)) (.skip))))
  (.seq (.kp [1, 9] (.seq (.reg [⟨some 48, .mv (.t 8), none⟩,
    ⟨some 49, .mv (.t 0), none⟩,
    ⟨some 50, .call 17 [(.t 49)], none⟩,
    ⟨some 51, .call 21 [(.t 48), (.t 50)], none⟩,
    ⟨some 52, .nt (.t 51), none⟩] [1, 9, 52])
  (.cond (.t 52) (.seq (.reg [⟨some 4, .asg (.c (.bool false)), none⟩] [4])
  (.ret)) (.skip))))
  (.seq (.kp [] (.seq (.reg [⟨some 53, .mv (.t 9), none⟩,
    ⟨some 54, .mv (.t 1), none⟩,
    ⟨some 55, .call 27 [(.t 54)], none⟩,
    ⟨some 56, .call 29 [(.t 53), (.t 55)], none⟩,
    ⟨some 57, .nt (.t 56), none⟩] [57])
  (.cond (.t 57) (.seq (.reg [⟨some 4, .asg (.c (.bool false)), none⟩] [4])
  (.ret)) (.skip))))
  (.seq (.reg [⟨some 4, .asg (.c (.bool true)), none⟩] [4])
  (.ret))))))))))))))
theorem con_laws_FnExactIsContradictory {v0 : (List XVariable)} {v1 : (List XEdit)} {r : Bool} (h : sh_laws_FnExactIsContradictory v0 v1 = some r) : Con Try.prog 6 [(cLs (cXVariable cS cI) rfl).enc v0, (cLs (cXEdit (cLs cI rfl)) rfl).enc v1] [] (rs_laws_FnExactIsContradictory r) := by
  delta sh_laws_FnExactIsContradictory at h
  refine top (out := none) (f := Try.f6) (m := m6) (rs := [.t 4]) (by kernel_rfl) rfl (by kernel_rfl) (by kernel_rfl) (by kernel_rfl) (by kernel_rfl) (by kernel_rfl) ?_
  exact
   ini [(0, .d ((cLs (cXVariable cS cI) rfl).enc v0)), (1, .d ((cLs (cXEdit (cLs cI rfl)) rfl).enc v1))] rfl <| wpC_seq <| reg_s <| x_asg (sc cB false rfl) <| seqN [(0, .d ((cLs (cXVariable cS cI) rfl).enc v0)), (1, .d ((cLs (cXEdit (cLs cI rfl)) rfl).enc v1))] (by kernel_rfl) <|
    xn <| wpC_seq <| reg_s <| x_asg (sc cI (1048576 : Int) rfl) <| seqN [(0, .d ((cLs (cXVariable cS cI) rfl).enc v0)), (1, .d ((cLs (cXEdit (cLs cI rfl)) rfl).enc v1)), (5, .d (cI.enc (1048576 : Int)))] (by kernel_rfl) <|
    xn <| wpC_seq <| reg_s <| st rfl <| mvd rfl rfl <| st rfl <| mvd rfl rfl <| bnd h fun x3 e4 h => st rfl <| o_call (a1 (c := (cLs (cXVariable cS cI) rfl)) (tLs (tXVariable tS tK)) rfl (a1 (c := cI) tK rfl a0)) (con_laws_szVariableS e4) (.inl (so1 sK so0)) <| x_asg (ss rfl rfl) <| seqN [(0, .d ((cLs (cXVariable cS cI) rfl).enc v0)), (1, .d ((cLs (cXEdit (cLs cI rfl)) rfl).enc v1)), (5, .d (cI.enc x3))] (by kernel_rfl) <|
    xn <| wpC_seq <| wpC_kp <| wpC_seq <| reg_s <| st rfl <| mvd rfl rfl <| st rfl <| b_lss (k := .i64) rfl rfl <| seqN [(0, .d ((cLs (cXVariable cS cI) rfl).enc v0)), (1, .d ((cLs (cXEdit (cLs cI rfl)) rfl).enc v1)), (5, .d (cI.enc x3)), (16, .d (cB.enc (decide (x3 < (0 : Int)))))] (by kernel_rfl) <|
    xn <| cnd rfl h (fun b6 h => wpC_seq <| reg_s <| x_asg (sc cB true rfl) <| seqN [(4, .d (cB.enc true))] (by kernel_rfl) <|
    xn <| wpC_ret <| rt <| rt <| re <| fin h (r1 (ss rfl rfl) <| r0) rfl)
    (fun b6 h => wpC_skip <| kpN [(0, .d ((cLs (cXVariable cS cI) rfl).enc v0)), (1, .d ((cLs (cXEdit (cLs cI rfl)) rfl).enc v1)), (5, .d (cI.enc x3))] (by kernel_rfl) <| xn <| wpC_seq <| reg_s <| st rfl <| mvd rfl rfl <| st rfl <| mvd rfl rfl <| bnd h fun x9 e10 h => st rfl <| o_call (a1 (c := (cLs (cXEdit (cLs cI rfl)) rfl)) (tLs (tXEdit (tLs tK))) rfl (a1 (c := cI) tK rfl a0)) (con_laws_szEditS e10) (.inl (so1 sK so0)) <| x_asg (ss rfl rfl) <| seqN [(0, .d ((cLs (cXVariable cS cI) rfl).enc v0)), (1, .d ((cLs (cXEdit (cLs cI rfl)) rfl).enc v1)), (5, .d (cI.enc x9))] (by kernel_rfl) <|
    xn <| wpC_seq <| wpC_kp <| wpC_seq <| reg_s <| st rfl <| mvd rfl rfl <| st rfl <| b_lss (k := .i64) rfl rfl <| seqN [(0, .d ((cLs (cXVariable cS cI) rfl).enc v0)), (1, .d ((cLs (cXEdit (cLs cI rfl)) rfl).enc v1)), (21, .d (cB.enc (decide (x9 < (0 : Int)))))] (by kernel_rfl) <|
    xn <| cnd rfl h (fun b12 h => wpC_seq <| reg_s <| x_asg (sc cB true rfl) <| seqN [(4, .d (cB.enc true))] (by kernel_rfl) <|
    xn <| wpC_ret <| rt <| rt <| re <| fin h (r1 (ss rfl rfl) <| r0) rfl)
    (fun b12 h => wpC_skip <| kpN [(0, .d ((cLs (cXVariable cS cI) rfl).enc v0)), (1, .d ((cLs (cXEdit (cLs cI rfl)) rfl).enc v1))] (by kernel_rfl) <| xn <| wpC_seq <| reg_s <| st rfl <| mvd rfl rfl <| bnd h fun x19 e20 h => st rfl <| o_call (a1 (c := (cLs (cXVariable cS cI) rfl)) (tLs (tXVariable tS tK)) rfl a0) (con_laws_toVariableS e20) (.inl (so1 (sLo (sXVariable sS sK)) so0)) <| st rfl <| mvd rfl rfl <| bnd h fun x21 e22 h => st rfl <| o_call (a1 (c := (cLs (cXEdit (cLs cI rfl)) rfl)) (tLs (tXEdit (tLs tK))) rfl a0) (con_laws_toEditS e22) (.inl (so1 (sLo (sXEdit (sLo sK))) so0)) <| bnd h fun x23 e24 h => st rfl <| o_call (a1 (c := (cLo (cXVariable cS cI))) (tLo (tXVariable tS tK)) rfl (a1 (c := (cLo (cXEdit (cLo cI)))) (tLo (tXEdit (tLo tK))) rfl a0)) (con_spec_IsContradictory e24) (.inl (so1 sB (so1 sB so0))) <| x_mvt rfl <| x_ext rfl rfl <| x_ext rfl rfl <| x_asg (ss rfl rfl) <| x_asg (ss rfl rfl) <| seqN [(0, .d ((cLs (cXVariable cS cI) rfl).enc v0)), (1, .d ((cLs (cXEdit (cLs cI rfl)) rfl).enc v1)), (6, .d (cB.enc x23.1)), (7, .d (cB.enc x23.2))] (by kernel_rfl) <|
    xn <| wpC_seq <| reg_s <| st rfl <| mvd rfl rfl <| bnd h fun x27 e28 h => st rfl <| o_call (a1 (c := (cLs (cXVariable cS cI) rfl)) (tLs (tXVariable tS tK)) rfl a0) (con_laws_toVariableS e28) (.inl (so1 (sLo (sXVariable sS sK)) so0)) <| x_asg (so rfl rfl) <| seqN [(0, .d ((cLs (cXVariable cS cI) rfl).enc v0)), (1, .d ((cLs (cXEdit (cLs cI rfl)) rfl).enc v1)), (6, .d (cB.enc x23.1)), (7, .d (cB.enc x23.2)), (8, .d ((cLo (cXVariable cS cI)).enc x27))] (by kernel_rfl) <|
    xn <| wpC_seq <| reg_s <| st rfl <| mvd rfl rfl <| bnd h fun x31 e32 h => st rfl <| o_call (a1 (c := (cLs (cXEdit (cLs cI rfl)) rfl)) (tLs (tXEdit (tLs tK))) rfl a0) (con_laws_toEditS e32) (.inl (so1 (sLo (sXEdit (sLo sK))) so0)) <| x_asg (so rfl rfl) <| seqN [(0, .d ((cLs (cXVariable cS cI) rfl).enc v0)), (1, .d ((cLs (cXEdit (cLs cI rfl)) rfl).enc v1)), (6, .d (cB.enc x23.1)), (7, .d (cB.enc x23.2)), (8, .d ((cLo (cXVariable cS cI)).enc x27)), (9, .d ((cLo (cXEdit (cLo cI))).enc x31))] (by kernel_rfl) <|
    xn <| wpC_seq <| reg_s <| st rfl <| mvo rfl rfl <| st rfl <| mvo rfl rfl <| bnd h fun x35 e36 h => st rfl <| o_call (a1 (c := (cLo (cXVariable cS cI))) (tLo (tXVariable tS tK)) rfl (a1 (c := (cLo (cXEdit (cLo cI)))) (tLo (tXEdit (tLo tK))) rfl a0)) (con_impl_IsContradictory e36) (.inl (so1 sB (so1 sB so0))) <| x_mvt rfl <| x_ext rfl rfl <| x_ext rfl rfl <| x_asg (ss rfl rfl) <| x_asg (ss rfl rfl) <| seqN [(0, .d ((cLs (cXVariable cS cI) rfl).enc v0)), (1, .d ((cLs (cXEdit (cLs cI rfl)) rfl).enc v1)), (6, .d (cB.enc x23.1)), (7, .d (cB.enc x23.2)), (8, .d ((cLo (cXVariable cS cI)).enc x27)), (9, .d ((cLo (cXEdit (cLo cI))).enc x31)), (10, .d (cB.enc x35.1)), (11, .d (cB.enc x35.2))] (by kernel_rfl) <|
    xn <| wpC_seq <| wpC_kp <| wpC_seq <| reg_s <| st rfl <| mvd rfl rfl <| st rfl <| mvd rfl rfl <| st rfl <| eqb1 rfl rfl <| st rfl <| mvd rfl rfl <| ite_k h (fun b41 h => gf rfl b41 <| gf rfl b41 <| gf rfl b41 <| st rfl <| pick1 rfl b41 (cd := cB) (v := true) rfl rfl <| seqN [(0, .d ((cLs (cXVariable cS cI) rfl).enc v0)), (1, .d ((cLs (cXEdit (cLs cI rfl)) rfl).enc v1)), (8, .d ((cLo (cXVariable cS cI)).enc x27)), (9, .d ((cLo (cXEdit (cLo cI))).enc x31)), (47, .d (cB.enc true))] (by kernel_rfl) <|
    xn <| cnd1 rfl rfl <| wpC_seq <| reg_s <| x_asg (sc cB false rfl) <| seqN [(4, .d (cB.enc false))] (by kernel_rfl) <|
    xn <| wpC_ret <| rt <| rt <| re <| fin h (r1 (ss rfl rfl) <| r0) rfl)
    (fun b41 h => gt' rfl b41 <| st rfl <| mvd rfl rfl <| gt' rfl b41 <| st rfl <| mvd rfl rfl <| gt' rfl b41 <| st rfl <| eqb1 rfl rfl <| st rfl <| pick0 rfl b41 (cd := cB) (v := (x35.2 != x23.2)) rfl rfl <| seqN [(0, .d ((cLs (cXVariable cS cI) rfl).enc v0)), (1, .d ((cLs (cXEdit (cLs cI rfl)) rfl).enc v1)), (8, .d ((cLo (cXVariable cS cI)).enc x27)), (9, .d ((cLo (cXEdit (cLo cI))).enc x31)), (47, .d (cB.enc (x35.2 != x23.2)))] (by kernel_rfl) <|
    xn <| cnd rfl h (fun b42 h => wpC_seq <| reg_s <| x_asg (sc cB false rfl) <| seqN [(4, .d (cB.enc false))] (by kernel_rfl) <|
    xn <| wpC_ret <| rt <| rt <| re <| fin h (r1 (ss rfl rfl) <| r0) rfl)
    (fun b42 h => wpC_skip <| kpN [(0, .d ((cLs (cXVariable cS cI) rfl).enc v0)), (1, .d ((cLs (cXEdit (cLs cI rfl)) rfl).enc v1)), (8, .d ((cLo (cXVariable cS cI)).enc x27)), (9, .d ((cLo (cXEdit (cLo cI))).enc x31))] (by kernel_rfl) <| xn <| wpC_seq <| wpC_kp <| wpC_seq <| reg_s <| st rfl <| mvo rfl rfl <| st rfl <| mvd rfl rfl <| bnd h fun x56 e57 h => st rfl <| o_call (a1 (c := (cLs (cXVariable cS cI) rfl)) (tLs (tXVariable tS tK)) rfl a0) (con_laws_toVariableS e57) (.inl (so1 (sLo (sXVariable sS sK)) so0)) <| bnd h fun x58 e59 h => st rfl <| o_call (a1 (c := (cLo (cXVariable cS cI))) (tLo (tXVariable tS tK)) rfl (a1 (c := (cLo (cXVariable cS cI))) (tLo (tXVariable tS tK)) rfl a0)) (con_laws_eqVariableS e59) (.inl (so1 sB so0)) <| st rfl <| o_nt rfl <| seqN [(1, .d ((cLs (cXEdit (cLs cI rfl)) rfl).enc v1)), (9, .d ((cLo (cXEdit (cLo cI))).enc x31)), (52, .d (cB.enc (!x58)))] (by kernel_rfl) <|
    xn <| cnd rfl h (fun b60 h => wpC_seq <| reg_s <| x_asg (sc cB false rfl) <| seqN [(4, .d (cB.enc false))] (by kernel_rfl) <|
    xn <| wpC_ret <| rt <| rt <| re <| fin h (r1 (ss rfl rfl) <| r0) rfl)
    (fun b60 h => wpC_skip <| kpN [(1, .d ((cLs (cXEdit (cLs cI rfl)) rfl).enc v1)), (9, .d ((cLo (cXEdit (cLo cI))).enc x31))] (by kernel_rfl) <| xn <| wpC_seq <| wpC_kp <| wpC_seq <| reg_s <| st rfl <| mvo rfl rfl <| st rfl <| mvd rfl rfl <| bnd h fun x74 e75 h => st rfl <| o_call (a1 (c := (cLs (cXEdit (cLs cI rfl)) rfl)) (tLs (tXEdit (tLs tK))) rfl a0) (con_laws_toEditS e75) (.inl (so1 (sLo (sXEdit (sLo sK))) so0)) <| bnd h fun x76 e77 h => st rfl <| o_call (a1 (c := (cLo (cXEdit (cLo cI)))) (tLo (tXEdit (tLo tK))) rfl (a1 (c := (cLo (cXEdit (cLo cI)))) (tLo (tXEdit (tLo tK))) rfl a0)) (con_laws_eqEditS e77) (.inl (so1 sB so0)) <| st rfl <| o_nt rfl <| seqN [(57, .d (cB.enc (!x76)))] (by kernel_rfl) <|
    xn <| cnd rfl h (fun b78 h => wpC_seq <| reg_s <| x_asg (sc cB false rfl) <| seqN [(4, .d (cB.enc false))] (by kernel_rfl) <|
    xn <| wpC_ret <| rt <| rt <| re <| fin h (r1 (ss rfl rfl) <| r0) rfl)
    (fun b78 h => wpC_skip <| kpN [] (by kernel_rfl) <| xn <| wpC_seq <| reg_s <| x_asg (sc cB true rfl) <| seqN [(4, .d (cB.enc true))] (by kernel_rfl) <|
    xn <| wpC_ret <| re <| fin h (r1 (ss rfl rfl) <| r0) rfl))))))
end AS.W
