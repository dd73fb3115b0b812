/- The program computes the plain functions. No condition. -/
import Derived.Test.YtdfohcbjmdniiaaQFailingRecordsS
import Derived.Test.YtdfohcbjmdniiaaProg
import Derived.Test.YtdfohcbjmdniiaaQFailingRecordsL1
set_option maxRecDepth 100000
set_option linter.unusedVariables false
set_option linter.unusedSimpArgs false
namespace AS.W
open Go Go.Proofs
def rs_spec_FailingRecords (r : ((List Int) × Bool)) : List D := [(cLo cI).enc r.1, cB.enc r.2]
def m53 : MC := .seq (.reg [⟨some 6, .asg (.c (.slice true [])), none⟩,
    ⟨some 7, .asg (.c (.bool false)), none⟩] [0, 1, 2])
  (.seq (.kp [1, 2] (.seq (.reg [⟨some 11, .mv (.t 0), none⟩,
    ⟨some 12, .mv (.t 1), none⟩,
    ⟨some 13, .call 59 [(.t 11), (.t 12)], none⟩,
    ⟨some 14, .nt (.t 13), none⟩,
    ⟨some 15, .mv (.t 14), none⟩,
    ⟨some 16, .mv (.t 0), some (15, false)⟩,
    ⟨some 17, .mv (.t 2), some (15, false)⟩,
    ⟨some 18, .call 99 [(.t 16), (.t 17)], some (15, false)⟩,
    ⟨some 19, .nt (.t 18), some (15, false)⟩,
    ⟨some 20, .pick (.t 15) (.c (.bool true)) (.t 19), none⟩] [1, 2, 20])
  (.cond (.t 20) (.seq (.reg [⟨some 6, .asg (.c (.slice true [])), none⟩,
    ⟨some 7, .asg (.c (.bool false)), none⟩] [6, 7])
  (.ret)) (.skip))))
  (.seq (.reg [⟨some 8, .asg (.c (.slice true [])), none⟩] [1, 2, 8])
  (.seq (.kp [8] (.seq (.reg [⟨some 21, .mv (.t 2), none⟩,
    ⟨some 22, .len false (.t 21), none⟩,
    ⟨some 23, .mv (.c (.int .i64 0)), none⟩] [1, 2, 8, 21, 22, 23])
  (.blk 0 (.loop (.seq (.reg [⟨some 24, .bin .lss (.t 23) (.t 22), none⟩] [1, 2, 8, 21, 22, 23, 24])
  (.seq (.kp [1, 2, 8, 21, 22, 23] (.cond (.t 24) (.skip) (.exit 0)))
  (.seq (.kp [1, 2, 8, 21, 22, 23] (.blk 1 (.seq (.reg [⟨some 25, .mv (.t 23), none⟩,
    ⟨some 26, .ia 21 (.t 23) 3, none⟩,
    ⟨some 27, .ld 26 3 true, none⟩,
    ⟨some 10, .alloc (.agg [.int .i64 0, .int .i64 0, .slice true []]), none⟩,
    ⟨some 9, .asg (.t 25), none⟩,
    ⟨none, .st 10 (.t 27) 3, none⟩] [1, 2, 8, 9, 10, 21, 22, 23])
  (.seq (.reg [⟨some 28, .mv (.t 1), none⟩,
    ⟨some 29, .fa 10 2 2, none⟩,
    ⟨some 30, .ld 29 1 false, none⟩,
    ⟨some 31, .call 90 [(.t 28), (.t 30)], none⟩,
    ⟨some 32, .len false (.t 31), none⟩,
    ⟨some 33, .bin .gtr (.t 32) (.c (.int .i64 0)), none⟩] [1, 2, 8, 9, 21, 22, 23, 33])
  (.cond (.t 33) (.reg [⟨some 34, .mv (.t 8), none⟩,
    ⟨some 35, .mv (.t 9), none⟩,
    ⟨some 36, .bsl [(.t 35)] 1, none⟩,
    ⟨some 37, .app (.t 34) (.t 36) 1, none⟩,
    ⟨some 8, .asg (.t 37), none⟩] [1, 2, 8, 21, 22, 23]) (.skip))))))
  (.reg [⟨some 38, .bin .add (.t 23) (.c (.int .i64 1)), none⟩,
    ⟨some 23, .mv (.t 38), none⟩] [1, 2, 8, 21, 22, 23]))))))))
  (.seq (.reg [⟨some 39, .mv (.t 8), none⟩,
    ⟨some 6, .asg (.t 39), none⟩,
    ⟨some 7, .asg (.c (.bool true)), none⟩] [6, 7])
  (.ret)))))
theorem con_spec_FailingRecords {v0 : (List XVariable)} {v1 : (List XEdit)} {v2 : (List XRecord)} {r : ((List Int) × Bool)} (h : sh_spec_FailingRecords v0 v1 v2 = some r) : Con Try.prog 53 [(cLs (cXVariable cS cI) rfl).enc v0, (cLs (cXEdit (cLs cI rfl)) rfl).enc v1, (cLs (cXRecord cI cI (cLs cI rfl)) rfl).enc v2] [] (rs_spec_FailingRecords r) := by
  delta sh_spec_FailingRecords at h
  refine top (out := none) (f := Try.f53) (m := m53) (rs := [.t 6, .t 7]) (by kernel_rfl) rfl (by kernel_rfl) (by kernel_rfl) (by kernel_rfl) (by kernel_rfl) (by kernel_rfl) ?_
  exact
   ini [(0, .d ((cLs (cXVariable cS cI) rfl).enc v0)), (1, .d ((cLs (cXEdit (cLs cI rfl)) rfl).enc v1)), (2, .d ((cLs (cXRecord cI cI (cLs cI rfl)) rfl).enc v2))] rfl <| wpC_seq <| reg_s <| x_asg (sc (cLo cI) ([] : List Int) rfl) <| x_asg (sc cB false rfl) <| seqN [(0, .d ((cLs (cXVariable cS cI) rfl).enc v0)), (1, .d ((cLs (cXEdit (cLs cI rfl)) rfl).enc v1)), (2, .d ((cLs (cXRecord cI cI (cLs cI rfl)) rfl).enc v2))] (by kernel_rfl) <|
    xn <| wpC_seq <| wpC_kp <| wpC_seq <| reg_s <| st rfl <| mvd rfl rfl <| st rfl <| mvd rfl rfl <| bnd h fun x17 e18 h => st rfl <| o_call (a1 (c := (cLs (cXVariable cS cI) rfl)) (tLs (tXVariable tS tK)) rfl (a1 (c := (cLs (cXEdit (cLs cI rfl)) rfl)) (tLs (tXEdit (tLs tK))) rfl a0)) (con_spec_eSmall e18) (.inl (so1 sB so0)) <| st rfl <| o_nt rfl <| st rfl <| mvd rfl rfl <| ite_k h (fun b19 h => gf rfl b19 <| gf rfl b19 <| gf rfl b19 <| gf rfl b19 <| st rfl <| pick1 rfl b19 (cd := cB) (v := true) rfl rfl <| seqN [(1, .d ((cLs (cXEdit (cLs cI rfl)) rfl).enc v1)), (2, .d ((cLs (cXRecord cI cI (cLs cI rfl)) rfl).enc v2)), (20, .d (cB.enc true))] (by kernel_rfl) <|
    xn <| cnd1 rfl rfl <| wpC_seq <| reg_s <| x_asg (sc (cLo cI) ([] : List Int) rfl) <| x_asg (sc cB false rfl) <| seqN [(6, .d ((cLo cI).enc ([] : List Int))), (7, .d (cB.enc false))] (by kernel_rfl) <|
    xn <| wpC_ret <| rt <| rt <| re <| fin h (r1 (so rfl rfl) <| r1 (ss rfl rfl) <| r0) rfl)
    (fun b19 h => gt' rfl b19 <| st rfl <| mvd rfl rfl <| gt' rfl b19 <| st rfl <| mvd rfl rfl <| gt' rfl b19 <| bnd h fun x20 e21 h => st rfl <| o_call (a1 (c := (cLs (cXVariable cS cI) rfl)) (tLs (tXVariable tS tK)) rfl (a1 (c := (cLs (cXRecord cI cI (cLs cI rfl)) rfl)) (tLs (tXRecord tK tK (tLs tK))) rfl a0)) (con_spec_dGood e21) (.inl (so1 sB so0)) <| gt' rfl b19 <| st rfl <| o_nt rfl <| st rfl <| pick0 rfl b19 (cd := cB) (v := (!x20)) rfl rfl <| seqN [(1, .d ((cLs (cXEdit (cLs cI rfl)) rfl).enc v1)), (2, .d ((cLs (cXRecord cI cI (cLs cI rfl)) rfl).enc v2)), (20, .d (cB.enc (!x20)))] (by kernel_rfl) <|
    xn <| cnd rfl h (fun b22 h => wpC_seq <| reg_s <| x_asg (sc (cLo cI) ([] : List Int) rfl) <| x_asg (sc cB false rfl) <| seqN [(6, .d ((cLo cI).enc ([] : List Int))), (7, .d (cB.enc false))] (by kernel_rfl) <|
    xn <| wpC_ret <| rt <| rt <| re <| fin h (r1 (so rfl rfl) <| r1 (ss rfl rfl) <| r0) rfl)
    (fun b22 h => wpC_skip <| kpN [(1, .d ((cLs (cXEdit (cLs cI rfl)) rfl).enc v1)), (2, .d ((cLs (cXRecord cI cI (cLs cI rfl)) rfl).enc v2))] (by kernel_rfl) <| xn <| wpC_seq <| reg_s <| x_asg (sc (cLo cI) ([] : List Int) rfl) <| seqN [(1, .d ((cLs (cXEdit (cLs cI rfl)) rfl).enc v1)), (2, .d ((cLs (cXRecord cI cI (cLs cI rfl)) rfl).enc v2)), (8, .d ((cLo cI).enc ([] : List Int)))] (by kernel_rfl) <|
    xn <| wpC_seq <| wpC_kp <| wpC_seq <| reg_s <| st rfl <| mvd rfl rfl <| stw rfl <| lens rfl fun l82 => st rfl <| mvc cI (0 : Int) rfl <| seqN [(1, .d ((cLs (cXEdit (cLs cI rfl)) rfl).enc v1)), (2, .d ((cLs (cXRecord cI cI (cLs cI rfl)) rfl).enc v2)), (8, .d ((cLo cI).enc ([] : List Int))), (21, .d ((cLs (cXRecord cI cI (cLs cI rfl)) rfl).enc v2)), (22, .d (cI.enc (v2.length : Int))), (23, .d (cI.enc (0 : Int)))] (by kernel_rfl) <|
    xn <| wpC_blk <| lpR (fun (k84 : Nat) (s83 : (List Int)) => [(1, .d ((cLs (cXEdit (cLs cI rfl)) rfl).enc v1)), (2, .d ((cLs (cXRecord cI cI (cLs cI rfl)) rfl).enc v2)), (8, .d ((cLo cI).enc s83)), (21, .d ((cLs (cXRecord cI cI (cLs cI rfl)) rfl).enc v2)), (22, .d (cI.enc (v2.length : Int))), (23, .d (cI.enc (k84 : Int)))]) ([] : List Int) rfl h
    (fun G122 s83 h => wpC_seq <| reg_s <| st rfl <| b_lss (k := .i64) rfl rfl <| seqN [(1, .d ((cLs (cXEdit (cLs cI rfl)) rfl).enc v1)), (2, .d ((cLs (cXRecord cI cI (cLs cI rfl)) rfl).enc v2)), (8, .d ((cLo cI).enc s83)), (21, .d ((cLs (cXRecord cI cI (cLs cI rfl)) rfl).enc v2)), (22, .d (cI.enc (v2.length : Int))), (23, .d (cI.enc (v2.length : Int))), (24, .d (cB.enc (decide ((v2.length : Int) < (v2.length : Int)))))] (by kernel_rfl) <|
    xn <| wpC_seq <| wpC_kp <| cnd0 rfl (dlf _) <| wpC_exit <| xt <| xt <| xt <| xb <| kpN [(8, .d ((cLo cI).enc s83))] (by kernel_rfl) <| xn <| wpC_seq <| reg_s <| st rfl <| mvo rfl rfl <| x_asg (sr rfl rfl) <| x_asg (sc cB true rfl) <| seqN [(6, .d ((cLo cI).enc s83)), (7, .d (cB.enc true))] (by kernel_rfl) <|
    xn <| wpC_ret <| re <| fin h (r1 (so rfl rfl) <| r1 (ss rfl rfl) <| r0) rfl)
    (fun G122 nx120 k84 s83 x85 hk86 hx87 hn121 h => wpC_seq <| reg_s <| st rfl <| b_lss (k := .i64) rfl rfl <| seqN [(1, .d ((cLs (cXEdit (cLs cI rfl)) rfl).enc v1)), (2, .d ((cLs (cXRecord cI cI (cLs cI rfl)) rfl).enc v2)), (8, .d ((cLo cI).enc s83)), (21, .d ((cLs (cXRecord cI cI (cLs cI rfl)) rfl).enc v2)), (22, .d (cI.enc (v2.length : Int))), (23, .d (cI.enc (k84 : Int))), (24, .d (cB.enc (decide ((k84 : Int) < (v2.length : Int)))))] (by kernel_rfl) <|
    xn <| wpC_seq <| wpC_kp <| cnd1 rfl (dlt hk86) <| wpC_skip <| kpN [(1, .d ((cLs (cXEdit (cLs cI rfl)) rfl).enc v1)), (2, .d ((cLs (cXRecord cI cI (cLs cI rfl)) rfl).enc v2)), (8, .d ((cLo cI).enc s83)), (21, .d ((cLs (cXRecord cI cI (cLs cI rfl)) rfl).enc v2)), (22, .d (cI.enc (v2.length : Int))), (23, .d (cI.enc (k84 : Int)))] (by kernel_rfl) <| xn <| wpC_seq <| wpC_kp <| wpC_blk <| wpC_seq <| reg_s <| st rfl <| mvd rfl rfl <| st rfl <| ias rfl rfl (Int.natCast_nonneg _) hx87 rfl <| st rfl <| ldi rfl rfl rfl rfl <| x_all (cXRecord cI cI (cLo cI)) (⟨(0 : Int), (0 : Int), ([] : List Int)⟩ : XRecord) rfl <| x_asg (ss rfl rfl) <| x_stb (ss rfl rfl) rfl (Cd.h_sz _ _) rfl <| seqN [(1, .d ((cLs (cXEdit (cLs cI rfl)) rfl).enc v1)), (2, .d ((cLs (cXRecord cI cI (cLs cI rfl)) rfl).enc v2)), (8, .d ((cLo cI).enc s83)), (9, .d (cI.enc (k84 : Int))), (10, .box ((cXRecord cI cI (cLs cI rfl)).enc x85)), (21, .d ((cLs (cXRecord cI cI (cLs cI rfl)) rfl).enc v2)), (22, .d (cI.enc (v2.length : Int))), (23, .d (cI.enc (k84 : Int)))] (by kernel_rfl) <|
    xn <| wpC_seq <| reg_s <| st rfl <| mvd rfl rfl <| st rfl <| fab rfl rfl rfl rfl <| st rfl <| lda rfl rfl rfl rfl rfl rfl <| bnd h fun x134 e135 h => st rfl <| o_call (a1 (c := (cLs (cXEdit (cLs cI rfl)) rfl)) (tLs (tXEdit (tLs tK))) rfl (a1 (c := (cLs cI rfl)) (tLs tK) rfl a0)) (con_spec_eFailed e135) (.inl (so1 (sLo sK) so0)) <| stw rfl <| leno rfl fun l136 => st rfl <| b_gtr (k := .i64) rfl rfl <| seqN [(1, .d ((cLs (cXEdit (cLs cI rfl)) rfl).enc v1)), (2, .d ((cLs (cXRecord cI cI (cLs cI rfl)) rfl).enc v2)), (8, .d ((cLo cI).enc s83)), (9, .d (cI.enc (k84 : Int))), (21, .d ((cLs (cXRecord cI cI (cLs cI rfl)) rfl).enc v2)), (22, .d (cI.enc (v2.length : Int))), (23, .d (cI.enc (k84 : Int))), (33, .d (cB.enc (decide ((0 : Int) < (x134.length : Int)))))] (by kernel_rfl) <|
    xn <| cnd rfl h (fun b137 h => reg_s <| st rfl <| mvo rfl rfl <| st rfl <| mvd rfl rfl <| x_bsl cI [(k84 : Int)] (t1 (ss rfl rfl) rfl t0) rfl rfl <| lnO_k h fun l138 h => x_app (sr rfl rfl) (to rfl rfl) l138 rfl <| x_asg (so rfl rfl) <| seqN [(1, .d ((cLs (cXEdit (cLs cI rfl)) rfl).enc v1)), (2, .d ((cLs (cXRecord cI cI (cLs cI rfl)) rfl).enc v2)), (8, .d ((cLo cI).enc (s83 ++ [(k84 : Int)]))), (21, .d ((cLs (cXRecord cI cI (cLs cI rfl)) rfl).enc v2)), (22, .d (cI.enc (v2.length : Int))), (23, .d (cI.enc (k84 : Int)))] (by kernel_rfl) <|
    xbb <| kpN [(1, .d ((cLs (cXEdit (cLs cI rfl)) rfl).enc v1)), (2, .d ((cLs (cXRecord cI cI (cLs cI rfl)) rfl).enc v2)), (8, .d ((cLo cI).enc (s83 ++ [(k84 : Int)]))), (21, .d ((cLs (cXRecord cI cI (cLs cI rfl)) rfl).enc v2)), (22, .d (cI.enc (v2.length : Int))), (23, .d (cI.enc (k84 : Int)))] (by kernel_rfl) <| xn <| reg_s <| st rfl <| b_inc rfl rfl l82 hk86 <| st rfl <| mvd rfl rfl <| seqN [(1, .d ((cLs (cXEdit (cLs cI rfl)) rfl).enc v1)), (2, .d ((cLs (cXRecord cI cI (cLs cI rfl)) rfl).enc v2)), (8, .d ((cLo cI).enc (s83 ++ [(k84 : Int)]))), (21, .d ((cLs (cXRecord cI cI (cLs cI rfl)) rfl).enc v2)), (22, .d (cI.enc (v2.length : Int))), (23, .d (cI.enc ((k84 + 1 : Nat) : Int)))] (by kernel_rfl) <|
    xn <| hn121 (s83 ++ [(k84 : Int)]) h)
    (fun b137 h => wpC_skip <| xbb <| kpN [(1, .d ((cLs (cXEdit (cLs cI rfl)) rfl).enc v1)), (2, .d ((cLs (cXRecord cI cI (cLs cI rfl)) rfl).enc v2)), (8, .d ((cLo cI).enc s83)), (21, .d ((cLs (cXRecord cI cI (cLs cI rfl)) rfl).enc v2)), (22, .d (cI.enc (v2.length : Int))), (23, .d (cI.enc (k84 : Int)))] (by kernel_rfl) <| xn <| reg_s <| st rfl <| b_inc rfl rfl l82 hk86 <| st rfl <| mvd rfl rfl <| seqN [(1, .d ((cLs (cXEdit (cLs cI rfl)) rfl).enc v1)), (2, .d ((cLs (cXRecord cI cI (cLs cI rfl)) rfl).enc v2)), (8, .d ((cLo cI).enc s83)), (21, .d ((cLs (cXRecord cI cI (cLs cI rfl)) rfl).enc v2)), (22, .d (cI.enc (v2.length : Int))), (23, .d (cI.enc ((k84 + 1 : Nat) : Int)))] (by kernel_rfl) <|
    xn <| hn121 s83 h))))

def rs_impl_FailingRecords (r : ((List Int) × Bool)) : List D := [(cLo cI).enc r.1, cB.enc r.2]
def m54 : MC := .seq (.reg [⟨some 6, .asg (.c (.slice true [])), none⟩,
    ⟨some 7, .asg (.c (.bool false)), none⟩] [0, 1, 2])
  (.seq (.kp [1, 2] (.seq (.reg [⟨some 11, .mv (.t 0), none⟩,
    ⟨some 12, .call 64 [(.t 11)], none⟩,
    ⟨some 13, .nt (.t 12), none⟩,
    ⟨some 14, .mv (.t 13), none⟩,
    ⟨some 15, .mv (.t 0), some (14, false)⟩,
    ⟨some 16, .mv (.t 1), some (14, false)⟩,
    ⟨some 17, .call 71 [(.t 15), (.t 16)], some (14, false)⟩,
    ⟨some 18, .nt (.t 17), some (14, false)⟩,
    ⟨some 19, .pick (.t 14) (.c (.bool true)) (.t 18), none⟩,
    ⟨some 20, .mv (.t 19), none⟩,
    ⟨some 21, .mv (.t 0), some (20, false)⟩,
    ⟨some 22, .mv (.t 2), some (20, false)⟩,
    ⟨some 23, .call 101 [(.t 21), (.t 22)], some (20, false)⟩,
    ⟨some 24, .nt (.t 23), some (20, false)⟩,
    ⟨some 25, .pick (.t 20) (.c (.bool true)) (.t 24), none⟩] [1, 2, 25])
  (.cond (.t 25) (.seq (.reg [⟨some 6, .asg (.c (.slice true [])), none⟩,
    ⟨some 7, .asg (.c (.bool false)), none⟩] [6, 7])
  (.ret)) (.skip))))
  (.seq (.reg [⟨some 8, .asg (.c (.slice true [])), none⟩] [1, 2, 8])
  (.seq (.kp [8] (.seq (.reg [⟨some 26, .mv (.t 2), none⟩,
    ⟨some 27, .len false (.t 26), none⟩,
    ⟨some 28, .mv (.c (.int .i64 0)), none⟩] [1, 2, 8, 26, 27, 28])
  (.blk 0 (.loop (.seq (.reg [⟨some 29, .bin .lss (.t 28) (.t 27), none⟩] [1, 2, 8, 26, 27, 28, 29])
  (.seq (.kp [1, 2, 8, 26, 27, 28] (.cond (.t 29) (.skip) (.exit 0)))
  (.seq (.kp [1, 2, 8, 26, 27, 28] (.blk 1 (.seq (.reg [⟨some 30, .mv (.t 28), none⟩,
    ⟨some 31, .ia 26 (.t 28) 3, none⟩,
    ⟨some 32, .ld 31 3 true, none⟩,
    ⟨some 10, .alloc (.agg [.int .i64 0, .int .i64 0, .slice true []]), none⟩,
    ⟨some 9, .asg (.t 30), none⟩,
    ⟨none, .st 10 (.t 32) 3, none⟩] [1, 2, 8, 9, 10, 26, 27, 28])
  (.seq (.reg [⟨some 33, .mv (.t 1), none⟩,
    ⟨some 34, .fa 10 2 2, none⟩,
    ⟨some 35, .ld 34 1 false, none⟩,
    ⟨some 36, .call 75 [(.t 33), (.t 35)], none⟩] [1, 2, 8, 9, 26, 27, 28, 36])
  (.cond (.t 36) (.reg [⟨some 37, .mv (.t 8), none⟩,
    ⟨some 38, .mv (.t 9), none⟩,
    ⟨some 39, .bsl [(.t 38)] 1, none⟩,
    ⟨some 40, .app (.t 37) (.t 39) 1, none⟩,
    ⟨some 8, .asg (.t 40), none⟩] [1, 2, 8, 26, 27, 28]) (.skip))))))
  (.reg [⟨some 41, .bin .add (.t 28) (.c (.int .i64 1)), none⟩,
    ⟨some 28, .mv (.t 41), none⟩] [1, 2, 8, 26, 27, 28]))))))))
  (.seq (.reg [⟨some 42, .mv (.t 8), none⟩,
    ⟨some 6, .asg (.t 42), none⟩,
    ⟨some 7, .asg (.c (.bool true)), none⟩] [6, 7])
  (.ret)))))
theorem con_impl_FailingRecords {v0 : (List XVariable)} {v1 : (List XEdit)} {v2 : (List XRecord)} {r : ((List Int) × Bool)} (h : sh_impl_FailingRecords v0 v1 v2 = some r) : Con Try.prog 54 [(cLs (cXVariable cS cI) rfl).enc v0, (cLs (cXEdit (cLs cI rfl)) rfl).enc v1, (cLs (cXRecord cI cI (cLs cI rfl)) rfl).enc v2] [] (rs_impl_FailingRecords r) := by
  delta sh_impl_FailingRecords at h
  refine top (out := none) (f := Try.f54) (m := m54) (rs := [.t 6, .t 7]) (by kernel_rfl) rfl (by kernel_rfl) (by kernel_rfl) (by kernel_rfl) (by kernel_rfl) (by kernel_rfl) ?_
  exact
   ini [(0, .d ((cLs (cXVariable cS cI) rfl).enc v0)), (1, .d ((cLs (cXEdit (cLs cI rfl)) rfl).enc v1)), (2, .d ((cLs (cXRecord cI cI (cLs cI rfl)) rfl).enc v2))] rfl <| wpC_seq <| reg_s <| x_asg (sc (cLo cI) ([] : List Int) rfl) <| x_asg (sc cB false rfl) <| seqN [(0, .d ((cLs (cXVariable cS cI) rfl).enc v0)), (1, .d ((cLs (cXEdit (cLs cI rfl)) rfl).enc v1)), (2, .d ((cLs (cXRecord cI cI (cLs cI rfl)) rfl).enc v2))] (by kernel_rfl) <|
    xn <| wpC_seq <| wpC_kp <| wpC_seq <| reg_s <| st rfl <| mvd rfl rfl <| bnd h fun x26 e27 h => st rfl <| o_call (a1 (c := (cLs (cXVariable cS cI) rfl)) (tLs (tXVariable tS tK)) rfl a0) (con_impl_isSmall e27) (.inl (so1 sB so0)) <| st rfl <| o_nt rfl <| st rfl <| mvd rfl rfl <| ite_k h (fun b28 h => gf rfl b28 <| gf rfl b28 <| gf rfl b28 <| gf rfl b28 <| st rfl <| pick1 rfl b28 (cd := cB) (v := true) rfl rfl <| st rfl <| mvd rfl rfl <| gf rfl rfl <| gf rfl rfl <| gf rfl rfl <| gf rfl rfl <| st rfl <| pick1 rfl rfl (cd := cB) (v := true) rfl rfl <| seqN [(1, .d ((cLs (cXEdit (cLs cI rfl)) rfl).enc v1)), (2, .d ((cLs (cXRecord cI cI (cLs cI rfl)) rfl).enc v2)), (25, .d (cB.enc true))] (by kernel_rfl) <|
    xn <| cnd1 rfl rfl <| wpC_seq <| reg_s <| x_asg (sc (cLo cI) ([] : List Int) rfl) <| x_asg (sc cB false rfl) <| seqN [(6, .d ((cLo cI).enc ([] : List Int))), (7, .d (cB.enc false))] (by kernel_rfl) <|
    xn <| wpC_ret <| rt <| rt <| re <| fin h (r1 (so rfl rfl) <| r1 (ss rfl rfl) <| r0) rfl)
    (fun b28 h => gt' rfl b28 <| st rfl <| mvd rfl rfl <| gt' rfl b28 <| st rfl <| mvd rfl rfl <| gt' rfl b28 <| bnd h fun x29 e30 h => st rfl <| o_call (a1 (c := (cLs (cXVariable cS cI) rfl)) (tLs (tXVariable tS tK)) rfl (a1 (c := (cLs (cXEdit (cLs cI rfl)) rfl)) (tLs (tXEdit (tLs tK))) rfl a0)) (con_impl_areEdits e30) (.inl (so1 sB so0)) <| gt' rfl b28 <| st rfl <| o_nt rfl <| st rfl <| pick0 rfl b28 (cd := cB) (v := (!x29)) rfl rfl <| st rfl <| mvd rfl rfl <| ite_k h (fun b31 h => gf rfl b31 <| gf rfl b31 <| gf rfl b31 <| gf rfl b31 <| st rfl <| pick1 rfl b31 (cd := cB) (v := true) rfl rfl <| seqN [(1, .d ((cLs (cXEdit (cLs cI rfl)) rfl).enc v1)), (2, .d ((cLs (cXRecord cI cI (cLs cI rfl)) rfl).enc v2)), (25, .d (cB.enc true))] (by kernel_rfl) <|
    xn <| cnd1 rfl rfl <| wpC_seq <| reg_s <| x_asg (sc (cLo cI) ([] : List Int) rfl) <| x_asg (sc cB false rfl) <| seqN [(6, .d ((cLo cI).enc ([] : List Int))), (7, .d (cB.enc false))] (by kernel_rfl) <|
    xn <| wpC_ret <| rt <| rt <| re <| fin h (r1 (so rfl rfl) <| r1 (ss rfl rfl) <| r0) rfl)
    (fun b31 h => gt' rfl b31 <| st rfl <| mvd rfl rfl <| gt' rfl b31 <| st rfl <| mvd rfl rfl <| gt' rfl b31 <| bnd h fun x32 e33 h => st rfl <| o_call (a1 (c := (cLs (cXVariable cS cI) rfl)) (tLs (tXVariable tS tK)) rfl (a1 (c := (cLs (cXRecord cI cI (cLs cI rfl)) rfl)) (tLs (tXRecord tK tK (tLs tK))) rfl a0)) (con_impl_isData e33) (.inl (so1 sB so0)) <| gt' rfl b31 <| st rfl <| o_nt rfl <| st rfl <| pick0 rfl b31 (cd := cB) (v := (!x32)) rfl rfl <| seqN [(1, .d ((cLs (cXEdit (cLs cI rfl)) rfl).enc v1)), (2, .d ((cLs (cXRecord cI cI (cLs cI rfl)) rfl).enc v2)), (25, .d (cB.enc (!x32)))] (by kernel_rfl) <|
    xn <| cnd rfl h (fun b34 h => wpC_seq <| reg_s <| x_asg (sc (cLo cI) ([] : List Int) rfl) <| x_asg (sc cB false rfl) <| seqN [(6, .d ((cLo cI).enc ([] : List Int))), (7, .d (cB.enc false))] (by kernel_rfl) <|
    xn <| wpC_ret <| rt <| rt <| re <| fin h (r1 (so rfl rfl) <| r1 (ss rfl rfl) <| r0) rfl)
    (fun b34 h => wpC_skip <| kpN [(1, .d ((cLs (cXEdit (cLs cI rfl)) rfl).enc v1)), (2, .d ((cLs (cXRecord cI cI (cLs cI rfl)) rfl).enc v2))] (by kernel_rfl) <| xn <| wpC_seq <| reg_s <| x_asg (sc (cLo cI) ([] : List Int) rfl) <| seqN [(1, .d ((cLs (cXEdit (cLs cI rfl)) rfl).enc v1)), (2, .d ((cLs (cXRecord cI cI (cLs cI rfl)) rfl).enc v2)), (8, .d ((cLo cI).enc ([] : List Int)))] (by kernel_rfl) <|
    xn <| wpC_seq <| wpC_kp <| wpC_seq <| reg_s <| st rfl <| mvd rfl rfl <| stw rfl <| lens rfl fun l82 => st rfl <| mvc cI (0 : Int) rfl <| seqN [(1, .d ((cLs (cXEdit (cLs cI rfl)) rfl).enc v1)), (2, .d ((cLs (cXRecord cI cI (cLs cI rfl)) rfl).enc v2)), (8, .d ((cLo cI).enc ([] : List Int))), (26, .d ((cLs (cXRecord cI cI (cLs cI rfl)) rfl).enc v2)), (27, .d (cI.enc (v2.length : Int))), (28, .d (cI.enc (0 : Int)))] (by kernel_rfl) <|
    xn <| wpC_blk <| lpR (fun (k84 : Nat) (s83 : (List Int)) => [(1, .d ((cLs (cXEdit (cLs cI rfl)) rfl).enc v1)), (2, .d ((cLs (cXRecord cI cI (cLs cI rfl)) rfl).enc v2)), (8, .d ((cLo cI).enc s83)), (26, .d ((cLs (cXRecord cI cI (cLs cI rfl)) rfl).enc v2)), (27, .d (cI.enc (v2.length : Int))), (28, .d (cI.enc (k84 : Int)))]) ([] : List Int) rfl h
    (fun G114 s83 h => wpC_seq <| reg_s <| st rfl <| b_lss (k := .i64) rfl rfl <| seqN [(1, .d ((cLs (cXEdit (cLs cI rfl)) rfl).enc v1)), (2, .d ((cLs (cXRecord cI cI (cLs cI rfl)) rfl).enc v2)), (8, .d ((cLo cI).enc s83)), (26, .d ((cLs (cXRecord cI cI (cLs cI rfl)) rfl).enc v2)), (27, .d (cI.enc (v2.length : Int))), (28, .d (cI.enc (v2.length : Int))), (29, .d (cB.enc (decide ((v2.length : Int) < (v2.length : Int)))))] (by kernel_rfl) <|
    xn <| wpC_seq <| wpC_kp <| cnd0 rfl (dlf _) <| wpC_exit <| xt <| xt <| xt <| xb <| kpN [(8, .d ((cLo cI).enc s83))] (by kernel_rfl) <| xn <| wpC_seq <| reg_s <| st rfl <| mvo rfl rfl <| x_asg (sr rfl rfl) <| x_asg (sc cB true rfl) <| seqN [(6, .d ((cLo cI).enc s83)), (7, .d (cB.enc true))] (by kernel_rfl) <|
    xn <| wpC_ret <| re <| fin h (r1 (so rfl rfl) <| r1 (ss rfl rfl) <| r0) rfl)
    (fun G114 nx112 k84 s83 x85 hk86 hx87 hn113 h => wpC_seq <| reg_s <| st rfl <| b_lss (k := .i64) rfl rfl <| seqN [(1, .d ((cLs (cXEdit (cLs cI rfl)) rfl).enc v1)), (2, .d ((cLs (cXRecord cI cI (cLs cI rfl)) rfl).enc v2)), (8, .d ((cLo cI).enc s83)), (26, .d ((cLs (cXRecord cI cI (cLs cI rfl)) rfl).enc v2)), (27, .d (cI.enc (v2.length : Int))), (28, .d (cI.enc (k84 : Int))), (29, .d (cB.enc (decide ((k84 : Int) < (v2.length : Int)))))] (by kernel_rfl) <|
    xn <| wpC_seq <| wpC_kp <| cnd1 rfl (dlt hk86) <| wpC_skip <| kpN [(1, .d ((cLs (cXEdit (cLs cI rfl)) rfl).enc v1)), (2, .d ((cLs (cXRecord cI cI (cLs cI rfl)) rfl).enc v2)), (8, .d ((cLo cI).enc s83)), (26, .d ((cLs (cXRecord cI cI (cLs cI rfl)) rfl).enc v2)), (27, .d (cI.enc (v2.length : Int))), (28, .d (cI.enc (k84 : Int)))] (by kernel_rfl) <| xn <| wpC_seq <| wpC_kp <| wpC_blk <| wpC_seq <| reg_s <| st rfl <| mvd rfl rfl <| st rfl <| ias rfl rfl (Int.natCast_nonneg _) hx87 rfl <| st rfl <| ldi rfl rfl rfl rfl <| x_all (cXRecord cI cI (cLo cI)) (⟨(0 : Int), (0 : Int), ([] : List Int)⟩ : XRecord) rfl <| x_asg (ss rfl rfl) <| x_stb (ss rfl rfl) rfl (Cd.h_sz _ _) rfl <| seqN [(1, .d ((cLs (cXEdit (cLs cI rfl)) rfl).enc v1)), (2, .d ((cLs (cXRecord cI cI (cLs cI rfl)) rfl).enc v2)), (8, .d ((cLo cI).enc s83)), (9, .d (cI.enc (k84 : Int))), (10, .box ((cXRecord cI cI (cLs cI rfl)).enc x85)), (26, .d ((cLs (cXRecord cI cI (cLs cI rfl)) rfl).enc v2)), (27, .d (cI.enc (v2.length : Int))), (28, .d (cI.enc (k84 : Int)))] (by kernel_rfl) <|
    xn <| wpC_seq <| reg_s <| st rfl <| mvd rfl rfl <| st rfl <| fab rfl rfl rfl rfl <| st rfl <| lda rfl rfl rfl rfl rfl rfl <| bnd h fun x123 e124 h => st rfl <| o_call (a1 (c := (cLs (cXEdit (cLs cI rfl)) rfl)) (tLs (tXEdit (tLs tK))) rfl (a1 (c := (cLs cI rfl)) (tLs tK) rfl a0)) (con_impl_failsOne e124) (.inl (so1 sB so0)) <| seqN [(1, .d ((cLs (cXEdit (cLs cI rfl)) rfl).enc v1)), (2, .d ((cLs (cXRecord cI cI (cLs cI rfl)) rfl).enc v2)), (8, .d ((cLo cI).enc s83)), (9, .d (cI.enc (k84 : Int))), (26, .d ((cLs (cXRecord cI cI (cLs cI rfl)) rfl).enc v2)), (27, .d (cI.enc (v2.length : Int))), (28, .d (cI.enc (k84 : Int))), (36, .d (cB.enc x123))] (by kernel_rfl) <|
    xn <| cnd rfl h (fun b125 h => reg_s <| st rfl <| mvo rfl rfl <| st rfl <| mvd rfl rfl <| x_bsl cI [(k84 : Int)] (t1 (ss rfl rfl) rfl t0) rfl rfl <| lnO_k h fun l126 h => x_app (sr rfl rfl) (to rfl rfl) l126 rfl <| x_asg (so rfl rfl) <| seqN [(1, .d ((cLs (cXEdit (cLs cI rfl)) rfl).enc v1)), (2, .d ((cLs (cXRecord cI cI (cLs cI rfl)) rfl).enc v2)), (8, .d ((cLo cI).enc (s83 ++ [(k84 : Int)]))), (26, .d ((cLs (cXRecord cI cI (cLs cI rfl)) rfl).enc v2)), (27, .d (cI.enc (v2.length : Int))), (28, .d (cI.enc (k84 : Int)))] (by kernel_rfl) <|
    xbb <| kpN [(1, .d ((cLs (cXEdit (cLs cI rfl)) rfl).enc v1)), (2, .d ((cLs (cXRecord cI cI (cLs cI rfl)) rfl).enc v2)), (8, .d ((cLo cI).enc (s83 ++ [(k84 : Int)]))), (26, .d ((cLs (cXRecord cI cI (cLs cI rfl)) rfl).enc v2)), (27, .d (cI.enc (v2.length : Int))), (28, .d (cI.enc (k84 : Int)))] (by kernel_rfl) <| xn <| reg_s <| st rfl <| b_inc rfl rfl l82 hk86 <| st rfl <| mvd rfl rfl <| seqN [(1, .d ((cLs (cXEdit (cLs cI rfl)) rfl).enc v1)), (2, .d ((cLs (cXRecord cI cI (cLs cI rfl)) rfl).enc v2)), (8, .d ((cLo cI).enc (s83 ++ [(k84 : Int)]))), (26, .d ((cLs (cXRecord cI cI (cLs cI rfl)) rfl).enc v2)), (27, .d (cI.enc (v2.length : Int))), (28, .d (cI.enc ((k84 + 1 : Nat) : Int)))] (by kernel_rfl) <|
    xn <| hn113 (s83 ++ [(k84 : Int)]) h)
    (fun b125 h => wpC_skip <| xbb <| kpN [(1, .d ((cLs (cXEdit (cLs cI rfl)) rfl).enc v1)), (2, .d ((cLs (cXRecord cI cI (cLs cI rfl)) rfl).enc v2)), (8, .d ((cLo cI).enc s83)), (26, .d ((cLs (cXRecord cI cI (cLs cI rfl)) rfl).enc v2)), (27, .d (cI.enc (v2.length : Int))), (28, .d (cI.enc (k84 : Int)))] (by kernel_rfl) <| xn <| reg_s <| st rfl <| b_inc rfl rfl l82 hk86 <| st rfl <| mvd rfl rfl <| seqN [(1, .d ((cLs (cXEdit (cLs cI rfl)) rfl).enc v1)), (2, .d ((cLs (cXRecord cI cI (cLs cI rfl)) rfl).enc v2)), (8, .d ((cLo cI).enc s83)), (26, .d ((cLs (cXRecord cI cI (cLs cI rfl)) rfl).enc v2)), (27, .d (cI.enc (v2.length : Int))), (28, .d (cI.enc ((k84 + 1 : Nat) : Int)))] (by kernel_rfl) <|
    xn <| hn113 s83 h)))))

def rs_laws_FnExactFailingRecords (r : Bool) : List D := [cB.enc r]
def m12 : MC := .seq (.reg [⟨some 6, .asg (.c (.bool false)), none⟩] [0, 1, 2])
  (.seq (.reg [⟨some 7, .asg (.c (.int .i64 1048576)), none⟩] [0, 1, 2, 7])
  (.seq (.reg [⟨some 20, .mv (.t 0), none⟩,
    ⟨some 21, .mv (.t 7), none⟩,
    ⟨some 22, .call 14 [(.t 20), (.t 21)], none⟩,
    ⟨some 7, .asg (.t 22), none⟩] [0, 1, 2, 7])
  (.seq (.kp [0, 1, 2, 7] (.seq (.reg [⟨some 23, .mv (.t 7), none⟩,
    ⟨some 24, .bin .lss (.t 23) (.c (.int .i64 0)), none⟩] [0, 1, 2, 7, 24])
  (.cond (.t 24) (.seq (.reg [⟨some 6, .asg (.c (.bool true)), none⟩] [6])
  (.ret)) (.skip))))
  (.seq (.reg [⟨some 25, .mv (.t 1), none⟩,
    ⟨some 26, .mv (.t 7), none⟩,
    ⟨some 27, .call 25 [(.t 25), (.t 26)], none⟩,
    ⟨some 7, .asg (.t 27), none⟩] [0, 1, 2, 7])
  (.seq (.kp [0, 1, 2, 7] (.seq (.reg [⟨some 28, .mv (.t 7), none⟩,
    ⟨some 29, .bin .lss (.t 28) (.c (.int .i64 0)), none⟩] [0, 1, 2, 7, 29])
  (.cond (.t 29) (.seq (.reg [⟨some 6, .asg (.c (.bool true)), none⟩] [6])
  (.ret)) (.skip))))
  (.seq (.reg [⟨some 30, .mv (.t 2), none⟩,
    ⟨some 31, .mv (.t 7), none⟩,
    ⟨some 32, .call 47 [(.t 30), (.t 31)], none⟩,
    ⟨some 7, .asg (.t 32), none⟩] [0, 1, 2, 7])
  (.seq (.kp [0, 1, 2] (.seq (.reg [⟨some 33, .mv (.t 7), none⟩,
    ⟨some 34, .bin .lss (.t 33) (.c (.int .i64 0)), none⟩] [0, 1, 2, 34])
  (.cond (.t 34) (.seq (.reg [⟨some 6, .asg (.c (.bool true)), none⟩] [6])
  (.ret)) (.skip))))
  (.seq (.reg [⟨some 36, .mv (.t 0), none⟩,
    ⟨some 37, .call 17 [(.t 36)], none⟩,
    ⟨some 38, .mv (.t 1), none⟩,
    ⟨some 39, .call 27 [(.t 38)], none⟩,
    ⟨some 40, .mv (.t 2), none⟩,
    ⟨some 41, .call 49 [(.t 40)], none⟩,
    ⟨some 42, .call 53 [(.t 37), (.t 39), (.t 41)], none⟩,
    ⟨some 35, .mvt 42, none⟩,
    ⟨some 43, .ext 35 0, none⟩,
    ⟨some 44, .ext 35 1, none⟩,
    ⟨some 8, .asg (.t 43), none⟩,
    ⟨some 9, .asg (.t 44), none⟩] [0, 1, 2, 8, 9])
  (.seq (.reg [⟨some 45, .mv (.t 0), none⟩,
    ⟨some 46, .call 17 [(.t 45)], none⟩,
    ⟨some 10, .asg (.t 46), none⟩] [0, 1, 2, 8, 9, 10])
  (.seq (.reg [⟨some 47, .mv (.t 1), none⟩,
    ⟨some 48, .call 27 [(.t 47)], none⟩,
    ⟨some 11, .asg (.t 48), none⟩] [0, 1, 2, 8, 9, 10, 11])
  (.seq (.reg [⟨some 49, .mv (.t 2), none⟩,
    ⟨some 50, .call 49 [(.t 49)], none⟩,
    ⟨some 12, .asg (.t 50), none⟩] [0, 1, 2, 8, 9, 10, 11, 12])
  (.seq (.reg [⟨some 52, .mv (.t 10), none⟩,
    ⟨some 53, .mv (.t 11), none⟩,
    ⟨some 54, .mv (.t 12), none⟩,
    ⟨some 55, .call 54 [(.t 52), (.t 53), (.t 54)], none⟩,
    ⟨some 51, .mvt 55, none⟩,
    ⟨some 56, .ext 51 0, none⟩,
    ⟨some 57, .ext 51 1, none⟩,
    ⟨some 13, .asg (.t 56), none⟩,
    ⟨some 14, .asg (.t 57), none⟩] [0, 1, 2, 8, 9, 10, 11, 12, 13, 14])
  (.seq (.kp [0, 1, 2, 8, 9, 10, 11, 12, 13, 14] (.seq (.reg [⟨some 58, .mv (.t 13), none⟩,
    ⟨some 59, .mv (.t 8), none⟩,
    ⟨some 60, .call 36 [(.t 58), (.t 59)], none⟩,
    ⟨some 61, .nt (.t 60), none⟩,
    ⟨some 62, .mv (.t 61), none⟩,
    ⟨some 63, .mv (.t 14), some (62, false)⟩,
    ⟨some 64, .mv (.t 9), some (62, false)⟩,
    ⟨some 65, .eqb true (.t 63) (.t 64), some (62, false)⟩,
    ⟨some 66, .pick (.t 62) (.c (.bool true)) (.t 65), none⟩] [0, 1, 2, 8, 9, 10, 11, 12, 13, 14, 66])
  (.cond (.t 66) (.seq (.reg [⟨some 6, .asg (.c (.bool false)), none⟩] [6])
  (.ret)) (.skip))))
  (.seq (.kp [0, 1, 2, 8, 9, 10, 11, 12, 13, 14] (.seq (.reg [⟨some 67, .mv (.t 10), none⟩,
    ⟨some 68, .mv (.t 0), none⟩,
    ⟨some 69, .call 17 [(.t 68)], none⟩,
    ⟨some 70, .call 21 [(.t 67), (.t 69)], none⟩,
    ⟨some 71, .nt (.t 70), none⟩] [0, 1, 2, 8, 9, 10, 11, 12, 13, 14, 71])
  (.cond (.t 71) (.seq (.reg [⟨some 6, .asg (.c (.bool false)), none⟩] [6])
  (.ret)) (.skip))))
  (.seq (.kp [0, 1, 2, 8, 9, 10, 11, 12, 13, 14] (.seq (.reg [⟨some 72, .mv (.t 11), none⟩,
    ⟨some 73, .mv (.t 1), none⟩,
    ⟨some 74, .call 27 [(.t 73)], none⟩,
    ⟨some 75, .call 29 [(.t 72), (.t 74)], none⟩,
    ⟨some 76, .nt (.t 75), none⟩] [0, 1, 2, 8, 9, 10, 11, 12, 13, 14, 76])
  (.cond (.t 76) (.seq (.reg [⟨some 6, .asg (.c (.bool false)), none⟩] [6])
  (.ret)) (.skip))))
  (.seq (.kp [0, 1, 2, 8, 9, 10, 11, 12, 13, 14] (.seq (.reg [⟨some 77, .mv (.t 12), none⟩,
    ⟨some 78, .mv (.t 2), none⟩,
    ⟨some 79, .call 49 [(.t 78)], none⟩,
    ⟨some 80, .call 51 [(.t 77), (.t 79)], none⟩,
    ⟨some 81, .nt (.t 80), none⟩] [0, 1, 2, 8, 9, 10, 11, 12, 13, 14, 81])
  (.cond (.t 81) (.seq (.reg [⟨some 6, .asg (.c (.bool false)), none⟩] [6])
  (.ret)) (.skip))))
  (.seq (.reg [⟨some 15, .asg (.c (.int .i64 1)), none⟩] [0, 1, 2, 8, 9, 10, 11, 12, 13, 14, 15])
  (.seq (.reg [⟨some 82, .mv (.t 10), none⟩,
    ⟨some 83, .mv (.t 15), none⟩,
    ⟨some 84, .callO 22 [(.t 82), (.t 83)], none⟩,
    ⟨some 15, .asg (.t 84), none⟩] [0, 1, 2, 8, 9, 11, 12, 13, 14, 15])
  (.seq (.reg [⟨some 85, .mv (.t 11), none⟩,
    ⟨some 86, .mv (.t 15), none⟩,
    ⟨some 87, .callO 37 [(.t 85), (.t 86)], none⟩,
    ⟨some 15, .asg (.t 87), none⟩] [0, 1, 2, 8, 9, 12, 13, 14, 15])
  (.seq (.reg [⟨some 88, .mv (.t 12), none⟩,
    ⟨some 89, .mv (.t 15), none⟩,
    ⟨some 90, .callO 52 [(.t 88), (.t 89)], none⟩,
    ⟨some 15, .asg (.t 90), none⟩] [0, 1, 2, 8, 9, 13, 14, 15])
  (.seq (.kp [0, 1, 2, 8, 9, 13] (.seq (.reg [⟨some 91, .mv (.t 15), none⟩,
    ⟨some 92, .bin .lss (.t 91) (.c (.int .i64 0)), none⟩,
    ⟨some 93, .mv (.t 92), none⟩,
    ⟨some 94, .mv (.t 13), some (93, false)⟩,
    ⟨some 95, .mv (.t 8), some (93, false)⟩,
    ⟨some 96, .call 36 [(.t 94), (.t 95)], some (93, false)⟩,
    ⟨some 97, .nt (.t 96), some (93, false)⟩,
    ⟨some 98, .pick (.t 93) (.c (.bool true)) (.t 97), none⟩,
    ⟨some 99, .mv (.t 98), none⟩,
    ⟨some 100, .mv (.t 14), some (99, false)⟩,
    ⟨some 101, .mv (.t 9), some (99, false)⟩,
    ⟨some 102, .eqb true (.t 100) (.t 101), some (99, false)⟩,
    ⟨some 103, .pick (.t 99) (.c (.bool true)) (.t 102), none⟩] [0, 1, 2, 8, 9, 13, 103])
  (.cond (.t 103) (.seq (.reg [⟨some 6, .asg (.c (.bool false)), none⟩] [6])
  (.ret)) (.skip))))
  (.seq (.reg [⟨some 16, .asg (.c (.int .i64 1)), none⟩] [0, 1, 2, 8, 9, 13, 16])
  (.seq (.reg [⟨some 104, .mv (.t 13), none⟩,
    ⟨some 105, .mv (.t 16), none⟩,
    ⟨some 106, .callO 38 [(.t 104), (.t 105)], none⟩,
    ⟨some 16, .asg (.t 106), none⟩] [0, 1, 2, 8, 9, 13, 16])
  (.seq (.reg [⟨some 17, .asg (.c (.int .i64 1)), none⟩] [0, 1, 2, 8, 9, 13, 16, 17])
  (.seq (.reg [⟨some 107, .mv (.t 13), none⟩,
    ⟨some 108, .mv (.t 17), none⟩,
    ⟨some 109, .call 39 [(.t 107), (.t 108)], none⟩,
    ⟨some 17, .asg (.t 109), none⟩] [0, 1, 2, 8, 9, 13, 16, 17])
  (.seq (.kp [0, 1, 2, 8, 9, 13, 16, 17] (.seq (.reg [⟨some 110, .mv (.t 17), none⟩,
    ⟨some 111, .bin .lss (.t 110) (.c (.int .i64 0)), none⟩] [0, 1, 2, 8, 9, 13, 16, 17, 111])
  (.cond (.t 111) (.seq (.reg [⟨some 6, .asg (.c (.bool false)), none⟩] [6])
  (.ret)) (.skip))))
  (.seq (.kp [0, 1, 2, 8, 9, 13, 16] (.seq (.reg [⟨some 112, .mv (.t 17), none⟩,
    ⟨some 113, .mv (.t 16), none⟩,
    ⟨some 114, .bin .neq (.t 112) (.t 113), none⟩] [0, 1, 2, 8, 9, 13, 16, 114])
  (.cond (.t 114) (.seq (.reg [⟨some 6, .asg (.c (.bool false)), none⟩] [6])
  (.ret)) (.skip))))
  (.seq (.reg [⟨some 116, .mv (.t 0), none⟩,
    ⟨some 117, .call 17 [(.t 116)], none⟩,
    ⟨some 118, .mv (.t 1), none⟩,
    ⟨some 119, .call 27 [(.t 118)], none⟩,
    ⟨some 120, .mv (.t 2), none⟩,
    ⟨some 121, .call 49 [(.t 120)], none⟩,
    ⟨some 122, .call 54 [(.t 117), (.t 119), (.t 121)], none⟩,
    ⟨some 115, .mvt 122, none⟩,
    ⟨some 123, .ext 115 0, none⟩,
    ⟨some 124, .ext 115 1, none⟩,
    ⟨some 18, .asg (.t 123), none⟩,
    ⟨some 19, .asg (.t 124), none⟩] [8, 9, 13, 16, 18, 19])
  (.seq (.kp [13, 16] (.seq (.reg [⟨some 125, .mv (.t 18), none⟩,
    ⟨some 126, .mv (.t 8), none⟩,
    ⟨some 127, .call 36 [(.t 125), (.t 126)], none⟩,
    ⟨some 128, .nt (.t 127), none⟩,
    ⟨some 129, .mv (.t 128), none⟩,
    ⟨some 130, .mv (.t 19), some (129, false)⟩,
    ⟨some 131, .mv (.t 9), some (129, false)⟩,
    ⟨some 132, .eqb true (.t 130) (.t 131), some (129, false)⟩,
    ⟨some 133, .pick (.t 129) (.c (.bool true)) (.t 132), none⟩] [13, 16, 133])
  (.cond (.t 133) (.seq (.reg [⟨some 6, .asg (.c (.bool false)), none⟩] [6])
  (.ret)) (.skip))))
  (.seq (.reg [⟨some 17, .asg (.c (.int .i64 1)), none⟩] [13, 16, 17])
  (.seq (.reg [⟨some 134, .mv (.t 13), none⟩,
    ⟨some 135, .mv (.t 17), none⟩,
    ⟨some 136, .call 39 [(.t 134), (.t 135)], none⟩,
    ⟨some 17, .asg (.t 136), none⟩] [16, 17])
  (.seq (.kp [16, 17] (.seq (.reg [⟨some 137, .mv (.t 17), none⟩,
    ⟨some 138, .bin .lss (.t 137) (.c (.int .i64 0)), none⟩] [16, 17, 138])
  (.cond (.t 138) (.seq (.reg [⟨some 6, .asg (.c (.bool false)), none⟩] [6])
  (.ret)) (.skip))))
  (.seq (.kp [] (.seq (.reg [⟨some 139, .mv (.t 17), none⟩,
    ⟨some 140, .mv (.t 16), none⟩,
    ⟨some 141, .bin .neq (.t 139) (.t 140), none⟩] [141])
  (.cond (.t 141) (.seq (.reg [⟨some 6, .asg (.c (.bool false)), none⟩] [6])
  (.ret)) (.skip))))
  (.seq (.reg [⟨some 6, .asg (.c (.bool true)), none⟩] [6])
  (.ret)))))))))))))))))))))))))))))))))))
theorem con_laws_FnExactFailingRecords {v0 : (List XVariable)} {v1 : (List XEdit)} {v2 : (List XRecord)} {r : Bool} (h : sh_laws_FnExactFailingRecords v0 v1 v2 = some r) : Con Try.prog 12 [(cLs (cXVariable cS cI) rfl).enc v0, (cLs (cXEdit (cLs cI rfl)) rfl).enc v1, (cLs (cXRecord cI cI (cLs cI rfl)) rfl).enc v2] [] (rs_laws_FnExactFailingRecords r) := by
  delta sh_laws_FnExactFailingRecords at h
  refine top (out := none) (f := Try.f12) (m := m12) (rs := [.t 6]) (by kernel_rfl) rfl (by kernel_rfl) (by kernel_rfl) (by kernel_rfl) (by kernel_rfl) (by kernel_rfl) ?_
  exact
   ini [(0, .d ((cLs (cXVariable cS cI) rfl).enc v0)), (1, .d ((cLs (cXEdit (cLs cI rfl)) rfl).enc v1)), (2, .d ((cLs (cXRecord cI cI (cLs cI rfl)) rfl).enc v2))] rfl <| wpC_seq <| reg_s <| x_asg (sc cB false rfl) <| seqN [(0, .d ((cLs (cXVariable cS cI) rfl).enc v0)), (1, .d ((cLs (cXEdit (cLs cI rfl)) rfl).enc v1)), (2, .d ((cLs (cXRecord cI cI (cLs cI rfl)) rfl).enc v2))] (by kernel_rfl) <|
    xn <| wpC_seq <| reg_s <| x_asg (sc cI (1048576 : Int) rfl) <| seqN [(0, .d ((cLs (cXVariable cS cI) rfl).enc v0)), (1, .d ((cLs (cXEdit (cLs cI rfl)) rfl).enc v1)), (2, .d ((cLs (cXRecord cI cI (cLs cI rfl)) rfl).enc v2)), (7, .d (cI.enc (1048576 : Int)))] (by kernel_rfl) <|
    xn <| wpC_seq <| reg_s <| st rfl <| mvd rfl rfl <| st rfl <| mvd rfl rfl <| bnd h fun x3 e4 h => st rfl <| o_call (a1 (c := (cLs (cXVariable cS cI) rfl)) (tLs (tXVariable tS tK)) rfl (a1 (c := cI) tK rfl a0)) (con_laws_szVariableS e4) (.inl (so1 sK so0)) <| x_asg (ss rfl rfl) <| seqN [(0, .d ((cLs (cXVariable cS cI) rfl).enc v0)), (1, .d ((cLs (cXEdit (cLs cI rfl)) rfl).enc v1)), (2, .d ((cLs (cXRecord cI cI (cLs cI rfl)) rfl).enc v2)), (7, .d (cI.enc x3))] (by kernel_rfl) <|
    xn <| wpC_seq <| wpC_kp <| wpC_seq <| reg_s <| st rfl <| mvd rfl rfl <| st rfl <| b_lss (k := .i64) rfl rfl <| seqN [(0, .d ((cLs (cXVariable cS cI) rfl).enc v0)), (1, .d ((cLs (cXEdit (cLs cI rfl)) rfl).enc v1)), (2, .d ((cLs (cXRecord cI cI (cLs cI rfl)) rfl).enc v2)), (7, .d (cI.enc x3)), (24, .d (cB.enc (decide (x3 < (0 : Int)))))] (by kernel_rfl) <|
    xn <| cnd rfl h (fun b6 h => wpC_seq <| reg_s <| x_asg (sc cB true rfl) <| seqN [(6, .d (cB.enc true))] (by kernel_rfl) <|
    xn <| wpC_ret <| rt <| rt <| re <| fin h (r1 (ss rfl rfl) <| r0) rfl)
    (fun b6 h => wpC_skip <| kpN [(0, .d ((cLs (cXVariable cS cI) rfl).enc v0)), (1, .d ((cLs (cXEdit (cLs cI rfl)) rfl).enc v1)), (2, .d ((cLs (cXRecord cI cI (cLs cI rfl)) rfl).enc v2)), (7, .d (cI.enc x3))] (by kernel_rfl) <| xn <| wpC_seq <| reg_s <| st rfl <| mvd rfl rfl <| st rfl <| mvd rfl rfl <| bnd h fun x9 e10 h => st rfl <| o_call (a1 (c := (cLs (cXEdit (cLs cI rfl)) rfl)) (tLs (tXEdit (tLs tK))) rfl (a1 (c := cI) tK rfl a0)) (con_laws_szEditS e10) (.inl (so1 sK so0)) <| x_asg (ss rfl rfl) <| seqN [(0, .d ((cLs (cXVariable cS cI) rfl).enc v0)), (1, .d ((cLs (cXEdit (cLs cI rfl)) rfl).enc v1)), (2, .d ((cLs (cXRecord cI cI (cLs cI rfl)) rfl).enc v2)), (7, .d (cI.enc x9))] (by kernel_rfl) <|
    xn <| wpC_seq <| wpC_kp <| wpC_seq <| reg_s <| st rfl <| mvd rfl rfl <| st rfl <| b_lss (k := .i64) rfl rfl <| seqN [(0, .d ((cLs (cXVariable cS cI) rfl).enc v0)), (1, .d ((cLs (cXEdit (cLs cI rfl)) rfl).enc v1)), (2, .d ((cLs (cXRecord cI cI (cLs cI rfl)) rfl).enc v2)), (7, .d (cI.enc x9)), (29, .d (cB.enc (decide (x9 < (0 : Int)))))] (by kernel_rfl) <|
    xn <| cnd rfl h (fun b12 h => wpC_seq <| reg_s <| x_asg (sc cB true rfl) <| seqN [(6, .d (cB.enc true))] (by kernel_rfl) <|
    xn <| wpC_ret <| rt <| rt <| re <| fin h (r1 (ss rfl rfl) <| r0) rfl)
    (fun b12 h => wpC_skip <| kpN [(0, .d ((cLs (cXVariable cS cI) rfl).enc v0)), (1, .d ((cLs (cXEdit (cLs cI rfl)) rfl).enc v1)), (2, .d ((cLs (cXRecord cI cI (cLs cI rfl)) rfl).enc v2)), (7, .d (cI.enc x9))] (by kernel_rfl) <| xn <| wpC_seq <| reg_s <| st rfl <| mvd rfl rfl <| st rfl <| mvd rfl rfl <| bnd h fun x15 e16 h => st rfl <| o_call (a1 (c := (cLs (cXRecord cI cI (cLs cI rfl)) rfl)) (tLs (tXRecord tK tK (tLs tK))) rfl (a1 (c := cI) tK rfl a0)) (con_laws_szRecordS e16) (.inl (so1 sK so0)) <| x_asg (ss rfl rfl) <| seqN [(0, .d ((cLs (cXVariable cS cI) rfl).enc v0)), (1, .d ((cLs (cXEdit (cLs cI rfl)) rfl).enc v1)), (2, .d ((cLs (cXRecord cI cI (cLs cI rfl)) rfl).enc v2)), (7, .d (cI.enc x15))] (by kernel_rfl) <|
    xn <| wpC_seq <| wpC_kp <| wpC_seq <| reg_s <| st rfl <| mvd rfl rfl <| st rfl <| b_lss (k := .i64) rfl rfl <| seqN [(0, .d ((cLs (cXVariable cS cI) rfl).enc v0)), (1, .d ((cLs (cXEdit (cLs cI rfl)) rfl).enc v1)), (2, .d ((cLs (cXRecord cI cI (cLs cI rfl)) rfl).enc v2)), (34, .d (cB.enc (decide (x15 < (0 : Int)))))] (by kernel_rfl) <|
    xn <| cnd rfl h (fun b18 h => wpC_seq <| reg_s <| x_asg (sc cB true rfl) <| seqN [(6, .d (cB.enc true))] (by kernel_rfl) <|
    xn <| wpC_ret <| rt <| rt <| re <| fin h (r1 (ss rfl rfl) <| r0) rfl)
    (fun b18 h => wpC_skip <| kpN [(0, .d ((cLs (cXVariable cS cI) rfl).enc v0)), (1, .d ((cLs (cXEdit (cLs cI rfl)) rfl).enc v1)), (2, .d ((cLs (cXRecord cI cI (cLs cI rfl)) rfl).enc v2))] (by kernel_rfl) <| xn <| wpC_seq <| reg_s <| st rfl <| mvd rfl rfl <| bnd h fun x27 e28 h => st rfl <| o_call (a1 (c := (cLs (cXVariable cS cI) rfl)) (tLs (tXVariable tS tK)) rfl a0) (con_laws_toVariableS e28) (.inl (so1 (sLo (sXVariable sS sK)) so0)) <| st rfl <| mvd rfl rfl <| bnd h fun x29 e30 h => st rfl <| o_call (a1 (c := (cLs (cXEdit (cLs cI rfl)) rfl)) (tLs (tXEdit (tLs tK))) rfl a0) (con_laws_toEditS e30) (.inl (so1 (sLo (sXEdit (sLo sK))) so0)) <| st rfl <| mvd rfl rfl <| bnd h fun x31 e32 h => st rfl <| o_call (a1 (c := (cLs (cXRecord cI cI (cLs cI rfl)) rfl)) (tLs (tXRecord tK tK (tLs tK))) rfl a0) (con_laws_toRecordS e32) (.inl (so1 (sLo (sXRecord sK sK (sLo sK))) so0)) <| bnd h fun x33 e34 h => st rfl <| o_call (a1 (c := (cLo (cXVariable cS cI))) (tLo (tXVariable tS tK)) rfl (a1 (c := (cLo (cXEdit (cLo cI)))) (tLo (tXEdit (tLo tK))) rfl (a1 (c := (cLo (cXRecord cI cI (cLo cI)))) (tLo (tXRecord tK tK (tLo tK))) rfl a0))) (con_spec_FailingRecords e34) (.inl (so1 (sLo sK) (so1 sB so0))) <| x_mvt rfl <| x_ext rfl rfl <| x_ext rfl rfl <| x_asg (so rfl rfl) <| x_asg (ss rfl rfl) <| seqN [(0, .d ((cLs (cXVariable cS cI) rfl).enc v0)), (1, .d ((cLs (cXEdit (cLs cI rfl)) rfl).enc v1)), (2, .d ((cLs (cXRecord cI cI (cLs cI rfl)) rfl).enc v2)), (8, .d ((cLo cI).enc x33.1)), (9, .d (cB.enc x33.2))] (by kernel_rfl) <|
    xn <| wpC_seq <| reg_s <| st rfl <| mvd rfl rfl <| bnd h fun x37 e38 h => st rfl <| o_call (a1 (c := (cLs (cXVariable cS cI) rfl)) (tLs (tXVariable tS tK)) rfl a0) (con_laws_toVariableS e38) (.inl (so1 (sLo (sXVariable sS sK)) so0)) <| x_asg (so rfl rfl) <| seqN [(0, .d ((cLs (cXVariable cS cI) rfl).enc v0)), (1, .d ((cLs (cXEdit (cLs cI rfl)) rfl).enc v1)), (2, .d ((cLs (cXRecord cI cI (cLs cI rfl)) rfl).enc v2)), (8, .d ((cLo cI).enc x33.1)), (9, .d (cB.enc x33.2)), (10, .d ((cLo (cXVariable cS cI)).enc x37))] (by kernel_rfl) <|
    xn <| wpC_seq <| reg_s <| st rfl <| mvd rfl rfl <| bnd h fun x41 e42 h => st rfl <| o_call (a1 (c := (cLs (cXEdit (cLs cI rfl)) rfl)) (tLs (tXEdit (tLs tK))) rfl a0) (con_laws_toEditS e42) (.inl (so1 (sLo (sXEdit (sLo sK))) so0)) <| x_asg (so rfl rfl) <| seqN [(0, .d ((cLs (cXVariable cS cI) rfl).enc v0)), (1, .d ((cLs (cXEdit (cLs cI rfl)) rfl).enc v1)), (2, .d ((cLs (cXRecord cI cI (cLs cI rfl)) rfl).enc v2)), (8, .d ((cLo cI).enc x33.1)), (9, .d (cB.enc x33.2)), (10, .d ((cLo (cXVariable cS cI)).enc x37)), (11, .d ((cLo (cXEdit (cLo cI))).enc x41))] (by kernel_rfl) <|
    xn <| wpC_seq <| reg_s <| st rfl <| mvd rfl rfl <| bnd h fun x45 e46 h => st rfl <| o_call (a1 (c := (cLs (cXRecord cI cI (cLs cI rfl)) rfl)) (tLs (tXRecord tK tK (tLs tK))) rfl a0) (con_laws_toRecordS e46) (.inl (so1 (sLo (sXRecord sK sK (sLo sK))) so0)) <| x_asg (so rfl rfl) <| seqN [(0, .d ((cLs (cXVariable cS cI) rfl).enc v0)), (1, .d ((cLs (cXEdit (cLs cI rfl)) rfl).enc v1)), (2, .d ((cLs (cXRecord cI cI (cLs cI rfl)) rfl).enc v2)), (8, .d ((cLo cI).enc x33.1)), (9, .d (cB.enc x33.2)), (10, .d ((cLo (cXVariable cS cI)).enc x37)), (11, .d ((cLo (cXEdit (cLo cI))).enc x41)), (12, .d ((cLo (cXRecord cI cI (cLo cI))).enc x45))] (by kernel_rfl) <|
    xn <| wpC_seq <| reg_s <| st rfl <| mvo rfl rfl <| st rfl <| mvo rfl rfl <| st rfl <| mvo rfl rfl <| bnd h fun x49 e50 h => st rfl <| o_call (a1 (c := (cLo (cXVariable cS cI))) (tLo (tXVariable tS tK)) rfl (a1 (c := (cLo (cXEdit (cLo cI)))) (tLo (tXEdit (tLo tK))) rfl (a1 (c := (cLo (cXRecord cI cI (cLo cI)))) (tLo (tXRecord tK tK (tLo tK))) rfl a0))) (con_impl_FailingRecords e50) (.inl (so1 (sLo sK) (so1 sB so0))) <| x_mvt rfl <| x_ext rfl rfl <| x_ext rfl rfl <| x_asg (so rfl rfl) <| x_asg (ss rfl rfl) <| seqN [(0, .d ((cLs (cXVariable cS cI) rfl).enc v0)), (1, .d ((cLs (cXEdit (cLs cI rfl)) rfl).enc v1)), (2, .d ((cLs (cXRecord cI cI (cLs cI rfl)) rfl).enc v2)), (8, .d ((cLo cI).enc x33.1)), (9, .d (cB.enc x33.2)), (10, .d ((cLo (cXVariable cS cI)).enc x37)), (11, .d ((cLo (cXEdit (cLo cI))).enc x41)), (12, .d ((cLo (cXRecord cI cI (cLo cI))).enc x45)), (13, .d ((cLo cI).enc x49.1)), (14, .d (cB.enc x49.2))] (by kernel_rfl) <|
    xn <| wpC_seq <| wpC_kp <| wpC_seq <| reg_s <| st rfl <| mvo rfl rfl <| st rfl <| mvo rfl rfl <| bnd h fun x61 e62 h => st rfl <| o_call (a1 (c := (cLo cI)) (tLo tK) rfl (a1 (c := (cLo cI)) (tLo tK) rfl a0)) (con_laws_eqIntS e62) (.inl (so1 sB so0)) <| st rfl <| o_nt rfl <| st rfl <| mvd rfl rfl <| ite_k h (fun b63 h => gf rfl b63 <| gf rfl b63 <| gf rfl b63 <| st rfl <| pick1 rfl b63 (cd := cB) (v := true) rfl rfl <| seqN [(0, .d ((cLs (cXVariable cS cI) rfl).enc v0)), (1, .d ((cLs (cXEdit (cLs cI rfl)) rfl).enc v1)), (2, .d ((cLs (cXRecord cI cI (cLs cI rfl)) rfl).enc v2)), (8, .d ((cLo cI).enc x33.1)), (9, .d (cB.enc x33.2)), (10, .d ((cLo (cXVariable cS cI)).enc x37)), (11, .d ((cLo (cXEdit (cLo cI))).enc x41)), (12, .d ((cLo (cXRecord cI cI (cLo cI))).enc x45)), (13, .d ((cLo cI).enc x49.1)), (14, .d (cB.enc x49.2)), (66, .d (cB.enc true))] (by kernel_rfl) <|
    xn <| cnd1 rfl rfl <| wpC_seq <| reg_s <| x_asg (sc cB false rfl) <| seqN [(6, .d (cB.enc false))] (by kernel_rfl) <|
    xn <| wpC_ret <| rt <| rt <| re <| fin h (r1 (ss rfl rfl) <| r0) rfl)
    (fun b63 h => gt' rfl b63 <| st rfl <| mvd rfl rfl <| gt' rfl b63 <| st rfl <| mvd rfl rfl <| gt' rfl b63 <| st rfl <| eqb1 rfl rfl <| st rfl <| pick0 rfl b63 (cd := cB) (v := (x49.2 != x33.2)) rfl rfl <| seqN [(0, .d ((cLs (cXVariable cS cI) rfl).enc v0)), (1, .d ((cLs (cXEdit (cLs cI rfl)) rfl).enc v1)), (2, .d ((cLs (cXRecord cI cI (cLs cI rfl)) rfl).enc v2)), (8, .d ((cLo cI).enc x33.1)), (9, .d (cB.enc x33.2)), (10, .d ((cLo (cXVariable cS cI)).enc x37)), (11, .d ((cLo (cXEdit (cLo cI))).enc x41)), (12, .d ((cLo (cXRecord cI cI (cLo cI))).enc x45)), (13, .d ((cLo cI).enc x49.1)), (14, .d (cB.enc x49.2)), (66, .d (cB.enc (x49.2 != x33.2)))] (by kernel_rfl) <|
    xn <| cnd rfl h (fun b64 h => wpC_seq <| reg_s <| x_asg (sc cB false rfl) <| seqN [(6, .d (cB.enc false))] (by kernel_rfl) <|
    xn <| wpC_ret <| rt <| rt <| re <| fin h (r1 (ss rfl rfl) <| r0) rfl)
    (fun b64 h => wpC_skip <| kpN [(0, .d ((cLs (cXVariable cS cI) rfl).enc v0)), (1, .d ((cLs (cXEdit (cLs cI rfl)) rfl).enc v1)), (2, .d ((cLs (cXRecord cI cI (cLs cI rfl)) rfl).enc v2)), (8, .d ((cLo cI).enc x33.1)), (9, .d (cB.enc x33.2)), (10, .d ((cLo (cXVariable cS cI)).enc x37)), (11, .d ((cLo (cXEdit (cLo cI))).enc x41)), (12, .d ((cLo (cXRecord cI cI (cLo cI))).enc x45)), (13, .d ((cLo cI).enc x49.1)), (14, .d (cB.enc x49.2))] (by kernel_rfl) <| xn <| wpC_seq <| wpC_kp <| wpC_seq <| reg_s <| st rfl <| mvo rfl rfl <| st rfl <| mvd rfl rfl <| bnd h fun x78 e79 h => st rfl <| o_call (a1 (c := (cLs (cXVariable cS cI) rfl)) (tLs (tXVariable tS tK)) rfl a0) (con_laws_toVariableS e79) (.inl (so1 (sLo (sXVariable sS sK)) so0)) <| bnd h fun x80 e81 h => st rfl <| o_call (a1 (c := (cLo (cXVariable cS cI))) (tLo (tXVariable tS tK)) rfl (a1 (c := (cLo (cXVariable cS cI))) (tLo (tXVariable tS tK)) rfl a0)) (con_laws_eqVariableS e81) (.inl (so1 sB so0)) <| st rfl <| o_nt rfl <| seqN [(0, .d ((cLs (cXVariable cS cI) rfl).enc v0)), (1, .d ((cLs (cXEdit (cLs cI rfl)) rfl).enc v1)), (2, .d ((cLs (cXRecord cI cI (cLs cI rfl)) rfl).enc v2)), (8, .d ((cLo cI).enc x33.1)), (9, .d (cB.enc x33.2)), (10, .d ((cLo (cXVariable cS cI)).enc x37)), (11, .d ((cLo (cXEdit (cLo cI))).enc x41)), (12, .d ((cLo (cXRecord cI cI (cLo cI))).enc x45)), (13, .d ((cLo cI).enc x49.1)), (14, .d (cB.enc x49.2)), (71, .d (cB.enc (!x80)))] (by kernel_rfl) <|
    xn <| cnd rfl h (fun b82 h => wpC_seq <| reg_s <| x_asg (sc cB false rfl) <| seqN [(6, .d (cB.enc false))] (by kernel_rfl) <|
    xn <| wpC_ret <| rt <| rt <| re <| fin h (r1 (ss rfl rfl) <| r0) rfl)
    (fun b82 h => wpC_skip <| kpN [(0, .d ((cLs (cXVariable cS cI) rfl).enc v0)), (1, .d ((cLs (cXEdit (cLs cI rfl)) rfl).enc v1)), (2, .d ((cLs (cXRecord cI cI (cLs cI rfl)) rfl).enc v2)), (8, .d ((cLo cI).enc x33.1)), (9, .d (cB.enc x33.2)), (10, .d ((cLo (cXVariable cS cI)).enc x37)), (11, .d ((cLo (cXEdit (cLo cI))).enc x41)), (12, .d ((cLo (cXRecord cI cI (cLo cI))).enc x45)), (13, .d ((cLo cI).enc x49.1)), (14, .d (cB.enc x49.2))] (by kernel_rfl) <| xn <| wpC_seq <| wpC_kp <| wpC_seq <| reg_s <| st rfl <| mvo rfl rfl <| st rfl <| mvd rfl rfl <| bnd h fun x96 e97 h => st rfl <| o_call (a1 (c := (cLs (cXEdit (cLs cI rfl)) rfl)) (tLs (tXEdit (tLs tK))) rfl a0) (con_laws_toEditS e97) (.inl (so1 (sLo (sXEdit (sLo sK))) so0)) <| bnd h fun x98 e99 h => st rfl <| o_call (a1 (c := (cLo (cXEdit (cLo cI)))) (tLo (tXEdit (tLo tK))) rfl (a1 (c := (cLo (cXEdit (cLo cI)))) (tLo (tXEdit (tLo tK))) rfl a0)) (con_laws_eqEditS e99) (.inl (so1 sB so0)) <| st rfl <| o_nt rfl <| seqN [(0, .d ((cLs (cXVariable cS cI) rfl).enc v0)), (1, .d ((cLs (cXEdit (cLs cI rfl)) rfl).enc v1)), (2, .d ((cLs (cXRecord cI cI (cLs cI rfl)) rfl).enc v2)), (8, .d ((cLo cI).enc x33.1)), (9, .d (cB.enc x33.2)), (10, .d ((cLo (cXVariable cS cI)).enc x37)), (11, .d ((cLo (cXEdit (cLo cI))).enc x41)), (12, .d ((cLo (cXRecord cI cI (cLo cI))).enc x45)), (13, .d ((cLo cI).enc x49.1)), (14, .d (cB.enc x49.2)), (76, .d (cB.enc (!x98)))] (by kernel_rfl) <|
    xn <| cnd rfl h (fun b100 h => wpC_seq <| reg_s <| x_asg (sc cB false rfl) <| seqN [(6, .d (cB.enc false))] (by kernel_rfl) <|
    xn <| wpC_ret <| rt <| rt <| re <| fin h (r1 (ss rfl rfl) <| r0) rfl)
    (fun b100 h => wpC_skip <| kpN [(0, .d ((cLs (cXVariable cS cI) rfl).enc v0)), (1, .d ((cLs (cXEdit (cLs cI rfl)) rfl).enc v1)), (2, .d ((cLs (cXRecord cI cI (cLs cI rfl)) rfl).enc v2)), (8, .d ((cLo cI).enc x33.1)), (9, .d (cB.enc x33.2)), (10, .d ((cLo (cXVariable cS cI)).enc x37)), (11, .d ((cLo (cXEdit (cLo cI))).enc x41)), (12, .d ((cLo (cXRecord cI cI (cLo cI))).enc x45)), (13, .d ((cLo cI).enc x49.1)), (14, .d (cB.enc x49.2))] (by kernel_rfl) <| xn <| wpC_seq <| wpC_kp <| wpC_seq <| reg_s <| st rfl <| mvo rfl rfl <| st rfl <| mvd rfl rfl <| bnd h fun x114 e115 h => st rfl <| o_call (a1 (c := (cLs (cXRecord cI cI (cLs cI rfl)) rfl)) (tLs (tXRecord tK tK (tLs tK))) rfl a0) (con_laws_toRecordS e115) (.inl (so1 (sLo (sXRecord sK sK (sLo sK))) so0)) <| bnd h fun x116 e117 h => st rfl <| o_call (a1 (c := (cLo (cXRecord cI cI (cLo cI)))) (tLo (tXRecord tK tK (tLo tK))) rfl (a1 (c := (cLo (cXRecord cI cI (cLo cI)))) (tLo (tXRecord tK tK (tLo tK))) rfl a0)) (con_laws_eqRecordS e117) (.inl (so1 sB so0)) <| st rfl <| o_nt rfl <| seqN [(0, .d ((cLs (cXVariable cS cI) rfl).enc v0)), (1, .d ((cLs (cXEdit (cLs cI rfl)) rfl).enc v1)), (2, .d ((cLs (cXRecord cI cI (cLs cI rfl)) rfl).enc v2)), (8, .d ((cLo cI).enc x33.1)), (9, .d (cB.enc x33.2)), (10, .d ((cLo (cXVariable cS cI)).enc x37)), (11, .d ((cLo (cXEdit (cLo cI))).enc x41)), (12, .d ((cLo (cXRecord cI cI (cLo cI))).enc x45)), (13, .d ((cLo cI).enc x49.1)), (14, .d (cB.enc x49.2)), (81, .d (cB.enc (!x116)))] (by kernel_rfl) <|
    xn <| cnd rfl h (fun b118 h => wpC_seq <| reg_s <| x_asg (sc cB false rfl) <| seqN [(6, .d (cB.enc false))] (by kernel_rfl) <|
    xn <| wpC_ret <| rt <| rt <| re <| fin h (r1 (ss rfl rfl) <| r0) rfl)
    (fun b118 h => wpC_skip <| kpN [(0, .d ((cLs (cXVariable cS cI) rfl).enc v0)), (1, .d ((cLs (cXEdit (cLs cI rfl)) rfl).enc v1)), (2, .d ((cLs (cXRecord cI cI (cLs cI rfl)) rfl).enc v2)), (8, .d ((cLo cI).enc x33.1)), (9, .d (cB.enc x33.2)), (10, .d ((cLo (cXVariable cS cI)).enc x37)), (11, .d ((cLo (cXEdit (cLo cI))).enc x41)), (12, .d ((cLo (cXRecord cI cI (cLo cI))).enc x45)), (13, .d ((cLo cI).enc x49.1)), (14, .d (cB.enc x49.2))] (by kernel_rfl) <| xn <| wpC_seq <| reg_s <| x_asg (sc cI (1 : Int) rfl) <| seqN [(0, .d ((cLs (cXVariable cS cI) rfl).enc v0)), (1, .d ((cLs (cXEdit (cLs cI rfl)) rfl).enc v1)), (2, .d ((cLs (cXRecord cI cI (cLs cI rfl)) rfl).enc v2)), (8, .d ((cLo cI).enc x33.1)), (9, .d (cB.enc x33.2)), (10, .d ((cLo (cXVariable cS cI)).enc x37)), (11, .d ((cLo (cXEdit (cLo cI))).enc x41)), (12, .d ((cLo (cXRecord cI cI (cLo cI))).enc x45)), (13, .d ((cLo cI).enc x49.1)), (14, .d (cB.enc x49.2)), (15, .d (cI.enc (1 : Int)))] (by kernel_rfl) <|
    xn <| wpC_seq <| reg_s <| st rfl <| mvo rfl rfl <| st rfl <| mvd rfl rfl <| bnd h fun x121 e122 h => x_clr (c := (cLo (cXVariable cS cI))) (c' := (cLo (cXVariable cS cI))) ((cLo (cXVariable cS cI)).enc x121.1) (sLo (sXVariable sS sK)) rfl (a1 (c := cI) tK rfl a0) rfl Ln.nil (con_laws_markVariableS e122) rfl rfl (so1 sK so0) <| x_asg (ss rfl rfl) <| seqN [(0, .d ((cLs (cXVariable cS cI) rfl).enc v0)), (1, .d ((cLs (cXEdit (cLs cI rfl)) rfl).enc v1)), (2, .d ((cLs (cXRecord cI cI (cLs cI rfl)) rfl).enc v2)), (8, .d ((cLo cI).enc x33.1)), (9, .d (cB.enc x33.2)), (11, .d ((cLo (cXEdit (cLo cI))).enc x41)), (12, .d ((cLo (cXRecord cI cI (cLo cI))).enc x45)), (13, .d ((cLo cI).enc x49.1)), (14, .d (cB.enc x49.2)), (15, .d (cI.enc x121.2))] (by kernel_rfl) <|
    xn <| wpC_seq <| reg_s <| st rfl <| mvo rfl rfl <| st rfl <| mvd rfl rfl <| bnd h fun x125 e126 h => x_clr (c := (cLo (cXEdit (cLo cI)))) (c' := (cLo (cXEdit (cLo cI)))) ((cLo (cXEdit (cLo cI))).enc x125.1) (sLo (sXEdit (sLo sK))) rfl (a1 (c := cI) tK rfl a0) rfl Ln.nil (con_laws_markEditS e126) rfl rfl (so1 sK so0) <| x_asg (ss rfl rfl) <| seqN [(0, .d ((cLs (cXVariable cS cI) rfl).enc v0)), (1, .d ((cLs (cXEdit (cLs cI rfl)) rfl).enc v1)), (2, .d ((cLs (cXRecord cI cI (cLs cI rfl)) rfl).enc v2)), (8, .d ((cLo cI).enc x33.1)), (9, .d (cB.enc x33.2)), (12, .d ((cLo (cXRecord cI cI (cLo cI))).enc x45)), (13, .d ((cLo cI).enc x49.1)), (14, .d (cB.enc x49.2)), (15, .d (cI.enc x125.2))] (by kernel_rfl) <|
    xn <| wpC_seq <| reg_s <| st rfl <| mvo rfl rfl <| st rfl <| mvd rfl rfl <| bnd h fun x129 e130 h => x_clr (c := (cLo (cXRecord cI cI (cLo cI)))) (c' := (cLo (cXRecord cI cI (cLo cI)))) ((cLo (cXRecord cI cI (cLo cI))).enc x129.1) (sLo (sXRecord sK sK (sLo sK))) rfl (a1 (c := cI) tK rfl a0) rfl Ln.nil (con_laws_markRecordS e130) rfl rfl (so1 sK so0) <| x_asg (ss rfl rfl) <| seqN [(0, .d ((cLs (cXVariable cS cI) rfl).enc v0)), (1, .d ((cLs (cXEdit (cLs cI rfl)) rfl).enc v1)), (2, .d ((cLs (cXRecord cI cI (cLs cI rfl)) rfl).enc v2)), (8, .d ((cLo cI).enc x33.1)), (9, .d (cB.enc x33.2)), (13, .d ((cLo cI).enc x49.1)), (14, .d (cB.enc x49.2)), (15, .d (cI.enc x129.2))] (by kernel_rfl) <|
    xn <| wpC_seq <| wpC_kp <| wpC_seq <| reg_s <| st rfl <| mvd rfl rfl <| st rfl <| b_lss (k := .i64) rfl rfl <| st rfl <| mvd rfl rfl <| ite_k h (fun b143 h => gf rfl b143 <| gf rfl b143 <| gf rfl b143 <| gf rfl b143 <| st rfl <| pick1 rfl b143 (cd := cB) (v := true) rfl rfl <| st rfl <| mvd rfl rfl <| gf rfl rfl <| gf rfl rfl <| gf rfl rfl <| st rfl <| pick1 rfl rfl (cd := cB) (v := true) rfl rfl <| seqN [(0, .d ((cLs (cXVariable cS cI) rfl).enc v0)), (1, .d ((cLs (cXEdit (cLs cI rfl)) rfl).enc v1)), (2, .d ((cLs (cXRecord cI cI (cLs cI rfl)) rfl).enc v2)), (8, .d ((cLo cI).enc x33.1)), (9, .d (cB.enc x33.2)), (13, .d ((cLo cI).enc x49.1)), (103, .d (cB.enc true))] (by kernel_rfl) <|
    xn <| cnd1 rfl rfl <| wpC_seq <| reg_s <| x_asg (sc cB false rfl) <| seqN [(6, .d (cB.enc false))] (by kernel_rfl) <|
    xn <| wpC_ret <| rt <| rt <| re <| fin h (r1 (ss rfl rfl) <| r0) rfl)
    (fun b143 h => gt' rfl b143 <| st rfl <| mvo rfl rfl <| gt' rfl b143 <| st rfl <| mvo rfl rfl <| gt' rfl b143 <| bnd h fun x144 e145 h => st rfl <| o_call (a1 (c := (cLo cI)) (tLo tK) rfl (a1 (c := (cLo cI)) (tLo tK) rfl a0)) (con_laws_eqIntS e145) (.inl (so1 sB so0)) <| gt' rfl b143 <| st rfl <| o_nt rfl <| st rfl <| pick0 rfl b143 (cd := cB) (v := (!x144)) rfl rfl <| st rfl <| mvd rfl rfl <| ite_k h (fun b146 h => gf rfl b146 <| gf rfl b146 <| gf rfl b146 <| st rfl <| pick1 rfl b146 (cd := cB) (v := true) rfl rfl <| seqN [(0, .d ((cLs (cXVariable cS cI) rfl).enc v0)), (1, .d ((cLs (cXEdit (cLs cI rfl)) rfl).enc v1)), (2, .d ((cLs (cXRecord cI cI (cLs cI rfl)) rfl).enc v2)), (8, .d ((cLo cI).enc x33.1)), (9, .d (cB.enc x33.2)), (13, .d ((cLo cI).enc x49.1)), (103, .d (cB.enc true))] (by kernel_rfl) <|
    xn <| cnd1 rfl rfl <| wpC_seq <| reg_s <| x_asg (sc cB false rfl) <| seqN [(6, .d (cB.enc false))] (by kernel_rfl) <|
    xn <| wpC_ret <| rt <| rt <| re <| fin h (r1 (ss rfl rfl) <| r0) rfl)
    (fun b146 h => gt' rfl b146 <| st rfl <| mvd rfl rfl <| gt' rfl b146 <| st rfl <| mvd rfl rfl <| gt' rfl b146 <| st rfl <| eqb1 rfl rfl <| st rfl <| pick0 rfl b146 (cd := cB) (v := (x49.2 != x33.2)) rfl rfl <| seqN [(0, .d ((cLs (cXVariable cS cI) rfl).enc v0)), (1, .d ((cLs (cXEdit (cLs cI rfl)) rfl).enc v1)), (2, .d ((cLs (cXRecord cI cI (cLs cI rfl)) rfl).enc v2)), (8, .d ((cLo cI).enc x33.1)), (9, .d (cB.enc x33.2)), (13, .d ((cLo cI).enc x49.1)), (103, .d (cB.enc (x49.2 != x33.2)))] (by kernel_rfl) <|
    xn <| cnd0 rfl b64 <| wpC_skip <| kpN [(0, .d ((cLs (cXVariable cS cI) rfl).enc v0)), (1, .d ((cLs (cXEdit (cLs cI rfl)) rfl).enc v1)), (2, .d ((cLs (cXRecord cI cI (cLs cI rfl)) rfl).enc v2)), (8, .d ((cLo cI).enc x33.1)), (9, .d (cB.enc x33.2)), (13, .d ((cLo cI).enc x49.1))] (by kernel_rfl) <| xn <| wpC_seq <| reg_s <| x_asg (sc cI (1 : Int) rfl) <| seqN [(0, .d ((cLs (cXVariable cS cI) rfl).enc v0)), (1, .d ((cLs (cXEdit (cLs cI rfl)) rfl).enc v1)), (2, .d ((cLs (cXRecord cI cI (cLs cI rfl)) rfl).enc v2)), (8, .d ((cLo cI).enc x33.1)), (9, .d (cB.enc x33.2)), (13, .d ((cLo cI).enc x49.1)), (16, .d (cI.enc (1 : Int)))] (by kernel_rfl) <|
    xn <| wpC_seq <| reg_s <| st rfl <| mvo rfl rfl <| st rfl <| mvd rfl rfl <| bnd h fun x149 e150 h => x_clr (c := (cLo cI)) (c' := (cLo cI)) ((cLo cI).enc x149.1) (sLo sK) rfl (a1 (c := cI) tK rfl a0) rfl Ln.nil (con_laws_markIntS e150) rfl rfl (so1 sK so0) <| x_asg (ss rfl rfl) <| seqN [(0, .d ((cLs (cXVariable cS cI) rfl).enc v0)), (1, .d ((cLs (cXEdit (cLs cI rfl)) rfl).enc v1)), (2, .d ((cLs (cXRecord cI cI (cLs cI rfl)) rfl).enc v2)), (8, .d ((cLo cI).enc x33.1)), (9, .d (cB.enc x33.2)), (13, .d ((cLo cI).enc x149.1)), (16, .d (cI.enc x149.2))] (by kernel_rfl) <|
    xn <| wpC_seq <| reg_s <| x_asg (sc cI (1 : Int) rfl) <| seqN [(0, .d ((cLs (cXVariable cS cI) rfl).enc v0)), (1, .d ((cLs (cXEdit (cLs cI rfl)) rfl).enc v1)), (2, .d ((cLs (cXRecord cI cI (cLs cI rfl)) rfl).enc v2)), (8, .d ((cLo cI).enc x33.1)), (9, .d (cB.enc x33.2)), (13, .d ((cLo cI).enc x149.1)), (16, .d (cI.enc x149.2)), (17, .d (cI.enc (1 : Int)))] (by kernel_rfl) <|
    xn <| wpC_seq <| reg_s <| st rfl <| mvo rfl rfl <| st rfl <| mvd rfl rfl <| bnd h fun x153 e154 h => st rfl <| o_call (a1 (c := (cLo cI)) (tLo tK) rfl (a1 (c := cI) tK rfl a0)) (con_laws_heldIntS e154) (.inl (so1 sK so0)) <| x_asg (ss rfl rfl) <| seqN [(0, .d ((cLs (cXVariable cS cI) rfl).enc v0)), (1, .d ((cLs (cXEdit (cLs cI rfl)) rfl).enc v1)), (2, .d ((cLs (cXRecord cI cI (cLs cI rfl)) rfl).enc v2)), (8, .d ((cLo cI).enc x33.1)), (9, .d (cB.enc x33.2)), (13, .d ((cLo cI).enc x149.1)), (16, .d (cI.enc x149.2)), (17, .d (cI.enc x153))] (by kernel_rfl) <|
    xn <| wpC_seq <| wpC_kp <| wpC_seq <| reg_s <| st rfl <| mvd rfl rfl <| st rfl <| b_lss (k := .i64) rfl rfl <| seqN [(0, .d ((cLs (cXVariable cS cI) rfl).enc v0)), (1, .d ((cLs (cXEdit (cLs cI rfl)) rfl).enc v1)), (2, .d ((cLs (cXRecord cI cI (cLs cI rfl)) rfl).enc v2)), (8, .d ((cLo cI).enc x33.1)), (9, .d (cB.enc x33.2)), (13, .d ((cLo cI).enc x149.1)), (16, .d (cI.enc x149.2)), (17, .d (cI.enc x153)), (111, .d (cB.enc (decide (x153 < (0 : Int)))))] (by kernel_rfl) <|
    xn <| cnd rfl h (fun b156 h => wpC_seq <| reg_s <| x_asg (sc cB false rfl) <| seqN [(6, .d (cB.enc false))] (by kernel_rfl) <|
    xn <| wpC_ret <| rt <| rt <| re <| fin h (r1 (ss rfl rfl) <| r0) rfl)
    (fun b156 h => wpC_skip <| kpN [(0, .d ((cLs (cXVariable cS cI) rfl).enc v0)), (1, .d ((cLs (cXEdit (cLs cI rfl)) rfl).enc v1)), (2, .d ((cLs (cXRecord cI cI (cLs cI rfl)) rfl).enc v2)), (8, .d ((cLo cI).enc x33.1)), (9, .d (cB.enc x33.2)), (13, .d ((cLo cI).enc x149.1)), (16, .d (cI.enc x149.2)), (17, .d (cI.enc x153))] (by kernel_rfl) <| xn <| wpC_seq <| wpC_kp <| wpC_seq <| reg_s <| st rfl <| mvd rfl rfl <| st rfl <| mvd rfl rfl <| st rfl <| b_neq (k := .i64) rfl rfl <| seqN [(0, .d ((cLs (cXVariable cS cI) rfl).enc v0)), (1, .d ((cLs (cXEdit (cLs cI rfl)) rfl).enc v1)), (2, .d ((cLs (cXRecord cI cI (cLs cI rfl)) rfl).enc v2)), (8, .d ((cLo cI).enc x33.1)), (9, .d (cB.enc x33.2)), (13, .d ((cLo cI).enc x149.1)), (16, .d (cI.enc x149.2)), (114, .d (cB.enc (decide (x153 ≠ x149.2))))] (by kernel_rfl) <|
    xn <| cnd rfl h (fun b158 h => wpC_seq <| reg_s <| x_asg (sc cB false rfl) <| seqN [(6, .d (cB.enc false))] (by kernel_rfl) <|
    xn <| wpC_ret <| rt <| rt <| re <| fin h (r1 (ss rfl rfl) <| r0) rfl)
    (fun b158 h => wpC_skip <| kpN [(0, .d ((cLs (cXVariable cS cI) rfl).enc v0)), (1, .d ((cLs (cXEdit (cLs cI rfl)) rfl).enc v1)), (2, .d ((cLs (cXRecord cI cI (cLs cI rfl)) rfl).enc v2)), (8, .d ((cLo cI).enc x33.1)), (9, .d (cB.enc x33.2)), (13, .d ((cLo cI).enc x149.1)), (16, .d (cI.enc x149.2))] (by kernel_rfl) <| xn <| wpC_seq <| reg_s <| st rfl <| mvd rfl rfl <| bnd h fun x167 e168 h => st rfl <| o_call (a1 (c := (cLs (cXVariable cS cI) rfl)) (tLs (tXVariable tS tK)) rfl a0) (con_laws_toVariableS e168) (.inl (so1 (sLo (sXVariable sS sK)) so0)) <| st rfl <| mvd rfl rfl <| bnd h fun x169 e170 h => st rfl <| o_call (a1 (c := (cLs (cXEdit (cLs cI rfl)) rfl)) (tLs (tXEdit (tLs tK))) rfl a0) (con_laws_toEditS e170) (.inl (so1 (sLo (sXEdit (sLo sK))) so0)) <| st rfl <| mvd rfl rfl <| bnd h fun x171 e172 h => st rfl <| o_call (a1 (c := (cLs (cXRecord cI cI (cLs cI rfl)) rfl)) (tLs (tXRecord tK tK (tLs tK))) rfl a0) (con_laws_toRecordS e172) (.inl (so1 (sLo (sXRecord sK sK (sLo sK))) so0)) <| bnd h fun x173 e174 h => st rfl <| o_call (a1 (c := (cLo (cXVariable cS cI))) (tLo (tXVariable tS tK)) rfl (a1 (c := (cLo (cXEdit (cLo cI)))) (tLo (tXEdit (tLo tK))) rfl (a1 (c := (cLo (cXRecord cI cI (cLo cI)))) (tLo (tXRecord tK tK (tLo tK))) rfl a0))) (con_impl_FailingRecords e174) (.inl (so1 (sLo sK) (so1 sB so0))) <| x_mvt rfl <| x_ext rfl rfl <| x_ext rfl rfl <| x_asg (so rfl rfl) <| x_asg (ss rfl rfl) <| seqN [(8, .d ((cLo cI).enc x33.1)), (9, .d (cB.enc x33.2)), (13, .d ((cLo cI).enc x149.1)), (16, .d (cI.enc x149.2)), (18, .d ((cLo cI).enc x173.1)), (19, .d (cB.enc x173.2))] (by kernel_rfl) <|
    xn <| wpC_seq <| wpC_kp <| wpC_seq <| reg_s <| st rfl <| mvo rfl rfl <| st rfl <| mvo rfl rfl <| bnd h fun x185 e186 h => st rfl <| o_call (a1 (c := (cLo cI)) (tLo tK) rfl (a1 (c := (cLo cI)) (tLo tK) rfl a0)) (con_laws_eqIntS e186) (.inl (so1 sB so0)) <| st rfl <| o_nt rfl <| st rfl <| mvd rfl rfl <| ite_k h (fun b187 h => gf rfl b187 <| gf rfl b187 <| gf rfl b187 <| st rfl <| pick1 rfl b187 (cd := cB) (v := true) rfl rfl <| seqN [(13, .d ((cLo cI).enc x149.1)), (16, .d (cI.enc x149.2)), (133, .d (cB.enc true))] (by kernel_rfl) <|
    xn <| cnd1 rfl rfl <| wpC_seq <| reg_s <| x_asg (sc cB false rfl) <| seqN [(6, .d (cB.enc false))] (by kernel_rfl) <|
    xn <| wpC_ret <| rt <| rt <| re <| fin h (r1 (ss rfl rfl) <| r0) rfl)
    (fun b187 h => gt' rfl b187 <| st rfl <| mvd rfl rfl <| gt' rfl b187 <| st rfl <| mvd rfl rfl <| gt' rfl b187 <| st rfl <| eqb1 rfl rfl <| st rfl <| pick0 rfl b187 (cd := cB) (v := (x173.2 != x33.2)) rfl rfl <| seqN [(13, .d ((cLo cI).enc x149.1)), (16, .d (cI.enc x149.2)), (133, .d (cB.enc (x173.2 != x33.2)))] (by kernel_rfl) <|
    xn <| cnd rfl h (fun b188 h => wpC_seq <| reg_s <| x_asg (sc cB false rfl) <| seqN [(6, .d (cB.enc false))] (by kernel_rfl) <|
    xn <| wpC_ret <| rt <| rt <| re <| fin h (r1 (ss rfl rfl) <| r0) rfl)
    (fun b188 h => wpC_skip <| kpN [(13, .d ((cLo cI).enc x149.1)), (16, .d (cI.enc x149.2))] (by kernel_rfl) <| xn <| wpC_seq <| reg_s <| x_asg (sc cI (1 : Int) rfl) <| seqN [(13, .d ((cLo cI).enc x149.1)), (16, .d (cI.enc x149.2)), (17, .d (cI.enc (1 : Int)))] (by kernel_rfl) <|
    xn <| wpC_seq <| reg_s <| st rfl <| mvo rfl rfl <| st rfl <| mvd rfl rfl <| bnd h fun x191 e192 h => st rfl <| o_call (a1 (c := (cLo cI)) (tLo tK) rfl (a1 (c := cI) tK rfl a0)) (con_laws_heldIntS e192) (.inl (so1 sK so0)) <| x_asg (ss rfl rfl) <| seqN [(16, .d (cI.enc x149.2)), (17, .d (cI.enc x191))] (by kernel_rfl) <|
    xn <| wpC_seq <| wpC_kp <| wpC_seq <| reg_s <| st rfl <| mvd rfl rfl <| st rfl <| b_lss (k := .i64) rfl rfl <| seqN [(16, .d (cI.enc x149.2)), (17, .d (cI.enc x191)), (138, .d (cB.enc (decide (x191 < (0 : Int)))))] (by kernel_rfl) <|
    xn <| cnd rfl h (fun b194 h => wpC_seq <| reg_s <| x_asg (sc cB false rfl) <| seqN [(6, .d (cB.enc false))] (by kernel_rfl) <|
    xn <| wpC_ret <| rt <| rt <| re <| fin h (r1 (ss rfl rfl) <| r0) rfl)
    (fun b194 h => wpC_skip <| kpN [(16, .d (cI.enc x149.2)), (17, .d (cI.enc x191))] (by kernel_rfl) <| xn <| wpC_seq <| wpC_kp <| wpC_seq <| reg_s <| st rfl <| mvd rfl rfl <| st rfl <| mvd rfl rfl <| st rfl <| b_neq (k := .i64) rfl rfl <| seqN [(141, .d (cB.enc (decide (x191 ≠ x149.2))))] (by kernel_rfl) <|
    xn <| cnd rfl h (fun b196 h => wpC_seq <| reg_s <| x_asg (sc cB false rfl) <| seqN [(6, .d (cB.enc false))] (by kernel_rfl) <|
    xn <| wpC_ret <| rt <| rt <| re <| fin h (r1 (ss rfl rfl) <| r0) rfl)
    (fun b196 h => wpC_skip <| kpN [] (by kernel_rfl) <| xn <| wpC_seq <| reg_s <| x_asg (sc cB true rfl) <| seqN [(6, .d (cB.enc true))] (by kernel_rfl) <|
    xn <| wpC_ret <| re <| fin h (r1 (ss rfl rfl) <| r0) rfl))))))))))))))))
end AS.W
