/- The program computes the plain functions. No condition. -/
import Derived.Test.YtiohllblkcjafaaQBaseTablesS
import Derived.Test.YtiohllblkcjafaaProg
import Derived.Test.YtiohllblkcjafaaQBaseTablesL2
set_option maxRecDepth 100000
set_option linter.unusedVariables false
set_option linter.unusedSimpArgs false
namespace AS.W
open Go Go.Proofs
def rs_impl_BaseTables (r : ((List Int) × Bool)) : List D := [(cLo cI).enc r.1, cB.enc r.2]
def m36 : MC := .seq (.reg [⟨some 3, .box (.t 0), none⟩,
    ⟨some 6, .asg (.c (.slice true [])), none⟩,
    ⟨some 7, .asg (.c (.bool false)), none⟩] [1, 2, 3])
  (.seq (.kp [1, 2, 3] (.seq (.reg [⟨some 14, .ld 3 1 true, none⟩,
    ⟨some 15, .mv (.t 1), none⟩,
    ⟨some 16, .mv (.t 2), none⟩,
    ⟨some 17, .call 58 [(.t 14), (.t 15), (.t 16)], none⟩,
    ⟨some 18, .nt (.t 17), none⟩] [1, 2, 3, 18])
  (.cond (.t 18) (.seq (.reg [⟨some 6, .asg (.c (.slice true [])), none⟩,
    ⟨some 7, .asg (.c (.bool false)), none⟩] [6, 7])
  (.ret)) (.skip))))
  (.seq (.reg [⟨some 8, .asg (.c (.slice true [])), none⟩] [1, 2, 3, 8])
  (.seq (.kp [8] (.seq (.reg [⟨some 19, .mv (.t 2), none⟩,
    ⟨some 20, .len false (.t 19), none⟩,
    ⟨some 21, .mv (.c (.int .i64 0)), none⟩] [1, 2, 3, 8, 19, 20, 21])
  (.blk 0 (.loop (.seq (.reg [⟨some 22, .bin .lss (.t 21) (.t 20), none⟩] [1, 2, 3, 8, 19, 20, 21, 22])
  (.seq (.kp [1, 2, 3, 8, 19, 20, 21] (.cond (.t 22) (.skip) (.exit 0)))
  (.seq (.kp [1, 2, 3, 8, 19, 20, 21] (.blk 1 (.seq (.reg [⟨some 23, .mv (.t 21), none⟩,
    ⟨some 24, .ia 19 (.t 21) 4, none⟩,
    ⟨some 25, .ld 24 4 true, none⟩,
    ⟨some 10, .alloc (.agg [.int .i64 0, .slice true [], .slice true [], .int .i64 0]), none⟩,
    ⟨some 9, .asg (.t 23), none⟩,
    ⟨none, .st 10 (.t 25) 4, none⟩] [1, 2, 3, 8, 9, 10, 19, 20, 21])
  (.seq (.reg [⟨some 11, .asg (.c (.bool true)), none⟩] [1, 2, 3, 8, 9, 10, 11, 19, 20, 21])
  (.seq (.kp [1, 2, 3, 8, 9, 11, 19, 20, 21] (.seq (.reg [⟨some 26, .mv (.t 2), none⟩,
    ⟨some 27, .len false (.t 26), none⟩,
    ⟨some 28, .mv (.c (.int .i64 0)), none⟩] [1, 2, 3, 8, 9, 10, 11, 19, 20, 21, 26, 27, 28])
  (.blk 2 (.loop (.seq (.reg [⟨some 29, .bin .lss (.t 28) (.t 27), none⟩] [1, 2, 3, 8, 9, 10, 11, 19, 20, 21, 26, 27, 28, 29])
  (.seq (.kp [1, 2, 3, 8, 9, 10, 11, 19, 20, 21, 26, 27, 28] (.cond (.t 29) (.skip) (.exit 2)))
  (.seq (.kp [1, 2, 3, 8, 9, 10, 11, 19, 20, 21, 26, 27, 28] (.blk 3 (.seq (.reg [⟨some 30, .mv (.t 28), none⟩,
    ⟨some 31, .ia 26 (.t 28) 4, none⟩,
    ⟨some 32, .ld 31 4 true, none⟩,
    ⟨some 13, .alloc (.agg [.int .i64 0, .slice true [], .slice true [], .int .i64 0]), none⟩,
    ⟨some 12, .asg (.t 30), none⟩,
    ⟨none, .st 13 (.t 32) 4, none⟩] [1, 2, 3, 8, 9, 10, 11, 12, 13, 19, 20, 21, 26, 27, 28])
  (.seq (.reg [⟨some 33, .mv (.t 12), none⟩,
    ⟨some 34, .mv (.t 9), none⟩,
    ⟨some 35, .bin .neq (.t 33) (.t 34), none⟩,
    ⟨some 36, .mv (.t 35), none⟩,
    ⟨some 37, .ld 3 1 true, some (36, true)⟩,
    ⟨some 38, .mv (.t 1), some (36, true)⟩,
    ⟨some 39, .ld 10 4 true, some (36, true)⟩,
    ⟨some 40, .ld 13 4 true, some (36, true)⟩,
    ⟨some 41, .call 61 [(.t 37), (.t 38), (.t 39), (.t 40)], some (36, true)⟩,
    ⟨some 42, .pick (.t 36) (.t 41) (.c (.bool false)), none⟩,
    ⟨some 43, .mv (.t 42), none⟩,
    ⟨some 44, .mv (.t 12), some (43, true)⟩,
    ⟨some 45, .mv (.t 9), some (43, true)⟩,
    ⟨some 46, .bin .gtr (.t 44) (.t 45), some (43, true)⟩,
    ⟨some 47, .mv (.t 46), some (43, true)⟩,
    ⟨some 48, .ld 3 1 true, some (47, true)⟩,
    ⟨some 49, .mv (.t 1), some (47, true)⟩,
    ⟨some 50, .ld 13 4 true, some (47, true)⟩,
    ⟨some 51, .ld 10 4 true, some (47, true)⟩,
    ⟨some 52, .call 61 [(.t 48), (.t 49), (.t 50), (.t 51)], some (47, true)⟩,
    ⟨some 53, .pick (.t 47) (.t 52) (.c (.bool false)), some (43, true)⟩,
    ⟨some 54, .nt (.t 53), some (43, true)⟩,
    ⟨some 55, .pick (.t 43) (.t 54) (.c (.bool false)), none⟩] [1, 2, 3, 8, 9, 10, 11, 19, 20, 21, 26, 27, 28, 55])
  (.cond (.t 55) (.reg [⟨some 11, .asg (.c (.bool false)), none⟩] [1, 2, 3, 8, 9, 10, 11, 19, 20, 21, 26, 27, 28]) (.skip))))))
  (.reg [⟨some 56, .bin .add (.t 28) (.c (.int .i64 1)), none⟩,
    ⟨some 28, .mv (.t 56), none⟩] [1, 2, 3, 8, 9, 10, 11, 19, 20, 21, 26, 27, 28]))))))))
  (.seq (.reg [⟨some 57, .mv (.t 11), none⟩] [1, 2, 3, 8, 9, 19, 20, 21, 57])
  (.cond (.t 57) (.reg [⟨some 58, .mv (.t 8), none⟩,
    ⟨some 59, .mv (.t 9), none⟩,
    ⟨some 60, .bsl [(.t 59)] 1, none⟩,
    ⟨some 61, .app (.t 58) (.t 60) 1, none⟩,
    ⟨some 8, .asg (.t 61), none⟩] [1, 2, 3, 8, 19, 20, 21]) (.skip))))))))
  (.reg [⟨some 62, .bin .add (.t 21) (.c (.int .i64 1)), none⟩,
    ⟨some 21, .mv (.t 62), none⟩] [1, 2, 3, 8, 19, 20, 21]))))))))
  (.seq (.reg [⟨some 63, .mv (.t 8), none⟩,
    ⟨some 6, .asg (.t 63), none⟩,
    ⟨some 7, .asg (.c (.bool true)), none⟩] [6, 7])
  (.ret)))))
theorem con_impl_BaseTables {v0 : XGeo} {v1 : (List XVariable)} {v2 : (List XTable)} {r : ((List Int) × Bool)} (h : sh_impl_BaseTables v0 v1 v2 = some r) : Con Try.prog 36 [(cXGeo (cLs cI rfl)).enc v0, (cLs (cXVariable cS cI) rfl).enc v1, (cLs (cXTable cI (cLs cI rfl) (cLs cI rfl) cI) rfl).enc v2] [] (rs_impl_BaseTables r) := by
  delta sh_impl_BaseTables at h
  refine top (out := none) (f := Try.f36) (m := m36) (rs := [.t 6, .t 7]) (by kernel_rfl) rfl (by kernel_rfl) (by kernel_rfl) (by kernel_rfl) (by kernel_rfl) (by kernel_rfl) ?_
  exact
   ini [(0, .d ((cXGeo (cLs cI rfl)).enc v0)), (1, .d ((cLs (cXVariable cS cI) rfl).enc v1)), (2, .d ((cLs (cXTable cI (cLs cI rfl) (cLs cI rfl) cI) rfl).enc v2))] rfl <| wpC_seq <| reg_s <| x_box (ss rfl rfl) <| x_asg (sc (cLo cI) ([] : List Int) rfl) <| x_asg (sc cB false rfl) <| seqN [(1, .d ((cLs (cXVariable cS cI) rfl).enc v1)), (2, .d ((cLs (cXTable cI (cLs cI rfl) (cLs cI rfl) cI) rfl).enc v2)), (3, .box ((cXGeo (cLs cI rfl)).enc v0))] (by kernel_rfl) <|
    xn <| wpC_seq <| wpC_kp <| wpC_seq <| reg_s <| st rfl <| ldb rfl rfl rfl rfl <| st rfl <| mvd rfl rfl <| st rfl <| mvd rfl rfl <| bnd h fun x8 e9 h => st rfl <| o_call (a1 (c := (cXGeo (cLs cI rfl))) (tXGeo (tLs tK)) rfl (a1 (c := (cLs (cXVariable cS cI) rfl)) (tLs (tXVariable tS tK)) rfl (a1 (c := (cLs (cXTable cI (cLs cI rfl) (cLs cI rfl) cI) rfl)) (tLs (tXTable tK (tLs tK) (tLs tK) tK)) rfl a0))) (con_impl_isPlan e9) (.inl (so1 sB so0)) <| st rfl <| o_nt rfl <| seqN [(1, .d ((cLs (cXVariable cS cI) rfl).enc v1)), (2, .d ((cLs (cXTable cI (cLs cI rfl) (cLs cI rfl) cI) rfl).enc v2)), (3, .box ((cXGeo (cLs cI rfl)).enc v0)), (18, .d (cB.enc (!x8)))] (by kernel_rfl) <|
    xn <| cnd rfl h (fun b10 h => wpC_seq <| reg_s <| x_asg (sc (cLo cI) ([] : List Int) rfl) <| x_asg (sc cB false rfl) <| seqN [(6, .d ((cLo cI).enc ([] : List Int))), (7, .d (cB.enc false))] (by kernel_rfl) <|
    xn <| wpC_ret <| rt <| rt <| re <| fin h (r1 (so rfl rfl) <| r1 (ss rfl rfl) <| r0) rfl)
    (fun b10 h => wpC_skip <| kpN [(1, .d ((cLs (cXVariable cS cI) rfl).enc v1)), (2, .d ((cLs (cXTable cI (cLs cI rfl) (cLs cI rfl) cI) rfl).enc v2)), (3, .box ((cXGeo (cLs cI rfl)).enc v0))] (by kernel_rfl) <| xn <| wpC_seq <| reg_s <| x_asg (sc (cLo cI) ([] : List Int) rfl) <| seqN [(1, .d ((cLs (cXVariable cS cI) rfl).enc v1)), (2, .d ((cLs (cXTable cI (cLs cI rfl) (cLs cI rfl) cI) rfl).enc v2)), (3, .box ((cXGeo (cLs cI rfl)).enc v0)), (8, .d ((cLo cI).enc ([] : List Int)))] (by kernel_rfl) <|
    xn <| wpC_seq <| wpC_kp <| wpC_seq <| reg_s <| st rfl <| mvd rfl rfl <| stw rfl <| lens rfl fun l1378 => st rfl <| mvc cI (0 : Int) rfl <| seqN [(1, .d ((cLs (cXVariable cS cI) rfl).enc v1)), (2, .d ((cLs (cXTable cI (cLs cI rfl) (cLs cI rfl) cI) rfl).enc v2)), (3, .box ((cXGeo (cLs cI rfl)).enc v0)), (8, .d ((cLo cI).enc ([] : List Int))), (19, .d ((cLs (cXTable cI (cLs cI rfl) (cLs cI rfl) cI) rfl).enc v2)), (20, .d (cI.enc (v2.length : Int))), (21, .d (cI.enc (0 : Int)))] (by kernel_rfl) <|
    xn <| wpC_blk <| lpR (fun (k1380 : Nat) (s1379 : (List Int)) => [(1, .d ((cLs (cXVariable cS cI) rfl).enc v1)), (2, .d ((cLs (cXTable cI (cLs cI rfl) (cLs cI rfl) cI) rfl).enc v2)), (3, .box ((cXGeo (cLs cI rfl)).enc v0)), (8, .d ((cLo cI).enc s1379)), (19, .d ((cLs (cXTable cI (cLs cI rfl) (cLs cI rfl) cI) rfl).enc v2)), (20, .d (cI.enc (v2.length : Int))), (21, .d (cI.enc (k1380 : Int)))]) ([] : List Int) rfl h
    (fun G2290 s1379 h => wpC_seq <| reg_s <| st rfl <| b_lss (k := .i64) rfl rfl <| seqN [(1, .d ((cLs (cXVariable cS cI) rfl).enc v1)), (2, .d ((cLs (cXTable cI (cLs cI rfl) (cLs cI rfl) cI) rfl).enc v2)), (3, .box ((cXGeo (cLs cI rfl)).enc v0)), (8, .d ((cLo cI).enc s1379)), (19, .d ((cLs (cXTable cI (cLs cI rfl) (cLs cI rfl) cI) rfl).enc v2)), (20, .d (cI.enc (v2.length : Int))), (21, .d (cI.enc (v2.length : Int))), (22, .d (cB.enc (decide ((v2.length : Int) < (v2.length : Int)))))] (by kernel_rfl) <|
    xn <| wpC_seq <| wpC_kp <| cnd0 rfl (dlf _) <| wpC_exit <| xt <| xt <| xt <| xb <| kpN [(8, .d ((cLo cI).enc s1379))] (by kernel_rfl) <| xn <| wpC_seq <| reg_s <| st rfl <| mvo rfl rfl <| x_asg (sr rfl rfl) <| x_asg (sc cB true rfl) <| seqN [(6, .d ((cLo cI).enc s1379)), (7, .d (cB.enc true))] (by kernel_rfl) <|
    xn <| wpC_ret <| re <| fin h (r1 (so rfl rfl) <| r1 (ss rfl rfl) <| r0) rfl)
    (fun G2290 nx2288 k1380 s1379 x1381 hk1382 hx1383 hn2289 h => wpC_seq <| reg_s <| st rfl <| b_lss (k := .i64) rfl rfl <| seqN [(1, .d ((cLs (cXVariable cS cI) rfl).enc v1)), (2, .d ((cLs (cXTable cI (cLs cI rfl) (cLs cI rfl) cI) rfl).enc v2)), (3, .box ((cXGeo (cLs cI rfl)).enc v0)), (8, .d ((cLo cI).enc s1379)), (19, .d ((cLs (cXTable cI (cLs cI rfl) (cLs cI rfl) cI) rfl).enc v2)), (20, .d (cI.enc (v2.length : Int))), (21, .d (cI.enc (k1380 : Int))), (22, .d (cB.enc (decide ((k1380 : Int) < (v2.length : Int)))))] (by kernel_rfl) <|
    xn <| wpC_seq <| wpC_kp <| cnd1 rfl (dlt hk1382) <| wpC_skip <| kpN [(1, .d ((cLs (cXVariable cS cI) rfl).enc v1)), (2, .d ((cLs (cXTable cI (cLs cI rfl) (cLs cI rfl) cI) rfl).enc v2)), (3, .box ((cXGeo (cLs cI rfl)).enc v0)), (8, .d ((cLo cI).enc s1379)), (19, .d ((cLs (cXTable cI (cLs cI rfl) (cLs cI rfl) cI) rfl).enc v2)), (20, .d (cI.enc (v2.length : Int))), (21, .d (cI.enc (k1380 : Int)))] (by kernel_rfl) <| xn <| wpC_seq <| wpC_kp <| wpC_blk <| wpC_seq <| reg_s <| st rfl <| mvd rfl rfl <| st rfl <| ias rfl rfl (Int.natCast_nonneg _) hx1383 rfl <| st rfl <| ldi rfl rfl rfl rfl <| x_all (cXTable cI (cLo cI) (cLo cI) cI) (⟨(0 : Int), ([] : List Int), ([] : List Int), (0 : Int)⟩ : XTable) rfl <| x_asg (ss rfl rfl) <| x_stb (ss rfl rfl) rfl (Cd.h_sz _ _) rfl <| seqN [(1, .d ((cLs (cXVariable cS cI) rfl).enc v1)), (2, .d ((cLs (cXTable cI (cLs cI rfl) (cLs cI rfl) cI) rfl).enc v2)), (3, .box ((cXGeo (cLs cI rfl)).enc v0)), (8, .d ((cLo cI).enc s1379)), (9, .d (cI.enc (k1380 : Int))), (10, .box ((cXTable cI (cLs cI rfl) (cLs cI rfl) cI).enc x1381)), (19, .d ((cLs (cXTable cI (cLs cI rfl) (cLs cI rfl) cI) rfl).enc v2)), (20, .d (cI.enc (v2.length : Int))), (21, .d (cI.enc (k1380 : Int)))] (by kernel_rfl) <|
    xn <| wpC_seq <| reg_s <| x_asg (sc cB true rfl) <| seqN [(1, .d ((cLs (cXVariable cS cI) rfl).enc v1)), (2, .d ((cLs (cXTable cI (cLs cI rfl) (cLs cI rfl) cI) rfl).enc v2)), (3, .box ((cXGeo (cLs cI rfl)).enc v0)), (8, .d ((cLo cI).enc s1379)), (9, .d (cI.enc (k1380 : Int))), (10, .box ((cXTable cI (cLs cI rfl) (cLs cI rfl) cI).enc x1381)), (11, .d (cB.enc true)), (19, .d ((cLs (cXTable cI (cLs cI rfl) (cLs cI rfl) cI) rfl).enc v2)), (20, .d (cI.enc (v2.length : Int))), (21, .d (cI.enc (k1380 : Int)))] (by kernel_rfl) <|
    xn <| wpC_seq <| wpC_kp <| wpC_seq <| reg_s <| st rfl <| mvd rfl rfl <| stw rfl <| lens rfl fun l2630 => st rfl <| mvc cI (0 : Int) rfl <| seqN [(1, .d ((cLs (cXVariable cS cI) rfl).enc v1)), (2, .d ((cLs (cXTable cI (cLs cI rfl) (cLs cI rfl) cI) rfl).enc v2)), (3, .box ((cXGeo (cLs cI rfl)).enc v0)), (8, .d ((cLo cI).enc s1379)), (9, .d (cI.enc (k1380 : Int))), (10, .box ((cXTable cI (cLs cI rfl) (cLs cI rfl) cI).enc x1381)), (11, .d (cB.enc true)), (19, .d ((cLs (cXTable cI (cLs cI rfl) (cLs cI rfl) cI) rfl).enc v2)), (20, .d (cI.enc (v2.length : Int))), (21, .d (cI.enc (k1380 : Int))), (26, .d ((cLs (cXTable cI (cLs cI rfl) (cLs cI rfl) cI) rfl).enc v2)), (27, .d (cI.enc (v2.length : Int))), (28, .d (cI.enc (0 : Int)))] (by kernel_rfl) <|
    xn <| wpC_blk <| lpR (fun (k2632 : Nat) (s2631 : Bool) => [(1, .d ((cLs (cXVariable cS cI) rfl).enc v1)), (2, .d ((cLs (cXTable cI (cLs cI rfl) (cLs cI rfl) cI) rfl).enc v2)), (3, .box ((cXGeo (cLs cI rfl)).enc v0)), (8, .d ((cLo cI).enc s1379)), (9, .d (cI.enc (k1380 : Int))), (10, .box ((cXTable cI (cLs cI rfl) (cLs cI rfl) cI).enc x1381)), (11, .d (cB.enc s2631)), (19, .d ((cLs (cXTable cI (cLs cI rfl) (cLs cI rfl) cI) rfl).enc v2)), (20, .d (cI.enc (v2.length : Int))), (21, .d (cI.enc (k1380 : Int))), (26, .d ((cLs (cXTable cI (cLs cI rfl) (cLs cI rfl) cI) rfl).enc v2)), (27, .d (cI.enc (v2.length : Int))), (28, .d (cI.enc (k2632 : Int)))]) true rfl h
    (fun G2706 s2631 h => wpC_seq <| reg_s <| st rfl <| b_lss (k := .i64) rfl rfl <| seqN [(1, .d ((cLs (cXVariable cS cI) rfl).enc v1)), (2, .d ((cLs (cXTable cI (cLs cI rfl) (cLs cI rfl) cI) rfl).enc v2)), (3, .box ((cXGeo (cLs cI rfl)).enc v0)), (8, .d ((cLo cI).enc s1379)), (9, .d (cI.enc (k1380 : Int))), (10, .box ((cXTable cI (cLs cI rfl) (cLs cI rfl) cI).enc x1381)), (11, .d (cB.enc s2631)), (19, .d ((cLs (cXTable cI (cLs cI rfl) (cLs cI rfl) cI) rfl).enc v2)), (20, .d (cI.enc (v2.length : Int))), (21, .d (cI.enc (k1380 : Int))), (26, .d ((cLs (cXTable cI (cLs cI rfl) (cLs cI rfl) cI) rfl).enc v2)), (27, .d (cI.enc (v2.length : Int))), (28, .d (cI.enc (v2.length : Int))), (29, .d (cB.enc (decide ((v2.length : Int) < (v2.length : Int)))))] (by kernel_rfl) <|
    xn <| wpC_seq <| wpC_kp <| cnd0 rfl (dlf _) <| wpC_exit <| xt <| xt <| xt <| xb <| kpN [(1, .d ((cLs (cXVariable cS cI) rfl).enc v1)), (2, .d ((cLs (cXTable cI (cLs cI rfl) (cLs cI rfl) cI) rfl).enc v2)), (3, .box ((cXGeo (cLs cI rfl)).enc v0)), (8, .d ((cLo cI).enc s1379)), (9, .d (cI.enc (k1380 : Int))), (11, .d (cB.enc s2631)), (19, .d ((cLs (cXTable cI (cLs cI rfl) (cLs cI rfl) cI) rfl).enc v2)), (20, .d (cI.enc (v2.length : Int))), (21, .d (cI.enc (k1380 : Int)))] (by kernel_rfl) <| xn <| wpC_seq <| reg_s <| st rfl <| mvd rfl rfl <| seqN [(1, .d ((cLs (cXVariable cS cI) rfl).enc v1)), (2, .d ((cLs (cXTable cI (cLs cI rfl) (cLs cI rfl) cI) rfl).enc v2)), (3, .box ((cXGeo (cLs cI rfl)).enc v0)), (8, .d ((cLo cI).enc s1379)), (9, .d (cI.enc (k1380 : Int))), (19, .d ((cLs (cXTable cI (cLs cI rfl) (cLs cI rfl) cI) rfl).enc v2)), (20, .d (cI.enc (v2.length : Int))), (21, .d (cI.enc (k1380 : Int))), (57, .d (cB.enc s2631))] (by kernel_rfl) <|
    xn <| cnd rfl h (fun b2707 h => reg_s <| st rfl <| mvo rfl rfl <| st rfl <| mvd rfl rfl <| x_bsl cI [(k1380 : Int)] (t1 (ss rfl rfl) rfl t0) rfl rfl <| lnO_k h fun l2708 h => x_app (sr rfl rfl) (to rfl rfl) l2708 rfl <| x_asg (so rfl rfl) <| seqN [(1, .d ((cLs (cXVariable cS cI) rfl).enc v1)), (2, .d ((cLs (cXTable cI (cLs cI rfl) (cLs cI rfl) cI) rfl).enc v2)), (3, .box ((cXGeo (cLs cI rfl)).enc v0)), (8, .d ((cLo cI).enc (s1379 ++ [(k1380 : Int)]))), (19, .d ((cLs (cXTable cI (cLs cI rfl) (cLs cI rfl) cI) rfl).enc v2)), (20, .d (cI.enc (v2.length : Int))), (21, .d (cI.enc (k1380 : Int)))] (by kernel_rfl) <|
    xbb <| kpN [(1, .d ((cLs (cXVariable cS cI) rfl).enc v1)), (2, .d ((cLs (cXTable cI (cLs cI rfl) (cLs cI rfl) cI) rfl).enc v2)), (3, .box ((cXGeo (cLs cI rfl)).enc v0)), (8, .d ((cLo cI).enc (s1379 ++ [(k1380 : Int)]))), (19, .d ((cLs (cXTable cI (cLs cI rfl) (cLs cI rfl) cI) rfl).enc v2)), (20, .d (cI.enc (v2.length : Int))), (21, .d (cI.enc (k1380 : Int)))] (by kernel_rfl) <| xn <| reg_s <| st rfl <| b_inc rfl rfl l1378 hk1382 <| st rfl <| mvd rfl rfl <| seqN [(1, .d ((cLs (cXVariable cS cI) rfl).enc v1)), (2, .d ((cLs (cXTable cI (cLs cI rfl) (cLs cI rfl) cI) rfl).enc v2)), (3, .box ((cXGeo (cLs cI rfl)).enc v0)), (8, .d ((cLo cI).enc (s1379 ++ [(k1380 : Int)]))), (19, .d ((cLs (cXTable cI (cLs cI rfl) (cLs cI rfl) cI) rfl).enc v2)), (20, .d (cI.enc (v2.length : Int))), (21, .d (cI.enc ((k1380 + 1 : Nat) : Int)))] (by kernel_rfl) <|
    xn <| hn2289 (s1379 ++ [(k1380 : Int)]) h)
    (fun b2707 h => wpC_skip <| xbb <| kpN [(1, .d ((cLs (cXVariable cS cI) rfl).enc v1)), (2, .d ((cLs (cXTable cI (cLs cI rfl) (cLs cI rfl) cI) rfl).enc v2)), (3, .box ((cXGeo (cLs cI rfl)).enc v0)), (8, .d ((cLo cI).enc s1379)), (19, .d ((cLs (cXTable cI (cLs cI rfl) (cLs cI rfl) cI) rfl).enc v2)), (20, .d (cI.enc (v2.length : Int))), (21, .d (cI.enc (k1380 : Int)))] (by kernel_rfl) <| xn <| reg_s <| st rfl <| b_inc rfl rfl l1378 hk1382 <| st rfl <| mvd rfl rfl <| seqN [(1, .d ((cLs (cXVariable cS cI) rfl).enc v1)), (2, .d ((cLs (cXTable cI (cLs cI rfl) (cLs cI rfl) cI) rfl).enc v2)), (3, .box ((cXGeo (cLs cI rfl)).enc v0)), (8, .d ((cLo cI).enc s1379)), (19, .d ((cLs (cXTable cI (cLs cI rfl) (cLs cI rfl) cI) rfl).enc v2)), (20, .d (cI.enc (v2.length : Int))), (21, .d (cI.enc ((k1380 + 1 : Nat) : Int)))] (by kernel_rfl) <|
    xn <| hn2289 s1379 h))
    (fun G2706 nx2704 k2632 s2631 x2633 hk2634 hx2635 hn2705 h => wpC_seq <| reg_s <| st rfl <| b_lss (k := .i64) rfl rfl <| seqN [(1, .d ((cLs (cXVariable cS cI) rfl).enc v1)), (2, .d ((cLs (cXTable cI (cLs cI rfl) (cLs cI rfl) cI) rfl).enc v2)), (3, .box ((cXGeo (cLs cI rfl)).enc v0)), (8, .d ((cLo cI).enc s1379)), (9, .d (cI.enc (k1380 : Int))), (10, .box ((cXTable cI (cLs cI rfl) (cLs cI rfl) cI).enc x1381)), (11, .d (cB.enc s2631)), (19, .d ((cLs (cXTable cI (cLs cI rfl) (cLs cI rfl) cI) rfl).enc v2)), (20, .d (cI.enc (v2.length : Int))), (21, .d (cI.enc (k1380 : Int))), (26, .d ((cLs (cXTable cI (cLs cI rfl) (cLs cI rfl) cI) rfl).enc v2)), (27, .d (cI.enc (v2.length : Int))), (28, .d (cI.enc (k2632 : Int))), (29, .d (cB.enc (decide ((k2632 : Int) < (v2.length : Int)))))] (by kernel_rfl) <|
    xn <| wpC_seq <| wpC_kp <| cnd1 rfl (dlt hk2634) <| wpC_skip <| kpN [(1, .d ((cLs (cXVariable cS cI) rfl).enc v1)), (2, .d ((cLs (cXTable cI (cLs cI rfl) (cLs cI rfl) cI) rfl).enc v2)), (3, .box ((cXGeo (cLs cI rfl)).enc v0)), (8, .d ((cLo cI).enc s1379)), (9, .d (cI.enc (k1380 : Int))), (10, .box ((cXTable cI (cLs cI rfl) (cLs cI rfl) cI).enc x1381)), (11, .d (cB.enc s2631)), (19, .d ((cLs (cXTable cI (cLs cI rfl) (cLs cI rfl) cI) rfl).enc v2)), (20, .d (cI.enc (v2.length : Int))), (21, .d (cI.enc (k1380 : Int))), (26, .d ((cLs (cXTable cI (cLs cI rfl) (cLs cI rfl) cI) rfl).enc v2)), (27, .d (cI.enc (v2.length : Int))), (28, .d (cI.enc (k2632 : Int)))] (by kernel_rfl) <| xn <| wpC_seq <| wpC_kp <| wpC_blk <| wpC_seq <| reg_s <| st rfl <| mvd rfl rfl <| st rfl <| ias rfl rfl (Int.natCast_nonneg _) hx2635 rfl <| st rfl <| ldi rfl rfl rfl rfl <| x_all (cXTable cI (cLo cI) (cLo cI) cI) (⟨(0 : Int), ([] : List Int), ([] : List Int), (0 : Int)⟩ : XTable) rfl <| x_asg (ss rfl rfl) <| x_stb (ss rfl rfl) rfl (Cd.h_sz _ _) rfl <| seqN [(1, .d ((cLs (cXVariable cS cI) rfl).enc v1)), (2, .d ((cLs (cXTable cI (cLs cI rfl) (cLs cI rfl) cI) rfl).enc v2)), (3, .box ((cXGeo (cLs cI rfl)).enc v0)), (8, .d ((cLo cI).enc s1379)), (9, .d (cI.enc (k1380 : Int))), (10, .box ((cXTable cI (cLs cI rfl) (cLs cI rfl) cI).enc x1381)), (11, .d (cB.enc s2631)), (12, .d (cI.enc (k2632 : Int))), (13, .box ((cXTable cI (cLs cI rfl) (cLs cI rfl) cI).enc x2633)), (19, .d ((cLs (cXTable cI (cLs cI rfl) (cLs cI rfl) cI) rfl).enc v2)), (20, .d (cI.enc (v2.length : Int))), (21, .d (cI.enc (k1380 : Int))), (26, .d ((cLs (cXTable cI (cLs cI rfl) (cLs cI rfl) cI) rfl).enc v2)), (27, .d (cI.enc (v2.length : Int))), (28, .d (cI.enc (k2632 : Int)))] (by kernel_rfl) <|
    xn <| wpC_seq <| jw (fun (s2733 : Bool) => [(1, .d ((cLs (cXVariable cS cI) rfl).enc v1)), (2, .d ((cLs (cXTable cI (cLs cI rfl) (cLs cI rfl) cI) rfl).enc v2)), (3, .box ((cXGeo (cLs cI rfl)).enc v0)), (8, .d ((cLo cI).enc s1379)), (9, .d (cI.enc (k1380 : Int))), (10, .box ((cXTable cI (cLs cI rfl) (cLs cI rfl) cI).enc x1381)), (11, .d (cB.enc s2631)), (19, .d ((cLs (cXTable cI (cLs cI rfl) (cLs cI rfl) cI) rfl).enc v2)), (20, .d (cI.enc (v2.length : Int))), (21, .d (cI.enc (k1380 : Int))), (26, .d ((cLs (cXTable cI (cLs cI rfl) (cLs cI rfl) cI) rfl).enc v2)), (27, .d (cI.enc (v2.length : Int))), (28, .d (cI.enc (k2632 : Int))), (55, .d (cB.enc s2733))]) h (fun s2733 h => xn <| cnd rfl h (fun b2735 h => reg_s <| x_asg (sc cB false rfl) <| seqN [(1, .d ((cLs (cXVariable cS cI) rfl).enc v1)), (2, .d ((cLs (cXTable cI (cLs cI rfl) (cLs cI rfl) cI) rfl).enc v2)), (3, .box ((cXGeo (cLs cI rfl)).enc v0)), (8, .d ((cLo cI).enc s1379)), (9, .d (cI.enc (k1380 : Int))), (10, .box ((cXTable cI (cLs cI rfl) (cLs cI rfl) cI).enc x1381)), (11, .d (cB.enc false)), (19, .d ((cLs (cXTable cI (cLs cI rfl) (cLs cI rfl) cI) rfl).enc v2)), (20, .d (cI.enc (v2.length : Int))), (21, .d (cI.enc (k1380 : Int))), (26, .d ((cLs (cXTable cI (cLs cI rfl) (cLs cI rfl) cI) rfl).enc v2)), (27, .d (cI.enc (v2.length : Int))), (28, .d (cI.enc (k2632 : Int)))] (by kernel_rfl) <|
    xbb <| kpN [(1, .d ((cLs (cXVariable cS cI) rfl).enc v1)), (2, .d ((cLs (cXTable cI (cLs cI rfl) (cLs cI rfl) cI) rfl).enc v2)), (3, .box ((cXGeo (cLs cI rfl)).enc v0)), (8, .d ((cLo cI).enc s1379)), (9, .d (cI.enc (k1380 : Int))), (10, .box ((cXTable cI (cLs cI rfl) (cLs cI rfl) cI).enc x1381)), (11, .d (cB.enc false)), (19, .d ((cLs (cXTable cI (cLs cI rfl) (cLs cI rfl) cI) rfl).enc v2)), (20, .d (cI.enc (v2.length : Int))), (21, .d (cI.enc (k1380 : Int))), (26, .d ((cLs (cXTable cI (cLs cI rfl) (cLs cI rfl) cI) rfl).enc v2)), (27, .d (cI.enc (v2.length : Int))), (28, .d (cI.enc (k2632 : Int)))] (by kernel_rfl) <| xn <| reg_s <| st rfl <| b_inc rfl rfl l2630 hk2634 <| st rfl <| mvd rfl rfl <| seqN [(1, .d ((cLs (cXVariable cS cI) rfl).enc v1)), (2, .d ((cLs (cXTable cI (cLs cI rfl) (cLs cI rfl) cI) rfl).enc v2)), (3, .box ((cXGeo (cLs cI rfl)).enc v0)), (8, .d ((cLo cI).enc s1379)), (9, .d (cI.enc (k1380 : Int))), (10, .box ((cXTable cI (cLs cI rfl) (cLs cI rfl) cI).enc x1381)), (11, .d (cB.enc false)), (19, .d ((cLs (cXTable cI (cLs cI rfl) (cLs cI rfl) cI) rfl).enc v2)), (20, .d (cI.enc (v2.length : Int))), (21, .d (cI.enc (k1380 : Int))), (26, .d ((cLs (cXTable cI (cLs cI rfl) (cLs cI rfl) cI) rfl).enc v2)), (27, .d (cI.enc (v2.length : Int))), (28, .d (cI.enc ((k2632 + 1 : Nat) : Int)))] (by kernel_rfl) <|
    xn <| hn2705 false h)
    (fun b2735 h => wpC_skip <| xbb <| kpN [(1, .d ((cLs (cXVariable cS cI) rfl).enc v1)), (2, .d ((cLs (cXTable cI (cLs cI rfl) (cLs cI rfl) cI) rfl).enc v2)), (3, .box ((cXGeo (cLs cI rfl)).enc v0)), (8, .d ((cLo cI).enc s1379)), (9, .d (cI.enc (k1380 : Int))), (10, .box ((cXTable cI (cLs cI rfl) (cLs cI rfl) cI).enc x1381)), (11, .d (cB.enc s2631)), (19, .d ((cLs (cXTable cI (cLs cI rfl) (cLs cI rfl) cI) rfl).enc v2)), (20, .d (cI.enc (v2.length : Int))), (21, .d (cI.enc (k1380 : Int))), (26, .d ((cLs (cXTable cI (cLs cI rfl) (cLs cI rfl) cI) rfl).enc v2)), (27, .d (cI.enc (v2.length : Int))), (28, .d (cI.enc (k2632 : Int)))] (by kernel_rfl) <| xn <| reg_s <| st rfl <| b_inc rfl rfl l2630 hk2634 <| st rfl <| mvd rfl rfl <| seqN [(1, .d ((cLs (cXVariable cS cI) rfl).enc v1)), (2, .d ((cLs (cXTable cI (cLs cI rfl) (cLs cI rfl) cI) rfl).enc v2)), (3, .box ((cXGeo (cLs cI rfl)).enc v0)), (8, .d ((cLo cI).enc s1379)), (9, .d (cI.enc (k1380 : Int))), (10, .box ((cXTable cI (cLs cI rfl) (cLs cI rfl) cI).enc x1381)), (11, .d (cB.enc s2631)), (19, .d ((cLs (cXTable cI (cLs cI rfl) (cLs cI rfl) cI) rfl).enc v2)), (20, .d (cI.enc (v2.length : Int))), (21, .d (cI.enc (k1380 : Int))), (26, .d ((cLs (cXTable cI (cLs cI rfl) (cLs cI rfl) cI) rfl).enc v2)), (27, .d (cI.enc (v2.length : Int))), (28, .d (cI.enc ((k2632 + 1 : Nat) : Int)))] (by kernel_rfl) <|
    xn <| hn2705 s2631 h))
    fun s2733' q2734 h => reg_s <| st rfl <| mvd rfl rfl <| st rfl <| mvd rfl rfl <| st rfl <| b_neq (k := .i64) rfl rfl <| st rfl <| mvd rfl rfl <| ite_k h (fun b2736 h => gt' rfl b2736 <| st rfl <| ldb rfl rfl rfl rfl <| gt' rfl b2736 <| st rfl <| mvd rfl rfl <| gt' rfl b2736 <| st rfl <| ldb rfl rfl rfl rfl <| gt' rfl b2736 <| st rfl <| ldb rfl rfl rfl rfl <| gt' rfl b2736 <| bnd h fun x2737 e2738 h => st rfl <| o_call (a1 (c := (cXGeo (cLs cI rfl))) (tXGeo (tLs tK)) rfl (a1 (c := (cLs (cXVariable cS cI) rfl)) (tLs (tXVariable tS tK)) rfl (a1 (c := (cXTable cI (cLs cI rfl) (cLs cI rfl) cI)) (tXTable tK (tLs tK) (tLs tK) tK) rfl (a1 (c := (cXTable cI (cLs cI rfl) (cLs cI rfl) cI)) (tXTable tK (tLs tK) (tLs tK) tK) rfl a0)))) (con_impl_followsFrom e2738) (.inl (so1 sB so0)) <| st rfl <| pick1 rfl b2736 (cd := cB) (v := x2737) rfl rfl <| st rfl <| mvd rfl rfl <| ite_k h (fun b2739 h => gt' rfl b2739 <| st rfl <| mvd rfl rfl <| gt' rfl b2739 <| st rfl <| mvd rfl rfl <| gt' rfl b2739 <| st rfl <| b_gtr (k := .i64) rfl rfl <| gt' rfl b2739 <| st rfl <| mvd rfl rfl <| ite_k h (fun b2740 h => gt' rfl b2740 <| st rfl <| ldb rfl rfl rfl rfl <| gt' rfl b2740 <| st rfl <| mvd rfl rfl <| gt' rfl b2740 <| st rfl <| ldb rfl rfl rfl rfl <| gt' rfl b2740 <| st rfl <| ldb rfl rfl rfl rfl <| gt' rfl b2740 <| bnd h fun x2741 e2742 h => st rfl <| o_call (a1 (c := (cXGeo (cLs cI rfl))) (tXGeo (tLs tK)) rfl (a1 (c := (cLs (cXVariable cS cI) rfl)) (tLs (tXVariable tS tK)) rfl (a1 (c := (cXTable cI (cLs cI rfl) (cLs cI rfl) cI)) (tXTable tK (tLs tK) (tLs tK) tK) rfl (a1 (c := (cXTable cI (cLs cI rfl) (cLs cI rfl) cI)) (tXTable tK (tLs tK) (tLs tK) tK) rfl a0)))) (con_impl_followsFrom e2742) (.inl (so1 sB so0)) <| gt' rfl b2739 <| st rfl <| pick1 rfl b2740 (cd := cB) (v := x2741) rfl rfl <| gt' rfl b2739 <| st rfl <| o_nt rfl <| st rfl <| pick1 rfl b2739 (cd := cB) (v := (!x2741)) rfl rfl <| seqN [(1, .d ((cLs (cXVariable cS cI) rfl).enc v1)), (2, .d ((cLs (cXTable cI (cLs cI rfl) (cLs cI rfl) cI) rfl).enc v2)), (3, .box ((cXGeo (cLs cI rfl)).enc v0)), (8, .d ((cLo cI).enc s1379)), (9, .d (cI.enc (k1380 : Int))), (10, .box ((cXTable cI (cLs cI rfl) (cLs cI rfl) cI).enc x1381)), (11, .d (cB.enc s2631)), (19, .d ((cLs (cXTable cI (cLs cI rfl) (cLs cI rfl) cI) rfl).enc v2)), (20, .d (cI.enc (v2.length : Int))), (21, .d (cI.enc (k1380 : Int))), (26, .d ((cLs (cXTable cI (cLs cI rfl) (cLs cI rfl) cI) rfl).enc v2)), (27, .d (cI.enc (v2.length : Int))), (28, .d (cI.enc (k2632 : Int))), (55, .d (cB.enc (!x2741)))] (by kernel_rfl) <|
    lfn (S := (fun (s2733 : Bool) => [(1, .d ((cLs (cXVariable cS cI) rfl).enc v1)), (2, .d ((cLs (cXTable cI (cLs cI rfl) (cLs cI rfl) cI) rfl).enc v2)), (3, .box ((cXGeo (cLs cI rfl)).enc v0)), (8, .d ((cLo cI).enc s1379)), (9, .d (cI.enc (k1380 : Int))), (10, .box ((cXTable cI (cLs cI rfl) (cLs cI rfl) cI).enc x1381)), (11, .d (cB.enc s2631)), (19, .d ((cLs (cXTable cI (cLs cI rfl) (cLs cI rfl) cI) rfl).enc v2)), (20, .d (cI.enc (v2.length : Int))), (21, .d (cI.enc (k1380 : Int))), (26, .d ((cLs (cXTable cI (cLs cI rfl) (cLs cI rfl) cI) rfl).enc v2)), (27, .d (cI.enc (v2.length : Int))), (28, .d (cI.enc (k2632 : Int))), (55, .d (cB.enc s2733))])) h q2734 rfl)
    (fun b2740 h => gf rfl b2740 <| gf rfl b2740 <| gf rfl b2740 <| gf rfl b2740 <| gf rfl b2740 <| gt' rfl b2739 <| st rfl <| pick0 rfl b2740 (cd := cB) (v := false) rfl rfl <| gt' rfl b2739 <| st rfl <| o_nt rfl <| st rfl <| pick1 rfl b2739 (cd := cB) (v := (!false)) rfl rfl <| seqN [(1, .d ((cLs (cXVariable cS cI) rfl).enc v1)), (2, .d ((cLs (cXTable cI (cLs cI rfl) (cLs cI rfl) cI) rfl).enc v2)), (3, .box ((cXGeo (cLs cI rfl)).enc v0)), (8, .d ((cLo cI).enc s1379)), (9, .d (cI.enc (k1380 : Int))), (10, .box ((cXTable cI (cLs cI rfl) (cLs cI rfl) cI).enc x1381)), (11, .d (cB.enc s2631)), (19, .d ((cLs (cXTable cI (cLs cI rfl) (cLs cI rfl) cI) rfl).enc v2)), (20, .d (cI.enc (v2.length : Int))), (21, .d (cI.enc (k1380 : Int))), (26, .d ((cLs (cXTable cI (cLs cI rfl) (cLs cI rfl) cI) rfl).enc v2)), (27, .d (cI.enc (v2.length : Int))), (28, .d (cI.enc (k2632 : Int))), (55, .d (cB.enc (!false)))] (by kernel_rfl) <|
    lfn (S := (fun (s2733 : Bool) => [(1, .d ((cLs (cXVariable cS cI) rfl).enc v1)), (2, .d ((cLs (cXTable cI (cLs cI rfl) (cLs cI rfl) cI) rfl).enc v2)), (3, .box ((cXGeo (cLs cI rfl)).enc v0)), (8, .d ((cLo cI).enc s1379)), (9, .d (cI.enc (k1380 : Int))), (10, .box ((cXTable cI (cLs cI rfl) (cLs cI rfl) cI).enc x1381)), (11, .d (cB.enc s2631)), (19, .d ((cLs (cXTable cI (cLs cI rfl) (cLs cI rfl) cI) rfl).enc v2)), (20, .d (cI.enc (v2.length : Int))), (21, .d (cI.enc (k1380 : Int))), (26, .d ((cLs (cXTable cI (cLs cI rfl) (cLs cI rfl) cI) rfl).enc v2)), (27, .d (cI.enc (v2.length : Int))), (28, .d (cI.enc (k2632 : Int))), (55, .d (cB.enc s2733))])) h q2734 rfl))
    (fun b2739 h => gf rfl b2739 <| gf rfl b2739 <| gf rfl b2739 <| gf rfl b2739 <| gu rfl <| gu rfl <| gu rfl <| gu rfl <| gu rfl <| gf rfl b2739 <| gf rfl b2739 <| st rfl <| pick0 rfl b2739 (cd := cB) (v := false) rfl rfl <| seqN [(1, .d ((cLs (cXVariable cS cI) rfl).enc v1)), (2, .d ((cLs (cXTable cI (cLs cI rfl) (cLs cI rfl) cI) rfl).enc v2)), (3, .box ((cXGeo (cLs cI rfl)).enc v0)), (8, .d ((cLo cI).enc s1379)), (9, .d (cI.enc (k1380 : Int))), (10, .box ((cXTable cI (cLs cI rfl) (cLs cI rfl) cI).enc x1381)), (11, .d (cB.enc s2631)), (19, .d ((cLs (cXTable cI (cLs cI rfl) (cLs cI rfl) cI) rfl).enc v2)), (20, .d (cI.enc (v2.length : Int))), (21, .d (cI.enc (k1380 : Int))), (26, .d ((cLs (cXTable cI (cLs cI rfl) (cLs cI rfl) cI) rfl).enc v2)), (27, .d (cI.enc (v2.length : Int))), (28, .d (cI.enc (k2632 : Int))), (55, .d (cB.enc false))] (by kernel_rfl) <|
    lfn (S := (fun (s2733 : Bool) => [(1, .d ((cLs (cXVariable cS cI) rfl).enc v1)), (2, .d ((cLs (cXTable cI (cLs cI rfl) (cLs cI rfl) cI) rfl).enc v2)), (3, .box ((cXGeo (cLs cI rfl)).enc v0)), (8, .d ((cLo cI).enc s1379)), (9, .d (cI.enc (k1380 : Int))), (10, .box ((cXTable cI (cLs cI rfl) (cLs cI rfl) cI).enc x1381)), (11, .d (cB.enc s2631)), (19, .d ((cLs (cXTable cI (cLs cI rfl) (cLs cI rfl) cI) rfl).enc v2)), (20, .d (cI.enc (v2.length : Int))), (21, .d (cI.enc (k1380 : Int))), (26, .d ((cLs (cXTable cI (cLs cI rfl) (cLs cI rfl) cI) rfl).enc v2)), (27, .d (cI.enc (v2.length : Int))), (28, .d (cI.enc (k2632 : Int))), (55, .d (cB.enc s2733))])) h q2734 rfl))
    (fun b2736 h => gf rfl b2736 <| gf rfl b2736 <| gf rfl b2736 <| gf rfl b2736 <| gf rfl b2736 <| st rfl <| pick0 rfl b2736 (cd := cB) (v := false) rfl rfl <| st rfl <| mvd rfl rfl <| gf rfl rfl <| gf rfl rfl <| gf rfl rfl <| gf rfl rfl <| gu rfl <| gu rfl <| gu rfl <| gu rfl <| gu rfl <| gf rfl rfl <| gf rfl rfl <| st rfl <| pick0 rfl rfl (cd := cB) (v := false) rfl rfl <| seqN [(1, .d ((cLs (cXVariable cS cI) rfl).enc v1)), (2, .d ((cLs (cXTable cI (cLs cI rfl) (cLs cI rfl) cI) rfl).enc v2)), (3, .box ((cXGeo (cLs cI rfl)).enc v0)), (8, .d ((cLo cI).enc s1379)), (9, .d (cI.enc (k1380 : Int))), (10, .box ((cXTable cI (cLs cI rfl) (cLs cI rfl) cI).enc x1381)), (11, .d (cB.enc s2631)), (19, .d ((cLs (cXTable cI (cLs cI rfl) (cLs cI rfl) cI) rfl).enc v2)), (20, .d (cI.enc (v2.length : Int))), (21, .d (cI.enc (k1380 : Int))), (26, .d ((cLs (cXTable cI (cLs cI rfl) (cLs cI rfl) cI) rfl).enc v2)), (27, .d (cI.enc (v2.length : Int))), (28, .d (cI.enc (k2632 : Int))), (55, .d (cB.enc false))] (by kernel_rfl) <|
    lfn (S := (fun (s2733 : Bool) => [(1, .d ((cLs (cXVariable cS cI) rfl).enc v1)), (2, .d ((cLs (cXTable cI (cLs cI rfl) (cLs cI rfl) cI) rfl).enc v2)), (3, .box ((cXGeo (cLs cI rfl)).enc v0)), (8, .d ((cLo cI).enc s1379)), (9, .d (cI.enc (k1380 : Int))), (10, .box ((cXTable cI (cLs cI rfl) (cLs cI rfl) cI).enc x1381)), (11, .d (cB.enc s2631)), (19, .d ((cLs (cXTable cI (cLs cI rfl) (cLs cI rfl) cI) rfl).enc v2)), (20, .d (cI.enc (v2.length : Int))), (21, .d (cI.enc (k1380 : Int))), (26, .d ((cLs (cXTable cI (cLs cI rfl) (cLs cI rfl) cI) rfl).enc v2)), (27, .d (cI.enc (v2.length : Int))), (28, .d (cI.enc (k2632 : Int))), (55, .d (cB.enc s2733))])) h q2734 rfl))))

def rs_laws_eqTableS (r : Bool) : List D := [cB.enc r]
def m20 : MC := .seq (.reg [⟨some 4, .asg (.c (.bool false)), none⟩] [0, 1])
  (.seq (.kp [0, 1] (.seq (.reg [⟨some 6, .mv (.t 0), none⟩,
    ⟨some 7, .len false (.t 6), none⟩,
    ⟨some 8, .mv (.t 1), none⟩,
    ⟨some 9, .len false (.t 8), none⟩,
    ⟨some 10, .bin .neq (.t 7) (.t 9), none⟩] [0, 1, 10])
  (.cond (.t 10) (.seq (.reg [⟨some 4, .asg (.c (.bool false)), none⟩] [4])
  (.ret)) (.skip))))
  (.seq (.kp [] (.seq (.reg [⟨some 5, .asg (.c (.int .i64 0)), none⟩] [0, 1, 5])
  (.blk 0 (.loop (.seq (.kp [0, 1, 5] (.seq (.reg [⟨some 11, .mv (.t 5), none⟩,
    ⟨some 12, .mv (.t 0), none⟩,
    ⟨some 13, .len false (.t 12), none⟩,
    ⟨some 14, .bin .lss (.t 11) (.t 13), none⟩] [0, 1, 5, 14])
  (.cond (.t 14) (.skip) (.exit 0))))
  (.seq (.kp [0, 1, 5] (.blk 1 (.seq (.drw [⟨0, ⟨some 17, .mv (.t 0), none⟩, [18, 19, 20, 21, 22, 23, 24, 25, 26]⟩,
    ⟨1, ⟨some 18, .mv (.t 5), none⟩, [17, 19, 20, 21, 22, 23, 24, 25, 26]⟩,
    ⟨2, ⟨some 19, .ia 17 (.t 18) 4, none⟩, [20, 21, 22, 23, 24, 25, 26]⟩,
    ⟨3, ⟨some 20, .ld 19 4 true, none⟩, [21, 22, 23, 24, 25, 26]⟩,
    ⟨4, ⟨some 21, .mv (.t 1), none⟩, [17, 18, 19, 20, 22, 23, 24, 25, 26]⟩,
    ⟨5, ⟨some 22, .mv (.t 5), none⟩, [17, 18, 19, 20, 21, 23, 24, 25, 26]⟩,
    ⟨6, ⟨some 23, .ia 21 (.t 22) 4, none⟩, [17, 18, 19, 20, 24, 25, 26]⟩,
    ⟨7, ⟨some 24, .ld 23 4 true, none⟩, [17, 18, 19, 20, 25, 26]⟩,
    ⟨8, ⟨some 25, .call 27 [(.t 20), (.t 24)], none⟩, [26]⟩,
    ⟨9, ⟨some 26, .nt (.t 25), none⟩, []⟩]
    [] [0, 1, 5, 26])
  (.cond (.t 26) (.seq (.reg [⟨some 4, .asg (.c (.bool false)), none⟩] [4])
  (.ret)) (.skip)))))
  (.reg [⟨some 15, .mv (.t 5), none⟩,
    ⟨some 16, .bin .add (.t 15) (.c (.int .i64 1)), none⟩,
    ⟨some 5, .asg (.t 16), none⟩] [0, 1, 5])))))))
  (.seq (.reg [⟨some 4, .asg (.c (.bool true)), none⟩] [4])
  (.ret))))
theorem con_laws_eqTableS {v0 : (List XTable)} {v1 : (List XTable)} {r : Bool} (h : sh_laws_eqTableS v0 v1 = some r) : Con Try.prog 20 [(cLs (cXTable cI (cLs cI rfl) (cLs cI rfl) cI) rfl).enc v0, (cLs (cXTable cI (cLs cI rfl) (cLs cI rfl) cI) rfl).enc v1] [] (rs_laws_eqTableS r) := by
  delta sh_laws_eqTableS at h
  refine top (out := none) (f := Try.f20) (m := m20) (rs := [.t 4]) (by kernel_rfl) rfl (by kernel_rfl) (by kernel_rfl) (by kernel_rfl) (by kernel_rfl) (by kernel_rfl) ?_
  exact
   ini [(0, .d ((cLs (cXTable cI (cLs cI rfl) (cLs cI rfl) cI) rfl).enc v0)), (1, .d ((cLs (cXTable cI (cLs cI rfl) (cLs cI rfl) cI) rfl).enc v1))] rfl <| wpC_seq <| reg_s <| x_asg (sc cB false rfl) <| seqN [(0, .d ((cLs (cXTable cI (cLs cI rfl) (cLs cI rfl) cI) rfl).enc v0)), (1, .d ((cLs (cXTable cI (cLs cI rfl) (cLs cI rfl) cI) rfl).enc v1))] (by kernel_rfl) <|
    xn <| wpC_seq <| wpC_kp <| wpC_seq <| reg_s <| st rfl <| mvd rfl rfl <| stw rfl <| lens rfl fun l8 => st rfl <| mvd rfl rfl <| stw rfl <| lens rfl fun l9 => st rfl <| b_neq (k := .i64) rfl rfl <| seqN [(0, .d ((cLs (cXTable cI (cLs cI rfl) (cLs cI rfl) cI) rfl).enc v0)), (1, .d ((cLs (cXTable cI (cLs cI rfl) (cLs cI rfl) cI) rfl).enc v1)), (10, .d (cB.enc (decide ((v0.length : Int) ≠ (v1.length : Int)))))] (by kernel_rfl) <|
    xn <| cnd rfl h (fun b10 h => wpC_seq <| reg_s <| x_asg (sc cB false rfl) <| seqN [(4, .d (cB.enc false))] (by kernel_rfl) <|
    xn <| wpC_ret <| rt <| rt <| re <| fin h (r1 (ss rfl rfl) <| r0) rfl)
    (fun b10 h => wpC_skip <| kpN [(0, .d ((cLs (cXTable cI (cLs cI rfl) (cLs cI rfl) cI) rfl).enc v0)), (1, .d ((cLs (cXTable cI (cLs cI rfl) (cLs cI rfl) cI) rfl).enc v1))] (by kernel_rfl) <| xn <| wpC_seq <| wpC_kp <| wpC_seq <| reg_s <| x_asg (sc cI (0 : Int) rfl) <| seqN [(0, .d ((cLs (cXTable cI (cLs cI rfl) (cLs cI rfl) cI) rfl).enc v0)), (1, .d ((cLs (cXTable cI (cLs cI rfl) (cLs cI rfl) cI) rfl).enc v1)), (5, .d (cI.enc (0 : Int)))] (by kernel_rfl) <|
    xn <| wpC_blk <| lpF (fun (s142 : Int) => [(0, .d ((cLs (cXTable cI (cLs cI rfl) (cLs cI rfl) cI) rfl).enc v0)), (1, .d ((cLs (cXTable cI (cLs cI rfl) (cLs cI rfl) cI) rfl).enc v1)), (5, .d (cI.enc s142))]) (0 : Int) rfl h
    fun G231 nx229 s142 hn230 h => wpC_seq <| wpC_kp <| wpC_seq <| reg_s <| st rfl <| mvd rfl rfl <| st rfl <| mvd rfl rfl <| stw rfl <| lens rfl fun l236 => st rfl <| b_lss (k := .i64) rfl rfl <| seqN [(0, .d ((cLs (cXTable cI (cLs cI rfl) (cLs cI rfl) cI) rfl).enc v0)), (1, .d ((cLs (cXTable cI (cLs cI rfl) (cLs cI rfl) cI) rfl).enc v1)), (5, .d (cI.enc s142)), (14, .d (cB.enc (decide (s142 < (v0.length : Int)))))] (by kernel_rfl) <|
    xn <| cnd rfl h (fun b237 h => wpC_skip <| kpN [(0, .d ((cLs (cXTable cI (cLs cI rfl) (cLs cI rfl) cI) rfl).enc v0)), (1, .d ((cLs (cXTable cI (cLs cI rfl) (cLs cI rfl) cI) rfl).enc v1)), (5, .d (cI.enc s142))] (by kernel_rfl) <| xn <| wpC_seq <| wpC_kp <| wpC_blk <| wpC_seq <| drw_s <| pst rfl <| mvd rfl rfl ⟨rfl, pst rfl <| mvd rfl rfl ⟨rfl, getO_kp h fun x263 i264 g265 h => pst rfl <| ias rfl rfl i264 g265 rfl ⟨rfl, pst rfl <| ldi rfl rfl rfl rfl ⟨rfl, pst rfl <| mvd rfl rfl ⟨rfl, pst rfl <| mvd rfl rfl ⟨rfl, getO_kp h fun x266 i267 g268 h => pst rfl <| ias rfl rfl i267 g268 rfl ⟨rfl, pst rfl <| ldi rfl rfl rfl rfl ⟨rfl, bndp h fun x269 e270 h => pst rfl <| o_call (a1 (c := (cXTable cI (cLs cI rfl) (cLs cI rfl) cI)) (tXTable tK (tLs tK) (tLs tK) tK) rfl (a1 (c := (cXTable cI (cLs cI rfl) (cLs cI rfl) cI)) (tXTable tK (tLs tK) (tLs tK) tK) rfl a0)) (con_laws_eqTable e270) (.inl (so1 sB so0)) ⟨rfl, pst rfl <| o_nt rfl ⟨rfl, preN <| seqN [(0, .d ((cLs (cXTable cI (cLs cI rfl) (cLs cI rfl) cI) rfl).enc v0)), (1, .d ((cLs (cXTable cI (cLs cI rfl) (cLs cI rfl) cI) rfl).enc v1)), (5, .d (cI.enc s142)), (26, .d (cB.enc (!x269)))] (by kernel_rfl) <|
    xn <| cnd rfl h (fun b271 h => wpC_seq <| reg_s <| x_asg (sc cB false rfl) <| seqN [(4, .d (cB.enc false))] (by kernel_rfl) <|
    xn <| wpC_ret <| rb <| rt <| rt <| rt <| rb <| rt <| rt <| re <| fin h (r1 (ss rfl rfl) <| r0) rfl)
    (fun b271 h => wpC_skip <| xbb <| kpN [(0, .d ((cLs (cXTable cI (cLs cI rfl) (cLs cI rfl) cI) rfl).enc v0)), (1, .d ((cLs (cXTable cI (cLs cI rfl) (cLs cI rfl) cI) rfl).enc v1)), (5, .d (cI.enc s142))] (by kernel_rfl) <| xn <| reg_s <| st rfl <| mvd rfl rfl <| ckI_k h fun i272 h => st rfl <| b_add (k := .i64) rfl rfl i272 <| x_asg (ss rfl rfl) <| seqN [(0, .d ((cLs (cXTable cI (cLs cI rfl) (cLs cI rfl) cI) rfl).enc v0)), (1, .d ((cLs (cXTable cI (cLs cI rfl) (cLs cI rfl) cI) rfl).enc v1)), (5, .d (cI.enc (s142 + (1 : Int))))] (by kernel_rfl) <|
    xn <| hn230 (s142 + (1 : Int)) h)⟩⟩⟩⟩⟩⟩⟩⟩⟩⟩)
    (fun b237 h => wpC_exit <| xt <| xt <| xt <| xb <| kpN [] (by kernel_rfl) <| xn <| wpC_seq <| reg_s <| x_asg (sc cB true rfl) <| seqN [(4, .d (cB.enc true))] (by kernel_rfl) <|
    xn <| wpC_ret <| re <| fin h (r1 (ss rfl rfl) <| r0) rfl))

def os_laws_markTableS (r : ((List XTable) × Int)) : D := (cLo (cXTable cI (cLo cI) (cLo cI) cI)).enc r.1
def rs_laws_markTableS (r : ((List XTable) × Int)) : List D := [cI.enc r.2]
def m33 : MC := .seq (.reg [⟨some 4, .asg (.c (.int .i64 0)), none⟩] [0, 1])
  (.seq (.kp [0, 1] (.seq (.reg [⟨some 5, .asg (.c (.int .i64 0)), none⟩] [0, 1, 5])
  (.blk 0 (.loop (.seq (.kp [0, 1, 5] (.seq (.reg [⟨some 6, .mv (.t 5), none⟩,
    ⟨some 7, .mv (.t 0), none⟩,
    ⟨some 8, .len false (.t 7), none⟩,
    ⟨some 9, .bin .lss (.t 6) (.t 8), none⟩] [0, 1, 5, 9])
  (.cond (.t 9) (.skip) (.exit 0))))
  (.seq (.kp [0, 1, 5] (.blk 1 (.seq (.reg [⟨some 12, .mv (.t 0), none⟩,
    ⟨some 13, .mv (.t 5), none⟩,
    ⟨some 14, .mv (.t 1), none⟩,
    ⟨some 15, .ia 12 (.t 13) 4, none⟩,
    ⟨some 16, .fa 15 0 0, none⟩,
    ⟨none, .st 16 (.t 14) 1, none⟩] [0, 1, 5])
  (.seq (.reg [⟨some 17, .mv (.t 1), none⟩,
    ⟨some 18, .bin .add (.t 17) (.c (.int .i64 1)), none⟩,
    ⟨some 1, .asg (.t 18), none⟩] [0, 1, 5])
  (.seq (.reg [⟨some 19, .mv (.t 0), none⟩,
    ⟨some 20, .mv (.t 5), none⟩,
    ⟨some 21, .ia 19 (.t 20) 4, none⟩,
    ⟨some 22, .fa 21 1 1, none⟩,
    ⟨some 23, .ld 22 1 false, none⟩,
    ⟨some 24, .mv (.t 1), none⟩,
    ⟨some 25, .callO 38 [(.t 23), (.t 24)], none⟩,
    ⟨some 1, .asg (.t 25), none⟩] [0, 1, 5])
  (.seq (.reg [⟨some 26, .mv (.t 0), none⟩,
    ⟨some 27, .mv (.t 5), none⟩,
    ⟨some 28, .ia 26 (.t 27) 4, none⟩,
    ⟨some 29, .fa 28 2 2, none⟩,
    ⟨some 30, .ld 29 1 false, none⟩,
    ⟨some 31, .mv (.t 1), none⟩,
    ⟨some 32, .callO 38 [(.t 30), (.t 31)], none⟩,
    ⟨some 1, .asg (.t 32), none⟩] [0, 1, 5])
  (.seq (.reg [⟨some 33, .mv (.t 0), none⟩,
    ⟨some 34, .mv (.t 5), none⟩,
    ⟨some 35, .mv (.t 1), none⟩,
    ⟨some 36, .ia 33 (.t 34) 4, none⟩,
    ⟨some 37, .fa 36 3 3, none⟩,
    ⟨none, .st 37 (.t 35) 1, none⟩] [0, 1, 5])
  (.reg [⟨some 38, .mv (.t 1), none⟩,
    ⟨some 39, .bin .add (.t 38) (.c (.int .i64 1)), none⟩,
    ⟨some 1, .asg (.t 39), none⟩] [0, 1, 5]))))))))
  (.reg [⟨some 10, .mv (.t 5), none⟩,
    ⟨some 11, .bin .add (.t 10) (.c (.int .i64 1)), none⟩,
    ⟨some 5, .asg (.t 11), none⟩] [0, 1, 5])))))))
  (.seq (.reg [⟨some 40, .mv (.t 1), none⟩,
    ⟨some 4, .asg (.t 40), none⟩] [0, 4])
  (.ret)))
theorem con_laws_markTableS {v0 : (List XTable)} {v1 : Int} {r : ((List XTable) × Int)} (h : sh_laws_markTableS v0 v1 = some r) : Con Try.prog 33 [(cLo (cXTable cI (cLo cI) (cLo cI) cI)).enc v0, cI.enc v1] (outsOf (some (os_laws_markTableS r))) (rs_laws_markTableS r) := by
  delta sh_laws_markTableS at h
  refine top (out := some (os_laws_markTableS r)) (f := Try.f33) (m := m33) (rs := [.t 4]) (by kernel_rfl) rfl (by kernel_rfl) (by kernel_rfl) (by kernel_rfl) (by kernel_rfl) (by kernel_rfl) ?_
  exact
   ini [(0, .d ((cLo (cXTable cI (cLo cI) (cLo cI) cI)).enc v0)), (1, .d (cI.enc v1))] rfl <| wpC_seq <| reg_s <| x_asg (sc cI (0 : Int) rfl) <| seqN [(0, .d ((cLo (cXTable cI (cLo cI) (cLo cI) cI)).enc v0)), (1, .d (cI.enc v1))] (by kernel_rfl) <|
    xn <| wpC_seq <| wpC_kp <| wpC_seq <| reg_s <| x_asg (sc cI (0 : Int) rfl) <| seqN [(0, .d ((cLo (cXTable cI (cLo cI) (cLo cI) cI)).enc v0)), (1, .d (cI.enc v1)), (5, .d (cI.enc (0 : Int)))] (by kernel_rfl) <|
    xn <| wpC_blk <| lpF (fun (s240 : ((List XTable) × Int × Int)) => [(0, .d ((cLo (cXTable cI (cLo cI) (cLo cI) cI)).enc s240.1)), (1, .d (cI.enc s240.2.1)), (5, .d (cI.enc s240.2.2))]) (v0, v1, (0 : Int)) rfl h
    fun G401 nx399 s240 hn400 h => wpC_seq <| wpC_kp <| wpC_seq <| reg_s <| st rfl <| mvd rfl rfl <| st rfl <| mvo rfl rfl <| stw rfl <| leno rfl fun l406 => st rfl <| b_lss (k := .i64) rfl rfl <| seqN [(0, .d ((cLo (cXTable cI (cLo cI) (cLo cI) cI)).enc s240.1)), (1, .d (cI.enc s240.2.1)), (5, .d (cI.enc s240.2.2)), (9, .d (cB.enc (decide (s240.2.2 < (s240.1.length : Int)))))] (by kernel_rfl) <|
    xn <| cnd rfl h (fun b407 h => wpC_skip <| kpN [(0, .d ((cLo (cXTable cI (cLo cI) (cLo cI) cI)).enc s240.1)), (1, .d (cI.enc s240.2.1)), (5, .d (cI.enc s240.2.2))] (by kernel_rfl) <| xn <| wpC_seq <| wpC_kp <| wpC_blk <| wpC_seq <| reg_s <| st rfl <| mvo rfl rfl <| st rfl <| mvd rfl rfl <| st rfl <| mvd rfl rfl <| getO_k h fun x446 i447 g448 h => st rfl <| iar rfl rfl rfl rfl i447 g448 rfl <| st rfl <| faa rfl rfl (Gt.idx g448 Gt.nil) rfl rfl rfl <| x_sta ((cLo (cXTable cI (cLo cI) (cLo cI) cI)).enc (s240.1.set (s240.2.2).toNat (⟨s240.2.1, x446.Vars, x446.Where, x446.Sum⟩ : XTable))) (ss rfl rfl) rfl rfl (Ln.idx g448 (Ln.fld rfl rfl Ln.nil rfl)) (Cd.h_sz cI _) rfl <| seqN [(0, .d ((cLo (cXTable cI (cLo cI) (cLo cI) cI)).enc (s240.1.set (s240.2.2).toNat (⟨s240.2.1, x446.Vars, x446.Where, x446.Sum⟩ : XTable)))), (1, .d (cI.enc s240.2.1)), (5, .d (cI.enc s240.2.2))] (by kernel_rfl) <|
    xn <| wpC_seq <| reg_s <| st rfl <| mvd rfl rfl <| ckI_k h fun i450 h => st rfl <| b_add (k := .i64) rfl rfl i450 <| x_asg (ss rfl rfl) <| seqN [(0, .d ((cLo (cXTable cI (cLo cI) (cLo cI) cI)).enc (s240.1.set (s240.2.2).toNat (⟨s240.2.1, x446.Vars, x446.Where, x446.Sum⟩ : XTable)))), (1, .d (cI.enc (s240.2.1 + (1 : Int)))), (5, .d (cI.enc s240.2.2))] (by kernel_rfl) <|
    xn <| wpC_seq <| reg_s <| st rfl <| mvo rfl rfl <| st rfl <| mvd rfl rfl <| getO_k h fun x456 i457 g458 h => st rfl <| iar rfl rfl rfl rfl i457 g458 rfl <| st rfl <| faa rfl rfl (Gt.idx g458 Gt.nil) rfl rfl rfl <| st rfl <| ldao rfl rfl (Gt.idx g458 (Gt.fld rfl rfl Gt.nil)) rfl rfl rfl <| st rfl <| mvd rfl rfl <| bnd h fun x459 e460 h => x_clr (c := (cLo cI)) (c' := (cLo cI)) ((cLo (cXTable cI (cLo cI) (cLo cI) cI)).enc ((s240.1.set (s240.2.2).toNat (⟨s240.2.1, x446.Vars, x446.Where, x446.Sum⟩ : XTable)).set (s240.2.2).toNat (⟨x456.Level, x459.1, x456.Where, x456.Sum⟩ : XTable))) (sLo sK) rfl (a1 (c := cI) tK rfl a0) rfl (Ln.idx g458 (Ln.fld rfl rfl Ln.nil rfl)) (con_laws_markIntS e460) rfl rfl (so1 sK so0) <| x_asg (ss rfl rfl) <| seqN [(0, .d ((cLo (cXTable cI (cLo cI) (cLo cI) cI)).enc ((s240.1.set (s240.2.2).toNat (⟨s240.2.1, x446.Vars, x446.Where, x446.Sum⟩ : XTable)).set (s240.2.2).toNat (⟨x456.Level, x459.1, x456.Where, x456.Sum⟩ : XTable)))), (1, .d (cI.enc x459.2)), (5, .d (cI.enc s240.2.2))] (by kernel_rfl) <|
    xn <| wpC_seq <| reg_s <| st rfl <| mvo rfl rfl <| st rfl <| mvd rfl rfl <| getO_k h fun x466 i467 g468 h => st rfl <| iar rfl rfl rfl rfl i467 g468 rfl <| st rfl <| faa rfl rfl (Gt.idx g468 Gt.nil) rfl rfl rfl <| st rfl <| ldao rfl rfl (Gt.idx g468 (Gt.fld rfl rfl Gt.nil)) rfl rfl rfl <| st rfl <| mvd rfl rfl <| bnd h fun x469 e470 h => x_clr (c := (cLo cI)) (c' := (cLo cI)) ((cLo (cXTable cI (cLo cI) (cLo cI) cI)).enc (((s240.1.set (s240.2.2).toNat (⟨s240.2.1, x446.Vars, x446.Where, x446.Sum⟩ : XTable)).set (s240.2.2).toNat (⟨x456.Level, x459.1, x456.Where, x456.Sum⟩ : XTable)).set (s240.2.2).toNat (⟨x466.Level, x466.Vars, x469.1, x466.Sum⟩ : XTable))) (sLo sK) rfl (a1 (c := cI) tK rfl a0) rfl (Ln.idx g468 (Ln.fld rfl rfl Ln.nil rfl)) (con_laws_markIntS e470) rfl rfl (so1 sK so0) <| x_asg (ss rfl rfl) <| seqN [(0, .d ((cLo (cXTable cI (cLo cI) (cLo cI) cI)).enc (((s240.1.set (s240.2.2).toNat (⟨s240.2.1, x446.Vars, x446.Where, x446.Sum⟩ : XTable)).set (s240.2.2).toNat (⟨x456.Level, x459.1, x456.Where, x456.Sum⟩ : XTable)).set (s240.2.2).toNat (⟨x466.Level, x466.Vars, x469.1, x466.Sum⟩ : XTable)))), (1, .d (cI.enc x469.2)), (5, .d (cI.enc s240.2.2))] (by kernel_rfl) <|
    xn <| wpC_seq <| reg_s <| st rfl <| mvo rfl rfl <| st rfl <| mvd rfl rfl <| st rfl <| mvd rfl rfl <| getO_k h fun x474 i475 g476 h => st rfl <| iar rfl rfl rfl rfl i475 g476 rfl <| st rfl <| faa rfl rfl (Gt.idx g476 Gt.nil) rfl rfl rfl <| x_sta ((cLo (cXTable cI (cLo cI) (cLo cI) cI)).enc ((((s240.1.set (s240.2.2).toNat (⟨s240.2.1, x446.Vars, x446.Where, x446.Sum⟩ : XTable)).set (s240.2.2).toNat (⟨x456.Level, x459.1, x456.Where, x456.Sum⟩ : XTable)).set (s240.2.2).toNat (⟨x466.Level, x466.Vars, x469.1, x466.Sum⟩ : XTable)).set (s240.2.2).toNat (⟨x474.Level, x474.Vars, x474.Where, x469.2⟩ : XTable))) (ss rfl rfl) rfl rfl (Ln.idx g476 (Ln.fld rfl rfl Ln.nil rfl)) (Cd.h_sz cI _) rfl <| seqN [(0, .d ((cLo (cXTable cI (cLo cI) (cLo cI) cI)).enc ((((s240.1.set (s240.2.2).toNat (⟨s240.2.1, x446.Vars, x446.Where, x446.Sum⟩ : XTable)).set (s240.2.2).toNat (⟨x456.Level, x459.1, x456.Where, x456.Sum⟩ : XTable)).set (s240.2.2).toNat (⟨x466.Level, x466.Vars, x469.1, x466.Sum⟩ : XTable)).set (s240.2.2).toNat (⟨x474.Level, x474.Vars, x474.Where, x469.2⟩ : XTable)))), (1, .d (cI.enc x469.2)), (5, .d (cI.enc s240.2.2))] (by kernel_rfl) <|
    xn <| reg_s <| st rfl <| mvd rfl rfl <| ckI_k h fun i477 h => st rfl <| b_add (k := .i64) rfl rfl i477 <| x_asg (ss rfl rfl) <| seqN [(0, .d ((cLo (cXTable cI (cLo cI) (cLo cI) cI)).enc ((((s240.1.set (s240.2.2).toNat (⟨s240.2.1, x446.Vars, x446.Where, x446.Sum⟩ : XTable)).set (s240.2.2).toNat (⟨x456.Level, x459.1, x456.Where, x456.Sum⟩ : XTable)).set (s240.2.2).toNat (⟨x466.Level, x466.Vars, x469.1, x466.Sum⟩ : XTable)).set (s240.2.2).toNat (⟨x474.Level, x474.Vars, x474.Where, x469.2⟩ : XTable)))), (1, .d (cI.enc (x469.2 + (1 : Int)))), (5, .d (cI.enc s240.2.2))] (by kernel_rfl) <|
    xbb <| kpN [(0, .d ((cLo (cXTable cI (cLo cI) (cLo cI) cI)).enc ((((s240.1.set (s240.2.2).toNat (⟨s240.2.1, x446.Vars, x446.Where, x446.Sum⟩ : XTable)).set (s240.2.2).toNat (⟨x456.Level, x459.1, x456.Where, x456.Sum⟩ : XTable)).set (s240.2.2).toNat (⟨x466.Level, x466.Vars, x469.1, x466.Sum⟩ : XTable)).set (s240.2.2).toNat (⟨x474.Level, x474.Vars, x474.Where, x469.2⟩ : XTable)))), (1, .d (cI.enc (x469.2 + (1 : Int)))), (5, .d (cI.enc s240.2.2))] (by kernel_rfl) <| xn <| reg_s <| st rfl <| mvd rfl rfl <| ckI_k h fun i478 h => st rfl <| b_add (k := .i64) rfl rfl i478 <| x_asg (ss rfl rfl) <| seqN [(0, .d ((cLo (cXTable cI (cLo cI) (cLo cI) cI)).enc ((((s240.1.set (s240.2.2).toNat (⟨s240.2.1, x446.Vars, x446.Where, x446.Sum⟩ : XTable)).set (s240.2.2).toNat (⟨x456.Level, x459.1, x456.Where, x456.Sum⟩ : XTable)).set (s240.2.2).toNat (⟨x466.Level, x466.Vars, x469.1, x466.Sum⟩ : XTable)).set (s240.2.2).toNat (⟨x474.Level, x474.Vars, x474.Where, x469.2⟩ : XTable)))), (1, .d (cI.enc (x469.2 + (1 : Int)))), (5, .d (cI.enc (s240.2.2 + (1 : Int))))] (by kernel_rfl) <|
    xn <| hn400 (((((s240.1.set (s240.2.2).toNat (⟨s240.2.1, x446.Vars, x446.Where, x446.Sum⟩ : XTable)).set (s240.2.2).toNat (⟨x456.Level, x459.1, x456.Where, x456.Sum⟩ : XTable)).set (s240.2.2).toNat (⟨x466.Level, x466.Vars, x469.1, x466.Sum⟩ : XTable)).set (s240.2.2).toNat (⟨x474.Level, x474.Vars, x474.Where, x469.2⟩ : XTable)), (x469.2 + (1 : Int)), (s240.2.2 + (1 : Int))) h)
    (fun b407 h => wpC_exit <| xt <| xt <| xt <| xb <| kpN [(0, .d ((cLo (cXTable cI (cLo cI) (cLo cI) cI)).enc s240.1)), (1, .d (cI.enc s240.2.1))] (by kernel_rfl) <| xn <| wpC_seq <| reg_s <| st rfl <| mvd rfl rfl <| x_asg (ss rfl rfl) <| seqN [(0, .d ((cLo (cXTable cI (cLo cI) (cLo cI) cI)).enc s240.1)), (4, .d (cI.enc s240.2.1))] (by kernel_rfl) <|
    xn <| wpC_ret <| re <| finO h (r1 (ss rfl rfl) <| r0) rfl rfl)

def rs_laws_FnExactBaseTables (r : Bool) : List D := [cB.enc r]
def m6 : MC := .seq (.reg [⟨some 3, .box (.t 0), none⟩,
    ⟨some 6, .asg (.c (.bool false)), none⟩] [1, 2, 3])
  (.seq (.reg [⟨some 7, .asg (.c (.int .i64 1048576)), none⟩] [1, 2, 3, 7])
  (.seq (.reg [⟨some 20, .ld 3 1 true, none⟩,
    ⟨some 21, .mv (.t 7), none⟩,
    ⟨some 22, .call 10 [(.t 20), (.t 21)], none⟩,
    ⟨some 7, .asg (.t 22), none⟩] [1, 2, 3, 7])
  (.seq (.kp [1, 2, 3, 7] (.seq (.reg [⟨some 23, .mv (.t 7), none⟩,
    ⟨some 24, .bin .lss (.t 23) (.c (.int .i64 0)), none⟩] [1, 2, 3, 7, 24])
  (.cond (.t 24) (.seq (.reg [⟨some 6, .asg (.c (.bool true)), none⟩] [6])
  (.ret)) (.skip))))
  (.seq (.reg [⟨some 25, .mv (.t 1), none⟩,
    ⟨some 26, .mv (.t 7), none⟩,
    ⟨some 27, .call 11 [(.t 25), (.t 26)], none⟩,
    ⟨some 7, .asg (.t 27), none⟩] [1, 2, 3, 7])
  (.seq (.kp [1, 2, 3, 7] (.seq (.reg [⟨some 28, .mv (.t 7), none⟩,
    ⟨some 29, .bin .lss (.t 28) (.c (.int .i64 0)), none⟩] [1, 2, 3, 7, 29])
  (.cond (.t 29) (.seq (.reg [⟨some 6, .asg (.c (.bool true)), none⟩] [6])
  (.ret)) (.skip))))
  (.seq (.reg [⟨some 30, .mv (.t 2), none⟩,
    ⟨some 31, .mv (.t 7), none⟩,
    ⟨some 32, .call 12 [(.t 30), (.t 31)], none⟩,
    ⟨some 7, .asg (.t 32), none⟩] [1, 2, 3, 7])
  (.seq (.kp [1, 2, 3] (.seq (.reg [⟨some 33, .mv (.t 7), none⟩,
    ⟨some 34, .bin .lss (.t 33) (.c (.int .i64 0)), none⟩] [1, 2, 3, 34])
  (.cond (.t 34) (.seq (.reg [⟨some 6, .asg (.c (.bool true)), none⟩] [6])
  (.ret)) (.skip))))
  (.seq (.reg [⟨some 36, .ld 3 1 true, none⟩,
    ⟨some 37, .call 14 [(.t 36)], none⟩,
    ⟨some 38, .mv (.t 1), none⟩,
    ⟨some 39, .call 15 [(.t 38)], none⟩,
    ⟨some 40, .mv (.t 2), none⟩,
    ⟨some 41, .call 16 [(.t 40)], none⟩,
    ⟨some 42, .call 35 [(.t 37), (.t 39), (.t 41)], none⟩,
    ⟨some 35, .mvt 42, none⟩,
    ⟨some 43, .ext 35 0, none⟩,
    ⟨some 44, .ext 35 1, none⟩,
    ⟨some 8, .asg (.t 43), none⟩,
    ⟨some 9, .asg (.t 44), none⟩] [1, 2, 3, 8, 9])
  (.seq (.reg [⟨some 45, .ld 3 1 true, none⟩,
    ⟨some 46, .call 14 [(.t 45)], none⟩,
    ⟨some 10, .alloc (.agg [.slice true []]), none⟩,
    ⟨none, .st 10 (.t 46) 1, none⟩] [1, 2, 3, 8, 9, 10])
  (.seq (.reg [⟨some 47, .mv (.t 1), none⟩,
    ⟨some 48, .call 15 [(.t 47)], none⟩,
    ⟨some 11, .asg (.t 48), none⟩] [1, 2, 3, 8, 9, 10, 11])
  (.seq (.reg [⟨some 49, .mv (.t 2), none⟩,
    ⟨some 50, .call 16 [(.t 49)], none⟩,
    ⟨some 12, .asg (.t 50), none⟩] [1, 2, 3, 8, 9, 10, 11, 12])
  (.seq (.reg [⟨some 52, .ld 10 1 true, none⟩,
    ⟨some 53, .mv (.t 11), none⟩,
    ⟨some 54, .mv (.t 12), none⟩,
    ⟨some 55, .call 36 [(.t 52), (.t 53), (.t 54)], none⟩,
    ⟨some 51, .mvt 55, none⟩,
    ⟨some 56, .ext 51 0, none⟩,
    ⟨some 57, .ext 51 1, none⟩,
    ⟨some 13, .asg (.t 56), none⟩,
    ⟨some 14, .asg (.t 57), none⟩] [1, 2, 3, 8, 9, 10, 11, 12, 13, 14])
  (.seq (.kp [1, 2, 3, 8, 9, 10, 11, 12, 13, 14] (.seq (.reg [⟨some 58, .mv (.t 13), none⟩,
    ⟨some 59, .mv (.t 8), none⟩,
    ⟨some 60, .call 37 [(.t 58), (.t 59)], none⟩,
    ⟨some 61, .nt (.t 60), none⟩,
    ⟨some 62, .mv (.t 61), none⟩,
    ⟨some 63, .mv (.t 14), some (62, false)⟩,
    ⟨some 64, .mv (.t 9), some (62, false)⟩,
    ⟨some 65, .eqb true (.t 63) (.t 64), some (62, false)⟩,
    ⟨some 66, .pick (.t 62) (.c (.bool true)) (.t 65), none⟩] [1, 2, 3, 8, 9, 10, 11, 12, 13, 14, 66])
  (.cond (.t 66) (.seq (.reg [⟨some 6, .asg (.c (.bool false)), none⟩] [6])
  (.ret)) (.skip))))
  (.seq (.kp [1, 2, 3, 8, 9, 10, 11, 12, 13, 14] (.seq (.drw [⟨0, ⟨some 67, .ld 10 1 true, none⟩, [68, 69, 70, 71]⟩,
    ⟨1, ⟨some 68, .ld 3 1 true, none⟩, [67, 69, 70, 71]⟩,
    ⟨2, ⟨some 69, .call 14 [(.t 68)], none⟩, [67, 70, 71]⟩,
    ⟨3, ⟨some 70, .call 18 [(.t 67), (.t 69)], none⟩, [71]⟩,
    ⟨4, ⟨some 71, .nt (.t 70), none⟩, []⟩]
    [] [1, 2, 3, 8, 9, 10, 11, 12, 13, 14, 71])
  (.cond (.t 71) (.seq (.reg [⟨some 6, .asg (.c (.bool false)), none⟩] [6])
  (.ret)) (.skip))))
  (.seq (.kp [1, 2, 3, 8, 9, 10, 11, 12, 13, 14] (.seq (.reg [⟨some 72, .mv (.t 11), none⟩,
    ⟨some 73, .mv (.t 1), none⟩,
    ⟨some 74, .call 15 [(.t 73)], none⟩,
    ⟨some 75, .call 19 [(.t 72), (.t 74)], none⟩,
    ⟨some 76, .nt (.t 75), none⟩] [1, 2, 3, 8, 9, 10, 11, 12, 13, 14, 76])
  (.cond (.t 76) (.seq (.reg [⟨some 6, .asg (.c (.bool false)), none⟩] [6])
  (.ret)) (.skip))))
  (.seq (.kp [1, 2, 3, 8, 9, 10, 11, 12, 13, 14] (.seq (.reg [⟨some 77, .mv (.t 12), none⟩,
    ⟨some 78, .mv (.t 2), none⟩,
    ⟨some 79, .call 16 [(.t 78)], none⟩,
    ⟨some 80, .call 20 [(.t 77), (.t 79)], none⟩,
    ⟨some 81, .nt (.t 80), none⟩] [1, 2, 3, 8, 9, 10, 11, 12, 13, 14, 81])
  (.cond (.t 81) (.seq (.reg [⟨some 6, .asg (.c (.bool false)), none⟩] [6])
  (.ret)) (.skip))))
  (.seq (.reg [⟨some 15, .asg (.c (.int .i64 1)), none⟩] [1, 2, 3, 8, 9, 10, 11, 12, 13, 14, 15])
  (.seq (.reg [⟨some 82, .ld 10 1 true, none⟩,
    ⟨some 83, .mv (.t 15), none⟩,
    ⟨some 84, .callO 31 [(.t 82), (.t 83)], none⟩,
    ⟨some 15, .asg (.t 84), none⟩] [1, 2, 3, 8, 9, 11, 12, 13, 14, 15])
  (.seq (.reg [⟨some 85, .mv (.t 11), none⟩,
    ⟨some 86, .mv (.t 15), none⟩,
    ⟨some 87, .callO 32 [(.t 85), (.t 86)], none⟩,
    ⟨some 15, .asg (.t 87), none⟩] [1, 2, 3, 8, 9, 12, 13, 14, 15])
  (.seq (.reg [⟨some 88, .mv (.t 12), none⟩,
    ⟨some 89, .mv (.t 15), none⟩,
    ⟨some 90, .callO 33 [(.t 88), (.t 89)], none⟩,
    ⟨some 15, .asg (.t 90), none⟩] [1, 2, 3, 8, 9, 13, 14, 15])
  (.seq (.kp [1, 2, 3, 8, 9, 13] (.seq (.reg [⟨some 91, .mv (.t 15), none⟩,
    ⟨some 92, .bin .lss (.t 91) (.c (.int .i64 0)), none⟩,
    ⟨some 93, .mv (.t 92), none⟩,
    ⟨some 94, .mv (.t 13), some (93, false)⟩,
    ⟨some 95, .mv (.t 8), some (93, false)⟩,
    ⟨some 96, .call 37 [(.t 94), (.t 95)], some (93, false)⟩,
    ⟨some 97, .nt (.t 96), some (93, false)⟩,
    ⟨some 98, .pick (.t 93) (.c (.bool true)) (.t 97), none⟩,
    ⟨some 99, .mv (.t 98), none⟩,
    ⟨some 100, .mv (.t 14), some (99, false)⟩,
    ⟨some 101, .mv (.t 9), some (99, false)⟩,
    ⟨some 102, .eqb true (.t 100) (.t 101), some (99, false)⟩,
    ⟨some 103, .pick (.t 99) (.c (.bool true)) (.t 102), none⟩] [1, 2, 3, 8, 9, 13, 103])
  (.cond (.t 103) (.seq (.reg [⟨some 6, .asg (.c (.bool false)), none⟩] [6])
  (.ret)) (.skip))))
  (.seq (.reg [⟨some 16, .asg (.c (.int .i64 1)), none⟩] [1, 2, 3, 8, 9, 13, 16])
  (.seq (.reg [⟨some 104, .mv (.t 13), none⟩,
    ⟨some 105, .mv (.t 16), none⟩,
    ⟨some 106, .callO 38 [(.t 104), (.t 105)], none⟩,
    ⟨some 16, .asg (.t 106), none⟩] [1, 2, 3, 8, 9, 13, 16])
  (.seq (.reg [⟨some 17, .asg (.c (.int .i64 1)), none⟩] [1, 2, 3, 8, 9, 13, 16, 17])
  (.seq (.reg [⟨some 107, .mv (.t 13), none⟩,
    ⟨some 108, .mv (.t 17), none⟩,
    ⟨some 109, .call 39 [(.t 107), (.t 108)], none⟩,
    ⟨some 17, .asg (.t 109), none⟩] [1, 2, 3, 8, 9, 13, 16, 17])
  (.seq (.kp [1, 2, 3, 8, 9, 13, 16, 17] (.seq (.reg [⟨some 110, .mv (.t 17), none⟩,
    ⟨some 111, .bin .lss (.t 110) (.c (.int .i64 0)), none⟩] [1, 2, 3, 8, 9, 13, 16, 17, 111])
  (.cond (.t 111) (.seq (.reg [⟨some 6, .asg (.c (.bool false)), none⟩] [6])
  (.ret)) (.skip))))
  (.seq (.kp [1, 2, 3, 8, 9, 13, 16] (.seq (.reg [⟨some 112, .mv (.t 17), none⟩,
    ⟨some 113, .mv (.t 16), none⟩,
    ⟨some 114, .bin .neq (.t 112) (.t 113), none⟩] [1, 2, 3, 8, 9, 13, 16, 114])
  (.cond (.t 114) (.seq (.reg [⟨some 6, .asg (.c (.bool false)), none⟩] [6])
  (.ret)) (.skip))))
  (.seq (.reg [⟨some 116, .ld 3 1 true, none⟩,
    ⟨some 117, .call 14 [(.t 116)], none⟩,
    ⟨some 118, .mv (.t 1), none⟩,
    ⟨some 119, .call 15 [(.t 118)], none⟩,
    ⟨some 120, .mv (.t 2), none⟩,
    ⟨some 121, .call 16 [(.t 120)], none⟩,
    ⟨some 122, .call 36 [(.t 117), (.t 119), (.t 121)], none⟩,
    ⟨some 115, .mvt 122, none⟩,
    ⟨some 123, .ext 115 0, none⟩,
    ⟨some 124, .ext 115 1, none⟩,
    ⟨some 18, .asg (.t 123), none⟩,
    ⟨some 19, .asg (.t 124), none⟩] [8, 9, 13, 16, 18, 19])
  (.seq (.kp [13, 16] (.seq (.reg [⟨some 125, .mv (.t 18), none⟩,
    ⟨some 126, .mv (.t 8), none⟩,
    ⟨some 127, .call 37 [(.t 125), (.t 126)], none⟩,
    ⟨some 128, .nt (.t 127), none⟩,
    ⟨some 129, .mv (.t 128), none⟩,
    ⟨some 130, .mv (.t 19), some (129, false)⟩,
    ⟨some 131, .mv (.t 9), some (129, false)⟩,
    ⟨some 132, .eqb true (.t 130) (.t 131), some (129, false)⟩,
    ⟨some 133, .pick (.t 129) (.c (.bool true)) (.t 132), none⟩] [13, 16, 133])
  (.cond (.t 133) (.seq (.reg [⟨some 6, .asg (.c (.bool false)), none⟩] [6])
  (.ret)) (.skip))))
  (.seq (.reg [⟨some 17, .asg (.c (.int .i64 1)), none⟩] [13, 16, 17])
  (.seq (.reg [⟨some 134, .mv (.t 13), none⟩,
    ⟨some 135, .mv (.t 17), none⟩,
    ⟨some 136, .call 39 [(.t 134), (.t 135)], none⟩,
    ⟨some 17, .asg (.t 136), none⟩] [16, 17])
  (.seq (.kp [16, 17] (.seq (.reg [⟨some 137, .mv (.t 17), none⟩,
    ⟨some 138, .bin .lss (.t 137) (.c (.int .i64 0)), none⟩] [16, 17, 138])
  (.cond (.t 138) (.seq (.reg [⟨some 6, .asg (.c (.bool false)), none⟩] [6])
  (.ret)) (.skip))))
  (.seq (.kp [] (.seq (.reg [⟨some 139, .mv (.t 17), none⟩,
    ⟨some 140, .mv (.t 16), none⟩,
    ⟨some 141, .bin .neq (.t 139) (.t 140), none⟩] [141])
  (.cond (.t 141) (.seq (.reg [⟨some 6, .asg (.c (.bool false)), none⟩] [6])
  (.ret)) (.skip))))
  (.seq (.reg [⟨some 6, .asg (.c (.bool true)), none⟩] [6])
  (.ret)))))))))))))))))))))))))))))))))))
theorem con_laws_FnExactBaseTables {v0 : XGeo} {v1 : (List XVariable)} {v2 : (List XTable)} {r : Bool} (h : sh_laws_FnExactBaseTables v0 v1 v2 = some r) : Con Try.prog 6 [(cXGeo (cLs cI rfl)).enc v0, (cLs (cXVariable cS cI) rfl).enc v1, (cLs (cXTable cI (cLs cI rfl) (cLs cI rfl) cI) rfl).enc v2] [] (rs_laws_FnExactBaseTables r) := by
  delta sh_laws_FnExactBaseTables at h
  refine top (out := none) (f := Try.f6) (m := m6) (rs := [.t 6]) (by kernel_rfl) rfl (by kernel_rfl) (by kernel_rfl) (by kernel_rfl) (by kernel_rfl) (by kernel_rfl) ?_
  exact
   ini [(0, .d ((cXGeo (cLs cI rfl)).enc v0)), (1, .d ((cLs (cXVariable cS cI) rfl).enc v1)), (2, .d ((cLs (cXTable cI (cLs cI rfl) (cLs cI rfl) cI) rfl).enc v2))] rfl <| wpC_seq <| reg_s <| x_box (ss rfl rfl) <| x_asg (sc cB false rfl) <| seqN [(1, .d ((cLs (cXVariable cS cI) rfl).enc v1)), (2, .d ((cLs (cXTable cI (cLs cI rfl) (cLs cI rfl) cI) rfl).enc v2)), (3, .box ((cXGeo (cLs cI rfl)).enc v0))] (by kernel_rfl) <|
    xn <| wpC_seq <| reg_s <| x_asg (sc cI (1048576 : Int) rfl) <| seqN [(1, .d ((cLs (cXVariable cS cI) rfl).enc v1)), (2, .d ((cLs (cXTable cI (cLs cI rfl) (cLs cI rfl) cI) rfl).enc v2)), (3, .box ((cXGeo (cLs cI rfl)).enc v0)), (7, .d (cI.enc (1048576 : Int)))] (by kernel_rfl) <|
    xn <| wpC_seq <| reg_s <| st rfl <| ldb rfl rfl rfl rfl <| st rfl <| mvd rfl rfl <| bnd h fun x3 e4 h => st rfl <| o_call (a1 (c := (cXGeo (cLs cI rfl))) (tXGeo (tLs tK)) rfl (a1 (c := cI) tK rfl a0)) (con_laws_szGeo e4) (.inl (so1 sK so0)) <| x_asg (ss rfl rfl) <| seqN [(1, .d ((cLs (cXVariable cS cI) rfl).enc v1)), (2, .d ((cLs (cXTable cI (cLs cI rfl) (cLs cI rfl) cI) rfl).enc v2)), (3, .box ((cXGeo (cLs cI rfl)).enc v0)), (7, .d (cI.enc x3))] (by kernel_rfl) <|
    xn <| wpC_seq <| wpC_kp <| wpC_seq <| reg_s <| st rfl <| mvd rfl rfl <| st rfl <| b_lss (k := .i64) rfl rfl <| seqN [(1, .d ((cLs (cXVariable cS cI) rfl).enc v1)), (2, .d ((cLs (cXTable cI (cLs cI rfl) (cLs cI rfl) cI) rfl).enc v2)), (3, .box ((cXGeo (cLs cI rfl)).enc v0)), (7, .d (cI.enc x3)), (24, .d (cB.enc (decide (x3 < (0 : Int)))))] (by kernel_rfl) <|
    xn <| cnd rfl h (fun b6 h => wpC_seq <| reg_s <| x_asg (sc cB true rfl) <| seqN [(6, .d (cB.enc true))] (by kernel_rfl) <|
    xn <| wpC_ret <| rt <| rt <| re <| fin h (r1 (ss rfl rfl) <| r0) rfl)
    (fun b6 h => wpC_skip <| kpN [(1, .d ((cLs (cXVariable cS cI) rfl).enc v1)), (2, .d ((cLs (cXTable cI (cLs cI rfl) (cLs cI rfl) cI) rfl).enc v2)), (3, .box ((cXGeo (cLs cI rfl)).enc v0)), (7, .d (cI.enc x3))] (by kernel_rfl) <| xn <| wpC_seq <| reg_s <| st rfl <| mvd rfl rfl <| st rfl <| mvd rfl rfl <| bnd h fun x9 e10 h => st rfl <| o_call (a1 (c := (cLs (cXVariable cS cI) rfl)) (tLs (tXVariable tS tK)) rfl (a1 (c := cI) tK rfl a0)) (con_laws_szVariableS e10) (.inl (so1 sK so0)) <| x_asg (ss rfl rfl) <| seqN [(1, .d ((cLs (cXVariable cS cI) rfl).enc v1)), (2, .d ((cLs (cXTable cI (cLs cI rfl) (cLs cI rfl) cI) rfl).enc v2)), (3, .box ((cXGeo (cLs cI rfl)).enc v0)), (7, .d (cI.enc x9))] (by kernel_rfl) <|
    xn <| wpC_seq <| wpC_kp <| wpC_seq <| reg_s <| st rfl <| mvd rfl rfl <| st rfl <| b_lss (k := .i64) rfl rfl <| seqN [(1, .d ((cLs (cXVariable cS cI) rfl).enc v1)), (2, .d ((cLs (cXTable cI (cLs cI rfl) (cLs cI rfl) cI) rfl).enc v2)), (3, .box ((cXGeo (cLs cI rfl)).enc v0)), (7, .d (cI.enc x9)), (29, .d (cB.enc (decide (x9 < (0 : Int)))))] (by kernel_rfl) <|
    xn <| cnd rfl h (fun b12 h => wpC_seq <| reg_s <| x_asg (sc cB true rfl) <| seqN [(6, .d (cB.enc true))] (by kernel_rfl) <|
    xn <| wpC_ret <| rt <| rt <| re <| fin h (r1 (ss rfl rfl) <| r0) rfl)
    (fun b12 h => wpC_skip <| kpN [(1, .d ((cLs (cXVariable cS cI) rfl).enc v1)), (2, .d ((cLs (cXTable cI (cLs cI rfl) (cLs cI rfl) cI) rfl).enc v2)), (3, .box ((cXGeo (cLs cI rfl)).enc v0)), (7, .d (cI.enc x9))] (by kernel_rfl) <| xn <| wpC_seq <| reg_s <| st rfl <| mvd rfl rfl <| st rfl <| mvd rfl rfl <| bnd h fun x15 e16 h => st rfl <| o_call (a1 (c := (cLs (cXTable cI (cLs cI rfl) (cLs cI rfl) cI) rfl)) (tLs (tXTable tK (tLs tK) (tLs tK) tK)) rfl (a1 (c := cI) tK rfl a0)) (con_laws_szTableS e16) (.inl (so1 sK so0)) <| x_asg (ss rfl rfl) <| seqN [(1, .d ((cLs (cXVariable cS cI) rfl).enc v1)), (2, .d ((cLs (cXTable cI (cLs cI rfl) (cLs cI rfl) cI) rfl).enc v2)), (3, .box ((cXGeo (cLs cI rfl)).enc v0)), (7, .d (cI.enc x15))] (by kernel_rfl) <|
    xn <| wpC_seq <| wpC_kp <| wpC_seq <| reg_s <| st rfl <| mvd rfl rfl <| st rfl <| b_lss (k := .i64) rfl rfl <| seqN [(1, .d ((cLs (cXVariable cS cI) rfl).enc v1)), (2, .d ((cLs (cXTable cI (cLs cI rfl) (cLs cI rfl) cI) rfl).enc v2)), (3, .box ((cXGeo (cLs cI rfl)).enc v0)), (34, .d (cB.enc (decide (x15 < (0 : Int)))))] (by kernel_rfl) <|
    xn <| cnd rfl h (fun b18 h => wpC_seq <| reg_s <| x_asg (sc cB true rfl) <| seqN [(6, .d (cB.enc true))] (by kernel_rfl) <|
    xn <| wpC_ret <| rt <| rt <| re <| fin h (r1 (ss rfl rfl) <| r0) rfl)
    (fun b18 h => wpC_skip <| kpN [(1, .d ((cLs (cXVariable cS cI) rfl).enc v1)), (2, .d ((cLs (cXTable cI (cLs cI rfl) (cLs cI rfl) cI) rfl).enc v2)), (3, .box ((cXGeo (cLs cI rfl)).enc v0))] (by kernel_rfl) <| xn <| wpC_seq <| reg_s <| st rfl <| ldb rfl rfl rfl rfl <| bnd h fun x27 e28 h => st rfl <| o_call (a1 (c := (cXGeo (cLs cI rfl))) (tXGeo (tLs tK)) rfl a0) (con_laws_toGeo e28) (.inl (so1 (sXGeo (sLo sK)) so0)) <| st rfl <| mvd rfl rfl <| bnd h fun x29 e30 h => st rfl <| o_call (a1 (c := (cLs (cXVariable cS cI) rfl)) (tLs (tXVariable tS tK)) rfl a0) (con_laws_toVariableS e30) (.inl (so1 (sLo (sXVariable sS sK)) so0)) <| st rfl <| mvd rfl rfl <| bnd h fun x31 e32 h => st rfl <| o_call (a1 (c := (cLs (cXTable cI (cLs cI rfl) (cLs cI rfl) cI) rfl)) (tLs (tXTable tK (tLs tK) (tLs tK) tK)) rfl a0) (con_laws_toTableS e32) (.inl (so1 (sLo (sXTable sK (sLo sK) (sLo sK) sK)) so0)) <| bnd h fun x33 e34 h => st rfl <| o_call (a1 (c := (cXGeo (cLo cI))) (tXGeo (tLo tK)) rfl (a1 (c := (cLo (cXVariable cS cI))) (tLo (tXVariable tS tK)) rfl (a1 (c := (cLo (cXTable cI (cLo cI) (cLo cI) cI))) (tLo (tXTable tK (tLo tK) (tLo tK) tK)) rfl a0))) (con_spec_BaseTables e34) (.inl (so1 (sLo sK) (so1 sB so0))) <| x_mvt rfl <| x_ext rfl rfl <| x_ext rfl rfl <| x_asg (so rfl rfl) <| x_asg (ss rfl rfl) <| seqN [(1, .d ((cLs (cXVariable cS cI) rfl).enc v1)), (2, .d ((cLs (cXTable cI (cLs cI rfl) (cLs cI rfl) cI) rfl).enc v2)), (3, .box ((cXGeo (cLs cI rfl)).enc v0)), (8, .d ((cLo cI).enc x33.1)), (9, .d (cB.enc x33.2))] (by kernel_rfl) <|
    xn <| wpC_seq <| reg_s <| st rfl <| ldb rfl rfl rfl rfl <| bnd h fun x37 e38 h => st rfl <| o_call (a1 (c := (cXGeo (cLs cI rfl))) (tXGeo (tLs tK)) rfl a0) (con_laws_toGeo e38) (.inl (so1 (sXGeo (sLo sK)) so0)) <| x_all (cXGeo (cLo cI)) (⟨([] : List Int)⟩ : XGeo) rfl <| x_stb (so rfl rfl) rfl (Cd.h_sz _ _) rfl <| seqN [(1, .d ((cLs (cXVariable cS cI) rfl).enc v1)), (2, .d ((cLs (cXTable cI (cLs cI rfl) (cLs cI rfl) cI) rfl).enc v2)), (3, .box ((cXGeo (cLs cI rfl)).enc v0)), (8, .d ((cLo cI).enc x33.1)), (9, .d (cB.enc x33.2)), (10, .box ((cXGeo (cLo cI)).enc x37))] (by kernel_rfl) <|
    xn <| wpC_seq <| reg_s <| st rfl <| mvd rfl rfl <| bnd h fun x41 e42 h => st rfl <| o_call (a1 (c := (cLs (cXVariable cS cI) rfl)) (tLs (tXVariable tS tK)) rfl a0) (con_laws_toVariableS e42) (.inl (so1 (sLo (sXVariable sS sK)) so0)) <| x_asg (so rfl rfl) <| seqN [(1, .d ((cLs (cXVariable cS cI) rfl).enc v1)), (2, .d ((cLs (cXTable cI (cLs cI rfl) (cLs cI rfl) cI) rfl).enc v2)), (3, .box ((cXGeo (cLs cI rfl)).enc v0)), (8, .d ((cLo cI).enc x33.1)), (9, .d (cB.enc x33.2)), (10, .box ((cXGeo (cLo cI)).enc x37)), (11, .d ((cLo (cXVariable cS cI)).enc x41))] (by kernel_rfl) <|
    xn <| wpC_seq <| reg_s <| st rfl <| mvd rfl rfl <| bnd h fun x45 e46 h => st rfl <| o_call (a1 (c := (cLs (cXTable cI (cLs cI rfl) (cLs cI rfl) cI) rfl)) (tLs (tXTable tK (tLs tK) (tLs tK) tK)) rfl a0) (con_laws_toTableS e46) (.inl (so1 (sLo (sXTable sK (sLo sK) (sLo sK) sK)) so0)) <| x_asg (so rfl rfl) <| seqN [(1, .d ((cLs (cXVariable cS cI) rfl).enc v1)), (2, .d ((cLs (cXTable cI (cLs cI rfl) (cLs cI rfl) cI) rfl).enc v2)), (3, .box ((cXGeo (cLs cI rfl)).enc v0)), (8, .d ((cLo cI).enc x33.1)), (9, .d (cB.enc x33.2)), (10, .box ((cXGeo (cLo cI)).enc x37)), (11, .d ((cLo (cXVariable cS cI)).enc x41)), (12, .d ((cLo (cXTable cI (cLo cI) (cLo cI) cI)).enc x45))] (by kernel_rfl) <|
    xn <| wpC_seq <| reg_s <| st rfl <| ldbo rfl rfl rfl rfl <| st rfl <| mvo rfl rfl <| st rfl <| mvo rfl rfl <| bnd h fun x49 e50 h => st rfl <| o_call (a1 (c := (cXGeo (cLo cI))) (tXGeo (tLo tK)) rfl (a1 (c := (cLo (cXVariable cS cI))) (tLo (tXVariable tS tK)) rfl (a1 (c := (cLo (cXTable cI (cLo cI) (cLo cI) cI))) (tLo (tXTable tK (tLo tK) (tLo tK) tK)) rfl a0))) (con_impl_BaseTables e50) (.inl (so1 (sLo sK) (so1 sB so0))) <| x_mvt rfl <| x_ext rfl rfl <| x_ext rfl rfl <| x_asg (so rfl rfl) <| x_asg (ss rfl rfl) <| seqN [(1, .d ((cLs (cXVariable cS cI) rfl).enc v1)), (2, .d ((cLs (cXTable cI (cLs cI rfl) (cLs cI rfl) cI) rfl).enc v2)), (3, .box ((cXGeo (cLs cI rfl)).enc v0)), (8, .d ((cLo cI).enc x33.1)), (9, .d (cB.enc x33.2)), (10, .box ((cXGeo (cLo cI)).enc x37)), (11, .d ((cLo (cXVariable cS cI)).enc x41)), (12, .d ((cLo (cXTable cI (cLo cI) (cLo cI) cI)).enc x45)), (13, .d ((cLo cI).enc x49.1)), (14, .d (cB.enc x49.2))] (by kernel_rfl) <|
    xn <| wpC_seq <| wpC_kp <| wpC_seq <| reg_s <| st rfl <| mvo rfl rfl <| st rfl <| mvo rfl rfl <| bnd h fun x61 e62 h => st rfl <| o_call (a1 (c := (cLo cI)) (tLo tK) rfl (a1 (c := (cLo cI)) (tLo tK) rfl a0)) (con_laws_eqIntS e62) (.inl (so1 sB so0)) <| st rfl <| o_nt rfl <| st rfl <| mvd rfl rfl <| ite_k h (fun b63 h => gf rfl b63 <| gf rfl b63 <| gf rfl b63 <| st rfl <| pick1 rfl b63 (cd := cB) (v := true) rfl rfl <| seqN [(1, .d ((cLs (cXVariable cS cI) rfl).enc v1)), (2, .d ((cLs (cXTable cI (cLs cI rfl) (cLs cI rfl) cI) rfl).enc v2)), (3, .box ((cXGeo (cLs cI rfl)).enc v0)), (8, .d ((cLo cI).enc x33.1)), (9, .d (cB.enc x33.2)), (10, .box ((cXGeo (cLo cI)).enc x37)), (11, .d ((cLo (cXVariable cS cI)).enc x41)), (12, .d ((cLo (cXTable cI (cLo cI) (cLo cI) cI)).enc x45)), (13, .d ((cLo cI).enc x49.1)), (14, .d (cB.enc x49.2)), (66, .d (cB.enc true))] (by kernel_rfl) <|
    xn <| cnd1 rfl rfl <| wpC_seq <| reg_s <| x_asg (sc cB false rfl) <| seqN [(6, .d (cB.enc false))] (by kernel_rfl) <|
    xn <| wpC_ret <| rt <| rt <| re <| fin h (r1 (ss rfl rfl) <| r0) rfl)
    (fun b63 h => gt' rfl b63 <| st rfl <| mvd rfl rfl <| gt' rfl b63 <| st rfl <| mvd rfl rfl <| gt' rfl b63 <| st rfl <| eqb1 rfl rfl <| st rfl <| pick0 rfl b63 (cd := cB) (v := (x49.2 != x33.2)) rfl rfl <| seqN [(1, .d ((cLs (cXVariable cS cI) rfl).enc v1)), (2, .d ((cLs (cXTable cI (cLs cI rfl) (cLs cI rfl) cI) rfl).enc v2)), (3, .box ((cXGeo (cLs cI rfl)).enc v0)), (8, .d ((cLo cI).enc x33.1)), (9, .d (cB.enc x33.2)), (10, .box ((cXGeo (cLo cI)).enc x37)), (11, .d ((cLo (cXVariable cS cI)).enc x41)), (12, .d ((cLo (cXTable cI (cLo cI) (cLo cI) cI)).enc x45)), (13, .d ((cLo cI).enc x49.1)), (14, .d (cB.enc x49.2)), (66, .d (cB.enc (x49.2 != x33.2)))] (by kernel_rfl) <|
    xn <| cnd rfl h (fun b64 h => wpC_seq <| reg_s <| x_asg (sc cB false rfl) <| seqN [(6, .d (cB.enc false))] (by kernel_rfl) <|
    xn <| wpC_ret <| rt <| rt <| re <| fin h (r1 (ss rfl rfl) <| r0) rfl)
    (fun b64 h => wpC_skip <| kpN [(1, .d ((cLs (cXVariable cS cI) rfl).enc v1)), (2, .d ((cLs (cXTable cI (cLs cI rfl) (cLs cI rfl) cI) rfl).enc v2)), (3, .box ((cXGeo (cLs cI rfl)).enc v0)), (8, .d ((cLo cI).enc x33.1)), (9, .d (cB.enc x33.2)), (10, .box ((cXGeo (cLo cI)).enc x37)), (11, .d ((cLo (cXVariable cS cI)).enc x41)), (12, .d ((cLo (cXTable cI (cLo cI) (cLo cI) cI)).enc x45)), (13, .d ((cLo cI).enc x49.1)), (14, .d (cB.enc x49.2))] (by kernel_rfl) <| xn <| wpC_seq <| wpC_kp <| wpC_seq <| drw_s <| pst rfl <| ldbo rfl rfl rfl rfl ⟨rfl, pst rfl <| ldb rfl rfl rfl rfl ⟨rfl, bndp h fun x78 e79 h => pst rfl <| o_call (a1 (c := (cXGeo (cLs cI rfl))) (tXGeo (tLs tK)) rfl a0) (con_laws_toGeo e79) (.inl (so1 (sXGeo (sLo sK)) so0)) ⟨rfl, bndp h fun x80 e81 h => pst rfl <| o_call (a1 (c := (cXGeo (cLo cI))) (tXGeo (tLo tK)) rfl (a1 (c := (cXGeo (cLo cI))) (tXGeo (tLo tK)) rfl a0)) (con_laws_eqGeo e81) (.inl (so1 sB so0)) ⟨rfl, pst rfl <| o_nt rfl ⟨rfl, preN <| seqN [(1, .d ((cLs (cXVariable cS cI) rfl).enc v1)), (2, .d ((cLs (cXTable cI (cLs cI rfl) (cLs cI rfl) cI) rfl).enc v2)), (3, .box ((cXGeo (cLs cI rfl)).enc v0)), (8, .d ((cLo cI).enc x33.1)), (9, .d (cB.enc x33.2)), (10, .box ((cXGeo (cLo cI)).enc x37)), (11, .d ((cLo (cXVariable cS cI)).enc x41)), (12, .d ((cLo (cXTable cI (cLo cI) (cLo cI) cI)).enc x45)), (13, .d ((cLo cI).enc x49.1)), (14, .d (cB.enc x49.2)), (71, .d (cB.enc (!x80)))] (by kernel_rfl) <|
    xn <| cnd rfl h (fun b82 h => wpC_seq <| reg_s <| x_asg (sc cB false rfl) <| seqN [(6, .d (cB.enc false))] (by kernel_rfl) <|
    xn <| wpC_ret <| rt <| rt <| re <| fin h (r1 (ss rfl rfl) <| r0) rfl)
    (fun b82 h => wpC_skip <| kpN [(1, .d ((cLs (cXVariable cS cI) rfl).enc v1)), (2, .d ((cLs (cXTable cI (cLs cI rfl) (cLs cI rfl) cI) rfl).enc v2)), (3, .box ((cXGeo (cLs cI rfl)).enc v0)), (8, .d ((cLo cI).enc x33.1)), (9, .d (cB.enc x33.2)), (10, .box ((cXGeo (cLo cI)).enc x37)), (11, .d ((cLo (cXVariable cS cI)).enc x41)), (12, .d ((cLo (cXTable cI (cLo cI) (cLo cI) cI)).enc x45)), (13, .d ((cLo cI).enc x49.1)), (14, .d (cB.enc x49.2))] (by kernel_rfl) <| xn <| wpC_seq <| wpC_kp <| wpC_seq <| reg_s <| st rfl <| mvo rfl rfl <| st rfl <| mvd rfl rfl <| bnd h fun x96 e97 h => st rfl <| o_call (a1 (c := (cLs (cXVariable cS cI) rfl)) (tLs (tXVariable tS tK)) rfl a0) (con_laws_toVariableS e97) (.inl (so1 (sLo (sXVariable sS sK)) so0)) <| bnd h fun x98 e99 h => st rfl <| o_call (a1 (c := (cLo (cXVariable cS cI))) (tLo (tXVariable tS tK)) rfl (a1 (c := (cLo (cXVariable cS cI))) (tLo (tXVariable tS tK)) rfl a0)) (con_laws_eqVariableS e99) (.inl (so1 sB so0)) <| st rfl <| o_nt rfl <| seqN [(1, .d ((cLs (cXVariable cS cI) rfl).enc v1)), (2, .d ((cLs (cXTable cI (cLs cI rfl) (cLs cI rfl) cI) rfl).enc v2)), (3, .box ((cXGeo (cLs cI rfl)).enc v0)), (8, .d ((cLo cI).enc x33.1)), (9, .d (cB.enc x33.2)), (10, .box ((cXGeo (cLo cI)).enc x37)), (11, .d ((cLo (cXVariable cS cI)).enc x41)), (12, .d ((cLo (cXTable cI (cLo cI) (cLo cI) cI)).enc x45)), (13, .d ((cLo cI).enc x49.1)), (14, .d (cB.enc x49.2)), (76, .d (cB.enc (!x98)))] (by kernel_rfl) <|
    xn <| cnd rfl h (fun b100 h => wpC_seq <| reg_s <| x_asg (sc cB false rfl) <| seqN [(6, .d (cB.enc false))] (by kernel_rfl) <|
    xn <| wpC_ret <| rt <| rt <| re <| fin h (r1 (ss rfl rfl) <| r0) rfl)
    (fun b100 h => wpC_skip <| kpN [(1, .d ((cLs (cXVariable cS cI) rfl).enc v1)), (2, .d ((cLs (cXTable cI (cLs cI rfl) (cLs cI rfl) cI) rfl).enc v2)), (3, .box ((cXGeo (cLs cI rfl)).enc v0)), (8, .d ((cLo cI).enc x33.1)), (9, .d (cB.enc x33.2)), (10, .box ((cXGeo (cLo cI)).enc x37)), (11, .d ((cLo (cXVariable cS cI)).enc x41)), (12, .d ((cLo (cXTable cI (cLo cI) (cLo cI) cI)).enc x45)), (13, .d ((cLo cI).enc x49.1)), (14, .d (cB.enc x49.2))] (by kernel_rfl) <| xn <| wpC_seq <| wpC_kp <| wpC_seq <| reg_s <| st rfl <| mvo rfl rfl <| st rfl <| mvd rfl rfl <| bnd h fun x114 e115 h => st rfl <| o_call (a1 (c := (cLs (cXTable cI (cLs cI rfl) (cLs cI rfl) cI) rfl)) (tLs (tXTable tK (tLs tK) (tLs tK) tK)) rfl a0) (con_laws_toTableS e115) (.inl (so1 (sLo (sXTable sK (sLo sK) (sLo sK) sK)) so0)) <| bnd h fun x116 e117 h => st rfl <| o_call (a1 (c := (cLo (cXTable cI (cLo cI) (cLo cI) cI))) (tLo (tXTable tK (tLo tK) (tLo tK) tK)) rfl (a1 (c := (cLo (cXTable cI (cLo cI) (cLo cI) cI))) (tLo (tXTable tK (tLo tK) (tLo tK) tK)) rfl a0)) (con_laws_eqTableS e117) (.inl (so1 sB so0)) <| st rfl <| o_nt rfl <| seqN [(1, .d ((cLs (cXVariable cS cI) rfl).enc v1)), (2, .d ((cLs (cXTable cI (cLs cI rfl) (cLs cI rfl) cI) rfl).enc v2)), (3, .box ((cXGeo (cLs cI rfl)).enc v0)), (8, .d ((cLo cI).enc x33.1)), (9, .d (cB.enc x33.2)), (10, .box ((cXGeo (cLo cI)).enc x37)), (11, .d ((cLo (cXVariable cS cI)).enc x41)), (12, .d ((cLo (cXTable cI (cLo cI) (cLo cI) cI)).enc x45)), (13, .d ((cLo cI).enc x49.1)), (14, .d (cB.enc x49.2)), (81, .d (cB.enc (!x116)))] (by kernel_rfl) <|
    xn <| cnd rfl h (fun b118 h => wpC_seq <| reg_s <| x_asg (sc cB false rfl) <| seqN [(6, .d (cB.enc false))] (by kernel_rfl) <|
    xn <| wpC_ret <| rt <| rt <| re <| fin h (r1 (ss rfl rfl) <| r0) rfl)
    (fun b118 h => wpC_skip <| kpN [(1, .d ((cLs (cXVariable cS cI) rfl).enc v1)), (2, .d ((cLs (cXTable cI (cLs cI rfl) (cLs cI rfl) cI) rfl).enc v2)), (3, .box ((cXGeo (cLs cI rfl)).enc v0)), (8, .d ((cLo cI).enc x33.1)), (9, .d (cB.enc x33.2)), (10, .box ((cXGeo (cLo cI)).enc x37)), (11, .d ((cLo (cXVariable cS cI)).enc x41)), (12, .d ((cLo (cXTable cI (cLo cI) (cLo cI) cI)).enc x45)), (13, .d ((cLo cI).enc x49.1)), (14, .d (cB.enc x49.2))] (by kernel_rfl) <| xn <| wpC_seq <| reg_s <| x_asg (sc cI (1 : Int) rfl) <| seqN [(1, .d ((cLs (cXVariable cS cI) rfl).enc v1)), (2, .d ((cLs (cXTable cI (cLs cI rfl) (cLs cI rfl) cI) rfl).enc v2)), (3, .box ((cXGeo (cLs cI rfl)).enc v0)), (8, .d ((cLo cI).enc x33.1)), (9, .d (cB.enc x33.2)), (10, .box ((cXGeo (cLo cI)).enc x37)), (11, .d ((cLo (cXVariable cS cI)).enc x41)), (12, .d ((cLo (cXTable cI (cLo cI) (cLo cI) cI)).enc x45)), (13, .d ((cLo cI).enc x49.1)), (14, .d (cB.enc x49.2)), (15, .d (cI.enc (1 : Int)))] (by kernel_rfl) <|
    xn <| wpC_seq <| reg_s <| st rfl <| ldbo rfl rfl rfl rfl <| st rfl <| mvd rfl rfl <| bnd h fun x121 e122 h => x_clr (c := (cXGeo (cLo cI))) (c' := (cXGeo (cLo cI))) ((cXGeo (cLo cI)).enc x121.1) (sXGeo (sLo sK)) rfl (a1 (c := cI) tK rfl a0) rfl Ln.nil (con_laws_markGeo e122) rfl rfl (so1 sK so0) <| x_asg (ss rfl rfl) <| seqN [(1, .d ((cLs (cXVariable cS cI) rfl).enc v1)), (2, .d ((cLs (cXTable cI (cLs cI rfl) (cLs cI rfl) cI) rfl).enc v2)), (3, .box ((cXGeo (cLs cI rfl)).enc v0)), (8, .d ((cLo cI).enc x33.1)), (9, .d (cB.enc x33.2)), (11, .d ((cLo (cXVariable cS cI)).enc x41)), (12, .d ((cLo (cXTable cI (cLo cI) (cLo cI) cI)).enc x45)), (13, .d ((cLo cI).enc x49.1)), (14, .d (cB.enc x49.2)), (15, .d (cI.enc x121.2))] (by kernel_rfl) <|
    xn <| wpC_seq <| reg_s <| st rfl <| mvo rfl rfl <| st rfl <| mvd rfl rfl <| bnd h fun x125 e126 h => x_clr (c := (cLo (cXVariable cS cI))) (c' := (cLo (cXVariable cS cI))) ((cLo (cXVariable cS cI)).enc x125.1) (sLo (sXVariable sS sK)) rfl (a1 (c := cI) tK rfl a0) rfl Ln.nil (con_laws_markVariableS e126) rfl rfl (so1 sK so0) <| x_asg (ss rfl rfl) <| seqN [(1, .d ((cLs (cXVariable cS cI) rfl).enc v1)), (2, .d ((cLs (cXTable cI (cLs cI rfl) (cLs cI rfl) cI) rfl).enc v2)), (3, .box ((cXGeo (cLs cI rfl)).enc v0)), (8, .d ((cLo cI).enc x33.1)), (9, .d (cB.enc x33.2)), (12, .d ((cLo (cXTable cI (cLo cI) (cLo cI) cI)).enc x45)), (13, .d ((cLo cI).enc x49.1)), (14, .d (cB.enc x49.2)), (15, .d (cI.enc x125.2))] (by kernel_rfl) <|
    xn <| wpC_seq <| reg_s <| st rfl <| mvo rfl rfl <| st rfl <| mvd rfl rfl <| bnd h fun x129 e130 h => x_clr (c := (cLo (cXTable cI (cLo cI) (cLo cI) cI))) (c' := (cLo (cXTable cI (cLo cI) (cLo cI) cI))) ((cLo (cXTable cI (cLo cI) (cLo cI) cI)).enc x129.1) (sLo (sXTable sK (sLo sK) (sLo sK) sK)) rfl (a1 (c := cI) tK rfl a0) rfl Ln.nil (con_laws_markTableS e130) rfl rfl (so1 sK so0) <| x_asg (ss rfl rfl) <| seqN [(1, .d ((cLs (cXVariable cS cI) rfl).enc v1)), (2, .d ((cLs (cXTable cI (cLs cI rfl) (cLs cI rfl) cI) rfl).enc v2)), (3, .box ((cXGeo (cLs cI rfl)).enc v0)), (8, .d ((cLo cI).enc x33.1)), (9, .d (cB.enc x33.2)), (13, .d ((cLo cI).enc x49.1)), (14, .d (cB.enc x49.2)), (15, .d (cI.enc x129.2))] (by kernel_rfl) <|
    xn <| wpC_seq <| wpC_kp <| wpC_seq <| reg_s <| st rfl <| mvd rfl rfl <| st rfl <| b_lss (k := .i64) rfl rfl <| st rfl <| mvd rfl rfl <| ite_k h (fun b143 h => gf rfl b143 <| gf rfl b143 <| gf rfl b143 <| gf rfl b143 <| st rfl <| pick1 rfl b143 (cd := cB) (v := true) rfl rfl <| st rfl <| mvd rfl rfl <| gf rfl rfl <| gf rfl rfl <| gf rfl rfl <| st rfl <| pick1 rfl rfl (cd := cB) (v := true) rfl rfl <| seqN [(1, .d ((cLs (cXVariable cS cI) rfl).enc v1)), (2, .d ((cLs (cXTable cI (cLs cI rfl) (cLs cI rfl) cI) rfl).enc v2)), (3, .box ((cXGeo (cLs cI rfl)).enc v0)), (8, .d ((cLo cI).enc x33.1)), (9, .d (cB.enc x33.2)), (13, .d ((cLo cI).enc x49.1)), (103, .d (cB.enc true))] (by kernel_rfl) <|
    xn <| cnd1 rfl rfl <| wpC_seq <| reg_s <| x_asg (sc cB false rfl) <| seqN [(6, .d (cB.enc false))] (by kernel_rfl) <|
    xn <| wpC_ret <| rt <| rt <| re <| fin h (r1 (ss rfl rfl) <| r0) rfl)
    (fun b143 h => gt' rfl b143 <| st rfl <| mvo rfl rfl <| gt' rfl b143 <| st rfl <| mvo rfl rfl <| gt' rfl b143 <| bnd h fun x144 e145 h => st rfl <| o_call (a1 (c := (cLo cI)) (tLo tK) rfl (a1 (c := (cLo cI)) (tLo tK) rfl a0)) (con_laws_eqIntS e145) (.inl (so1 sB so0)) <| gt' rfl b143 <| st rfl <| o_nt rfl <| st rfl <| pick0 rfl b143 (cd := cB) (v := (!x144)) rfl rfl <| st rfl <| mvd rfl rfl <| ite_k h (fun b146 h => gf rfl b146 <| gf rfl b146 <| gf rfl b146 <| st rfl <| pick1 rfl b146 (cd := cB) (v := true) rfl rfl <| seqN [(1, .d ((cLs (cXVariable cS cI) rfl).enc v1)), (2, .d ((cLs (cXTable cI (cLs cI rfl) (cLs cI rfl) cI) rfl).enc v2)), (3, .box ((cXGeo (cLs cI rfl)).enc v0)), (8, .d ((cLo cI).enc x33.1)), (9, .d (cB.enc x33.2)), (13, .d ((cLo cI).enc x49.1)), (103, .d (cB.enc true))] (by kernel_rfl) <|
    xn <| cnd1 rfl rfl <| wpC_seq <| reg_s <| x_asg (sc cB false rfl) <| seqN [(6, .d (cB.enc false))] (by kernel_rfl) <|
    xn <| wpC_ret <| rt <| rt <| re <| fin h (r1 (ss rfl rfl) <| r0) rfl)
    (fun b146 h => gt' rfl b146 <| st rfl <| mvd rfl rfl <| gt' rfl b146 <| st rfl <| mvd rfl rfl <| gt' rfl b146 <| st rfl <| eqb1 rfl rfl <| st rfl <| pick0 rfl b146 (cd := cB) (v := (x49.2 != x33.2)) rfl rfl <| seqN [(1, .d ((cLs (cXVariable cS cI) rfl).enc v1)), (2, .d ((cLs (cXTable cI (cLs cI rfl) (cLs cI rfl) cI) rfl).enc v2)), (3, .box ((cXGeo (cLs cI rfl)).enc v0)), (8, .d ((cLo cI).enc x33.1)), (9, .d (cB.enc x33.2)), (13, .d ((cLo cI).enc x49.1)), (103, .d (cB.enc (x49.2 != x33.2)))] (by kernel_rfl) <|
    xn <| cnd0 rfl b64 <| wpC_skip <| kpN [(1, .d ((cLs (cXVariable cS cI) rfl).enc v1)), (2, .d ((cLs (cXTable cI (cLs cI rfl) (cLs cI rfl) cI) rfl).enc v2)), (3, .box ((cXGeo (cLs cI rfl)).enc v0)), (8, .d ((cLo cI).enc x33.1)), (9, .d (cB.enc x33.2)), (13, .d ((cLo cI).enc x49.1))] (by kernel_rfl) <| xn <| wpC_seq <| reg_s <| x_asg (sc cI (1 : Int) rfl) <| seqN [(1, .d ((cLs (cXVariable cS cI) rfl).enc v1)), (2, .d ((cLs (cXTable cI (cLs cI rfl) (cLs cI rfl) cI) rfl).enc v2)), (3, .box ((cXGeo (cLs cI rfl)).enc v0)), (8, .d ((cLo cI).enc x33.1)), (9, .d (cB.enc x33.2)), (13, .d ((cLo cI).enc x49.1)), (16, .d (cI.enc (1 : Int)))] (by kernel_rfl) <|
    xn <| wpC_seq <| reg_s <| st rfl <| mvo rfl rfl <| st rfl <| mvd rfl rfl <| bnd h fun x149 e150 h => x_clr (c := (cLo cI)) (c' := (cLo cI)) ((cLo cI).enc x149.1) (sLo sK) rfl (a1 (c := cI) tK rfl a0) rfl Ln.nil (con_laws_markIntS e150) rfl rfl (so1 sK so0) <| x_asg (ss rfl rfl) <| seqN [(1, .d ((cLs (cXVariable cS cI) rfl).enc v1)), (2, .d ((cLs (cXTable cI (cLs cI rfl) (cLs cI rfl) cI) rfl).enc v2)), (3, .box ((cXGeo (cLs cI rfl)).enc v0)), (8, .d ((cLo cI).enc x33.1)), (9, .d (cB.enc x33.2)), (13, .d ((cLo cI).enc x149.1)), (16, .d (cI.enc x149.2))] (by kernel_rfl) <|
    xn <| wpC_seq <| reg_s <| x_asg (sc cI (1 : Int) rfl) <| seqN [(1, .d ((cLs (cXVariable cS cI) rfl).enc v1)), (2, .d ((cLs (cXTable cI (cLs cI rfl) (cLs cI rfl) cI) rfl).enc v2)), (3, .box ((cXGeo (cLs cI rfl)).enc v0)), (8, .d ((cLo cI).enc x33.1)), (9, .d (cB.enc x33.2)), (13, .d ((cLo cI).enc x149.1)), (16, .d (cI.enc x149.2)), (17, .d (cI.enc (1 : Int)))] (by kernel_rfl) <|
    xn <| wpC_seq <| reg_s <| st rfl <| mvo rfl rfl <| st rfl <| mvd rfl rfl <| bnd h fun x153 e154 h => st rfl <| o_call (a1 (c := (cLo cI)) (tLo tK) rfl (a1 (c := cI) tK rfl a0)) (con_laws_heldIntS e154) (.inl (so1 sK so0)) <| x_asg (ss rfl rfl) <| seqN [(1, .d ((cLs (cXVariable cS cI) rfl).enc v1)), (2, .d ((cLs (cXTable cI (cLs cI rfl) (cLs cI rfl) cI) rfl).enc v2)), (3, .box ((cXGeo (cLs cI rfl)).enc v0)), (8, .d ((cLo cI).enc x33.1)), (9, .d (cB.enc x33.2)), (13, .d ((cLo cI).enc x149.1)), (16, .d (cI.enc x149.2)), (17, .d (cI.enc x153))] (by kernel_rfl) <|
    xn <| wpC_seq <| wpC_kp <| wpC_seq <| reg_s <| st rfl <| mvd rfl rfl <| st rfl <| b_lss (k := .i64) rfl rfl <| seqN [(1, .d ((cLs (cXVariable cS cI) rfl).enc v1)), (2, .d ((cLs (cXTable cI (cLs cI rfl) (cLs cI rfl) cI) rfl).enc v2)), (3, .box ((cXGeo (cLs cI rfl)).enc v0)), (8, .d ((cLo cI).enc x33.1)), (9, .d (cB.enc x33.2)), (13, .d ((cLo cI).enc x149.1)), (16, .d (cI.enc x149.2)), (17, .d (cI.enc x153)), (111, .d (cB.enc (decide (x153 < (0 : Int)))))] (by kernel_rfl) <|
    xn <| cnd rfl h (fun b156 h => wpC_seq <| reg_s <| x_asg (sc cB false rfl) <| seqN [(6, .d (cB.enc false))] (by kernel_rfl) <|
    xn <| wpC_ret <| rt <| rt <| re <| fin h (r1 (ss rfl rfl) <| r0) rfl)
    (fun b156 h => wpC_skip <| kpN [(1, .d ((cLs (cXVariable cS cI) rfl).enc v1)), (2, .d ((cLs (cXTable cI (cLs cI rfl) (cLs cI rfl) cI) rfl).enc v2)), (3, .box ((cXGeo (cLs cI rfl)).enc v0)), (8, .d ((cLo cI).enc x33.1)), (9, .d (cB.enc x33.2)), (13, .d ((cLo cI).enc x149.1)), (16, .d (cI.enc x149.2)), (17, .d (cI.enc x153))] (by kernel_rfl) <| xn <| wpC_seq <| wpC_kp <| wpC_seq <| reg_s <| st rfl <| mvd rfl rfl <| st rfl <| mvd rfl rfl <| st rfl <| b_neq (k := .i64) rfl rfl <| seqN [(1, .d ((cLs (cXVariable cS cI) rfl).enc v1)), (2, .d ((cLs (cXTable cI (cLs cI rfl) (cLs cI rfl) cI) rfl).enc v2)), (3, .box ((cXGeo (cLs cI rfl)).enc v0)), (8, .d ((cLo cI).enc x33.1)), (9, .d (cB.enc x33.2)), (13, .d ((cLo cI).enc x149.1)), (16, .d (cI.enc x149.2)), (114, .d (cB.enc (decide (x153 ≠ x149.2))))] (by kernel_rfl) <|
    xn <| cnd rfl h (fun b158 h => wpC_seq <| reg_s <| x_asg (sc cB false rfl) <| seqN [(6, .d (cB.enc false))] (by kernel_rfl) <|
    xn <| wpC_ret <| rt <| rt <| re <| fin h (r1 (ss rfl rfl) <| r0) rfl)
    (fun b158 h => wpC_skip <| kpN [(1, .d ((cLs (cXVariable cS cI) rfl).enc v1)), (2, .d ((cLs (cXTable cI (cLs cI rfl) (cLs cI rfl) cI) rfl).enc v2)), (3, .box ((cXGeo (cLs cI rfl)).enc v0)), (8, .d ((cLo cI).enc x33.1)), (9, .d (cB.enc x33.2)), (13, .d ((cLo cI).enc x149.1)), (16, .d (cI.enc x149.2))] (by kernel_rfl) <| xn <| wpC_seq <| reg_s <| st rfl <| ldb rfl rfl rfl rfl <| bnd h fun x167 e168 h => st rfl <| o_call (a1 (c := (cXGeo (cLs cI rfl))) (tXGeo (tLs tK)) rfl a0) (con_laws_toGeo e168) (.inl (so1 (sXGeo (sLo sK)) so0)) <| st rfl <| mvd rfl rfl <| bnd h fun x169 e170 h => st rfl <| o_call (a1 (c := (cLs (cXVariable cS cI) rfl)) (tLs (tXVariable tS tK)) rfl a0) (con_laws_toVariableS e170) (.inl (so1 (sLo (sXVariable sS sK)) so0)) <| st rfl <| mvd rfl rfl <| bnd h fun x171 e172 h => st rfl <| o_call (a1 (c := (cLs (cXTable cI (cLs cI rfl) (cLs cI rfl) cI) rfl)) (tLs (tXTable tK (tLs tK) (tLs tK) tK)) rfl a0) (con_laws_toTableS e172) (.inl (so1 (sLo (sXTable sK (sLo sK) (sLo sK) sK)) so0)) <| bnd h fun x173 e174 h => st rfl <| o_call (a1 (c := (cXGeo (cLo cI))) (tXGeo (tLo tK)) rfl (a1 (c := (cLo (cXVariable cS cI))) (tLo (tXVariable tS tK)) rfl (a1 (c := (cLo (cXTable cI (cLo cI) (cLo cI) cI))) (tLo (tXTable tK (tLo tK) (tLo tK) tK)) rfl a0))) (con_impl_BaseTables e174) (.inl (so1 (sLo sK) (so1 sB so0))) <| x_mvt rfl <| x_ext rfl rfl <| x_ext rfl rfl <| x_asg (so rfl rfl) <| x_asg (ss rfl rfl) <| seqN [(8, .d ((cLo cI).enc x33.1)), (9, .d (cB.enc x33.2)), (13, .d ((cLo cI).enc x149.1)), (16, .d (cI.enc x149.2)), (18, .d ((cLo cI).enc x173.1)), (19, .d (cB.enc x173.2))] (by kernel_rfl) <|
    xn <| wpC_seq <| wpC_kp <| wpC_seq <| reg_s <| st rfl <| mvo rfl rfl <| st rfl <| mvo rfl rfl <| bnd h fun x185 e186 h => st rfl <| o_call (a1 (c := (cLo cI)) (tLo tK) rfl (a1 (c := (cLo cI)) (tLo tK) rfl a0)) (con_laws_eqIntS e186) (.inl (so1 sB so0)) <| st rfl <| o_nt rfl <| st rfl <| mvd rfl rfl <| ite_k h (fun b187 h => gf rfl b187 <| gf rfl b187 <| gf rfl b187 <| st rfl <| pick1 rfl b187 (cd := cB) (v := true) rfl rfl <| seqN [(13, .d ((cLo cI).enc x149.1)), (16, .d (cI.enc x149.2)), (133, .d (cB.enc true))] (by kernel_rfl) <|
    xn <| cnd1 rfl rfl <| wpC_seq <| reg_s <| x_asg (sc cB false rfl) <| seqN [(6, .d (cB.enc false))] (by kernel_rfl) <|
    xn <| wpC_ret <| rt <| rt <| re <| fin h (r1 (ss rfl rfl) <| r0) rfl)
    (fun b187 h => gt' rfl b187 <| st rfl <| mvd rfl rfl <| gt' rfl b187 <| st rfl <| mvd rfl rfl <| gt' rfl b187 <| st rfl <| eqb1 rfl rfl <| st rfl <| pick0 rfl b187 (cd := cB) (v := (x173.2 != x33.2)) rfl rfl <| seqN [(13, .d ((cLo cI).enc x149.1)), (16, .d (cI.enc x149.2)), (133, .d (cB.enc (x173.2 != x33.2)))] (by kernel_rfl) <|
    xn <| cnd rfl h (fun b188 h => wpC_seq <| reg_s <| x_asg (sc cB false rfl) <| seqN [(6, .d (cB.enc false))] (by kernel_rfl) <|
    xn <| wpC_ret <| rt <| rt <| re <| fin h (r1 (ss rfl rfl) <| r0) rfl)
    (fun b188 h => wpC_skip <| kpN [(13, .d ((cLo cI).enc x149.1)), (16, .d (cI.enc x149.2))] (by kernel_rfl) <| xn <| wpC_seq <| reg_s <| x_asg (sc cI (1 : Int) rfl) <| seqN [(13, .d ((cLo cI).enc x149.1)), (16, .d (cI.enc x149.2)), (17, .d (cI.enc (1 : Int)))] (by kernel_rfl) <|
    xn <| wpC_seq <| reg_s <| st rfl <| mvo rfl rfl <| st rfl <| mvd rfl rfl <| bnd h fun x191 e192 h => st rfl <| o_call (a1 (c := (cLo cI)) (tLo tK) rfl (a1 (c := cI) tK rfl a0)) (con_laws_heldIntS e192) (.inl (so1 sK so0)) <| x_asg (ss rfl rfl) <| seqN [(16, .d (cI.enc x149.2)), (17, .d (cI.enc x191))] (by kernel_rfl) <|
    xn <| wpC_seq <| wpC_kp <| wpC_seq <| reg_s <| st rfl <| mvd rfl rfl <| st rfl <| b_lss (k := .i64) rfl rfl <| seqN [(16, .d (cI.enc x149.2)), (17, .d (cI.enc x191)), (138, .d (cB.enc (decide (x191 < (0 : Int)))))] (by kernel_rfl) <|
    xn <| cnd rfl h (fun b194 h => wpC_seq <| reg_s <| x_asg (sc cB false rfl) <| seqN [(6, .d (cB.enc false))] (by kernel_rfl) <|
    xn <| wpC_ret <| rt <| rt <| re <| fin h (r1 (ss rfl rfl) <| r0) rfl)
    (fun b194 h => wpC_skip <| kpN [(16, .d (cI.enc x149.2)), (17, .d (cI.enc x191))] (by kernel_rfl) <| xn <| wpC_seq <| wpC_kp <| wpC_seq <| reg_s <| st rfl <| mvd rfl rfl <| st rfl <| mvd rfl rfl <| st rfl <| b_neq (k := .i64) rfl rfl <| seqN [(141, .d (cB.enc (decide (x191 ≠ x149.2))))] (by kernel_rfl) <|
    xn <| cnd rfl h (fun b196 h => wpC_seq <| reg_s <| x_asg (sc cB false rfl) <| seqN [(6, .d (cB.enc false))] (by kernel_rfl) <|
    xn <| wpC_ret <| rt <| rt <| re <| fin h (r1 (ss rfl rfl) <| r0) rfl)
    (fun b196 h => wpC_skip <| kpN [] (by kernel_rfl) <| xn <| wpC_seq <| reg_s <| x_asg (sc cB true rfl) <| seqN [(6, .d (cB.enc true))] (by kernel_rfl) <|
    xn <| wpC_ret <| re <| fin h (r1 (ss rfl rfl) <| r0) rfl)))))))))))⟩⟩⟩⟩⟩)))))
end AS.W
