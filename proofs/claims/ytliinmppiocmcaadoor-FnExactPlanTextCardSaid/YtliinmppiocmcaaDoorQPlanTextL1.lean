/- The program computes the plain functions. No condition. -/
import Derived.Test.YtliinmppiocmcaaDoorQPlanTextS
import Derived.Test.YtliinmppiocmcaaDoorProg
import Derived.Test.YtliinmppiocmcaaDoorQPlanTextX
import Derived.Test.YtliinmppiocmcaaDoorQPlanTextL0
set_option maxRecDepth 100000
set_option linter.unusedVariables false
set_option linter.unusedSimpArgs false
namespace AS.W
open Go Go.Proofs
def rs_spec_sPart (r : (List XVariable)) : List D := [(cLo (cXVariable cS cI)).enc r]
def m90 : MC := .seq (.reg [⟨some 4, .asg (.c (.slice true [])), none⟩] [0, 1])
  (.seq (.reg [⟨some 5, .asg (.c (.slice true [])), none⟩] [0, 1, 5])
  (.seq (.kp [5] (.seq (.reg [⟨some 8, .mv (.t 1), none⟩,
    ⟨some 9, .len false (.t 8), none⟩,
    ⟨some 10, .mv (.c (.int .i64 0)), none⟩] [0, 1, 5, 8, 9, 10])
  (.blk 0 (.loop (.seq (.reg [⟨some 11, .bin .lss (.t 10) (.t 9), none⟩] [0, 1, 5, 8, 9, 10, 11])
  (.seq (.kp [0, 1, 5, 8, 9, 10] (.cond (.t 11) (.skip) (.exit 0)))
  (.seq (.kp [0, 1, 5, 8, 9, 10] (.blk 1 (.seq (.reg [⟨some 12, .ia 8 (.t 10) 1, none⟩,
    ⟨some 13, .ld 12 1 false, none⟩,
    ⟨some 7, .asg (.t 13), none⟩] [0, 1, 5, 7, 8, 9, 10])
  (.reg [⟨some 14, .mv (.t 5), none⟩,
    ⟨some 15, .mv (.t 0), none⟩,
    ⟨some 16, .mv (.t 7), none⟩,
    ⟨some 17, .ia 15 (.t 16) 2, none⟩,
    ⟨some 18, .ld 17 2 true, none⟩,
    ⟨some 19, .bsl [(.t 18)] 2, none⟩,
    ⟨some 20, .app (.t 14) (.t 19) 2, none⟩,
    ⟨some 5, .asg (.t 20), none⟩] [0, 1, 5, 8, 9, 10]))))
  (.reg [⟨some 21, .bin .add (.t 10) (.c (.int .i64 1)), none⟩,
    ⟨some 10, .mv (.t 21), none⟩] [0, 1, 5, 8, 9, 10]))))))))
  (.seq (.reg [⟨some 22, .mv (.t 5), none⟩,
    ⟨some 4, .asg (.t 22), none⟩] [4])
  (.ret))))
theorem con_spec_sPart {v0 : (List XVariable)} {v1 : (List Int)} {r : (List XVariable)} (h : sh_spec_sPart v0 v1 = some r) : Con Tryd.prog 90 [(cLs (cXVariable cS cI) rfl).enc v0, (cLs cI rfl).enc v1] [] (rs_spec_sPart r) := by
  delta sh_spec_sPart at h
  refine top (out := none) (f := Tryd.f90) (m := m90) (rs := [.t 4]) (by kernel_rfl) rfl (by kernel_rfl) (by kernel_rfl) (by kernel_rfl) (by kernel_rfl) (by kernel_rfl) ?_
  exact
   ini [(0, .d ((cLs (cXVariable cS cI) rfl).enc v0)), (1, .d ((cLs cI rfl).enc v1))] rfl <| wpC_seq <| reg_s <| x_asg (sc (cLo (cXVariable cS cI)) ([] : List XVariable) rfl) <| seqN [(0, .d ((cLs (cXVariable cS cI) rfl).enc v0)), (1, .d ((cLs cI rfl).enc v1))] (by kernel_rfl) <|
    xn <| wpC_seq <| reg_s <| x_asg (sc (cLo (cXVariable cS cI)) ([] : List XVariable) rfl) <| seqN [(0, .d ((cLs (cXVariable cS cI) rfl).enc v0)), (1, .d ((cLs cI rfl).enc v1)), (5, .d ((cLo (cXVariable cS cI)).enc ([] : List XVariable)))] (by kernel_rfl) <|
    xn <| wpC_seq <| wpC_kp <| wpC_seq <| reg_s <| st rfl <| mvd rfl rfl <| stw rfl <| lens rfl fun l36 => st rfl <| mvc cI (0 : Int) rfl <| seqN [(0, .d ((cLs (cXVariable cS cI) rfl).enc v0)), (1, .d ((cLs cI rfl).enc v1)), (5, .d ((cLo (cXVariable cS cI)).enc ([] : List XVariable))), (8, .d ((cLs cI rfl).enc v1)), (9, .d (cI.enc (v1.length : Int))), (10, .d (cI.enc (0 : Int)))] (by kernel_rfl) <|
    xn <| wpC_blk <| lpR (fun (k38 : Nat) (s37 : (List XVariable)) => [(0, .d ((cLs (cXVariable cS cI) rfl).enc v0)), (1, .d ((cLs cI rfl).enc v1)), (5, .d ((cLo (cXVariable cS cI)).enc s37)), (8, .d ((cLs cI rfl).enc v1)), (9, .d (cI.enc (v1.length : Int))), (10, .d (cI.enc (k38 : Int)))]) ([] : List XVariable) rfl h
    (fun G60 s37 h => wpC_seq <| reg_s <| st rfl <| b_lss (k := .i64) rfl rfl <| seqN [(0, .d ((cLs (cXVariable cS cI) rfl).enc v0)), (1, .d ((cLs cI rfl).enc v1)), (5, .d ((cLo (cXVariable cS cI)).enc s37)), (8, .d ((cLs cI rfl).enc v1)), (9, .d (cI.enc (v1.length : Int))), (10, .d (cI.enc (v1.length : Int))), (11, .d (cB.enc (decide ((v1.length : Int) < (v1.length : Int)))))] (by kernel_rfl) <|
    xn <| wpC_seq <| wpC_kp <| cnd0 rfl (dlf _) <| wpC_exit <| xt <| xt <| xt <| xb <| kpN [(5, .d ((cLo (cXVariable cS cI)).enc s37))] (by kernel_rfl) <| xn <| wpC_seq <| reg_s <| st rfl <| mvo rfl rfl <| x_asg (sr rfl rfl) <| seqN [(4, .d ((cLo (cXVariable cS cI)).enc s37))] (by kernel_rfl) <|
    xn <| wpC_ret <| re <| fin h (r1 (so rfl rfl) <| r0) rfl)
    (fun G60 nx58 k38 s37 x39 hk40 hx41 hn59 h => wpC_seq <| reg_s <| st rfl <| b_lss (k := .i64) rfl rfl <| seqN [(0, .d ((cLs (cXVariable cS cI) rfl).enc v0)), (1, .d ((cLs cI rfl).enc v1)), (5, .d ((cLo (cXVariable cS cI)).enc s37)), (8, .d ((cLs cI rfl).enc v1)), (9, .d (cI.enc (v1.length : Int))), (10, .d (cI.enc (k38 : Int))), (11, .d (cB.enc (decide ((k38 : Int) < (v1.length : Int)))))] (by kernel_rfl) <|
    xn <| wpC_seq <| wpC_kp <| cnd1 rfl (dlt hk40) <| wpC_skip <| kpN [(0, .d ((cLs (cXVariable cS cI) rfl).enc v0)), (1, .d ((cLs cI rfl).enc v1)), (5, .d ((cLo (cXVariable cS cI)).enc s37)), (8, .d ((cLs cI rfl).enc v1)), (9, .d (cI.enc (v1.length : Int))), (10, .d (cI.enc (k38 : Int)))] (by kernel_rfl) <| xn <| wpC_seq <| wpC_kp <| wpC_blk <| wpC_seq <| reg_s <| st rfl <| ias rfl rfl (Int.natCast_nonneg _) hx41 rfl <| st rfl <| ldi rfl rfl rfl rfl <| x_asg (ss rfl rfl) <| seqN [(0, .d ((cLs (cXVariable cS cI) rfl).enc v0)), (1, .d ((cLs cI rfl).enc v1)), (5, .d ((cLo (cXVariable cS cI)).enc s37)), (7, .d (cI.enc x39)), (8, .d ((cLs cI rfl).enc v1)), (9, .d (cI.enc (v1.length : Int))), (10, .d (cI.enc (k38 : Int)))] (by kernel_rfl) <|
    xn <| reg_s <| st rfl <| mvo rfl rfl <| st rfl <| mvd rfl rfl <| st rfl <| mvd rfl rfl <| getO_k h fun x65 i66 g67 h => st rfl <| ias rfl rfl i66 g67 rfl <| st rfl <| ldi rfl rfl rfl rfl <| x_bsl (cXVariable cS cI) [x65] (t1 (ss rfl rfl) rfl t0) rfl rfl <| lnO_k h fun l68 h => x_app (sr rfl rfl) (to rfl rfl) l68 rfl <| x_asg (so rfl rfl) <| seqN [(0, .d ((cLs (cXVariable cS cI) rfl).enc v0)), (1, .d ((cLs cI rfl).enc v1)), (5, .d ((cLo (cXVariable cS cI)).enc (s37 ++ [x65]))), (8, .d ((cLs cI rfl).enc v1)), (9, .d (cI.enc (v1.length : Int))), (10, .d (cI.enc (k38 : Int)))] (by kernel_rfl) <|
    xbb <| kpN [(0, .d ((cLs (cXVariable cS cI) rfl).enc v0)), (1, .d ((cLs cI rfl).enc v1)), (5, .d ((cLo (cXVariable cS cI)).enc (s37 ++ [x65]))), (8, .d ((cLs cI rfl).enc v1)), (9, .d (cI.enc (v1.length : Int))), (10, .d (cI.enc (k38 : Int)))] (by kernel_rfl) <| xn <| reg_s <| st rfl <| b_inc rfl rfl l36 hk40 <| st rfl <| mvd rfl rfl <| seqN [(0, .d ((cLs (cXVariable cS cI) rfl).enc v0)), (1, .d ((cLs cI rfl).enc v1)), (5, .d ((cLo (cXVariable cS cI)).enc (s37 ++ [x65]))), (8, .d ((cLs cI rfl).enc v1)), (9, .d (cI.enc (v1.length : Int))), (10, .d (cI.enc ((k38 + 1 : Nat) : Int)))] (by kernel_rfl) <|
    xn <| hn59 (s37 ++ [x65]) h)

def rs_spec_sCount (r : Int) : List D := [cI.enc r]
def m89 : MC := .seq (.reg [⟨some 2, .asg (.c (.int .i64 0)), none⟩] [0])
  (.seq (.reg [⟨some 3, .asg (.c (.int .i64 1)), none⟩] [0, 3])
  (.seq (.kp [3] (.seq (.reg [⟨some 6, .mv (.t 0), none⟩,
    ⟨some 7, .len false (.t 6), none⟩,
    ⟨some 8, .mv (.c (.int .i64 0)), none⟩] [0, 3, 6, 7, 8])
  (.blk 0 (.loop (.seq (.reg [⟨some 9, .bin .lss (.t 8) (.t 7), none⟩] [0, 3, 6, 7, 8, 9])
  (.seq (.kp [0, 3, 6, 7, 8] (.cond (.t 9) (.skip) (.exit 0)))
  (.seq (.kp [0, 3, 6, 7, 8] (.blk 1 (.seq (.reg [⟨some 10, .ia 6 (.t 8) 2, none⟩,
    ⟨some 11, .ld 10 2 true, none⟩,
    ⟨some 5, .alloc (.agg [.str [], .int .i64 0]), none⟩,
    ⟨none, .st 5 (.t 11) 2, none⟩] [0, 3, 5, 6, 7, 8])
  (.reg [⟨some 12, .mv (.t 3), none⟩,
    ⟨some 13, .fa 5 1 1, none⟩,
    ⟨some 14, .ld 13 1 false, none⟩,
    ⟨some 15, .bin .mul (.t 12) (.t 14), none⟩,
    ⟨some 3, .asg (.t 15), none⟩] [0, 3, 6, 7, 8]))))
  (.reg [⟨some 16, .bin .add (.t 8) (.c (.int .i64 1)), none⟩,
    ⟨some 8, .mv (.t 16), none⟩] [0, 3, 6, 7, 8]))))))))
  (.seq (.reg [⟨some 17, .mv (.t 3), none⟩,
    ⟨some 2, .asg (.t 17), none⟩] [2])
  (.ret))))
theorem con_spec_sCount {v0 : (List XVariable)} {r : Int} (h : sh_spec_sCount v0 = some r) : Con Tryd.prog 89 [(cLs (cXVariable cS cI) rfl).enc v0] [] (rs_spec_sCount r) := by
  delta sh_spec_sCount at h
  refine top (out := none) (f := Tryd.f89) (m := m89) (rs := [.t 2]) (by kernel_rfl) rfl (by kernel_rfl) (by kernel_rfl) (by kernel_rfl) (by kernel_rfl) (by kernel_rfl) ?_
  exact
   ini [(0, .d ((cLs (cXVariable cS cI) rfl).enc v0))] rfl <| wpC_seq <| reg_s <| x_asg (sc cI (0 : Int) rfl) <| seqN [(0, .d ((cLs (cXVariable cS cI) rfl).enc v0))] (by kernel_rfl) <|
    xn <| wpC_seq <| reg_s <| x_asg (sc cI (1 : Int) rfl) <| seqN [(0, .d ((cLs (cXVariable cS cI) rfl).enc v0)), (3, .d (cI.enc (1 : Int)))] (by kernel_rfl) <|
    xn <| wpC_seq <| wpC_kp <| wpC_seq <| reg_s <| st rfl <| mvd rfl rfl <| stw rfl <| lens rfl fun l18 => st rfl <| mvc cI (0 : Int) rfl <| seqN [(0, .d ((cLs (cXVariable cS cI) rfl).enc v0)), (3, .d (cI.enc (1 : Int))), (6, .d ((cLs (cXVariable cS cI) rfl).enc v0)), (7, .d (cI.enc (v0.length : Int))), (8, .d (cI.enc (0 : Int)))] (by kernel_rfl) <|
    xn <| wpC_blk <| lpR (fun (k20 : Nat) (s19 : Int) => [(0, .d ((cLs (cXVariable cS cI) rfl).enc v0)), (3, .d (cI.enc s19)), (6, .d ((cLs (cXVariable cS cI) rfl).enc v0)), (7, .d (cI.enc (v0.length : Int))), (8, .d (cI.enc (k20 : Int)))]) (1 : Int) rfl h
    (fun G30 s19 h => wpC_seq <| reg_s <| st rfl <| b_lss (k := .i64) rfl rfl <| seqN [(0, .d ((cLs (cXVariable cS cI) rfl).enc v0)), (3, .d (cI.enc s19)), (6, .d ((cLs (cXVariable cS cI) rfl).enc v0)), (7, .d (cI.enc (v0.length : Int))), (8, .d (cI.enc (v0.length : Int))), (9, .d (cB.enc (decide ((v0.length : Int) < (v0.length : Int)))))] (by kernel_rfl) <|
    xn <| wpC_seq <| wpC_kp <| cnd0 rfl (dlf _) <| wpC_exit <| xt <| xt <| xt <| xb <| kpN [(3, .d (cI.enc s19))] (by kernel_rfl) <| xn <| wpC_seq <| reg_s <| st rfl <| mvd rfl rfl <| x_asg (ss rfl rfl) <| seqN [(2, .d (cI.enc s19))] (by kernel_rfl) <|
    xn <| wpC_ret <| re <| fin h (r1 (ss rfl rfl) <| r0) rfl)
    (fun G30 nx28 k20 s19 x21 hk22 hx23 hn29 h => wpC_seq <| reg_s <| st rfl <| b_lss (k := .i64) rfl rfl <| seqN [(0, .d ((cLs (cXVariable cS cI) rfl).enc v0)), (3, .d (cI.enc s19)), (6, .d ((cLs (cXVariable cS cI) rfl).enc v0)), (7, .d (cI.enc (v0.length : Int))), (8, .d (cI.enc (k20 : Int))), (9, .d (cB.enc (decide ((k20 : Int) < (v0.length : Int)))))] (by kernel_rfl) <|
    xn <| wpC_seq <| wpC_kp <| cnd1 rfl (dlt hk22) <| wpC_skip <| kpN [(0, .d ((cLs (cXVariable cS cI) rfl).enc v0)), (3, .d (cI.enc s19)), (6, .d ((cLs (cXVariable cS cI) rfl).enc v0)), (7, .d (cI.enc (v0.length : Int))), (8, .d (cI.enc (k20 : Int)))] (by kernel_rfl) <| xn <| wpC_seq <| wpC_kp <| wpC_blk <| wpC_seq <| reg_s <| st rfl <| ias rfl rfl (Int.natCast_nonneg _) hx23 rfl <| st rfl <| ldi rfl rfl rfl rfl <| x_all (cXVariable cS cI) (⟨([] : List UInt8), (0 : Int)⟩ : XVariable) rfl <| x_stb (ss rfl rfl) rfl (Cd.h_sz _ _) rfl <| seqN [(0, .d ((cLs (cXVariable cS cI) rfl).enc v0)), (3, .d (cI.enc s19)), (5, .box ((cXVariable cS cI).enc x21)), (6, .d ((cLs (cXVariable cS cI) rfl).enc v0)), (7, .d (cI.enc (v0.length : Int))), (8, .d (cI.enc (k20 : Int)))] (by kernel_rfl) <|
    xn <| reg_s <| st rfl <| mvd rfl rfl <| st rfl <| fab rfl rfl rfl rfl <| st rfl <| lda rfl rfl rfl rfl rfl rfl <| ckI_k h fun i32 h => st rfl <| b_mul (k := .i64) rfl rfl i32 <| x_asg (ss rfl rfl) <| seqN [(0, .d ((cLs (cXVariable cS cI) rfl).enc v0)), (3, .d (cI.enc (s19 * x21.Levels))), (6, .d ((cLs (cXVariable cS cI) rfl).enc v0)), (7, .d (cI.enc (v0.length : Int))), (8, .d (cI.enc (k20 : Int)))] (by kernel_rfl) <|
    xbb <| kpN [(0, .d ((cLs (cXVariable cS cI) rfl).enc v0)), (3, .d (cI.enc (s19 * x21.Levels))), (6, .d ((cLs (cXVariable cS cI) rfl).enc v0)), (7, .d (cI.enc (v0.length : Int))), (8, .d (cI.enc (k20 : Int)))] (by kernel_rfl) <| xn <| reg_s <| st rfl <| b_inc rfl rfl l18 hk22 <| st rfl <| mvd rfl rfl <| seqN [(0, .d ((cLs (cXVariable cS cI) rfl).enc v0)), (3, .d (cI.enc (s19 * x21.Levels))), (6, .d ((cLs (cXVariable cS cI) rfl).enc v0)), (7, .d (cI.enc (v0.length : Int))), (8, .d (cI.enc ((k20 + 1 : Nat) : Int)))] (by kernel_rfl) <|
    xn <| hn29 (s19 * x21.Levels) h)

def rs_spec_uCount (r : Int) : List D := [cI.enc r]
def m52 : MC := .seq (.reg [⟨some 3, .box (.t 0), none⟩,
    ⟨some 5, .box (.t 2), none⟩,
    ⟨some 6, .asg (.c (.int .i64 0)), none⟩] [1, 3, 5])
  (.seq (.drw [⟨0, ⟨some 7, .ld 3 1 true, none⟩, [8, 9, 10, 11, 12, 13, 14, 15, 16, 17]⟩,
    ⟨1, ⟨some 8, .fa 5 0 0, none⟩, [7, 9, 10, 11, 12, 13, 14, 15, 16, 17]⟩,
    ⟨2, ⟨some 9, .ld 8 1 false, none⟩, [7, 10, 11, 12, 13, 14, 15, 16, 17]⟩,
    ⟨3, ⟨some 10, .call 79 [(.t 7), (.t 9)], none⟩, [11, 12, 13, 14, 15, 16, 17]⟩,
    ⟨4, ⟨some 11, .len false (.t 10), none⟩, [12, 13, 14, 15, 16, 17]⟩,
    ⟨5, ⟨some 12, .mv (.t 1), none⟩, [7, 8, 9, 10, 11, 13, 14, 15, 16, 17]⟩,
    ⟨6, ⟨some 13, .fa 5 1 1, none⟩, [7, 8, 9, 10, 11, 12, 14, 15, 16, 17]⟩,
    ⟨7, ⟨some 14, .ld 13 1 false, none⟩, [7, 8, 9, 10, 11, 12, 15, 16, 17]⟩,
    ⟨8, ⟨some 15, .call 90 [(.t 12), (.t 14)], none⟩, [11, 16, 17]⟩,
    ⟨9, ⟨some 16, .call 89 [(.t 15)], none⟩, [11, 17]⟩,
    ⟨10, ⟨some 17, .bin .mul (.t 11) (.t 16), none⟩, []⟩]
    [(11, ⟨some 6, .asg (.t 17), none⟩)] [6])
  (.ret))
theorem con_spec_uCount {v0 : XGeo} {v1 : (List XVariable)} {v2 : XTable} {r : Int} (h : sh_spec_uCount v0 v1 v2 = some r) : Con Tryd.prog 52 [(cXGeo (cLs cI rfl)).enc v0, (cLs (cXVariable cS cI) rfl).enc v1, (cXTable cI (cLs cI rfl) (cLs cI rfl) cI).enc v2] [] (rs_spec_uCount r) := by
  delta sh_spec_uCount at h
  refine top (out := none) (f := Tryd.f52) (m := m52) (rs := [.t 6]) (by kernel_rfl) rfl (by kernel_rfl) (by kernel_rfl) (by kernel_rfl) (by kernel_rfl) (by kernel_rfl) ?_
  exact
   ini [(0, .d ((cXGeo (cLs cI rfl)).enc v0)), (1, .d ((cLs (cXVariable cS cI) rfl).enc v1)), (2, .d ((cXTable cI (cLs cI rfl) (cLs cI rfl) cI).enc v2))] rfl <| wpC_seq <| reg_s <| x_box (ss rfl rfl) <| x_box (ss rfl rfl) <| x_asg (sc cI (0 : Int) rfl) <| seqN [(1, .d ((cLs (cXVariable cS cI) rfl).enc v1)), (3, .box ((cXGeo (cLs cI rfl)).enc v0)), (5, .box ((cXTable cI (cLs cI rfl) (cLs cI rfl) cI).enc v2))] (by kernel_rfl) <|
    xn <| wpC_seq <| drw_s <| pst rfl <| ldb rfl rfl rfl rfl ⟨rfl, pst rfl <| fab rfl rfl rfl rfl ⟨rfl, pst rfl <| lda rfl rfl rfl rfl rfl rfl ⟨rfl, bndp h fun x9 e10 h => pst rfl <| o_call (a1 (c := (cXGeo (cLs cI rfl))) (tXGeo (tLs tK)) rfl (a1 (c := cI) tK rfl a0)) (con_spec_gLevel e10) (.inl (so1 (sLo sK) so0)) ⟨rfl, lmO_kp h fun l11 h => pst rfl <| plno rfl l11 ⟨rfl, pst rfl <| mvd rfl rfl ⟨rfl, pst rfl <| fab rfl rfl rfl rfl ⟨rfl, pst rfl <| lda rfl rfl rfl rfl rfl rfl ⟨rfl, bndp h fun x12 e13 h => pst rfl <| o_call (a1 (c := (cLs (cXVariable cS cI) rfl)) (tLs (tXVariable tS tK)) rfl (a1 (c := (cLs cI rfl)) (tLs tK) rfl a0)) (con_spec_sPart e13) (.inl (so1 (sLo (sXVariable sS sK)) so0)) ⟨rfl, bndp h fun x14 e15 h => pst rfl <| o_call (a1 (c := (cLo (cXVariable cS cI))) (tLo (tXVariable tS tK)) rfl a0) (con_spec_sCount e15) (.inl (so1 sK so0)) ⟨rfl, ckI_kp h fun i16 h => pst rfl <| b_mul (k := .i64) rfl rfl i16 ⟨rfl, preN <| x_asg (ss rfl rfl) <| seqN [(6, .d (cI.enc ((x9.length : Int) * x14)))] (by kernel_rfl) <|
    xn <| wpC_ret <| re <| fin h (r1 (ss rfl rfl) <| r0) rfl⟩⟩⟩⟩⟩⟩⟩⟩⟩⟩⟩

def rs_spec_uGood (r : Bool) : List D := [cB.enc r]
def m45 : MC := .seq (.reg [⟨some 3, .box (.t 0), none⟩,
    ⟨some 5, .box (.t 2), none⟩,
    ⟨some 6, .asg (.c (.bool false)), none⟩] [1, 3, 5])
  (.seq (.kp [1, 3, 5] (.seq (.reg [⟨some 7, .ld 3 1 true, none⟩,
    ⟨some 8, .call 78 [(.t 7)], none⟩,
    ⟨some 9, .nt (.t 8), none⟩,
    ⟨some 10, .mv (.t 9), none⟩,
    ⟨some 11, .mv (.t 1), some (10, false)⟩,
    ⟨some 12, .call 70 [(.t 11)], some (10, false)⟩,
    ⟨some 13, .nt (.t 12), some (10, false)⟩,
    ⟨some 14, .pick (.t 10) (.c (.bool true)) (.t 13), none⟩,
    ⟨some 15, .mv (.t 14), none⟩,
    ⟨some 16, .ld 3 1 true, some (15, false)⟩,
    ⟨some 17, .fa 5 0 0, some (15, false)⟩,
    ⟨some 18, .ld 17 1 false, some (15, false)⟩,
    ⟨some 19, .call 79 [(.t 16), (.t 18)], some (15, false)⟩,
    ⟨some 20, .len false (.t 19), some (15, false)⟩,
    ⟨some 21, .bin .eql (.t 20) (.c (.int .i64 0)), some (15, false)⟩,
    ⟨some 22, .pick (.t 15) (.c (.bool true)) (.t 21), none⟩,
    ⟨some 23, .mv (.t 22), none⟩,
    ⟨some 24, .fa 5 1 1, some (23, false)⟩,
    ⟨some 25, .ld 24 1 false, some (23, false)⟩,
    ⟨some 26, .mv (.t 1), some (23, false)⟩,
    ⟨some 27, .len false (.t 26), some (23, false)⟩,
    ⟨some 28, .bin .sub (.t 27) (.c (.int .i64 1)), some (23, false)⟩,
    ⟨some 29, .call 80 [(.t 25), (.c (.int .i64 0)), (.t 28)], some (23, false)⟩,
    ⟨some 30, .nt (.t 29), some (23, false)⟩,
    ⟨some 31, .pick (.t 23) (.c (.bool true)) (.t 30), none⟩,
    ⟨some 32, .mv (.t 31), none⟩,
    ⟨some 33, .mv (.t 1), some (32, false)⟩,
    ⟨some 34, .fa 5 2 2, some (32, false)⟩,
    ⟨some 35, .ld 34 1 false, some (32, false)⟩,
    ⟨some 36, .call 81 [(.t 33), (.t 35)], some (32, false)⟩,
    ⟨some 37, .nt (.t 36), some (32, false)⟩,
    ⟨some 38, .pick (.t 32) (.c (.bool true)) (.t 37), none⟩,
    ⟨some 39, .mv (.t 38), none⟩,
    ⟨some 40, .fa 5 3 3, some (39, false)⟩,
    ⟨some 41, .ld 40 1 false, some (39, false)⟩,
    ⟨some 42, .mv (.t 1), some (39, false)⟩,
    ⟨some 43, .len false (.t 42), some (39, false)⟩,
    ⟨some 44, .bin .sub (.t 43) (.c (.int .i64 1)), some (39, false)⟩,
    ⟨some 45, .call 51 [(.t 41), (.c (.int .i64 (-1))), (.t 44)], some (39, false)⟩,
    ⟨some 46, .nt (.t 45), some (39, false)⟩,
    ⟨some 47, .pick (.t 39) (.c (.bool true)) (.t 46), none⟩] [1, 3, 5, 47])
  (.cond (.t 47) (.seq (.reg [⟨some 6, .asg (.c (.bool false)), none⟩] [6])
  (.ret)) (.skip))))
  (.seq (.reg [⟨some 48, .ld 3 1 true, none⟩,
    ⟨some 49, .mv (.t 1), none⟩,
    ⟨some 50, .ld 5 4 true, none⟩,
    ⟨some 51, .call 52 [(.t 48), (.t 49), (.t 50)], none⟩,
    ⟨some 52, .bin .leq (.t 51) (.c (.int .i64 600)), none⟩,
    ⟨some 6, .asg (.t 52), none⟩] [6])
  (.ret)))
theorem con_spec_uGood {v0 : XGeo} {v1 : (List XVariable)} {v2 : XTable} {r : Bool} (h : sh_spec_uGood v0 v1 v2 = some r) : Con Tryd.prog 45 [(cXGeo (cLs cI rfl)).enc v0, (cLs (cXVariable cS cI) rfl).enc v1, (cXTable cI (cLs cI rfl) (cLs cI rfl) cI).enc v2] [] (rs_spec_uGood r) := by
  delta sh_spec_uGood at h
  refine top (out := none) (f := Tryd.f45) (m := m45) (rs := [.t 6]) (by kernel_rfl) rfl (by kernel_rfl) (by kernel_rfl) (by kernel_rfl) (by kernel_rfl) (by kernel_rfl) ?_
  exact
   ini [(0, .d ((cXGeo (cLs cI rfl)).enc v0)), (1, .d ((cLs (cXVariable cS cI) rfl).enc v1)), (2, .d ((cXTable cI (cLs cI rfl) (cLs cI rfl) cI).enc v2))] rfl <| wpC_seq <| reg_s <| x_box (ss rfl rfl) <| x_box (ss rfl rfl) <| x_asg (sc cB false rfl) <| seqN [(1, .d ((cLs (cXVariable cS cI) rfl).enc v1)), (3, .box ((cXGeo (cLs cI rfl)).enc v0)), (5, .box ((cXTable cI (cLs cI rfl) (cLs cI rfl) cI).enc v2))] (by kernel_rfl) <|
    xn <| wpC_seq <| wpC_kp <| wpC_seq <| jw (fun (s70 : Bool) => [(1, .d ((cLs (cXVariable cS cI) rfl).enc v1)), (3, .box ((cXGeo (cLs cI rfl)).enc v0)), (5, .box ((cXTable cI (cLs cI rfl) (cLs cI rfl) cI).enc v2)), (47, .d (cB.enc s70))]) h (fun s70 h => xn <| cnd rfl h (fun b72 h => wpC_seq <| reg_s <| x_asg (sc cB false rfl) <| seqN [(6, .d (cB.enc false))] (by kernel_rfl) <|
    xn <| wpC_ret <| rt <| rt <| re <| fin h (r1 (ss rfl rfl) <| r0) rfl)
    (fun b72 h => wpC_skip <| kpN [(1, .d ((cLs (cXVariable cS cI) rfl).enc v1)), (3, .box ((cXGeo (cLs cI rfl)).enc v0)), (5, .box ((cXTable cI (cLs cI rfl) (cLs cI rfl) cI).enc v2))] (by kernel_rfl) <| xn <| wpC_seq <| reg_s <| st rfl <| ldb rfl rfl rfl rfl <| st rfl <| mvd rfl rfl <| st rfl <| ldb rfl rfl rfl rfl <| bnd h fun x75 e76 h => st rfl <| o_call (a1 (c := (cXGeo (cLs cI rfl))) (tXGeo (tLs tK)) rfl (a1 (c := (cLs (cXVariable cS cI) rfl)) (tLs (tXVariable tS tK)) rfl (a1 (c := (cXTable cI (cLs cI rfl) (cLs cI rfl) cI)) (tXTable tK (tLs tK) (tLs tK) tK) rfl a0))) (con_spec_uCount e76) (.inl (so1 sK so0)) <| st rfl <| b_leq (k := .i64) rfl rfl <| x_asg (ss rfl rfl) <| seqN [(6, .d (cB.enc (decide (x75 ≤ (600 : Int)))))] (by kernel_rfl) <|
    xn <| wpC_ret <| re <| fin h (r1 (ss rfl rfl) <| r0) rfl))
    fun s70' q71 h => reg_s <| st rfl <| ldb rfl rfl rfl rfl <| bnd h fun x77 e78 h => st rfl <| o_call (a1 (c := (cXGeo (cLs cI rfl))) (tXGeo (tLs tK)) rfl a0) (con_spec_gGood e78) (.inl (so1 sB so0)) <| st rfl <| o_nt rfl <| st rfl <| mvd rfl rfl <| ite_k h (fun b79 h => gf rfl b79 <| gf rfl b79 <| gf rfl b79 <| st rfl <| pick1 rfl b79 (cd := cB) (v := true) rfl rfl <| st rfl <| mvd rfl rfl <| gf rfl rfl <| gf rfl rfl <| gf rfl rfl <| gf rfl rfl <| gf rfl rfl <| gf rfl rfl <| st rfl <| pick1 rfl rfl (cd := cB) (v := true) rfl rfl <| st rfl <| mvd rfl rfl <| gf rfl rfl <| gf rfl rfl <| gf rfl rfl <| gf rfl rfl <| gf rfl rfl <| gf rfl rfl <| gf rfl rfl <| st rfl <| pick1 rfl rfl (cd := cB) (v := true) rfl rfl <| st rfl <| mvd rfl rfl <| gf rfl rfl <| gf rfl rfl <| gf rfl rfl <| gf rfl rfl <| gf rfl rfl <| st rfl <| pick1 rfl rfl (cd := cB) (v := true) rfl rfl <| st rfl <| mvd rfl rfl <| gf rfl rfl <| gf rfl rfl <| gf rfl rfl <| gf rfl rfl <| gf rfl rfl <| gf rfl rfl <| gf rfl rfl <| st rfl <| pick1 rfl rfl (cd := cB) (v := true) rfl rfl <| seqN [(1, .d ((cLs (cXVariable cS cI) rfl).enc v1)), (3, .box ((cXGeo (cLs cI rfl)).enc v0)), (5, .box ((cXTable cI (cLs cI rfl) (cLs cI rfl) cI).enc v2)), (47, .d (cB.enc true))] (by kernel_rfl) <|
    lfn (S := (fun (s70 : Bool) => [(1, .d ((cLs (cXVariable cS cI) rfl).enc v1)), (3, .box ((cXGeo (cLs cI rfl)).enc v0)), (5, .box ((cXTable cI (cLs cI rfl) (cLs cI rfl) cI).enc v2)), (47, .d (cB.enc s70))])) h q71 rfl)
    (fun b79 h => gt' rfl b79 <| st rfl <| mvd rfl rfl <| gt' rfl b79 <| bnd h fun x80 e81 h => st rfl <| o_call (a1 (c := (cLs (cXVariable cS cI) rfl)) (tLs (tXVariable tS tK)) rfl a0) (con_spec_sGood e81) (.inl (so1 sB so0)) <| gt' rfl b79 <| st rfl <| o_nt rfl <| st rfl <| pick0 rfl b79 (cd := cB) (v := (!x80)) rfl rfl <| st rfl <| mvd rfl rfl <| ite_k h (fun b82 h => gf rfl b82 <| gf rfl b82 <| gf rfl b82 <| gf rfl b82 <| gf rfl b82 <| gf rfl b82 <| st rfl <| pick1 rfl b82 (cd := cB) (v := true) rfl rfl <| st rfl <| mvd rfl rfl <| gf rfl rfl <| gf rfl rfl <| gf rfl rfl <| gf rfl rfl <| gf rfl rfl <| gf rfl rfl <| gf rfl rfl <| st rfl <| pick1 rfl rfl (cd := cB) (v := true) rfl rfl <| st rfl <| mvd rfl rfl <| gf rfl rfl <| gf rfl rfl <| gf rfl rfl <| gf rfl rfl <| gf rfl rfl <| st rfl <| pick1 rfl rfl (cd := cB) (v := true) rfl rfl <| st rfl <| mvd rfl rfl <| gf rfl rfl <| gf rfl rfl <| gf rfl rfl <| gf rfl rfl <| gf rfl rfl <| gf rfl rfl <| gf rfl rfl <| st rfl <| pick1 rfl rfl (cd := cB) (v := true) rfl rfl <| seqN [(1, .d ((cLs (cXVariable cS cI) rfl).enc v1)), (3, .box ((cXGeo (cLs cI rfl)).enc v0)), (5, .box ((cXTable cI (cLs cI rfl) (cLs cI rfl) cI).enc v2)), (47, .d (cB.enc true))] (by kernel_rfl) <|
    lfn (S := (fun (s70 : Bool) => [(1, .d ((cLs (cXVariable cS cI) rfl).enc v1)), (3, .box ((cXGeo (cLs cI rfl)).enc v0)), (5, .box ((cXTable cI (cLs cI rfl) (cLs cI rfl) cI).enc v2)), (47, .d (cB.enc s70))])) h q71 rfl)
    (fun b82 h => gt' rfl b82 <| st rfl <| ldb rfl rfl rfl rfl <| gt' rfl b82 <| st rfl <| fab rfl rfl rfl rfl <| gt' rfl b82 <| st rfl <| lda rfl rfl rfl rfl rfl rfl <| gt' rfl b82 <| bnd h fun x83 e84 h => st rfl <| o_call (a1 (c := (cXGeo (cLs cI rfl))) (tXGeo (tLs tK)) rfl (a1 (c := cI) tK rfl a0)) (con_spec_gLevel e84) (.inl (so1 (sLo sK) so0)) <| gt' rfl b82 <| stw rfl <| leno rfl fun l85 => gt' rfl b82 <| st rfl <| b_eql (k := .i64) rfl rfl <| st rfl <| pick0 rfl b82 (cd := cB) (v := (decide ((x83.length : Int) = (0 : Int)))) rfl rfl <| st rfl <| mvd rfl rfl <| ite_k h (fun b86 h => gf rfl b86 <| gf rfl b86 <| gf rfl b86 <| gf rfl b86 <| gf rfl b86 <| gf rfl b86 <| gf rfl b86 <| st rfl <| pick1 rfl b86 (cd := cB) (v := true) rfl rfl <| st rfl <| mvd rfl rfl <| gf rfl rfl <| gf rfl rfl <| gf rfl rfl <| gf rfl rfl <| gf rfl rfl <| st rfl <| pick1 rfl rfl (cd := cB) (v := true) rfl rfl <| st rfl <| mvd rfl rfl <| gf rfl rfl <| gf rfl rfl <| gf rfl rfl <| gf rfl rfl <| gf rfl rfl <| gf rfl rfl <| gf rfl rfl <| st rfl <| pick1 rfl rfl (cd := cB) (v := true) rfl rfl <| seqN [(1, .d ((cLs (cXVariable cS cI) rfl).enc v1)), (3, .box ((cXGeo (cLs cI rfl)).enc v0)), (5, .box ((cXTable cI (cLs cI rfl) (cLs cI rfl) cI).enc v2)), (47, .d (cB.enc true))] (by kernel_rfl) <|
    lfn (S := (fun (s70 : Bool) => [(1, .d ((cLs (cXVariable cS cI) rfl).enc v1)), (3, .box ((cXGeo (cLs cI rfl)).enc v0)), (5, .box ((cXTable cI (cLs cI rfl) (cLs cI rfl) cI).enc v2)), (47, .d (cB.enc s70))])) h q71 rfl)
    (fun b86 h => gt' rfl b86 <| st rfl <| fab rfl rfl rfl rfl <| gt' rfl b86 <| st rfl <| lda rfl rfl rfl rfl rfl rfl <| gt' rfl b86 <| st rfl <| mvd rfl rfl <| gt' rfl b86 <| stw rfl <| lens rfl fun l87 => gt' rfl b86 <| ckI_k h fun i88 h => st rfl <| b_sub (k := .i64) rfl rfl i88 <| gt' rfl b86 <| bnd h fun x89 e90 h => st rfl <| o_call (a1 (c := (cLs cI rfl)) (tLs tK) rfl (a1 (c := cI) tK rfl (a1 (c := cI) tK rfl a0))) (con_spec_l1Rising e90) (.inl (so1 sB so0)) <| gt' rfl b86 <| st rfl <| o_nt rfl <| st rfl <| pick0 rfl b86 (cd := cB) (v := (!x89)) rfl rfl <| st rfl <| mvd rfl rfl <| ite_k h (fun b91 h => gf rfl b91 <| gf rfl b91 <| gf rfl b91 <| gf rfl b91 <| gf rfl b91 <| st rfl <| pick1 rfl b91 (cd := cB) (v := true) rfl rfl <| st rfl <| mvd rfl rfl <| gf rfl rfl <| gf rfl rfl <| gf rfl rfl <| gf rfl rfl <| gf rfl rfl <| gf rfl rfl <| gf rfl rfl <| st rfl <| pick1 rfl rfl (cd := cB) (v := true) rfl rfl <| seqN [(1, .d ((cLs (cXVariable cS cI) rfl).enc v1)), (3, .box ((cXGeo (cLs cI rfl)).enc v0)), (5, .box ((cXTable cI (cLs cI rfl) (cLs cI rfl) cI).enc v2)), (47, .d (cB.enc true))] (by kernel_rfl) <|
    lfn (S := (fun (s70 : Bool) => [(1, .d ((cLs (cXVariable cS cI) rfl).enc v1)), (3, .box ((cXGeo (cLs cI rfl)).enc v0)), (5, .box ((cXTable cI (cLs cI rfl) (cLs cI rfl) cI).enc v2)), (47, .d (cB.enc s70))])) h q71 rfl)
    (fun b91 h => gt' rfl b91 <| st rfl <| mvd rfl rfl <| gt' rfl b91 <| st rfl <| fab rfl rfl rfl rfl <| gt' rfl b91 <| st rfl <| lda rfl rfl rfl rfl rfl rfl <| gt' rfl b91 <| bnd h fun x92 e93 h => st rfl <| o_call (a1 (c := (cLs (cXVariable cS cI) rfl)) (tLs (tXVariable tS tK)) rfl (a1 (c := (cLs cI rfl)) (tLs tK) rfl a0)) (con_spec_uWhere e93) (.inl (so1 sB so0)) <| gt' rfl b91 <| st rfl <| o_nt rfl <| st rfl <| pick0 rfl b91 (cd := cB) (v := (!x92)) rfl rfl <| st rfl <| mvd rfl rfl <| ite_k h (fun b94 h => gf rfl b94 <| gf rfl b94 <| gf rfl b94 <| gf rfl b94 <| gf rfl b94 <| gf rfl b94 <| gf rfl b94 <| st rfl <| pick1 rfl b94 (cd := cB) (v := true) rfl rfl <| seqN [(1, .d ((cLs (cXVariable cS cI) rfl).enc v1)), (3, .box ((cXGeo (cLs cI rfl)).enc v0)), (5, .box ((cXTable cI (cLs cI rfl) (cLs cI rfl) cI).enc v2)), (47, .d (cB.enc true))] (by kernel_rfl) <|
    lfn (S := (fun (s70 : Bool) => [(1, .d ((cLs (cXVariable cS cI) rfl).enc v1)), (3, .box ((cXGeo (cLs cI rfl)).enc v0)), (5, .box ((cXTable cI (cLs cI rfl) (cLs cI rfl) cI).enc v2)), (47, .d (cB.enc s70))])) h q71 rfl)
    (fun b94 h => gt' rfl b94 <| st rfl <| fab rfl rfl rfl rfl <| gt' rfl b94 <| st rfl <| lda rfl rfl rfl rfl rfl rfl <| gt' rfl b94 <| st rfl <| mvd rfl rfl <| gt' rfl b94 <| stw rfl <| lens rfl fun l95 => gt' rfl b94 <| ckI_k h fun i96 h => st rfl <| b_sub (k := .i64) rfl rfl i96 <| gt' rfl b94 <| bnd h fun x97 e98 h => st rfl <| o_call (a1 (c := cI) tK rfl (a1 (c := cI) tK rfl (a1 (c := cI) tK rfl a0))) (con_spec_l1In e98) (.inl (so1 sB so0)) <| gt' rfl b94 <| st rfl <| o_nt rfl <| st rfl <| pick0 rfl b94 (cd := cB) (v := (!x97)) rfl rfl <| seqN [(1, .d ((cLs (cXVariable cS cI) rfl).enc v1)), (3, .box ((cXGeo (cLs cI rfl)).enc v0)), (5, .box ((cXTable cI (cLs cI rfl) (cLs cI rfl) cI).enc v2)), (47, .d (cB.enc (!x97)))] (by kernel_rfl) <|
    lfn (S := (fun (s70 : Bool) => [(1, .d ((cLs (cXVariable cS cI) rfl).enc v1)), (3, .box ((cXGeo (cLs cI rfl)).enc v0)), (5, .box ((cXTable cI (cLs cI rfl) (cLs cI rfl) cI).enc v2)), (47, .d (cB.enc s70))])) h q71 rfl)))))

def rs_spec_nNames (r : (List UInt8)) : List D := [cS.enc r]
def m83 : MC := .seq (.reg [⟨some 4, .asg (.c (.str [])), none⟩] [0, 1])
  (.seq (.reg [⟨some 5, .asg (.c (.str [])), none⟩] [0, 1, 5])
  (.seq (.kp [5] (.seq (.reg [⟨some 8, .mv (.t 1), none⟩,
    ⟨some 9, .len false (.t 8), none⟩,
    ⟨some 10, .mv (.c (.int .i64 0)), none⟩] [0, 1, 5, 8, 9, 10])
  (.blk 0 (.loop (.seq (.reg [⟨some 11, .bin .lss (.t 10) (.t 9), none⟩] [0, 1, 5, 8, 9, 10, 11])
  (.seq (.kp [0, 1, 5, 8, 9, 10] (.cond (.t 11) (.skip) (.exit 0)))
  (.seq (.kp [0, 1, 5, 8, 9, 10] (.blk 1 (.seq (.reg [⟨some 12, .mv (.t 10), none⟩,
    ⟨some 13, .ia 8 (.t 10) 1, none⟩,
    ⟨some 14, .ld 13 1 false, none⟩,
    ⟨some 6, .asg (.t 12), none⟩,
    ⟨some 7, .asg (.t 14), none⟩] [0, 1, 5, 6, 7, 8, 9, 10])
  (.seq (.kp [0, 1, 5, 7, 8, 9, 10] (.seq (.reg [⟨some 15, .mv (.t 6), none⟩,
    ⟨some 16, .bin .gtr (.t 15) (.c (.int .i64 0)), none⟩] [0, 1, 5, 7, 8, 9, 10, 16])
  (.cond (.t 16) (.reg [⟨some 17, .mv (.t 5), none⟩,
    ⟨some 18, .bin .add (.t 17) (.c (.str [44])), none⟩,
    ⟨some 5, .asg (.t 18), none⟩] [0, 1, 5, 7, 8, 9, 10]) (.skip))))
  (.reg [⟨some 19, .mv (.t 5), none⟩,
    ⟨some 20, .mv (.t 0), none⟩,
    ⟨some 21, .mv (.t 7), none⟩,
    ⟨some 22, .ia 20 (.t 21) 2, none⟩,
    ⟨some 23, .fa 22 0 0, none⟩,
    ⟨some 24, .ld 23 1 false, none⟩,
    ⟨some 25, .bin .add (.t 19) (.t 24), none⟩,
    ⟨some 5, .asg (.t 25), none⟩] [0, 1, 5, 8, 9, 10])))))
  (.reg [⟨some 26, .bin .add (.t 10) (.c (.int .i64 1)), none⟩,
    ⟨some 10, .mv (.t 26), none⟩] [0, 1, 5, 8, 9, 10]))))))))
  (.seq (.reg [⟨some 27, .mv (.t 5), none⟩,
    ⟨some 4, .asg (.t 27), none⟩] [4])
  (.ret))))
theorem con_spec_nNames {v0 : (List XVariable)} {v1 : (List Int)} {r : (List UInt8)} (h : sh_spec_nNames v0 v1 = some r) : Con Tryd.prog 83 [(cLs (cXVariable cS cI) rfl).enc v0, (cLs cI rfl).enc v1] [] (rs_spec_nNames r) := by
  delta sh_spec_nNames at h
  refine top (out := none) (f := Tryd.f83) (m := m83) (rs := [.t 4]) (by kernel_rfl) rfl (by kernel_rfl) (by kernel_rfl) (by kernel_rfl) (by kernel_rfl) (by kernel_rfl) ?_
  exact
   ini [(0, .d ((cLs (cXVariable cS cI) rfl).enc v0)), (1, .d ((cLs cI rfl).enc v1))] rfl <| wpC_seq <| reg_s <| x_asg (sc cS ([] : List UInt8) rfl) <| seqN [(0, .d ((cLs (cXVariable cS cI) rfl).enc v0)), (1, .d ((cLs cI rfl).enc v1))] (by kernel_rfl) <|
    xn <| wpC_seq <| reg_s <| x_asg (sc cS ([] : List UInt8) rfl) <| seqN [(0, .d ((cLs (cXVariable cS cI) rfl).enc v0)), (1, .d ((cLs cI rfl).enc v1)), (5, .d (cS.enc ([] : List UInt8)))] (by kernel_rfl) <|
    xn <| wpC_seq <| wpC_kp <| wpC_seq <| reg_s <| st rfl <| mvd rfl rfl <| stw rfl <| lens rfl fun l72 => st rfl <| mvc cI (0 : Int) rfl <| seqN [(0, .d ((cLs (cXVariable cS cI) rfl).enc v0)), (1, .d ((cLs cI rfl).enc v1)), (5, .d (cS.enc ([] : List UInt8))), (8, .d ((cLs cI rfl).enc v1)), (9, .d (cI.enc (v1.length : Int))), (10, .d (cI.enc (0 : Int)))] (by kernel_rfl) <|
    xn <| wpC_blk <| lpR (fun (k74 : Nat) (s73 : (List UInt8)) => [(0, .d ((cLs (cXVariable cS cI) rfl).enc v0)), (1, .d ((cLs cI rfl).enc v1)), (5, .d (cS.enc s73)), (8, .d ((cLs cI rfl).enc v1)), (9, .d (cI.enc (v1.length : Int))), (10, .d (cI.enc (k74 : Int)))]) ([] : List UInt8) rfl h
    (fun G120 s73 h => wpC_seq <| reg_s <| st rfl <| b_lss (k := .i64) rfl rfl <| seqN [(0, .d ((cLs (cXVariable cS cI) rfl).enc v0)), (1, .d ((cLs cI rfl).enc v1)), (5, .d (cS.enc s73)), (8, .d ((cLs cI rfl).enc v1)), (9, .d (cI.enc (v1.length : Int))), (10, .d (cI.enc (v1.length : Int))), (11, .d (cB.enc (decide ((v1.length : Int) < (v1.length : Int)))))] (by kernel_rfl) <|
    xn <| wpC_seq <| wpC_kp <| cnd0 rfl (dlf _) <| wpC_exit <| xt <| xt <| xt <| xb <| kpN [(5, .d (cS.enc s73))] (by kernel_rfl) <| xn <| wpC_seq <| reg_s <| st rfl <| mvd rfl rfl <| x_asg (ss rfl rfl) <| seqN [(4, .d (cS.enc s73))] (by kernel_rfl) <|
    xn <| wpC_ret <| re <| fin h (r1 (ss rfl rfl) <| r0) rfl)
    (fun G120 nx118 k74 s73 x75 hk76 hx77 hn119 h => wpC_seq <| reg_s <| st rfl <| b_lss (k := .i64) rfl rfl <| seqN [(0, .d ((cLs (cXVariable cS cI) rfl).enc v0)), (1, .d ((cLs cI rfl).enc v1)), (5, .d (cS.enc s73)), (8, .d ((cLs cI rfl).enc v1)), (9, .d (cI.enc (v1.length : Int))), (10, .d (cI.enc (k74 : Int))), (11, .d (cB.enc (decide ((k74 : Int) < (v1.length : Int)))))] (by kernel_rfl) <|
    xn <| wpC_seq <| wpC_kp <| cnd1 rfl (dlt hk76) <| wpC_skip <| kpN [(0, .d ((cLs (cXVariable cS cI) rfl).enc v0)), (1, .d ((cLs cI rfl).enc v1)), (5, .d (cS.enc s73)), (8, .d ((cLs cI rfl).enc v1)), (9, .d (cI.enc (v1.length : Int))), (10, .d (cI.enc (k74 : Int)))] (by kernel_rfl) <| xn <| wpC_seq <| wpC_kp <| wpC_blk <| wpC_seq <| reg_s <| st rfl <| mvd rfl rfl <| st rfl <| ias rfl rfl (Int.natCast_nonneg _) hx77 rfl <| st rfl <| ldi rfl rfl rfl rfl <| x_asg (ss rfl rfl) <| x_asg (ss rfl rfl) <| seqN [(0, .d ((cLs (cXVariable cS cI) rfl).enc v0)), (1, .d ((cLs cI rfl).enc v1)), (5, .d (cS.enc s73)), (6, .d (cI.enc (k74 : Int))), (7, .d (cI.enc x75)), (8, .d ((cLs cI rfl).enc v1)), (9, .d (cI.enc (v1.length : Int))), (10, .d (cI.enc (k74 : Int)))] (by kernel_rfl) <|
    xn <| wpC_seq <| jw (fun (s133 : (List UInt8)) => [(0, .d ((cLs (cXVariable cS cI) rfl).enc v0)), (1, .d ((cLs cI rfl).enc v1)), (5, .d (cS.enc s133)), (7, .d (cI.enc x75)), (8, .d ((cLs cI rfl).enc v1)), (9, .d (cI.enc (v1.length : Int))), (10, .d (cI.enc (k74 : Int)))]) h (fun s133 h => xn <| reg_s <| st rfl <| mvd rfl rfl <| st rfl <| mvd rfl rfl <| st rfl <| mvd rfl rfl <| getO_k h fun x135 i136 g137 h => st rfl <| ias rfl rfl i136 g137 rfl <| st rfl <| fai rfl rfl rfl rfl <| st rfl <| ldi rfl rfl rfl rfl <| lnO_k h fun l138 h => st rfl <| b_cat rfl rfl l138 <| x_asg (ss rfl rfl) <| seqN [(0, .d ((cLs (cXVariable cS cI) rfl).enc v0)), (1, .d ((cLs cI rfl).enc v1)), (5, .d (cS.enc (s133 ++ x135.Name))), (8, .d ((cLs cI rfl).enc v1)), (9, .d (cI.enc (v1.length : Int))), (10, .d (cI.enc (k74 : Int)))] (by kernel_rfl) <|
    xbb <| kpN [(0, .d ((cLs (cXVariable cS cI) rfl).enc v0)), (1, .d ((cLs cI rfl).enc v1)), (5, .d (cS.enc (s133 ++ x135.Name))), (8, .d ((cLs cI rfl).enc v1)), (9, .d (cI.enc (v1.length : Int))), (10, .d (cI.enc (k74 : Int)))] (by kernel_rfl) <| xn <| reg_s <| st rfl <| b_inc rfl rfl l72 hk76 <| st rfl <| mvd rfl rfl <| seqN [(0, .d ((cLs (cXVariable cS cI) rfl).enc v0)), (1, .d ((cLs cI rfl).enc v1)), (5, .d (cS.enc (s133 ++ x135.Name))), (8, .d ((cLs cI rfl).enc v1)), (9, .d (cI.enc (v1.length : Int))), (10, .d (cI.enc ((k74 + 1 : Nat) : Int)))] (by kernel_rfl) <|
    xn <| hn119 (s133 ++ x135.Name) h)
    fun s133' q134 h => wpC_kp <| wpC_seq <| reg_s <| st rfl <| mvd rfl rfl <| st rfl <| b_gtr (k := .i64) rfl rfl <| seqN [(0, .d ((cLs (cXVariable cS cI) rfl).enc v0)), (1, .d ((cLs cI rfl).enc v1)), (5, .d (cS.enc s73)), (7, .d (cI.enc x75)), (8, .d ((cLs cI rfl).enc v1)), (9, .d (cI.enc (v1.length : Int))), (10, .d (cI.enc (k74 : Int))), (16, .d (cB.enc (decide ((0 : Int) < (k74 : Int)))))] (by kernel_rfl) <|
    xn <| cnd rfl h (fun b139 h => reg_s <| st rfl <| mvd rfl rfl <| lnO_k h fun l140 h => st rfl <| b_cat rfl rfl l140 <| x_asg (ss rfl rfl) <| seqN [(0, .d ((cLs (cXVariable cS cI) rfl).enc v0)), (1, .d ((cLs cI rfl).enc v1)), (5, .d (cS.enc (s73 ++ ([44] : List UInt8)))), (7, .d (cI.enc x75)), (8, .d ((cLs cI rfl).enc v1)), (9, .d (cI.enc (v1.length : Int))), (10, .d (cI.enc (k74 : Int)))] (by kernel_rfl) <|
    kpN [(0, .d ((cLs (cXVariable cS cI) rfl).enc v0)), (1, .d ((cLs cI rfl).enc v1)), (5, .d (cS.enc (s73 ++ ([44] : List UInt8)))), (7, .d (cI.enc x75)), (8, .d ((cLs cI rfl).enc v1)), (9, .d (cI.enc (v1.length : Int))), (10, .d (cI.enc (k74 : Int)))] (by kernel_rfl) <| lfn (S := (fun (s133 : (List UInt8)) => [(0, .d ((cLs (cXVariable cS cI) rfl).enc v0)), (1, .d ((cLs cI rfl).enc v1)), (5, .d (cS.enc s133)), (7, .d (cI.enc x75)), (8, .d ((cLs cI rfl).enc v1)), (9, .d (cI.enc (v1.length : Int))), (10, .d (cI.enc (k74 : Int)))])) h q134 rfl)
    (fun b139 h => wpC_skip <| kpN [(0, .d ((cLs (cXVariable cS cI) rfl).enc v0)), (1, .d ((cLs cI rfl).enc v1)), (5, .d (cS.enc s73)), (7, .d (cI.enc x75)), (8, .d ((cLs cI rfl).enc v1)), (9, .d (cI.enc (v1.length : Int))), (10, .d (cI.enc (k74 : Int)))] (by kernel_rfl) <| lfn (S := (fun (s133 : (List UInt8)) => [(0, .d ((cLs (cXVariable cS cI) rfl).enc v0)), (1, .d ((cLs cI rfl).enc v1)), (5, .d (cS.enc s133)), (7, .d (cI.enc x75)), (8, .d ((cLs cI rfl).enc v1)), (9, .d (cI.enc (v1.length : Int))), (10, .d (cI.enc (k74 : Int)))])) h q134 rfl))

def rs_spec_nTable (r : (List UInt8)) : List D := [cS.enc r]
def m46 : MC := .seq (.reg [⟨some 3, .box (.t 1), none⟩,
    ⟨some 4, .asg (.c (.str [])), none⟩] [0, 3])
  (.seq (.reg [⟨some 5, .asg (.c (.str [99, 111, 117, 110, 116])), none⟩] [0, 3, 5])
  (.seq (.kp [0, 3, 5] (.seq (.reg [⟨some 11, .fa 3 3 3, none⟩,
    ⟨some 12, .ld 11 1 false, none⟩,
    ⟨some 13, .bin .geq (.t 12) (.c (.int .i64 0)), none⟩] [0, 3, 5, 13])
  (.cond (.t 13) (.reg [⟨some 14, .mv (.t 0), none⟩,
    ⟨some 15, .fa 3 3 3, none⟩,
    ⟨some 16, .ld 15 1 false, none⟩,
    ⟨some 17, .ia 14 (.t 16) 2, none⟩,
    ⟨some 18, .fa 17 0 0, none⟩,
    ⟨some 19, .ld 18 1 false, none⟩,
    ⟨some 20, .bin .add (.c (.str [115, 117, 109, 32])) (.t 19), none⟩,
    ⟨some 5, .asg (.t 20), none⟩] [0, 3, 5]) (.skip))))
  (.seq (.reg [⟨some 21, .mv (.t 5), none⟩,
    ⟨some 22, .fa 3 0 0, none⟩,
    ⟨some 23, .ld 22 1 false, none⟩,
    ⟨some 24, .call 82 [(.t 23)], none⟩,
    ⟨some 25, .bin .add (.c (.str [32, 108, 101, 118, 101, 108, 32])) (.t 24), none⟩,
    ⟨some 26, .bin .add (.t 21) (.t 25), none⟩,
    ⟨some 5, .asg (.t 26), none⟩] [0, 3, 5])
  (.seq (.kp [0, 3, 5] (.seq (.reg [⟨some 27, .fa 3 1 1, none⟩,
    ⟨some 28, .ld 27 1 false, none⟩,
    ⟨some 29, .len false (.t 28), none⟩,
    ⟨some 30, .bin .gtr (.t 29) (.c (.int .i64 0)), none⟩] [0, 3, 5, 30])
  (.cond (.t 30) (.reg [⟨some 31, .mv (.t 5), none⟩,
    ⟨some 32, .mv (.t 0), none⟩,
    ⟨some 33, .fa 3 1 1, none⟩,
    ⟨some 34, .ld 33 1 false, none⟩,
    ⟨some 35, .call 83 [(.t 32), (.t 34)], none⟩,
    ⟨some 36, .bin .add (.c (.str [32, 98, 121, 32])) (.t 35), none⟩,
    ⟨some 37, .bin .add (.t 31) (.t 36), none⟩,
    ⟨some 5, .asg (.t 37), none⟩] [0, 3, 5]) (.skip))))
  (.seq (.reg [⟨some 6, .asg (.c (.bool true)), none⟩] [0, 3, 5, 6])
  (.seq (.kp [5] (.seq (.reg [⟨some 38, .fa 3 2 2, none⟩,
    ⟨some 39, .ld 38 1 false, none⟩,
    ⟨some 40, .len false (.t 39), none⟩,
    ⟨some 41, .mv (.c (.int .i64 0)), none⟩] [0, 3, 5, 6, 38, 39, 40, 41])
  (.blk 0 (.loop (.seq (.reg [⟨some 42, .bin .lss (.t 41) (.t 40), none⟩] [0, 3, 5, 6, 38, 39, 40, 41, 42])
  (.seq (.kp [0, 3, 5, 6, 38, 39, 40, 41] (.cond (.t 42) (.skip) (.exit 0)))
  (.seq (.kp [0, 3, 5, 6, 38, 39, 40, 41] (.blk 1 (.seq (.reg [⟨some 43, .mv (.t 41), none⟩,
    ⟨some 44, .ia 39 (.t 41) 1, none⟩,
    ⟨some 45, .ld 44 1 false, none⟩,
    ⟨some 7, .asg (.t 43), none⟩,
    ⟨some 8, .asg (.t 45), none⟩] [0, 3, 5, 6, 7, 8, 38, 39, 40, 41])
  (.seq (.kp [0, 3, 5, 6, 7, 8, 38, 39, 40, 41] (.seq (.reg [⟨some 46, .mv (.t 8), none⟩,
    ⟨some 47, .bin .eql (.t 46) (.c (.int .i64 0)), none⟩] [0, 3, 5, 6, 7, 8, 38, 39, 40, 41, 47])
  (.cond (.t 47) (.exit 1) (.skip))))
  (.seq (.kp [0, 3, 5, 6, 7, 8, 38, 39, 40, 41] (.seq (.reg [⟨some 48, .mv (.t 6), none⟩] [0, 3, 5, 6, 7, 8, 38, 39, 40, 41, 48])
  (.cond (.t 48) (.seq (.reg [⟨some 49, .mv (.t 5), none⟩,
    ⟨some 50, .bin .add (.t 49) (.c (.str [32, 119, 104, 101, 114, 101])), none⟩,
    ⟨some 5, .asg (.t 50), none⟩] [0, 3, 5, 7, 8, 38, 39, 40, 41])
  (.reg [⟨some 6, .asg (.c (.bool false)), none⟩] [0, 3, 5, 6, 7, 8, 38, 39, 40, 41])) (.skip))))
  (.seq (.reg [⟨some 51, .mv (.t 5), none⟩,
    ⟨some 52, .mv (.t 0), none⟩,
    ⟨some 53, .mv (.t 7), none⟩,
    ⟨some 54, .ia 52 (.t 53) 2, none⟩,
    ⟨some 55, .fa 54 0 0, none⟩,
    ⟨some 56, .ld 55 1 false, none⟩,
    ⟨some 57, .bin .add (.c (.str [32])) (.t 56), none⟩,
    ⟨some 58, .bin .add (.t 57) (.c (.str [61])), none⟩,
    ⟨some 59, .bin .add (.t 51) (.t 58), none⟩,
    ⟨some 5, .asg (.t 59), none⟩] [0, 3, 5, 6, 8, 38, 39, 40, 41])
  (.seq (.reg [⟨some 60, .mv (.t 8), none⟩,
    ⟨some 61, .call 84 [(.t 60)], none⟩,
    ⟨some 62, .len false (.t 61), none⟩,
    ⟨some 63, .mv (.c (.int .i64 0)), none⟩] [0, 3, 5, 6, 38, 39, 40, 41, 61, 62, 63])
  (.blk 2 (.loop (.seq (.reg [⟨some 64, .bin .lss (.t 63) (.t 62), none⟩] [0, 3, 5, 6, 38, 39, 40, 41, 61, 62, 63, 64])
  (.seq (.kp [0, 3, 5, 6, 38, 39, 40, 41, 61, 62, 63] (.cond (.t 64) (.skip) (.exit 2)))
  (.seq (.kp [0, 3, 5, 6, 38, 39, 40, 41, 61, 62, 63] (.blk 3 (.seq (.reg [⟨some 65, .mv (.t 63), none⟩,
    ⟨some 66, .ia 61 (.t 63) 1, none⟩,
    ⟨some 67, .ld 66 1 false, none⟩,
    ⟨some 9, .asg (.t 65), none⟩,
    ⟨some 10, .asg (.t 67), none⟩] [0, 3, 5, 6, 9, 10, 38, 39, 40, 41, 61, 62, 63])
  (.seq (.kp [0, 3, 5, 6, 10, 38, 39, 40, 41, 61, 62, 63] (.seq (.reg [⟨some 68, .mv (.t 9), none⟩,
    ⟨some 69, .bin .gtr (.t 68) (.c (.int .i64 0)), none⟩] [0, 3, 5, 6, 10, 38, 39, 40, 41, 61, 62, 63, 69])
  (.cond (.t 69) (.reg [⟨some 70, .mv (.t 5), none⟩,
    ⟨some 71, .bin .add (.t 70) (.c (.str [44])), none⟩,
    ⟨some 5, .asg (.t 71), none⟩] [0, 3, 5, 6, 10, 38, 39, 40, 41, 61, 62, 63]) (.skip))))
  (.reg [⟨some 72, .mv (.t 5), none⟩,
    ⟨some 73, .mv (.t 10), none⟩,
    ⟨some 74, .call 82 [(.t 73)], none⟩,
    ⟨some 75, .bin .add (.t 72) (.t 74), none⟩,
    ⟨some 5, .asg (.t 75), none⟩] [0, 3, 5, 6, 38, 39, 40, 41, 61, 62, 63])))))
  (.reg [⟨some 76, .bin .add (.t 63) (.c (.int .i64 1)), none⟩,
    ⟨some 63, .mv (.t 76), none⟩] [0, 3, 5, 6, 38, 39, 40, 41, 61, 62, 63])))))))))))))
  (.reg [⟨some 77, .bin .add (.t 41) (.c (.int .i64 1)), none⟩,
    ⟨some 41, .mv (.t 77), none⟩] [0, 3, 5, 6, 38, 39, 40, 41]))))))))
  (.seq (.reg [⟨some 78, .mv (.t 5), none⟩,
    ⟨some 4, .asg (.t 78), none⟩] [4])
  (.ret))))))))
theorem con_spec_nTable {v0 : (List XVariable)} {v1 : XTable} {r : (List UInt8)} (h : sh_spec_nTable v0 v1 = some r) : Con Tryd.prog 46 [(cLs (cXVariable cS cI) rfl).enc v0, (cXTable cI (cLs cI rfl) (cLs cI rfl) cI).enc v1] [] (rs_spec_nTable r) := by
  delta sh_spec_nTable at h
  refine top (out := none) (f := Tryd.f46) (m := m46) (rs := [.t 4]) (by kernel_rfl) rfl (by kernel_rfl) (by kernel_rfl) (by kernel_rfl) (by kernel_rfl) (by kernel_rfl) ?_
  exact
   ini [(0, .d ((cLs (cXVariable cS cI) rfl).enc v0)), (1, .d ((cXTable cI (cLs cI rfl) (cLs cI rfl) cI).enc v1))] rfl <| wpC_seq <| reg_s <| x_box (ss rfl rfl) <| x_asg (sc cS ([] : List UInt8) rfl) <| seqN [(0, .d ((cLs (cXVariable cS cI) rfl).enc v0)), (3, .box ((cXTable cI (cLs cI rfl) (cLs cI rfl) cI).enc v1))] (by kernel_rfl) <|
    xn <| wpC_seq <| reg_s <| x_asg (sc cS ([99, 111, 117, 110, 116] : List UInt8) rfl) <| seqN [(0, .d ((cLs (cXVariable cS cI) rfl).enc v0)), (3, .box ((cXTable cI (cLs cI rfl) (cLs cI rfl) cI).enc v1)), (5, .d (cS.enc ([99, 111, 117, 110, 116] : List UInt8)))] (by kernel_rfl) <|
    xn <| wpC_seq <| jw (fun (s6 : (List UInt8)) => [(0, .d ((cLs (cXVariable cS cI) rfl).enc v0)), (3, .box ((cXTable cI (cLs cI rfl) (cLs cI rfl) cI).enc v1)), (5, .d (cS.enc s6))]) h (fun s6 h => xn <| wpC_seq <| reg_s <| st rfl <| mvd rfl rfl <| st rfl <| fab rfl rfl rfl rfl <| st rfl <| lda rfl rfl rfl rfl rfl rfl <| bnd h fun x12 e13 h => st rfl <| o_call (a1 (c := cI) tK rfl a0) (con_spec_l1Num e13) (.inl (so1 sS so0)) <| lnO_k h fun l14 h => st rfl <| b_cat rfl rfl l14 <| lnO_k h fun l15 h => st rfl <| b_cat rfl rfl l15 <| x_asg (ss rfl rfl) <| seqN [(0, .d ((cLs (cXVariable cS cI) rfl).enc v0)), (3, .box ((cXTable cI (cLs cI rfl) (cLs cI rfl) cI).enc v1)), (5, .d (cS.enc (s6 ++ (([32, 108, 101, 118, 101, 108, 32] : List UInt8) ++ x12))))] (by kernel_rfl) <|
    xn <| wpC_seq <| jw (fun (s23 : (List UInt8)) => [(0, .d ((cLs (cXVariable cS cI) rfl).enc v0)), (3, .box ((cXTable cI (cLs cI rfl) (cLs cI rfl) cI).enc v1)), (5, .d (cS.enc s23))]) h (fun s23 h => xn <| wpC_seq <| reg_s <| x_asg (sc cB true rfl) <| seqN [(0, .d ((cLs (cXVariable cS cI) rfl).enc v0)), (3, .box ((cXTable cI (cLs cI rfl) (cLs cI rfl) cI).enc v1)), (5, .d (cS.enc s23)), (6, .d (cB.enc true))] (by kernel_rfl) <|
    xn <| wpC_seq <| wpC_kp <| wpC_seq <| reg_s <| st rfl <| fab rfl rfl rfl rfl <| st rfl <| lda rfl rfl rfl rfl rfl rfl <| stw rfl <| lens rfl fun l568 => st rfl <| mvc cI (0 : Int) rfl <| seqN [(0, .d ((cLs (cXVariable cS cI) rfl).enc v0)), (3, .box ((cXTable cI (cLs cI rfl) (cLs cI rfl) cI).enc v1)), (5, .d (cS.enc s23)), (6, .d (cB.enc true)), (38, .adr 3 [.fld 2]), (39, .d ((cLs cI rfl).enc v1.Where)), (40, .d (cI.enc (v1.Where.length : Int))), (41, .d (cI.enc (0 : Int)))] (by kernel_rfl) <|
    xn <| wpC_blk <| lpR (fun (k570 : Nat) (s569 : ((List UInt8) × Bool)) => [(0, .d ((cLs (cXVariable cS cI) rfl).enc v0)), (3, .box ((cXTable cI (cLs cI rfl) (cLs cI rfl) cI).enc v1)), (5, .d (cS.enc s569.1)), (6, .d (cB.enc s569.2)), (38, .adr 3 [.fld 2]), (39, .d ((cLs cI rfl).enc v1.Where)), (40, .d (cI.enc (v1.Where.length : Int))), (41, .d (cI.enc (k570 : Int)))]) (s23, true) rfl h
    (fun G928 s569 h => wpC_seq <| reg_s <| st rfl <| b_lss (k := .i64) rfl rfl <| seqN [(0, .d ((cLs (cXVariable cS cI) rfl).enc v0)), (3, .box ((cXTable cI (cLs cI rfl) (cLs cI rfl) cI).enc v1)), (5, .d (cS.enc s569.1)), (6, .d (cB.enc s569.2)), (38, .adr 3 [.fld 2]), (39, .d ((cLs cI rfl).enc v1.Where)), (40, .d (cI.enc (v1.Where.length : Int))), (41, .d (cI.enc (v1.Where.length : Int))), (42, .d (cB.enc (decide ((v1.Where.length : Int) < (v1.Where.length : Int)))))] (by kernel_rfl) <|
    xn <| wpC_seq <| wpC_kp <| cnd0 rfl (dlf _) <| wpC_exit <| xt <| xt <| xt <| xb <| kpN [(5, .d (cS.enc s569.1))] (by kernel_rfl) <| xn <| wpC_seq <| reg_s <| st rfl <| mvd rfl rfl <| x_asg (ss rfl rfl) <| seqN [(4, .d (cS.enc s569.1))] (by kernel_rfl) <|
    xn <| wpC_ret <| re <| fin h (r1 (ss rfl rfl) <| r0) rfl)
    (fun G928 nx926 k570 s569 x571 hk572 hx573 hn927 h => wpC_seq <| reg_s <| st rfl <| b_lss (k := .i64) rfl rfl <| seqN [(0, .d ((cLs (cXVariable cS cI) rfl).enc v0)), (3, .box ((cXTable cI (cLs cI rfl) (cLs cI rfl) cI).enc v1)), (5, .d (cS.enc s569.1)), (6, .d (cB.enc s569.2)), (38, .adr 3 [.fld 2]), (39, .d ((cLs cI rfl).enc v1.Where)), (40, .d (cI.enc (v1.Where.length : Int))), (41, .d (cI.enc (k570 : Int))), (42, .d (cB.enc (decide ((k570 : Int) < (v1.Where.length : Int)))))] (by kernel_rfl) <|
    xn <| wpC_seq <| wpC_kp <| cnd1 rfl (dlt hk572) <| wpC_skip <| kpN [(0, .d ((cLs (cXVariable cS cI) rfl).enc v0)), (3, .box ((cXTable cI (cLs cI rfl) (cLs cI rfl) cI).enc v1)), (5, .d (cS.enc s569.1)), (6, .d (cB.enc s569.2)), (38, .adr 3 [.fld 2]), (39, .d ((cLs cI rfl).enc v1.Where)), (40, .d (cI.enc (v1.Where.length : Int))), (41, .d (cI.enc (k570 : Int)))] (by kernel_rfl) <| xn <| wpC_seq <| wpC_kp <| wpC_blk <| wpC_seq <| reg_s <| st rfl <| mvd rfl rfl <| st rfl <| ias rfl rfl (Int.natCast_nonneg _) hx573 rfl <| st rfl <| ldi rfl rfl rfl rfl <| x_asg (ss rfl rfl) <| x_asg (ss rfl rfl) <| seqN [(0, .d ((cLs (cXVariable cS cI) rfl).enc v0)), (3, .box ((cXTable cI (cLs cI rfl) (cLs cI rfl) cI).enc v1)), (5, .d (cS.enc s569.1)), (6, .d (cB.enc s569.2)), (7, .d (cI.enc (k570 : Int))), (8, .d (cI.enc x571)), (38, .adr 3 [.fld 2]), (39, .d ((cLs cI rfl).enc v1.Where)), (40, .d (cI.enc (v1.Where.length : Int))), (41, .d (cI.enc (k570 : Int)))] (by kernel_rfl) <|
    xn <| wpC_seq <| wpC_kp <| wpC_seq <| reg_s <| st rfl <| mvd rfl rfl <| st rfl <| b_eql (k := .i64) rfl rfl <| seqN [(0, .d ((cLs (cXVariable cS cI) rfl).enc v0)), (3, .box ((cXTable cI (cLs cI rfl) (cLs cI rfl) cI).enc v1)), (5, .d (cS.enc s569.1)), (6, .d (cB.enc s569.2)), (7, .d (cI.enc (k570 : Int))), (8, .d (cI.enc x571)), (38, .adr 3 [.fld 2]), (39, .d ((cLs cI rfl).enc v1.Where)), (40, .d (cI.enc (v1.Where.length : Int))), (41, .d (cI.enc (k570 : Int))), (47, .d (cB.enc (decide (x571 = (0 : Int)))))] (by kernel_rfl) <|
    xn <| cnd rfl h (fun b1020 h => wpC_exit <| xt <| xt <| xb <| kpN [(0, .d ((cLs (cXVariable cS cI) rfl).enc v0)), (3, .box ((cXTable cI (cLs cI rfl) (cLs cI rfl) cI).enc v1)), (5, .d (cS.enc s569.1)), (6, .d (cB.enc s569.2)), (38, .adr 3 [.fld 2]), (39, .d ((cLs cI rfl).enc v1.Where)), (40, .d (cI.enc (v1.Where.length : Int))), (41, .d (cI.enc (k570 : Int)))] (by kernel_rfl) <| xn <| reg_s <| st rfl <| b_inc rfl rfl l568 hk572 <| st rfl <| mvd rfl rfl <| seqN [(0, .d ((cLs (cXVariable cS cI) rfl).enc v0)), (3, .box ((cXTable cI (cLs cI rfl) (cLs cI rfl) cI).enc v1)), (5, .d (cS.enc s569.1)), (6, .d (cB.enc s569.2)), (38, .adr 3 [.fld 2]), (39, .d ((cLs cI rfl).enc v1.Where)), (40, .d (cI.enc (v1.Where.length : Int))), (41, .d (cI.enc ((k570 + 1 : Nat) : Int)))] (by kernel_rfl) <|
    xn <| hn927 (s569.1, s569.2) h)
    (fun b1020 h => wpC_skip <| kpN [(0, .d ((cLs (cXVariable cS cI) rfl).enc v0)), (3, .box ((cXTable cI (cLs cI rfl) (cLs cI rfl) cI).enc v1)), (5, .d (cS.enc s569.1)), (6, .d (cB.enc s569.2)), (7, .d (cI.enc (k570 : Int))), (8, .d (cI.enc x571)), (38, .adr 3 [.fld 2]), (39, .d ((cLs cI rfl).enc v1.Where)), (40, .d (cI.enc (v1.Where.length : Int))), (41, .d (cI.enc (k570 : Int)))] (by kernel_rfl) <| xn <| wpC_seq <| jw (fun (s1024 : ((List UInt8) × Bool)) => [(0, .d ((cLs (cXVariable cS cI) rfl).enc v0)), (3, .box ((cXTable cI (cLs cI rfl) (cLs cI rfl) cI).enc v1)), (5, .d (cS.enc s1024.1)), (6, .d (cB.enc s1024.2)), (7, .d (cI.enc (k570 : Int))), (8, .d (cI.enc x571)), (38, .adr 3 [.fld 2]), (39, .d ((cLs cI rfl).enc v1.Where)), (40, .d (cI.enc (v1.Where.length : Int))), (41, .d (cI.enc (k570 : Int)))]) h (fun s1024 h => xn <| wpC_seq <| reg_s <| st rfl <| mvd rfl rfl <| st rfl <| mvd rfl rfl <| st rfl <| mvd rfl rfl <| getO_k h fun x1032 i1033 g1034 h => st rfl <| ias rfl rfl i1033 g1034 rfl <| st rfl <| fai rfl rfl rfl rfl <| st rfl <| ldi rfl rfl rfl rfl <| lnO_k h fun l1035 h => st rfl <| b_cat rfl rfl l1035 <| lnO_k h fun l1036 h => st rfl <| b_cat rfl rfl l1036 <| lnO_k h fun l1037 h => st rfl <| b_cat rfl rfl l1037 <| x_asg (ss rfl rfl) <| seqN [(0, .d ((cLs (cXVariable cS cI) rfl).enc v0)), (3, .box ((cXTable cI (cLs cI rfl) (cLs cI rfl) cI).enc v1)), (5, .d (cS.enc (s1024.1 ++ ((([32] : List UInt8) ++ x1032.Name) ++ ([61] : List UInt8))))), (6, .d (cB.enc s1024.2)), (8, .d (cI.enc x571)), (38, .adr 3 [.fld 2]), (39, .d ((cLs cI rfl).enc v1.Where)), (40, .d (cI.enc (v1.Where.length : Int))), (41, .d (cI.enc (k570 : Int)))] (by kernel_rfl) <|
    xn <| wpC_seq <| reg_s <| st rfl <| mvd rfl rfl <| bnd h fun x1041 e1042 h => st rfl <| o_call (a1 (c := cI) tK rfl a0) (con_spec_eLevels e1042) (.inl (so1 (sLo sK) so0)) <| stw rfl <| leno rfl fun l1043 => st rfl <| mvc cI (0 : Int) rfl <| seqN [(0, .d ((cLs (cXVariable cS cI) rfl).enc v0)), (3, .box ((cXTable cI (cLs cI rfl) (cLs cI rfl) cI).enc v1)), (5, .d (cS.enc (s1024.1 ++ ((([32] : List UInt8) ++ x1032.Name) ++ ([61] : List UInt8))))), (6, .d (cB.enc s1024.2)), (38, .adr 3 [.fld 2]), (39, .d ((cLs cI rfl).enc v1.Where)), (40, .d (cI.enc (v1.Where.length : Int))), (41, .d (cI.enc (k570 : Int))), (61, .d ((cLo cI).enc x1041)), (62, .d (cI.enc (x1041.length : Int))), (63, .d (cI.enc (0 : Int)))] (by kernel_rfl) <|
    xn <| wpC_blk <| lpR (fun (k1045 : Nat) (s1044 : (List UInt8)) => [(0, .d ((cLs (cXVariable cS cI) rfl).enc v0)), (3, .box ((cXTable cI (cLs cI rfl) (cLs cI rfl) cI).enc v1)), (5, .d (cS.enc s1044)), (6, .d (cB.enc s1024.2)), (38, .adr 3 [.fld 2]), (39, .d ((cLs cI rfl).enc v1.Where)), (40, .d (cI.enc (v1.Where.length : Int))), (41, .d (cI.enc (k570 : Int))), (61, .d ((cLo cI).enc x1041)), (62, .d (cI.enc (x1041.length : Int))), (63, .d (cI.enc (k1045 : Int)))]) (s1024.1 ++ ((([32] : List UInt8) ++ x1032.Name) ++ ([61] : List UInt8))) rfl h
    (fun G1087 s1044 h => wpC_seq <| reg_s <| st rfl <| b_lss (k := .i64) rfl rfl <| seqN [(0, .d ((cLs (cXVariable cS cI) rfl).enc v0)), (3, .box ((cXTable cI (cLs cI rfl) (cLs cI rfl) cI).enc v1)), (5, .d (cS.enc s1044)), (6, .d (cB.enc s1024.2)), (38, .adr 3 [.fld 2]), (39, .d ((cLs cI rfl).enc v1.Where)), (40, .d (cI.enc (v1.Where.length : Int))), (41, .d (cI.enc (k570 : Int))), (61, .d ((cLo cI).enc x1041)), (62, .d (cI.enc (x1041.length : Int))), (63, .d (cI.enc (x1041.length : Int))), (64, .d (cB.enc (decide ((x1041.length : Int) < (x1041.length : Int)))))] (by kernel_rfl) <|
    xn <| wpC_seq <| wpC_kp <| cnd0 rfl (dlf _) <| wpC_exit <| xt <| xt <| xt <| xb <| xbb <| kpN [(0, .d ((cLs (cXVariable cS cI) rfl).enc v0)), (3, .box ((cXTable cI (cLs cI rfl) (cLs cI rfl) cI).enc v1)), (5, .d (cS.enc s1044)), (6, .d (cB.enc s1024.2)), (38, .adr 3 [.fld 2]), (39, .d ((cLs cI rfl).enc v1.Where)), (40, .d (cI.enc (v1.Where.length : Int))), (41, .d (cI.enc (k570 : Int)))] (by kernel_rfl) <| xn <| reg_s <| st rfl <| b_inc rfl rfl l568 hk572 <| st rfl <| mvd rfl rfl <| seqN [(0, .d ((cLs (cXVariable cS cI) rfl).enc v0)), (3, .box ((cXTable cI (cLs cI rfl) (cLs cI rfl) cI).enc v1)), (5, .d (cS.enc s1044)), (6, .d (cB.enc s1024.2)), (38, .adr 3 [.fld 2]), (39, .d ((cLs cI rfl).enc v1.Where)), (40, .d (cI.enc (v1.Where.length : Int))), (41, .d (cI.enc ((k570 + 1 : Nat) : Int)))] (by kernel_rfl) <|
    xn <| hn927 (s1044, s1024.2) h)
    (fun G1087 nx1085 k1045 s1044 x1046 hk1047 hx1048 hn1086 h => wpC_seq <| reg_s <| st rfl <| b_lss (k := .i64) rfl rfl <| seqN [(0, .d ((cLs (cXVariable cS cI) rfl).enc v0)), (3, .box ((cXTable cI (cLs cI rfl) (cLs cI rfl) cI).enc v1)), (5, .d (cS.enc s1044)), (6, .d (cB.enc s1024.2)), (38, .adr 3 [.fld 2]), (39, .d ((cLs cI rfl).enc v1.Where)), (40, .d (cI.enc (v1.Where.length : Int))), (41, .d (cI.enc (k570 : Int))), (61, .d ((cLo cI).enc x1041)), (62, .d (cI.enc (x1041.length : Int))), (63, .d (cI.enc (k1045 : Int))), (64, .d (cB.enc (decide ((k1045 : Int) < (x1041.length : Int)))))] (by kernel_rfl) <|
    xn <| wpC_seq <| wpC_kp <| cnd1 rfl (dlt hk1047) <| wpC_skip <| kpN [(0, .d ((cLs (cXVariable cS cI) rfl).enc v0)), (3, .box ((cXTable cI (cLs cI rfl) (cLs cI rfl) cI).enc v1)), (5, .d (cS.enc s1044)), (6, .d (cB.enc s1024.2)), (38, .adr 3 [.fld 2]), (39, .d ((cLs cI rfl).enc v1.Where)), (40, .d (cI.enc (v1.Where.length : Int))), (41, .d (cI.enc (k570 : Int))), (61, .d ((cLo cI).enc x1041)), (62, .d (cI.enc (x1041.length : Int))), (63, .d (cI.enc (k1045 : Int)))] (by kernel_rfl) <| xn <| wpC_seq <| wpC_kp <| wpC_blk <| wpC_seq <| reg_s <| st rfl <| mvd rfl rfl <| st rfl <| iao rfl rfl (Int.natCast_nonneg _) hx1048 rfl <| st rfl <| lda rfl rfl (Gt.idx hx1048 Gt.nil) rfl rfl rfl <| x_asg (ss rfl rfl) <| x_asg (ss rfl rfl) <| seqN [(0, .d ((cLs (cXVariable cS cI) rfl).enc v0)), (3, .box ((cXTable cI (cLs cI rfl) (cLs cI rfl) cI).enc v1)), (5, .d (cS.enc s1044)), (6, .d (cB.enc s1024.2)), (9, .d (cI.enc (k1045 : Int))), (10, .d (cI.enc x1046)), (38, .adr 3 [.fld 2]), (39, .d ((cLs cI rfl).enc v1.Where)), (40, .d (cI.enc (v1.Where.length : Int))), (41, .d (cI.enc (k570 : Int))), (61, .d ((cLo cI).enc x1041)), (62, .d (cI.enc (x1041.length : Int))), (63, .d (cI.enc (k1045 : Int)))] (by kernel_rfl) <|
    xn <| wpC_seq <| jw (fun (s1099 : (List UInt8)) => [(0, .d ((cLs (cXVariable cS cI) rfl).enc v0)), (3, .box ((cXTable cI (cLs cI rfl) (cLs cI rfl) cI).enc v1)), (5, .d (cS.enc s1099)), (6, .d (cB.enc s1024.2)), (10, .d (cI.enc x1046)), (38, .adr 3 [.fld 2]), (39, .d ((cLs cI rfl).enc v1.Where)), (40, .d (cI.enc (v1.Where.length : Int))), (41, .d (cI.enc (k570 : Int))), (61, .d ((cLo cI).enc x1041)), (62, .d (cI.enc (x1041.length : Int))), (63, .d (cI.enc (k1045 : Int)))]) h (fun s1099 h => xn <| reg_s <| st rfl <| mvd rfl rfl <| st rfl <| mvd rfl rfl <| bnd h fun x1101 e1102 h => st rfl <| o_call (a1 (c := cI) tK rfl a0) (con_spec_l1Num e1102) (.inl (so1 sS so0)) <| lnO_k h fun l1103 h => st rfl <| b_cat rfl rfl l1103 <| x_asg (ss rfl rfl) <| seqN [(0, .d ((cLs (cXVariable cS cI) rfl).enc v0)), (3, .box ((cXTable cI (cLs cI rfl) (cLs cI rfl) cI).enc v1)), (5, .d (cS.enc (s1099 ++ x1101))), (6, .d (cB.enc s1024.2)), (38, .adr 3 [.fld 2]), (39, .d ((cLs cI rfl).enc v1.Where)), (40, .d (cI.enc (v1.Where.length : Int))), (41, .d (cI.enc (k570 : Int))), (61, .d ((cLo cI).enc x1041)), (62, .d (cI.enc (x1041.length : Int))), (63, .d (cI.enc (k1045 : Int)))] (by kernel_rfl) <|
    xbb <| kpN [(0, .d ((cLs (cXVariable cS cI) rfl).enc v0)), (3, .box ((cXTable cI (cLs cI rfl) (cLs cI rfl) cI).enc v1)), (5, .d (cS.enc (s1099 ++ x1101))), (6, .d (cB.enc s1024.2)), (38, .adr 3 [.fld 2]), (39, .d ((cLs cI rfl).enc v1.Where)), (40, .d (cI.enc (v1.Where.length : Int))), (41, .d (cI.enc (k570 : Int))), (61, .d ((cLo cI).enc x1041)), (62, .d (cI.enc (x1041.length : Int))), (63, .d (cI.enc (k1045 : Int)))] (by kernel_rfl) <| xn <| reg_s <| st rfl <| b_inc rfl rfl l1043 hk1047 <| st rfl <| mvd rfl rfl <| seqN [(0, .d ((cLs (cXVariable cS cI) rfl).enc v0)), (3, .box ((cXTable cI (cLs cI rfl) (cLs cI rfl) cI).enc v1)), (5, .d (cS.enc (s1099 ++ x1101))), (6, .d (cB.enc s1024.2)), (38, .adr 3 [.fld 2]), (39, .d ((cLs cI rfl).enc v1.Where)), (40, .d (cI.enc (v1.Where.length : Int))), (41, .d (cI.enc (k570 : Int))), (61, .d ((cLo cI).enc x1041)), (62, .d (cI.enc (x1041.length : Int))), (63, .d (cI.enc ((k1045 + 1 : Nat) : Int)))] (by kernel_rfl) <|
    xn <| hn1086 (s1099 ++ x1101) h)
    fun s1099' q1100 h => wpC_kp <| wpC_seq <| reg_s <| st rfl <| mvd rfl rfl <| st rfl <| b_gtr (k := .i64) rfl rfl <| seqN [(0, .d ((cLs (cXVariable cS cI) rfl).enc v0)), (3, .box ((cXTable cI (cLs cI rfl) (cLs cI rfl) cI).enc v1)), (5, .d (cS.enc s1044)), (6, .d (cB.enc s1024.2)), (10, .d (cI.enc x1046)), (38, .adr 3 [.fld 2]), (39, .d ((cLs cI rfl).enc v1.Where)), (40, .d (cI.enc (v1.Where.length : Int))), (41, .d (cI.enc (k570 : Int))), (61, .d ((cLo cI).enc x1041)), (62, .d (cI.enc (x1041.length : Int))), (63, .d (cI.enc (k1045 : Int))), (69, .d (cB.enc (decide ((0 : Int) < (k1045 : Int)))))] (by kernel_rfl) <|
    xn <| cnd rfl h (fun b1104 h => reg_s <| st rfl <| mvd rfl rfl <| lnO_k h fun l1105 h => st rfl <| b_cat rfl rfl l1105 <| x_asg (ss rfl rfl) <| seqN [(0, .d ((cLs (cXVariable cS cI) rfl).enc v0)), (3, .box ((cXTable cI (cLs cI rfl) (cLs cI rfl) cI).enc v1)), (5, .d (cS.enc (s1044 ++ ([44] : List UInt8)))), (6, .d (cB.enc s1024.2)), (10, .d (cI.enc x1046)), (38, .adr 3 [.fld 2]), (39, .d ((cLs cI rfl).enc v1.Where)), (40, .d (cI.enc (v1.Where.length : Int))), (41, .d (cI.enc (k570 : Int))), (61, .d ((cLo cI).enc x1041)), (62, .d (cI.enc (x1041.length : Int))), (63, .d (cI.enc (k1045 : Int)))] (by kernel_rfl) <|
    kpN [(0, .d ((cLs (cXVariable cS cI) rfl).enc v0)), (3, .box ((cXTable cI (cLs cI rfl) (cLs cI rfl) cI).enc v1)), (5, .d (cS.enc (s1044 ++ ([44] : List UInt8)))), (6, .d (cB.enc s1024.2)), (10, .d (cI.enc x1046)), (38, .adr 3 [.fld 2]), (39, .d ((cLs cI rfl).enc v1.Where)), (40, .d (cI.enc (v1.Where.length : Int))), (41, .d (cI.enc (k570 : Int))), (61, .d ((cLo cI).enc x1041)), (62, .d (cI.enc (x1041.length : Int))), (63, .d (cI.enc (k1045 : Int)))] (by kernel_rfl) <| lfn (S := (fun (s1099 : (List UInt8)) => [(0, .d ((cLs (cXVariable cS cI) rfl).enc v0)), (3, .box ((cXTable cI (cLs cI rfl) (cLs cI rfl) cI).enc v1)), (5, .d (cS.enc s1099)), (6, .d (cB.enc s1024.2)), (10, .d (cI.enc x1046)), (38, .adr 3 [.fld 2]), (39, .d ((cLs cI rfl).enc v1.Where)), (40, .d (cI.enc (v1.Where.length : Int))), (41, .d (cI.enc (k570 : Int))), (61, .d ((cLo cI).enc x1041)), (62, .d (cI.enc (x1041.length : Int))), (63, .d (cI.enc (k1045 : Int)))])) h q1100 rfl)
    (fun b1104 h => wpC_skip <| kpN [(0, .d ((cLs (cXVariable cS cI) rfl).enc v0)), (3, .box ((cXTable cI (cLs cI rfl) (cLs cI rfl) cI).enc v1)), (5, .d (cS.enc s1044)), (6, .d (cB.enc s1024.2)), (10, .d (cI.enc x1046)), (38, .adr 3 [.fld 2]), (39, .d ((cLs cI rfl).enc v1.Where)), (40, .d (cI.enc (v1.Where.length : Int))), (41, .d (cI.enc (k570 : Int))), (61, .d ((cLo cI).enc x1041)), (62, .d (cI.enc (x1041.length : Int))), (63, .d (cI.enc (k1045 : Int)))] (by kernel_rfl) <| lfn (S := (fun (s1099 : (List UInt8)) => [(0, .d ((cLs (cXVariable cS cI) rfl).enc v0)), (3, .box ((cXTable cI (cLs cI rfl) (cLs cI rfl) cI).enc v1)), (5, .d (cS.enc s1099)), (6, .d (cB.enc s1024.2)), (10, .d (cI.enc x1046)), (38, .adr 3 [.fld 2]), (39, .d ((cLs cI rfl).enc v1.Where)), (40, .d (cI.enc (v1.Where.length : Int))), (41, .d (cI.enc (k570 : Int))), (61, .d ((cLo cI).enc x1041)), (62, .d (cI.enc (x1041.length : Int))), (63, .d (cI.enc (k1045 : Int)))])) h q1100 rfl)))
    fun s1024' q1025 h => wpC_kp <| wpC_seq <| reg_s <| st rfl <| mvd rfl rfl <| seqN [(0, .d ((cLs (cXVariable cS cI) rfl).enc v0)), (3, .box ((cXTable cI (cLs cI rfl) (cLs cI rfl) cI).enc v1)), (5, .d (cS.enc s569.1)), (6, .d (cB.enc s569.2)), (7, .d (cI.enc (k570 : Int))), (8, .d (cI.enc x571)), (38, .adr 3 [.fld 2]), (39, .d ((cLs cI rfl).enc v1.Where)), (40, .d (cI.enc (v1.Where.length : Int))), (41, .d (cI.enc (k570 : Int))), (48, .d (cB.enc s569.2))] (by kernel_rfl) <|
    xn <| cnd rfl h (fun b1106 h => wpC_seq <| reg_s <| st rfl <| mvd rfl rfl <| lnO_k h fun l1108 h => st rfl <| b_cat rfl rfl l1108 <| x_asg (ss rfl rfl) <| seqN [(0, .d ((cLs (cXVariable cS cI) rfl).enc v0)), (3, .box ((cXTable cI (cLs cI rfl) (cLs cI rfl) cI).enc v1)), (5, .d (cS.enc (s569.1 ++ ([32, 119, 104, 101, 114, 101] : List UInt8)))), (7, .d (cI.enc (k570 : Int))), (8, .d (cI.enc x571)), (38, .adr 3 [.fld 2]), (39, .d ((cLs cI rfl).enc v1.Where)), (40, .d (cI.enc (v1.Where.length : Int))), (41, .d (cI.enc (k570 : Int)))] (by kernel_rfl) <|
    xn <| reg_s <| x_asg (sc cB false rfl) <| seqN [(0, .d ((cLs (cXVariable cS cI) rfl).enc v0)), (3, .box ((cXTable cI (cLs cI rfl) (cLs cI rfl) cI).enc v1)), (5, .d (cS.enc (s569.1 ++ ([32, 119, 104, 101, 114, 101] : List UInt8)))), (6, .d (cB.enc false)), (7, .d (cI.enc (k570 : Int))), (8, .d (cI.enc x571)), (38, .adr 3 [.fld 2]), (39, .d ((cLs cI rfl).enc v1.Where)), (40, .d (cI.enc (v1.Where.length : Int))), (41, .d (cI.enc (k570 : Int)))] (by kernel_rfl) <|
    kpN [(0, .d ((cLs (cXVariable cS cI) rfl).enc v0)), (3, .box ((cXTable cI (cLs cI rfl) (cLs cI rfl) cI).enc v1)), (5, .d (cS.enc (s569.1 ++ ([32, 119, 104, 101, 114, 101] : List UInt8)))), (6, .d (cB.enc false)), (7, .d (cI.enc (k570 : Int))), (8, .d (cI.enc x571)), (38, .adr 3 [.fld 2]), (39, .d ((cLs cI rfl).enc v1.Where)), (40, .d (cI.enc (v1.Where.length : Int))), (41, .d (cI.enc (k570 : Int)))] (by kernel_rfl) <| lfn (S := (fun (s1024 : ((List UInt8) × Bool)) => [(0, .d ((cLs (cXVariable cS cI) rfl).enc v0)), (3, .box ((cXTable cI (cLs cI rfl) (cLs cI rfl) cI).enc v1)), (5, .d (cS.enc s1024.1)), (6, .d (cB.enc s1024.2)), (7, .d (cI.enc (k570 : Int))), (8, .d (cI.enc x571)), (38, .adr 3 [.fld 2]), (39, .d ((cLs cI rfl).enc v1.Where)), (40, .d (cI.enc (v1.Where.length : Int))), (41, .d (cI.enc (k570 : Int)))])) h q1025 rfl)
    (fun b1106 h => wpC_skip <| kpN [(0, .d ((cLs (cXVariable cS cI) rfl).enc v0)), (3, .box ((cXTable cI (cLs cI rfl) (cLs cI rfl) cI).enc v1)), (5, .d (cS.enc s569.1)), (6, .d (cB.enc s569.2)), (7, .d (cI.enc (k570 : Int))), (8, .d (cI.enc x571)), (38, .adr 3 [.fld 2]), (39, .d ((cLs cI rfl).enc v1.Where)), (40, .d (cI.enc (v1.Where.length : Int))), (41, .d (cI.enc (k570 : Int)))] (by kernel_rfl) <| lfn (S := (fun (s1024 : ((List UInt8) × Bool)) => [(0, .d ((cLs (cXVariable cS cI) rfl).enc v0)), (3, .box ((cXTable cI (cLs cI rfl) (cLs cI rfl) cI).enc v1)), (5, .d (cS.enc s1024.1)), (6, .d (cB.enc s1024.2)), (7, .d (cI.enc (k570 : Int))), (8, .d (cI.enc x571)), (38, .adr 3 [.fld 2]), (39, .d ((cLs cI rfl).enc v1.Where)), (40, .d (cI.enc (v1.Where.length : Int))), (41, .d (cI.enc (k570 : Int)))])) h q1025 rfl))))
    fun s23' q24 h => wpC_kp <| wpC_seq <| reg_s <| st rfl <| fab rfl rfl rfl rfl <| st rfl <| lda rfl rfl rfl rfl rfl rfl <| stw rfl <| lens rfl fun l1110 => st rfl <| b_gtr (k := .i64) rfl rfl <| seqN [(0, .d ((cLs (cXVariable cS cI) rfl).enc v0)), (3, .box ((cXTable cI (cLs cI rfl) (cLs cI rfl) cI).enc v1)), (5, .d (cS.enc (s6 ++ (([32, 108, 101, 118, 101, 108, 32] : List UInt8) ++ x12)))), (30, .d (cB.enc (decide ((0 : Int) < (v1.Vars.length : Int)))))] (by kernel_rfl) <|
    xn <| cnd rfl h (fun b1111 h => reg_s <| st rfl <| mvd rfl rfl <| st rfl <| mvd rfl rfl <| st rfl <| fab rfl rfl rfl rfl <| st rfl <| lda rfl rfl rfl rfl rfl rfl <| bnd h fun x1112 e1113 h => st rfl <| o_call (a1 (c := (cLs (cXVariable cS cI) rfl)) (tLs (tXVariable tS tK)) rfl (a1 (c := (cLs cI rfl)) (tLs tK) rfl a0)) (con_spec_nNames e1113) (.inl (so1 sS so0)) <| lnO_k h fun l1114 h => st rfl <| b_cat rfl rfl l1114 <| lnO_k h fun l1115 h => st rfl <| b_cat rfl rfl l1115 <| x_asg (ss rfl rfl) <| seqN [(0, .d ((cLs (cXVariable cS cI) rfl).enc v0)), (3, .box ((cXTable cI (cLs cI rfl) (cLs cI rfl) cI).enc v1)), (5, .d (cS.enc ((s6 ++ (([32, 108, 101, 118, 101, 108, 32] : List UInt8) ++ x12)) ++ (([32, 98, 121, 32] : List UInt8) ++ x1112))))] (by kernel_rfl) <|
    kpN [(0, .d ((cLs (cXVariable cS cI) rfl).enc v0)), (3, .box ((cXTable cI (cLs cI rfl) (cLs cI rfl) cI).enc v1)), (5, .d (cS.enc ((s6 ++ (([32, 108, 101, 118, 101, 108, 32] : List UInt8) ++ x12)) ++ (([32, 98, 121, 32] : List UInt8) ++ x1112))))] (by kernel_rfl) <| lfn (S := (fun (s23 : (List UInt8)) => [(0, .d ((cLs (cXVariable cS cI) rfl).enc v0)), (3, .box ((cXTable cI (cLs cI rfl) (cLs cI rfl) cI).enc v1)), (5, .d (cS.enc s23))])) h q24 rfl)
    (fun b1111 h => wpC_skip <| kpN [(0, .d ((cLs (cXVariable cS cI) rfl).enc v0)), (3, .box ((cXTable cI (cLs cI rfl) (cLs cI rfl) cI).enc v1)), (5, .d (cS.enc (s6 ++ (([32, 108, 101, 118, 101, 108, 32] : List UInt8) ++ x12))))] (by kernel_rfl) <| lfn (S := (fun (s23 : (List UInt8)) => [(0, .d ((cLs (cXVariable cS cI) rfl).enc v0)), (3, .box ((cXTable cI (cLs cI rfl) (cLs cI rfl) cI).enc v1)), (5, .d (cS.enc s23))])) h q24 rfl))
    fun s6' q7 h => wpC_kp <| wpC_seq <| reg_s <| st rfl <| fab rfl rfl rfl rfl <| st rfl <| lda rfl rfl rfl rfl rfl rfl <| st rfl <| b_geq (k := .i64) rfl rfl <| seqN [(0, .d ((cLs (cXVariable cS cI) rfl).enc v0)), (3, .box ((cXTable cI (cLs cI rfl) (cLs cI rfl) cI).enc v1)), (5, .d (cS.enc ([99, 111, 117, 110, 116] : List UInt8))), (13, .d (cB.enc (decide ((0 : Int) ≤ v1.Sum))))] (by kernel_rfl) <|
    xn <| cnd rfl h (fun b1116 h => reg_s <| st rfl <| mvd rfl rfl <| st rfl <| fab rfl rfl rfl rfl <| st rfl <| lda rfl rfl rfl rfl rfl rfl <| getO_k h fun x1117 i1118 g1119 h => st rfl <| ias rfl rfl i1118 g1119 rfl <| st rfl <| fai rfl rfl rfl rfl <| st rfl <| ldi rfl rfl rfl rfl <| lnO_k h fun l1120 h => st rfl <| b_cat rfl rfl l1120 <| x_asg (ss rfl rfl) <| seqN [(0, .d ((cLs (cXVariable cS cI) rfl).enc v0)), (3, .box ((cXTable cI (cLs cI rfl) (cLs cI rfl) cI).enc v1)), (5, .d (cS.enc (([115, 117, 109, 32] : List UInt8) ++ x1117.Name)))] (by kernel_rfl) <|
    kpN [(0, .d ((cLs (cXVariable cS cI) rfl).enc v0)), (3, .box ((cXTable cI (cLs cI rfl) (cLs cI rfl) cI).enc v1)), (5, .d (cS.enc (([115, 117, 109, 32] : List UInt8) ++ x1117.Name)))] (by kernel_rfl) <| lfn (S := (fun (s6 : (List UInt8)) => [(0, .d ((cLs (cXVariable cS cI) rfl).enc v0)), (3, .box ((cXTable cI (cLs cI rfl) (cLs cI rfl) cI).enc v1)), (5, .d (cS.enc s6))])) h q7 rfl)
    (fun b1116 h => wpC_skip <| kpN [(0, .d ((cLs (cXVariable cS cI) rfl).enc v0)), (3, .box ((cXTable cI (cLs cI rfl) (cLs cI rfl) cI).enc v1)), (5, .d (cS.enc ([99, 111, 117, 110, 116] : List UInt8)))] (by kernel_rfl) <| lfn (S := (fun (s6 : (List UInt8)) => [(0, .d ((cLs (cXVariable cS cI) rfl).enc v0)), (3, .box ((cXTable cI (cLs cI rfl) (cLs cI rfl) cI).enc v1)), (5, .d (cS.enc s6))])) h q7 rfl)

def rs_impl_IsGeo (r : Bool) : List D := [cB.enc r]
def m85 : MC := .seq (.reg [⟨some 1, .box (.t 0), none⟩,
    ⟨some 2, .asg (.c (.bool false)), none⟩] [1])
  (.seq (.kp [1] (.seq (.reg [⟨some 4, .fa 1 0 0, none⟩,
    ⟨some 5, .ld 4 1 false, none⟩,
    ⟨some 6, .len false (.t 5), none⟩,
    ⟨some 7, .bin .lss (.t 6) (.c (.int .i64 1)), none⟩,
    ⟨some 8, .mv (.t 7), none⟩,
    ⟨some 9, .fa 1 0 0, some (8, false)⟩,
    ⟨some 10, .ld 9 1 false, some (8, false)⟩,
    ⟨some 11, .len false (.t 10), some (8, false)⟩,
    ⟨some 12, .bin .gtr (.t 11) (.c (.int .i64 30)), some (8, false)⟩,
    ⟨some 13, .pick (.t 8) (.c (.bool true)) (.t 12), none⟩,
    ⟨some 14, .mv (.t 13), none⟩,
    ⟨some 15, .fa 1 0 0, some (14, false)⟩,
    ⟨some 16, .ld 15 1 false, some (14, false)⟩,
    ⟨some 17, .ia 16 (.c (.int .i64 0)) 1, some (14, false)⟩,
    ⟨some 18, .ld 17 1 false, some (14, false)⟩,
    ⟨some 19, .bin .neq (.t 18) (.c (.int .i64 (-1))), some (14, false)⟩,
    ⟨some 20, .pick (.t 14) (.c (.bool true)) (.t 19), none⟩] [1, 20])
  (.cond (.t 20) (.seq (.reg [⟨some 2, .asg (.c (.bool false)), none⟩] [2])
  (.ret)) (.skip))))
  (.seq (.kp [] (.seq (.reg [⟨some 3, .asg (.c (.int .i64 1)), none⟩] [1, 3])
  (.blk 0 (.loop (.seq (.kp [1, 3] (.seq (.reg [⟨some 21, .mv (.t 3), none⟩,
    ⟨some 22, .fa 1 0 0, none⟩,
    ⟨some 23, .ld 22 1 false, none⟩,
    ⟨some 24, .len false (.t 23), none⟩,
    ⟨some 25, .bin .lss (.t 21) (.t 24), none⟩] [1, 3, 25])
  (.cond (.t 25) (.skip) (.exit 0))))
  (.seq (.kp [1, 3] (.blk 1 (.seq (.reg [⟨some 28, .fa 1 0 0, none⟩,
    ⟨some 29, .ld 28 1 false, none⟩,
    ⟨some 30, .mv (.t 3), none⟩,
    ⟨some 31, .ia 29 (.t 30) 1, none⟩,
    ⟨some 32, .ld 31 1 false, none⟩,
    ⟨some 33, .bin .lss (.t 32) (.c (.int .i64 0)), none⟩,
    ⟨some 34, .mv (.t 33), none⟩,
    ⟨some 35, .fa 1 0 0, some (34, false)⟩,
    ⟨some 36, .ld 35 1 false, some (34, false)⟩,
    ⟨some 37, .mv (.t 3), some (34, false)⟩,
    ⟨some 38, .ia 36 (.t 37) 1, some (34, false)⟩,
    ⟨some 39, .ld 38 1 false, some (34, false)⟩,
    ⟨some 40, .mv (.t 3), some (34, false)⟩,
    ⟨some 41, .bin .geq (.t 39) (.t 40), some (34, false)⟩,
    ⟨some 42, .pick (.t 34) (.c (.bool true)) (.t 41), none⟩] [1, 3, 42])
  (.cond (.t 42) (.seq (.reg [⟨some 2, .asg (.c (.bool false)), none⟩] [2])
  (.ret)) (.skip)))))
  (.reg [⟨some 26, .mv (.t 3), none⟩,
    ⟨some 27, .bin .add (.t 26) (.c (.int .i64 1)), none⟩,
    ⟨some 3, .asg (.t 27), none⟩] [1, 3])))))))
  (.seq (.reg [⟨some 2, .asg (.c (.bool true)), none⟩] [2])
  (.ret))))
theorem con_impl_IsGeo {v0 : XGeo} {r : Bool} (h : sh_impl_IsGeo v0 = some r) : Con Tryd.prog 85 [(cXGeo (cLs cI rfl)).enc v0] [] (rs_impl_IsGeo r) := by
  delta sh_impl_IsGeo at h
  refine top (out := none) (f := Tryd.f85) (m := m85) (rs := [.t 2]) (by kernel_rfl) rfl (by kernel_rfl) (by kernel_rfl) (by kernel_rfl) (by kernel_rfl) (by kernel_rfl) ?_
  exact
   ini [(0, .d ((cXGeo (cLs cI rfl)).enc v0))] rfl <| wpC_seq <| reg_s <| x_box (ss rfl rfl) <| x_asg (sc cB false rfl) <| seqN [(1, .box ((cXGeo (cLs cI rfl)).enc v0))] (by kernel_rfl) <|
    xn <| wpC_seq <| wpC_kp <| wpC_seq <| reg_s <| st rfl <| fab rfl rfl rfl rfl <| st rfl <| lda rfl rfl rfl rfl rfl rfl <| stw rfl <| lens rfl fun l23 => st rfl <| b_lss (k := .i64) rfl rfl <| st rfl <| mvd rfl rfl <| ite_k h (fun b24 h => gf rfl b24 <| gf rfl b24 <| gf rfl b24 <| gf rfl b24 <| st rfl <| pick1 rfl b24 (cd := cB) (v := true) rfl rfl <| st rfl <| mvd rfl rfl <| gf rfl rfl <| gf rfl rfl <| gf rfl rfl <| gf rfl rfl <| gf rfl rfl <| st rfl <| pick1 rfl rfl (cd := cB) (v := true) rfl rfl <| seqN [(1, .box ((cXGeo (cLs cI rfl)).enc v0)), (20, .d (cB.enc true))] (by kernel_rfl) <|
    xn <| cnd1 rfl rfl <| wpC_seq <| reg_s <| x_asg (sc cB false rfl) <| seqN [(2, .d (cB.enc false))] (by kernel_rfl) <|
    xn <| wpC_ret <| rt <| rt <| re <| fin h (r1 (ss rfl rfl) <| r0) rfl)
    (fun b24 h => gt' rfl b24 <| st rfl <| fab rfl rfl rfl rfl <| gt' rfl b24 <| st rfl <| lda rfl rfl rfl rfl rfl rfl <| gt' rfl b24 <| stw rfl <| lens rfl fun l25 => gt' rfl b24 <| st rfl <| b_gtr (k := .i64) rfl rfl <| st rfl <| pick0 rfl b24 (cd := cB) (v := (decide ((30 : Int) < (v0.Parents.length : Int)))) rfl rfl <| st rfl <| mvd rfl rfl <| ite_k h (fun b26 h => gf rfl b26 <| gf rfl b26 <| gf rfl b26 <| gf rfl b26 <| gf rfl b26 <| st rfl <| pick1 rfl b26 (cd := cB) (v := true) rfl rfl <| seqN [(1, .box ((cXGeo (cLs cI rfl)).enc v0)), (20, .d (cB.enc true))] (by kernel_rfl) <|
    xn <| cnd1 rfl rfl <| wpC_seq <| reg_s <| x_asg (sc cB false rfl) <| seqN [(2, .d (cB.enc false))] (by kernel_rfl) <|
    xn <| wpC_ret <| rt <| rt <| re <| fin h (r1 (ss rfl rfl) <| r0) rfl)
    (fun b26 h => gt' rfl b26 <| st rfl <| fab rfl rfl rfl rfl <| gt' rfl b26 <| st rfl <| lda rfl rfl rfl rfl rfl rfl <| gt' rfl b26 <| getO_k h fun x27 i28 g29 h => st rfl <| ias rfl rfl i28 g29 rfl <| gt' rfl b26 <| st rfl <| ldi rfl rfl rfl rfl <| gt' rfl b26 <| st rfl <| b_neq (k := .i64) rfl rfl <| st rfl <| pick0 rfl b26 (cd := cB) (v := (decide (x27 ≠ (-1 : Int)))) rfl rfl <| seqN [(1, .box ((cXGeo (cLs cI rfl)).enc v0)), (20, .d (cB.enc (decide (x27 ≠ (-1 : Int)))))] (by kernel_rfl) <|
    xn <| cnd rfl h (fun b30 h => wpC_seq <| reg_s <| x_asg (sc cB false rfl) <| seqN [(2, .d (cB.enc false))] (by kernel_rfl) <|
    xn <| wpC_ret <| rt <| rt <| re <| fin h (r1 (ss rfl rfl) <| r0) rfl)
    (fun b30 h => wpC_skip <| kpN [(1, .box ((cXGeo (cLs cI rfl)).enc v0))] (by kernel_rfl) <| xn <| wpC_seq <| wpC_kp <| wpC_seq <| reg_s <| x_asg (sc cI (1 : Int) rfl) <| seqN [(1, .box ((cXGeo (cLs cI rfl)).enc v0)), (3, .d (cI.enc (1 : Int)))] (by kernel_rfl) <|
    xn <| wpC_blk <| lpF (fun (s114 : Int) => [(1, .box ((cXGeo (cLs cI rfl)).enc v0)), (3, .d (cI.enc s114))]) (1 : Int) rfl h
    fun G171 nx169 s114 hn170 h => wpC_seq <| wpC_kp <| wpC_seq <| reg_s <| st rfl <| mvd rfl rfl <| st rfl <| fab rfl rfl rfl rfl <| st rfl <| lda rfl rfl rfl rfl rfl rfl <| stw rfl <| lens rfl fun l176 => st rfl <| b_lss (k := .i64) rfl rfl <| seqN [(1, .box ((cXGeo (cLs cI rfl)).enc v0)), (3, .d (cI.enc s114)), (25, .d (cB.enc (decide (s114 < (v0.Parents.length : Int)))))] (by kernel_rfl) <|
    xn <| cnd rfl h (fun b177 h => wpC_skip <| kpN [(1, .box ((cXGeo (cLs cI rfl)).enc v0)), (3, .d (cI.enc s114))] (by kernel_rfl) <| xn <| wpC_seq <| wpC_kp <| wpC_blk <| wpC_seq <| reg_s <| st rfl <| fab rfl rfl rfl rfl <| st rfl <| lda rfl rfl rfl rfl rfl rfl <| st rfl <| mvd rfl rfl <| getO_k h fun x191 i192 g193 h => st rfl <| ias rfl rfl i192 g193 rfl <| st rfl <| ldi rfl rfl rfl rfl <| st rfl <| b_lss (k := .i64) rfl rfl <| st rfl <| mvd rfl rfl <| ite_k h (fun b194 h => gf rfl b194 <| gf rfl b194 <| gf rfl b194 <| gf rfl b194 <| gf rfl b194 <| gf rfl b194 <| gf rfl b194 <| st rfl <| pick1 rfl b194 (cd := cB) (v := true) rfl rfl <| seqN [(1, .box ((cXGeo (cLs cI rfl)).enc v0)), (3, .d (cI.enc s114)), (42, .d (cB.enc true))] (by kernel_rfl) <|
    xn <| cnd1 rfl rfl <| wpC_seq <| reg_s <| x_asg (sc cB false rfl) <| seqN [(2, .d (cB.enc false))] (by kernel_rfl) <|
    xn <| wpC_ret <| rb <| rt <| rt <| rt <| rb <| rt <| rt <| re <| fin h (r1 (ss rfl rfl) <| r0) rfl)
    (fun b194 h => gt' rfl b194 <| st rfl <| fab rfl rfl rfl rfl <| gt' rfl b194 <| st rfl <| lda rfl rfl rfl rfl rfl rfl <| gt' rfl b194 <| st rfl <| mvd rfl rfl <| gt' rfl b194 <| st rfl <| ias rfl rfl i192 g193 rfl <| gt' rfl b194 <| st rfl <| ldi rfl rfl rfl rfl <| gt' rfl b194 <| st rfl <| mvd rfl rfl <| gt' rfl b194 <| st rfl <| b_geq (k := .i64) rfl rfl <| st rfl <| pick0 rfl b194 (cd := cB) (v := (decide (s114 ≤ x191))) rfl rfl <| seqN [(1, .box ((cXGeo (cLs cI rfl)).enc v0)), (3, .d (cI.enc s114)), (42, .d (cB.enc (decide (s114 ≤ x191))))] (by kernel_rfl) <|
    xn <| cnd rfl h (fun b195 h => wpC_seq <| reg_s <| x_asg (sc cB false rfl) <| seqN [(2, .d (cB.enc false))] (by kernel_rfl) <|
    xn <| wpC_ret <| rb <| rt <| rt <| rt <| rb <| rt <| rt <| re <| fin h (r1 (ss rfl rfl) <| r0) rfl)
    (fun b195 h => wpC_skip <| xbb <| kpN [(1, .box ((cXGeo (cLs cI rfl)).enc v0)), (3, .d (cI.enc s114))] (by kernel_rfl) <| xn <| reg_s <| st rfl <| mvd rfl rfl <| ckI_k h fun i196 h => st rfl <| b_add (k := .i64) rfl rfl i196 <| x_asg (ss rfl rfl) <| seqN [(1, .box ((cXGeo (cLs cI rfl)).enc v0)), (3, .d (cI.enc (s114 + (1 : Int))))] (by kernel_rfl) <|
    xn <| hn170 (s114 + (1 : Int)) h)))
    (fun b177 h => wpC_exit <| xt <| xt <| xt <| xb <| kpN [] (by kernel_rfl) <| xn <| wpC_seq <| reg_s <| x_asg (sc cB true rfl) <| seqN [(2, .d (cB.enc true))] (by kernel_rfl) <|
    xn <| wpC_ret <| re <| fin h (r1 (ss rfl rfl) <| r0) rfl))))

def rs_impl_areVars (r : Bool) : List D := [cB.enc r]
def m115 : MC := .seq (.reg [⟨some 4, .asg (.c (.bool false)), none⟩] [0, 1])
  (.seq (.reg [⟨some 5, .asg (.c (.int .i64 (-1))), none⟩] [0, 1, 5])
  (.seq (.kp [] (.seq (.reg [⟨some 8, .mv (.t 1), none⟩,
    ⟨some 9, .len false (.t 8), none⟩,
    ⟨some 10, .mv (.c (.int .i64 0)), none⟩] [0, 1, 5, 8, 9, 10])
  (.blk 0 (.loop (.seq (.reg [⟨some 11, .bin .lss (.t 10) (.t 9), none⟩] [0, 1, 5, 8, 9, 10, 11])
  (.seq (.kp [0, 1, 5, 8, 9, 10] (.cond (.t 11) (.skip) (.exit 0)))
  (.seq (.kp [0, 1, 5, 8, 9, 10] (.blk 1 (.seq (.reg [⟨some 12, .ia 8 (.t 10) 1, none⟩,
    ⟨some 13, .ld 12 1 false, none⟩,
    ⟨some 7, .asg (.t 13), none⟩] [0, 1, 5, 7, 8, 9, 10])
  (.seq (.kp [0, 1, 7, 8, 9, 10] (.seq (.reg [⟨some 14, .mv (.t 7), none⟩,
    ⟨some 15, .mv (.t 5), none⟩,
    ⟨some 16, .bin .leq (.t 14) (.t 15), none⟩,
    ⟨some 17, .mv (.t 16), none⟩,
    ⟨some 18, .mv (.t 7), some (17, false)⟩,
    ⟨some 19, .mv (.t 0), some (17, false)⟩,
    ⟨some 20, .len false (.t 19), some (17, false)⟩,
    ⟨some 21, .bin .geq (.t 18) (.t 20), some (17, false)⟩,
    ⟨some 22, .pick (.t 17) (.c (.bool true)) (.t 21), none⟩] [0, 1, 7, 8, 9, 10, 22])
  (.cond (.t 22) (.seq (.reg [⟨some 4, .asg (.c (.bool false)), none⟩] [4])
  (.ret)) (.skip))))
  (.reg [⟨some 23, .mv (.t 7), none⟩,
    ⟨some 5, .asg (.t 23), none⟩] [0, 1, 5, 8, 9, 10])))))
  (.reg [⟨some 24, .bin .add (.t 10) (.c (.int .i64 1)), none⟩,
    ⟨some 10, .mv (.t 24), none⟩] [0, 1, 5, 8, 9, 10]))))))))
  (.seq (.reg [⟨some 4, .asg (.c (.bool true)), none⟩] [4])
  (.ret))))
theorem con_impl_areVars {v0 : (List XVariable)} {v1 : (List Int)} {r : Bool} (h : sh_impl_areVars v0 v1 = some r) : Con Tryd.prog 115 [(cLs (cXVariable cS cI) rfl).enc v0, (cLs cI rfl).enc v1] [] (rs_impl_areVars r) := by
  delta sh_impl_areVars at h
  refine top (out := none) (f := Tryd.f115) (m := m115) (rs := [.t 4]) (by kernel_rfl) rfl (by kernel_rfl) (by kernel_rfl) (by kernel_rfl) (by kernel_rfl) (by kernel_rfl) ?_
  exact
   ini [(0, .d ((cLs (cXVariable cS cI) rfl).enc v0)), (1, .d ((cLs cI rfl).enc v1))] rfl <| wpC_seq <| reg_s <| x_asg (sc cB false rfl) <| seqN [(0, .d ((cLs (cXVariable cS cI) rfl).enc v0)), (1, .d ((cLs cI rfl).enc v1))] (by kernel_rfl) <|
    xn <| wpC_seq <| reg_s <| x_asg (sc cI (-1 : Int) rfl) <| seqN [(0, .d ((cLs (cXVariable cS cI) rfl).enc v0)), (1, .d ((cLs cI rfl).enc v1)), (5, .d (cI.enc (-1 : Int)))] (by kernel_rfl) <|
    xn <| wpC_seq <| wpC_kp <| wpC_seq <| reg_s <| st rfl <| mvd rfl rfl <| stw rfl <| lens rfl fun l72 => st rfl <| mvc cI (0 : Int) rfl <| seqN [(0, .d ((cLs (cXVariable cS cI) rfl).enc v0)), (1, .d ((cLs cI rfl).enc v1)), (5, .d (cI.enc (-1 : Int))), (8, .d ((cLs cI rfl).enc v1)), (9, .d (cI.enc (v1.length : Int))), (10, .d (cI.enc (0 : Int)))] (by kernel_rfl) <|
    xn <| wpC_blk <| lpR (fun (k74 : Nat) (s73 : Int) => [(0, .d ((cLs (cXVariable cS cI) rfl).enc v0)), (1, .d ((cLs cI rfl).enc v1)), (5, .d (cI.enc s73)), (8, .d ((cLs cI rfl).enc v1)), (9, .d (cI.enc (v1.length : Int))), (10, .d (cI.enc (k74 : Int)))]) (-1 : Int) rfl h
    (fun G120 s73 h => wpC_seq <| reg_s <| st rfl <| b_lss (k := .i64) rfl rfl <| seqN [(0, .d ((cLs (cXVariable cS cI) rfl).enc v0)), (1, .d ((cLs cI rfl).enc v1)), (5, .d (cI.enc s73)), (8, .d ((cLs cI rfl).enc v1)), (9, .d (cI.enc (v1.length : Int))), (10, .d (cI.enc (v1.length : Int))), (11, .d (cB.enc (decide ((v1.length : Int) < (v1.length : Int)))))] (by kernel_rfl) <|
    xn <| wpC_seq <| wpC_kp <| cnd0 rfl (dlf _) <| wpC_exit <| xt <| xt <| xt <| xb <| kpN [] (by kernel_rfl) <| xn <| wpC_seq <| reg_s <| x_asg (sc cB true rfl) <| seqN [(4, .d (cB.enc true))] (by kernel_rfl) <|
    xn <| wpC_ret <| re <| fin h (r1 (ss rfl rfl) <| r0) rfl)
    (fun G120 nx118 k74 s73 x75 hk76 hx77 hn119 h => wpC_seq <| reg_s <| st rfl <| b_lss (k := .i64) rfl rfl <| seqN [(0, .d ((cLs (cXVariable cS cI) rfl).enc v0)), (1, .d ((cLs cI rfl).enc v1)), (5, .d (cI.enc s73)), (8, .d ((cLs cI rfl).enc v1)), (9, .d (cI.enc (v1.length : Int))), (10, .d (cI.enc (k74 : Int))), (11, .d (cB.enc (decide ((k74 : Int) < (v1.length : Int)))))] (by kernel_rfl) <|
    xn <| wpC_seq <| wpC_kp <| cnd1 rfl (dlt hk76) <| wpC_skip <| kpN [(0, .d ((cLs (cXVariable cS cI) rfl).enc v0)), (1, .d ((cLs cI rfl).enc v1)), (5, .d (cI.enc s73)), (8, .d ((cLs cI rfl).enc v1)), (9, .d (cI.enc (v1.length : Int))), (10, .d (cI.enc (k74 : Int)))] (by kernel_rfl) <| xn <| wpC_seq <| wpC_kp <| wpC_blk <| wpC_seq <| reg_s <| st rfl <| ias rfl rfl (Int.natCast_nonneg _) hx77 rfl <| st rfl <| ldi rfl rfl rfl rfl <| x_asg (ss rfl rfl) <| seqN [(0, .d ((cLs (cXVariable cS cI) rfl).enc v0)), (1, .d ((cLs cI rfl).enc v1)), (5, .d (cI.enc s73)), (7, .d (cI.enc x75)), (8, .d ((cLs cI rfl).enc v1)), (9, .d (cI.enc (v1.length : Int))), (10, .d (cI.enc (k74 : Int)))] (by kernel_rfl) <|
    xn <| wpC_seq <| wpC_kp <| wpC_seq <| reg_s <| st rfl <| mvd rfl rfl <| st rfl <| mvd rfl rfl <| st rfl <| b_leq (k := .i64) rfl rfl <| st rfl <| mvd rfl rfl <| ite_k h (fun b138 h => gf rfl b138 <| gf rfl b138 <| gf rfl b138 <| gf rfl b138 <| st rfl <| pick1 rfl b138 (cd := cB) (v := true) rfl rfl <| seqN [(0, .d ((cLs (cXVariable cS cI) rfl).enc v0)), (1, .d ((cLs cI rfl).enc v1)), (7, .d (cI.enc x75)), (8, .d ((cLs cI rfl).enc v1)), (9, .d (cI.enc (v1.length : Int))), (10, .d (cI.enc (k74 : Int))), (22, .d (cB.enc true))] (by kernel_rfl) <|
    xn <| cnd1 rfl rfl <| wpC_seq <| reg_s <| x_asg (sc cB false rfl) <| seqN [(4, .d (cB.enc false))] (by kernel_rfl) <|
    xn <| wpC_ret <| rt <| rt <| rb <| rt <| rt <| rt <| rb <| rt <| rt <| re <| fin h (r1 (ss rfl rfl) <| r0) rfl)
    (fun b138 h => gt' rfl b138 <| st rfl <| mvd rfl rfl <| gt' rfl b138 <| st rfl <| mvd rfl rfl <| gt' rfl b138 <| stw rfl <| lens rfl fun l139 => gt' rfl b138 <| st rfl <| b_geq (k := .i64) rfl rfl <| st rfl <| pick0 rfl b138 (cd := cB) (v := (decide ((v0.length : Int) ≤ x75))) rfl rfl <| seqN [(0, .d ((cLs (cXVariable cS cI) rfl).enc v0)), (1, .d ((cLs cI rfl).enc v1)), (7, .d (cI.enc x75)), (8, .d ((cLs cI rfl).enc v1)), (9, .d (cI.enc (v1.length : Int))), (10, .d (cI.enc (k74 : Int))), (22, .d (cB.enc (decide ((v0.length : Int) ≤ x75))))] (by kernel_rfl) <|
    xn <| cnd rfl h (fun b140 h => wpC_seq <| reg_s <| x_asg (sc cB false rfl) <| seqN [(4, .d (cB.enc false))] (by kernel_rfl) <|
    xn <| wpC_ret <| rt <| rt <| rb <| rt <| rt <| rt <| rb <| rt <| rt <| re <| fin h (r1 (ss rfl rfl) <| r0) rfl)
    (fun b140 h => wpC_skip <| kpN [(0, .d ((cLs (cXVariable cS cI) rfl).enc v0)), (1, .d ((cLs cI rfl).enc v1)), (7, .d (cI.enc x75)), (8, .d ((cLs cI rfl).enc v1)), (9, .d (cI.enc (v1.length : Int))), (10, .d (cI.enc (k74 : Int)))] (by kernel_rfl) <| xn <| reg_s <| st rfl <| mvd rfl rfl <| x_asg (ss rfl rfl) <| seqN [(0, .d ((cLs (cXVariable cS cI) rfl).enc v0)), (1, .d ((cLs cI rfl).enc v1)), (5, .d (cI.enc x75)), (8, .d ((cLs cI rfl).enc v1)), (9, .d (cI.enc (v1.length : Int))), (10, .d (cI.enc (k74 : Int)))] (by kernel_rfl) <|
    xbb <| kpN [(0, .d ((cLs (cXVariable cS cI) rfl).enc v0)), (1, .d ((cLs cI rfl).enc v1)), (5, .d (cI.enc x75)), (8, .d ((cLs cI rfl).enc v1)), (9, .d (cI.enc (v1.length : Int))), (10, .d (cI.enc (k74 : Int)))] (by kernel_rfl) <| xn <| reg_s <| st rfl <| b_inc rfl rfl l72 hk76 <| st rfl <| mvd rfl rfl <| seqN [(0, .d ((cLs (cXVariable cS cI) rfl).enc v0)), (1, .d ((cLs cI rfl).enc v1)), (5, .d (cI.enc x75)), (8, .d ((cLs cI rfl).enc v1)), (9, .d (cI.enc (v1.length : Int))), (10, .d (cI.enc ((k74 + 1 : Nat) : Int)))] (by kernel_rfl) <|
    xn <| hn119 x75 h)))
def rs_impl_isWhere (r : Bool) : List D := [cB.enc r]
def m116 : MC := .seq (.reg [⟨some 4, .asg (.c (.bool false)), none⟩] [0, 1])
  (.seq (.kp [0, 1] (.seq (.reg [⟨some 7, .mv (.t 1), none⟩,
    ⟨some 8, .len false (.t 7), none⟩,
    ⟨some 9, .mv (.t 0), none⟩,
    ⟨some 10, .len false (.t 9), none⟩,
    ⟨some 11, .bin .neq (.t 8) (.t 10), none⟩] [0, 1, 11])
  (.cond (.t 11) (.seq (.reg [⟨some 4, .asg (.c (.bool false)), none⟩] [4])
  (.ret)) (.skip))))
  (.seq (.kp [] (.seq (.reg [⟨some 12, .mv (.t 1), none⟩,
    ⟨some 13, .len false (.t 12), none⟩,
    ⟨some 14, .mv (.c (.int .i64 0)), none⟩] [0, 1, 12, 13, 14])
  (.blk 0 (.loop (.seq (.reg [⟨some 15, .bin .lss (.t 14) (.t 13), none⟩] [0, 1, 12, 13, 14, 15])
  (.seq (.kp [0, 1, 12, 13, 14] (.cond (.t 15) (.skip) (.exit 0)))
  (.seq (.kp [0, 1, 12, 13, 14] (.blk 1 (.seq (.reg [⟨some 16, .mv (.t 14), none⟩,
    ⟨some 17, .ia 12 (.t 14) 1, none⟩,
    ⟨some 18, .ld 17 1 false, none⟩,
    ⟨some 5, .asg (.t 16), none⟩,
    ⟨some 6, .asg (.t 18), none⟩] [0, 1, 5, 6, 12, 13, 14])
  (.seq (.reg [⟨some 19, .mv (.t 6), none⟩,
    ⟨some 20, .bin .lss (.t 19) (.c (.int .i64 0)), none⟩,
    ⟨some 21, .mv (.t 20), none⟩,
    ⟨some 22, .mv (.t 6), some (21, false)⟩,
    ⟨some 23, .mv (.t 0), some (21, false)⟩,
    ⟨some 24, .mv (.t 5), some (21, false)⟩,
    ⟨some 25, .ia 23 (.t 24) 2, some (21, false)⟩,
    ⟨some 26, .ld 25 2 true, some (21, false)⟩,
    ⟨some 27, .call 73 [(.t 26)], some (21, false)⟩,
    ⟨some 28, .bin .gtr (.t 22) (.t 27), some (21, false)⟩,
    ⟨some 29, .pick (.t 21) (.c (.bool true)) (.t 28), none⟩] [0, 1, 12, 13, 14, 29])
  (.cond (.t 29) (.seq (.reg [⟨some 4, .asg (.c (.bool false)), none⟩] [4])
  (.ret)) (.skip))))))
  (.reg [⟨some 30, .bin .add (.t 14) (.c (.int .i64 1)), none⟩,
    ⟨some 14, .mv (.t 30), none⟩] [0, 1, 12, 13, 14]))))))))
  (.seq (.reg [⟨some 4, .asg (.c (.bool true)), none⟩] [4])
  (.ret))))
theorem con_impl_isWhere {v0 : (List XVariable)} {v1 : (List Int)} {r : Bool} (h : sh_impl_isWhere v0 v1 = some r) : Con Tryd.prog 116 [(cLs (cXVariable cS cI) rfl).enc v0, (cLs cI rfl).enc v1] [] (rs_impl_isWhere r) := by
  delta sh_impl_isWhere at h
  refine top (out := none) (f := Tryd.f116) (m := m116) (rs := [.t 4]) (by kernel_rfl) rfl (by kernel_rfl) (by kernel_rfl) (by kernel_rfl) (by kernel_rfl) (by kernel_rfl) ?_
  exact
   ini [(0, .d ((cLs (cXVariable cS cI) rfl).enc v0)), (1, .d ((cLs cI rfl).enc v1))] rfl <| wpC_seq <| reg_s <| x_asg (sc cB false rfl) <| seqN [(0, .d ((cLs (cXVariable cS cI) rfl).enc v0)), (1, .d ((cLs cI rfl).enc v1))] (by kernel_rfl) <|
    xn <| wpC_seq <| wpC_kp <| wpC_seq <| reg_s <| st rfl <| mvd rfl rfl <| stw rfl <| lens rfl fun l8 => st rfl <| mvd rfl rfl <| stw rfl <| lens rfl fun l9 => st rfl <| b_neq (k := .i64) rfl rfl <| seqN [(0, .d ((cLs (cXVariable cS cI) rfl).enc v0)), (1, .d ((cLs cI rfl).enc v1)), (11, .d (cB.enc (decide ((v1.length : Int) ≠ (v0.length : Int)))))] (by kernel_rfl) <|
    xn <| cnd rfl h (fun b10 h => wpC_seq <| reg_s <| x_asg (sc cB false rfl) <| seqN [(4, .d (cB.enc false))] (by kernel_rfl) <|
    xn <| wpC_ret <| rt <| rt <| re <| fin h (r1 (ss rfl rfl) <| r0) rfl)
    (fun b10 h => wpC_skip <| kpN [(0, .d ((cLs (cXVariable cS cI) rfl).enc v0)), (1, .d ((cLs cI rfl).enc v1))] (by kernel_rfl) <| xn <| wpC_seq <| wpC_kp <| wpC_seq <| reg_s <| st rfl <| mvd rfl rfl <| stw rfl <| lens rfl fun l74 => st rfl <| mvc cI (0 : Int) rfl <| seqN [(0, .d ((cLs (cXVariable cS cI) rfl).enc v0)), (1, .d ((cLs cI rfl).enc v1)), (12, .d ((cLs cI rfl).enc v1)), (13, .d (cI.enc (v1.length : Int))), (14, .d (cI.enc (0 : Int)))] (by kernel_rfl) <|
    xn <| wpC_blk <| lpR (fun (k76 : Nat) (s75 : Unit) => [(0, .d ((cLs (cXVariable cS cI) rfl).enc v0)), (1, .d ((cLs cI rfl).enc v1)), (12, .d ((cLs cI rfl).enc v1)), (13, .d (cI.enc (v1.length : Int))), (14, .d (cI.enc (k76 : Int)))]) () rfl h
    (fun G108 s75 h => wpC_seq <| reg_s <| st rfl <| b_lss (k := .i64) rfl rfl <| seqN [(0, .d ((cLs (cXVariable cS cI) rfl).enc v0)), (1, .d ((cLs cI rfl).enc v1)), (12, .d ((cLs cI rfl).enc v1)), (13, .d (cI.enc (v1.length : Int))), (14, .d (cI.enc (v1.length : Int))), (15, .d (cB.enc (decide ((v1.length : Int) < (v1.length : Int)))))] (by kernel_rfl) <|
    xn <| wpC_seq <| wpC_kp <| cnd0 rfl (dlf _) <| wpC_exit <| xt <| xt <| xt <| xb <| kpN [] (by kernel_rfl) <| xn <| wpC_seq <| reg_s <| x_asg (sc cB true rfl) <| seqN [(4, .d (cB.enc true))] (by kernel_rfl) <|
    xn <| wpC_ret <| re <| fin h (r1 (ss rfl rfl) <| r0) rfl)
    (fun G108 nx106 k76 s75 x77 hk78 hx79 hn107 h => wpC_seq <| reg_s <| st rfl <| b_lss (k := .i64) rfl rfl <| seqN [(0, .d ((cLs (cXVariable cS cI) rfl).enc v0)), (1, .d ((cLs cI rfl).enc v1)), (12, .d ((cLs cI rfl).enc v1)), (13, .d (cI.enc (v1.length : Int))), (14, .d (cI.enc (k76 : Int))), (15, .d (cB.enc (decide ((k76 : Int) < (v1.length : Int)))))] (by kernel_rfl) <|
    xn <| wpC_seq <| wpC_kp <| cnd1 rfl (dlt hk78) <| wpC_skip <| kpN [(0, .d ((cLs (cXVariable cS cI) rfl).enc v0)), (1, .d ((cLs cI rfl).enc v1)), (12, .d ((cLs cI rfl).enc v1)), (13, .d (cI.enc (v1.length : Int))), (14, .d (cI.enc (k76 : Int)))] (by kernel_rfl) <| xn <| wpC_seq <| wpC_kp <| wpC_blk <| wpC_seq <| reg_s <| st rfl <| mvd rfl rfl <| st rfl <| ias rfl rfl (Int.natCast_nonneg _) hx79 rfl <| st rfl <| ldi rfl rfl rfl rfl <| x_asg (ss rfl rfl) <| x_asg (ss rfl rfl) <| seqN [(0, .d ((cLs (cXVariable cS cI) rfl).enc v0)), (1, .d ((cLs cI rfl).enc v1)), (5, .d (cI.enc (k76 : Int))), (6, .d (cI.enc x77)), (12, .d ((cLs cI rfl).enc v1)), (13, .d (cI.enc (v1.length : Int))), (14, .d (cI.enc (k76 : Int)))] (by kernel_rfl) <|
    xn <| wpC_seq <| reg_s <| st rfl <| mvd rfl rfl <| st rfl <| b_lss (k := .i64) rfl rfl <| st rfl <| mvd rfl rfl <| ite_k h (fun b128 h => gf rfl b128 <| gf rfl b128 <| gf rfl b128 <| gf rfl b128 <| gf rfl b128 <| gf rfl b128 <| gf rfl b128 <| st rfl <| pick1 rfl b128 (cd := cB) (v := true) rfl rfl <| seqN [(0, .d ((cLs (cXVariable cS cI) rfl).enc v0)), (1, .d ((cLs cI rfl).enc v1)), (12, .d ((cLs cI rfl).enc v1)), (13, .d (cI.enc (v1.length : Int))), (14, .d (cI.enc (k76 : Int))), (29, .d (cB.enc true))] (by kernel_rfl) <|
    xn <| cnd1 rfl rfl <| wpC_seq <| reg_s <| x_asg (sc cB false rfl) <| seqN [(4, .d (cB.enc false))] (by kernel_rfl) <|
    xn <| wpC_ret <| rb <| rt <| rt <| rt <| rb <| rt <| rt <| re <| fin h (r1 (ss rfl rfl) <| r0) rfl)
    (fun b128 h => gt' rfl b128 <| st rfl <| mvd rfl rfl <| gt' rfl b128 <| st rfl <| mvd rfl rfl <| gt' rfl b128 <| st rfl <| mvd rfl rfl <| gt' rfl b128 <| getO_k h fun x129 i130 g131 h => st rfl <| ias rfl rfl i130 g131 rfl <| gt' rfl b128 <| st rfl <| ldi rfl rfl rfl rfl <| gt' rfl b128 <| bnd h fun x132 e133 h => st rfl <| o_call (a1 (c := (cXVariable cS cI)) (tXVariable tS tK) rfl a0) (con_impl_fullSet e133) (.inl (so1 sK so0)) <| gt' rfl b128 <| st rfl <| b_gtr (k := .i64) rfl rfl <| st rfl <| pick0 rfl b128 (cd := cB) (v := (decide (x132 < x77))) rfl rfl <| seqN [(0, .d ((cLs (cXVariable cS cI) rfl).enc v0)), (1, .d ((cLs cI rfl).enc v1)), (12, .d ((cLs cI rfl).enc v1)), (13, .d (cI.enc (v1.length : Int))), (14, .d (cI.enc (k76 : Int))), (29, .d (cB.enc (decide (x132 < x77))))] (by kernel_rfl) <|
    xn <| cnd rfl h (fun b134 h => wpC_seq <| reg_s <| x_asg (sc cB false rfl) <| seqN [(4, .d (cB.enc false))] (by kernel_rfl) <|
    xn <| wpC_ret <| rb <| rt <| rt <| rt <| rb <| rt <| rt <| re <| fin h (r1 (ss rfl rfl) <| r0) rfl)
    (fun b134 h => wpC_skip <| xbb <| kpN [(0, .d ((cLs (cXVariable cS cI) rfl).enc v0)), (1, .d ((cLs cI rfl).enc v1)), (12, .d ((cLs cI rfl).enc v1)), (13, .d (cI.enc (v1.length : Int))), (14, .d (cI.enc (k76 : Int)))] (by kernel_rfl) <| xn <| reg_s <| st rfl <| b_inc rfl rfl l74 hk78 <| st rfl <| mvd rfl rfl <| seqN [(0, .d ((cLs (cXVariable cS cI) rfl).enc v0)), (1, .d ((cLs cI rfl).enc v1)), (12, .d ((cLs cI rfl).enc v1)), (13, .d (cI.enc (v1.length : Int))), (14, .d (cI.enc ((k76 + 1 : Nat) : Int)))] (by kernel_rfl) <|
    xn <| hn107 () h))))

def rs_impl_depthOf (r : Int) : List D := [cI.enc r]
def m119 : MC := .seq (.reg [⟨some 2, .box (.t 0), none⟩,
    ⟨some 4, .asg (.c (.int .i64 0)), none⟩] [1, 2])
  (.seq (.reg [⟨some 5, .asg (.c (.int .i64 0)), none⟩] [1, 2, 5])
  (.seq (.kp [5] (.blk 0 (.loop (.kp [1, 2, 5] (.seq (.kp [1, 2, 5] (.seq (.reg [⟨some 6, .mv (.t 1), none⟩,
    ⟨some 7, .bin .gtr (.t 6) (.c (.int .i64 0)), none⟩] [1, 2, 5, 7])
  (.cond (.t 7) (.skip) (.exit 0))))
  (.blk 1 (.seq (.reg [⟨some 8, .fa 2 0 0, none⟩,
    ⟨some 9, .ld 8 1 false, none⟩,
    ⟨some 10, .mv (.t 1), none⟩,
    ⟨some 11, .ia 9 (.t 10) 1, none⟩,
    ⟨some 12, .ld 11 1 false, none⟩,
    ⟨some 1, .asg (.t 12), none⟩] [1, 2, 5])
  (.reg [⟨some 13, .mv (.t 5), none⟩,
    ⟨some 14, .bin .add (.t 13) (.c (.int .i64 1)), none⟩,
    ⟨some 5, .asg (.t 14), none⟩] [1, 2, 5]))))))))
  (.seq (.reg [⟨some 15, .mv (.t 5), none⟩,
    ⟨some 4, .asg (.t 15), none⟩] [4])
  (.ret))))
theorem con_impl_depthOf {v0 : XGeo} {v1 : Int} {r : Int} (h : sh_impl_depthOf v0 v1 = some r) : Con Tryd.prog 119 [(cXGeo (cLs cI rfl)).enc v0, cI.enc v1] [] (rs_impl_depthOf r) := by
  delta sh_impl_depthOf at h
  refine top (out := none) (f := Tryd.f119) (m := m119) (rs := [.t 4]) (by kernel_rfl) rfl (by kernel_rfl) (by kernel_rfl) (by kernel_rfl) (by kernel_rfl) (by kernel_rfl) ?_
  exact
   ini [(0, .d ((cXGeo (cLs cI rfl)).enc v0)), (1, .d (cI.enc v1))] rfl <| wpC_seq <| reg_s <| x_box (ss rfl rfl) <| x_asg (sc cI (0 : Int) rfl) <| seqN [(1, .d (cI.enc v1)), (2, .box ((cXGeo (cLs cI rfl)).enc v0))] (by kernel_rfl) <|
    xn <| wpC_seq <| reg_s <| x_asg (sc cI (0 : Int) rfl) <| seqN [(1, .d (cI.enc v1)), (2, .box ((cXGeo (cLs cI rfl)).enc v0)), (5, .d (cI.enc (0 : Int)))] (by kernel_rfl) <|
    xn <| wpC_seq <| wpC_kp <| wpC_blk <| lpF (fun (s36 : (Int × Int)) => [(1, .d (cI.enc s36.1)), (2, .box ((cXGeo (cLs cI rfl)).enc v0)), (5, .d (cI.enc s36.2))]) (v1, (0 : Int)) rfl h
    fun G61 nx59 s36 hn60 h => wpC_kp <| wpC_seq <| wpC_kp <| wpC_seq <| reg_s <| st rfl <| mvd rfl rfl <| st rfl <| b_gtr (k := .i64) rfl rfl <| seqN [(1, .d (cI.enc s36.1)), (2, .box ((cXGeo (cLs cI rfl)).enc v0)), (5, .d (cI.enc s36.2)), (7, .d (cB.enc (decide ((0 : Int) < s36.1))))] (by kernel_rfl) <|
    xn <| cnd rfl h (fun b63 h => wpC_skip <| kpN [(1, .d (cI.enc s36.1)), (2, .box ((cXGeo (cLs cI rfl)).enc v0)), (5, .d (cI.enc s36.2))] (by kernel_rfl) <| xn <| wpC_blk <| wpC_seq <| reg_s <| st rfl <| fab rfl rfl rfl rfl <| st rfl <| lda rfl rfl rfl rfl rfl rfl <| st rfl <| mvd rfl rfl <| getO_k h fun x67 i68 g69 h => st rfl <| ias rfl rfl i68 g69 rfl <| st rfl <| ldi rfl rfl rfl rfl <| x_asg (ss rfl rfl) <| seqN [(1, .d (cI.enc x67)), (2, .box ((cXGeo (cLs cI rfl)).enc v0)), (5, .d (cI.enc s36.2))] (by kernel_rfl) <|
    xn <| reg_s <| st rfl <| mvd rfl rfl <| ckI_k h fun i70 h => st rfl <| b_add (k := .i64) rfl rfl i70 <| x_asg (ss rfl rfl) <| seqN [(1, .d (cI.enc x67)), (2, .box ((cXGeo (cLs cI rfl)).enc v0)), (5, .d (cI.enc (s36.2 + (1 : Int))))] (by kernel_rfl) <|
    xbb <| kpN [(1, .d (cI.enc x67)), (2, .box ((cXGeo (cLs cI rfl)).enc v0)), (5, .d (cI.enc (s36.2 + (1 : Int))))] (by kernel_rfl) <| xn <| hn60 (x67, (s36.2 + (1 : Int))) h)
    (fun b63 h => wpC_exit <| xt <| xt <| xt <| xt <| xb <| kpN [(5, .d (cI.enc s36.2))] (by kernel_rfl) <| xn <| wpC_seq <| reg_s <| st rfl <| mvd rfl rfl <| x_asg (ss rfl rfl) <| seqN [(4, .d (cI.enc s36.2))] (by kernel_rfl) <|
    xn <| wpC_ret <| re <| fin h (r1 (ss rfl rfl) <| r0) rfl)

def rs_impl_areasAt (r : (List Int)) : List D := [(cLo cI).enc r]
def m92 : MC := .seq (.reg [⟨some 2, .box (.t 0), none⟩,
    ⟨some 4, .asg (.c (.slice true [])), none⟩] [1, 2])
  (.seq (.reg [⟨some 5, .asg (.c (.slice true [])), none⟩] [1, 2, 5])
  (.seq (.kp [5] (.seq (.reg [⟨some 7, .fa 2 0 0, none⟩,
    ⟨some 8, .ld 7 1 false, none⟩,
    ⟨some 9, .len false (.t 8), none⟩,
    ⟨some 10, .mv (.c (.int .i64 0)), none⟩] [1, 2, 5, 9, 10])
  (.blk 0 (.loop (.seq (.reg [⟨some 11, .bin .lss (.t 10) (.t 9), none⟩] [1, 2, 5, 9, 10, 11])
  (.seq (.kp [1, 2, 5, 9, 10] (.cond (.t 11) (.skip) (.exit 0)))
  (.seq (.kp [1, 2, 5, 9, 10] (.blk 1 (.seq (.reg [⟨some 12, .mv (.t 10), none⟩,
    ⟨some 6, .asg (.t 12), none⟩] [1, 2, 5, 6, 9, 10])
  (.seq (.reg [⟨some 13, .ld 2 1 true, none⟩,
    ⟨some 14, .mv (.t 6), none⟩,
    ⟨some 15, .call 119 [(.t 13), (.t 14)], none⟩,
    ⟨some 16, .mv (.t 1), none⟩,
    ⟨some 17, .bin .eql (.t 15) (.t 16), none⟩] [1, 2, 5, 6, 9, 10, 17])
  (.cond (.t 17) (.reg [⟨some 18, .mv (.t 5), none⟩,
    ⟨some 19, .mv (.t 6), none⟩,
    ⟨some 20, .bsl [(.t 19)] 1, none⟩,
    ⟨some 21, .app (.t 18) (.t 20) 1, none⟩,
    ⟨some 5, .asg (.t 21), none⟩] [1, 2, 5, 9, 10]) (.skip))))))
  (.reg [⟨some 22, .bin .add (.t 10) (.c (.int .i64 1)), none⟩,
    ⟨some 10, .mv (.t 22), none⟩] [1, 2, 5, 9, 10]))))))))
  (.seq (.reg [⟨some 23, .mv (.t 5), none⟩,
    ⟨some 4, .asg (.t 23), none⟩] [4])
  (.ret))))
theorem con_impl_areasAt {v0 : XGeo} {v1 : Int} {r : (List Int)} (h : sh_impl_areasAt v0 v1 = some r) : Con Tryd.prog 92 [(cXGeo (cLs cI rfl)).enc v0, cI.enc v1] [] (rs_impl_areasAt r) := by
  delta sh_impl_areasAt at h
  refine top (out := none) (f := Tryd.f92) (m := m92) (rs := [.t 4]) (by kernel_rfl) rfl (by kernel_rfl) (by kernel_rfl) (by kernel_rfl) (by kernel_rfl) (by kernel_rfl) ?_
  exact
   ini [(0, .d ((cXGeo (cLs cI rfl)).enc v0)), (1, .d (cI.enc v1))] rfl <| wpC_seq <| reg_s <| x_box (ss rfl rfl) <| x_asg (sc (cLo cI) ([] : List Int) rfl) <| seqN [(1, .d (cI.enc v1)), (2, .box ((cXGeo (cLs cI rfl)).enc v0))] (by kernel_rfl) <|
    xn <| wpC_seq <| reg_s <| x_asg (sc (cLo cI) ([] : List Int) rfl) <| seqN [(1, .d (cI.enc v1)), (2, .box ((cXGeo (cLs cI rfl)).enc v0)), (5, .d ((cLo cI).enc ([] : List Int)))] (by kernel_rfl) <|
    xn <| wpC_seq <| wpC_kp <| wpC_seq <| reg_s <| st rfl <| fab rfl rfl rfl rfl <| st rfl <| lda rfl rfl rfl rfl rfl rfl <| stw rfl <| lens rfl fun l48 => st rfl <| mvc cI (0 : Int) rfl <| seqN [(1, .d (cI.enc v1)), (2, .box ((cXGeo (cLs cI rfl)).enc v0)), (5, .d ((cLo cI).enc ([] : List Int))), (9, .d (cI.enc (v0.Parents.length : Int))), (10, .d (cI.enc (0 : Int)))] (by kernel_rfl) <|
    xn <| wpC_blk <| lpR (fun (k50 : Nat) (s49 : (List Int)) => [(1, .d (cI.enc v1)), (2, .box ((cXGeo (cLs cI rfl)).enc v0)), (5, .d ((cLo cI).enc s49)), (9, .d (cI.enc (v0.Parents.length : Int))), (10, .d (cI.enc (k50 : Int)))]) ([] : List Int) rfl h
    (fun G80 s49 h => wpC_seq <| reg_s <| st rfl <| b_lss (k := .i64) rfl rfl <| seqN [(1, .d (cI.enc v1)), (2, .box ((cXGeo (cLs cI rfl)).enc v0)), (5, .d ((cLo cI).enc s49)), (9, .d (cI.enc (v0.Parents.length : Int))), (10, .d (cI.enc (v0.Parents.length : Int))), (11, .d (cB.enc (decide ((v0.Parents.length : Int) < (v0.Parents.length : Int)))))] (by kernel_rfl) <|
    xn <| wpC_seq <| wpC_kp <| cnd0 rfl (dlf _) <| wpC_exit <| xt <| xt <| xt <| xb <| kpN [(5, .d ((cLo cI).enc s49))] (by kernel_rfl) <| xn <| wpC_seq <| reg_s <| st rfl <| mvo rfl rfl <| x_asg (sr rfl rfl) <| seqN [(4, .d ((cLo cI).enc s49))] (by kernel_rfl) <|
    xn <| wpC_ret <| re <| fin h (r1 (so rfl rfl) <| r0) rfl)
    (fun G80 nx78 k50 s49 x51 hk52 hx53 hn79 h => wpC_seq <| reg_s <| st rfl <| b_lss (k := .i64) rfl rfl <| seqN [(1, .d (cI.enc v1)), (2, .box ((cXGeo (cLs cI rfl)).enc v0)), (5, .d ((cLo cI).enc s49)), (9, .d (cI.enc (v0.Parents.length : Int))), (10, .d (cI.enc (k50 : Int))), (11, .d (cB.enc (decide ((k50 : Int) < (v0.Parents.length : Int)))))] (by kernel_rfl) <|
    xn <| wpC_seq <| wpC_kp <| cnd1 rfl (dlt hk52) <| wpC_skip <| kpN [(1, .d (cI.enc v1)), (2, .box ((cXGeo (cLs cI rfl)).enc v0)), (5, .d ((cLo cI).enc s49)), (9, .d (cI.enc (v0.Parents.length : Int))), (10, .d (cI.enc (k50 : Int)))] (by kernel_rfl) <| xn <| wpC_seq <| wpC_kp <| wpC_blk <| wpC_seq <| reg_s <| st rfl <| mvd rfl rfl <| x_asg (ss rfl rfl) <| seqN [(1, .d (cI.enc v1)), (2, .box ((cXGeo (cLs cI rfl)).enc v0)), (5, .d ((cLo cI).enc s49)), (6, .d (cI.enc (k50 : Int))), (9, .d (cI.enc (v0.Parents.length : Int))), (10, .d (cI.enc (k50 : Int)))] (by kernel_rfl) <|
    xn <| wpC_seq <| reg_s <| st rfl <| ldb rfl rfl rfl rfl <| st rfl <| mvd rfl rfl <| bnd h fun x89 e90 h => st rfl <| o_call (a1 (c := (cXGeo (cLs cI rfl))) (tXGeo (tLs tK)) rfl (a1 (c := cI) tK rfl a0)) (con_impl_depthOf e90) (.inl (so1 sK so0)) <| st rfl <| mvd rfl rfl <| st rfl <| b_eql (k := .i64) rfl rfl <| seqN [(1, .d (cI.enc v1)), (2, .box ((cXGeo (cLs cI rfl)).enc v0)), (5, .d ((cLo cI).enc s49)), (6, .d (cI.enc (k50 : Int))), (9, .d (cI.enc (v0.Parents.length : Int))), (10, .d (cI.enc (k50 : Int))), (17, .d (cB.enc (decide (x89 = v1))))] (by kernel_rfl) <|
    xn <| cnd rfl h (fun b91 h => reg_s <| st rfl <| mvo rfl rfl <| st rfl <| mvd rfl rfl <| x_bsl cI [(k50 : Int)] (t1 (ss rfl rfl) rfl t0) rfl rfl <| lnO_k h fun l92 h => x_app (sr rfl rfl) (to rfl rfl) l92 rfl <| x_asg (so rfl rfl) <| seqN [(1, .d (cI.enc v1)), (2, .box ((cXGeo (cLs cI rfl)).enc v0)), (5, .d ((cLo cI).enc (s49 ++ [(k50 : Int)]))), (9, .d (cI.enc (v0.Parents.length : Int))), (10, .d (cI.enc (k50 : Int)))] (by kernel_rfl) <|
    xbb <| kpN [(1, .d (cI.enc v1)), (2, .box ((cXGeo (cLs cI rfl)).enc v0)), (5, .d ((cLo cI).enc (s49 ++ [(k50 : Int)]))), (9, .d (cI.enc (v0.Parents.length : Int))), (10, .d (cI.enc (k50 : Int)))] (by kernel_rfl) <| xn <| reg_s <| st rfl <| b_inc rfl rfl l48 hk52 <| st rfl <| mvd rfl rfl <| seqN [(1, .d (cI.enc v1)), (2, .box ((cXGeo (cLs cI rfl)).enc v0)), (5, .d ((cLo cI).enc (s49 ++ [(k50 : Int)]))), (9, .d (cI.enc (v0.Parents.length : Int))), (10, .d (cI.enc ((k50 + 1 : Nat) : Int)))] (by kernel_rfl) <|
    xn <| hn79 (s49 ++ [(k50 : Int)]) h)
    (fun b91 h => wpC_skip <| xbb <| kpN [(1, .d (cI.enc v1)), (2, .box ((cXGeo (cLs cI rfl)).enc v0)), (5, .d ((cLo cI).enc s49)), (9, .d (cI.enc (v0.Parents.length : Int))), (10, .d (cI.enc (k50 : Int)))] (by kernel_rfl) <| xn <| reg_s <| st rfl <| b_inc rfl rfl l48 hk52 <| st rfl <| mvd rfl rfl <| seqN [(1, .d (cI.enc v1)), (2, .box ((cXGeo (cLs cI rfl)).enc v0)), (5, .d ((cLo cI).enc s49)), (9, .d (cI.enc (v0.Parents.length : Int))), (10, .d (cI.enc ((k50 + 1 : Nat) : Int)))] (by kernel_rfl) <|
    xn <| hn79 s49 h))

def rs_impl_crossed (r : (List XVariable)) : List D := [(cLo (cXVariable cS cI)).enc r]
def m94 : MC := .seq (.reg [⟨some 3, .box (.t 1), none⟩,
    ⟨some 4, .asg (.c (.slice true [])), none⟩] [0, 3])
  (.seq (.reg [⟨some 8, .fa 3 1 1, none⟩,
    ⟨some 9, .ld 8 1 false, none⟩,
    ⟨some 10, .len false (.t 9), none⟩,
    ⟨some 11, .mk (.agg [.str [], .int .i64 0]) (.t 10), none⟩,
    ⟨some 5, .asg (.t 11), none⟩] [0, 3, 5])
  (.seq (.kp [5] (.seq (.reg [⟨some 12, .fa 3 1 1, none⟩,
    ⟨some 13, .ld 12 1 false, none⟩,
    ⟨some 14, .len false (.t 13), none⟩,
    ⟨some 15, .mv (.c (.int .i64 0)), none⟩] [0, 3, 5, 12, 13, 14, 15])
  (.blk 0 (.loop (.seq (.reg [⟨some 16, .bin .lss (.t 15) (.t 14), none⟩] [0, 3, 5, 12, 13, 14, 15, 16])
  (.seq (.kp [0, 3, 5, 12, 13, 14, 15] (.cond (.t 16) (.skip) (.exit 0)))
  (.seq (.kp [0, 3, 5, 12, 13, 14, 15] (.blk 1 (.seq (.reg [⟨some 17, .mv (.t 15), none⟩,
    ⟨some 18, .ia 13 (.t 15) 1, none⟩,
    ⟨some 19, .ld 18 1 false, none⟩,
    ⟨some 6, .asg (.t 17), none⟩,
    ⟨some 7, .asg (.t 19), none⟩] [0, 3, 5, 6, 7, 12, 13, 14, 15])
  (.reg [⟨some 20, .mv (.t 5), none⟩,
    ⟨some 21, .mv (.t 6), none⟩,
    ⟨some 22, .mv (.t 0), none⟩,
    ⟨some 23, .mv (.t 7), none⟩,
    ⟨some 24, .ia 22 (.t 23) 2, none⟩,
    ⟨some 25, .ld 24 2 true, none⟩,
    ⟨some 26, .ia 20 (.t 21) 2, none⟩,
    ⟨none, .st 26 (.t 25) 2, none⟩] [0, 3, 5, 12, 13, 14, 15]))))
  (.reg [⟨some 27, .bin .add (.t 15) (.c (.int .i64 1)), none⟩,
    ⟨some 15, .mv (.t 27), none⟩] [0, 3, 5, 12, 13, 14, 15]))))))))
  (.seq (.reg [⟨some 28, .mv (.t 5), none⟩,
    ⟨some 4, .asg (.t 28), none⟩] [4])
  (.ret))))
theorem con_impl_crossed {v0 : (List XVariable)} {v1 : XTable} {r : (List XVariable)} (h : sh_impl_crossed v0 v1 = some r) : Con Tryd.prog 94 [(cLs (cXVariable cS cI) rfl).enc v0, (cXTable cI (cLs cI rfl) (cLs cI rfl) cI).enc v1] [] (rs_impl_crossed r) := by
  delta sh_impl_crossed at h
  refine top (out := none) (f := Tryd.f94) (m := m94) (rs := [.t 4]) (by kernel_rfl) rfl (by kernel_rfl) (by kernel_rfl) (by kernel_rfl) (by kernel_rfl) (by kernel_rfl) ?_
  exact
   ini [(0, .d ((cLs (cXVariable cS cI) rfl).enc v0)), (1, .d ((cXTable cI (cLs cI rfl) (cLs cI rfl) cI).enc v1))] rfl <| wpC_seq <| reg_s <| x_box (ss rfl rfl) <| x_asg (sc (cLo (cXVariable cS cI)) ([] : List XVariable) rfl) <| seqN [(0, .d ((cLs (cXVariable cS cI) rfl).enc v0)), (3, .box ((cXTable cI (cLs cI rfl) (cLs cI rfl) cI).enc v1))] (by kernel_rfl) <|
    xn <| wpC_seq <| reg_s <| st rfl <| fab rfl rfl rfl rfl <| st rfl <| lda rfl rfl rfl rfl rfl rfl <| stw rfl <| lens rfl fun l4 => mkO_k h fun i5 l6 h => st rfl <| o_mk (c := (cXVariable cS cI)) (a0 := (⟨([] : List UInt8), (0 : Int)⟩ : XVariable)) rfl (k := .i64) rfl i5 l6 <| x_asg (so rfl rfl) <| seqN [(0, .d ((cLs (cXVariable cS cI) rfl).enc v0)), (3, .box ((cXTable cI (cLs cI rfl) (cLs cI rfl) cI).enc v1)), (5, .d ((cLo (cXVariable cS cI)).enc (List.replicate ((v1.Vars.length : Int)).toNat (⟨([] : List UInt8), (0 : Int)⟩ : XVariable))))] (by kernel_rfl) <|
    xn <| wpC_seq <| wpC_kp <| wpC_seq <| reg_s <| st rfl <| fab rfl rfl rfl rfl <| st rfl <| lda rfl rfl rfl rfl rfl rfl <| stw rfl <| lens rfl fun l54 => st rfl <| mvc cI (0 : Int) rfl <| seqN [(0, .d ((cLs (cXVariable cS cI) rfl).enc v0)), (3, .box ((cXTable cI (cLs cI rfl) (cLs cI rfl) cI).enc v1)), (5, .d ((cLo (cXVariable cS cI)).enc (List.replicate ((v1.Vars.length : Int)).toNat (⟨([] : List UInt8), (0 : Int)⟩ : XVariable)))), (12, .adr 3 [.fld 1]), (13, .d ((cLs cI rfl).enc v1.Vars)), (14, .d (cI.enc (v1.Vars.length : Int))), (15, .d (cI.enc (0 : Int)))] (by kernel_rfl) <|
    xn <| wpC_blk <| lpR (fun (k56 : Nat) (s55 : (List XVariable)) => [(0, .d ((cLs (cXVariable cS cI) rfl).enc v0)), (3, .box ((cXTable cI (cLs cI rfl) (cLs cI rfl) cI).enc v1)), (5, .d ((cLo (cXVariable cS cI)).enc s55)), (12, .adr 3 [.fld 1]), (13, .d ((cLs cI rfl).enc v1.Vars)), (14, .d (cI.enc (v1.Vars.length : Int))), (15, .d (cI.enc (k56 : Int)))]) (List.replicate ((v1.Vars.length : Int)).toNat (⟨([] : List UInt8), (0 : Int)⟩ : XVariable)) rfl h
    (fun G86 s55 h => wpC_seq <| reg_s <| st rfl <| b_lss (k := .i64) rfl rfl <| seqN [(0, .d ((cLs (cXVariable cS cI) rfl).enc v0)), (3, .box ((cXTable cI (cLs cI rfl) (cLs cI rfl) cI).enc v1)), (5, .d ((cLo (cXVariable cS cI)).enc s55)), (12, .adr 3 [.fld 1]), (13, .d ((cLs cI rfl).enc v1.Vars)), (14, .d (cI.enc (v1.Vars.length : Int))), (15, .d (cI.enc (v1.Vars.length : Int))), (16, .d (cB.enc (decide ((v1.Vars.length : Int) < (v1.Vars.length : Int)))))] (by kernel_rfl) <|
    xn <| wpC_seq <| wpC_kp <| cnd0 rfl (dlf _) <| wpC_exit <| xt <| xt <| xt <| xb <| kpN [(5, .d ((cLo (cXVariable cS cI)).enc s55))] (by kernel_rfl) <| xn <| wpC_seq <| reg_s <| st rfl <| mvo rfl rfl <| x_asg (sr rfl rfl) <| seqN [(4, .d ((cLo (cXVariable cS cI)).enc s55))] (by kernel_rfl) <|
    xn <| wpC_ret <| re <| fin h (r1 (so rfl rfl) <| r0) rfl)
    (fun G86 nx84 k56 s55 x57 hk58 hx59 hn85 h => wpC_seq <| reg_s <| st rfl <| b_lss (k := .i64) rfl rfl <| seqN [(0, .d ((cLs (cXVariable cS cI) rfl).enc v0)), (3, .box ((cXTable cI (cLs cI rfl) (cLs cI rfl) cI).enc v1)), (5, .d ((cLo (cXVariable cS cI)).enc s55)), (12, .adr 3 [.fld 1]), (13, .d ((cLs cI rfl).enc v1.Vars)), (14, .d (cI.enc (v1.Vars.length : Int))), (15, .d (cI.enc (k56 : Int))), (16, .d (cB.enc (decide ((k56 : Int) < (v1.Vars.length : Int)))))] (by kernel_rfl) <|
    xn <| wpC_seq <| wpC_kp <| cnd1 rfl (dlt hk58) <| wpC_skip <| kpN [(0, .d ((cLs (cXVariable cS cI) rfl).enc v0)), (3, .box ((cXTable cI (cLs cI rfl) (cLs cI rfl) cI).enc v1)), (5, .d ((cLo (cXVariable cS cI)).enc s55)), (12, .adr 3 [.fld 1]), (13, .d ((cLs cI rfl).enc v1.Vars)), (14, .d (cI.enc (v1.Vars.length : Int))), (15, .d (cI.enc (k56 : Int)))] (by kernel_rfl) <| xn <| wpC_seq <| wpC_kp <| wpC_blk <| wpC_seq <| reg_s <| st rfl <| mvd rfl rfl <| st rfl <| ias rfl rfl (Int.natCast_nonneg _) hx59 rfl <| st rfl <| ldi rfl rfl rfl rfl <| x_asg (ss rfl rfl) <| x_asg (ss rfl rfl) <| seqN [(0, .d ((cLs (cXVariable cS cI) rfl).enc v0)), (3, .box ((cXTable cI (cLs cI rfl) (cLs cI rfl) cI).enc v1)), (5, .d ((cLo (cXVariable cS cI)).enc s55)), (6, .d (cI.enc (k56 : Int))), (7, .d (cI.enc x57)), (12, .adr 3 [.fld 1]), (13, .d ((cLs cI rfl).enc v1.Vars)), (14, .d (cI.enc (v1.Vars.length : Int))), (15, .d (cI.enc (k56 : Int)))] (by kernel_rfl) <|
    xn <| reg_s <| st rfl <| mvo rfl rfl <| st rfl <| mvd rfl rfl <| st rfl <| mvd rfl rfl <| st rfl <| mvd rfl rfl <| getO_k h fun x93 i94 g95 h => st rfl <| ias rfl rfl i94 g95 rfl <| st rfl <| ldi rfl rfl rfl rfl <| getO_k h fun x96 i97 g98 h => st rfl <| iar rfl rfl rfl rfl i97 g98 rfl <| x_sta ((cLo (cXVariable cS cI)).enc (s55.set ((k56 : Int)).toNat x93)) (ss rfl rfl) rfl rfl (Ln.idx g98 Ln.nil) (Cd.h_sz (cXVariable cS cI) _) rfl <| seqN [(0, .d ((cLs (cXVariable cS cI) rfl).enc v0)), (3, .box ((cXTable cI (cLs cI rfl) (cLs cI rfl) cI).enc v1)), (5, .d ((cLo (cXVariable cS cI)).enc (s55.set ((k56 : Int)).toNat x93))), (12, .adr 3 [.fld 1]), (13, .d ((cLs cI rfl).enc v1.Vars)), (14, .d (cI.enc (v1.Vars.length : Int))), (15, .d (cI.enc (k56 : Int)))] (by kernel_rfl) <|
    xbb <| kpN [(0, .d ((cLs (cXVariable cS cI) rfl).enc v0)), (3, .box ((cXTable cI (cLs cI rfl) (cLs cI rfl) cI).enc v1)), (5, .d ((cLo (cXVariable cS cI)).enc (s55.set ((k56 : Int)).toNat x93))), (12, .adr 3 [.fld 1]), (13, .d ((cLs cI rfl).enc v1.Vars)), (14, .d (cI.enc (v1.Vars.length : Int))), (15, .d (cI.enc (k56 : Int)))] (by kernel_rfl) <| xn <| reg_s <| st rfl <| b_inc rfl rfl l54 hk58 <| st rfl <| mvd rfl rfl <| seqN [(0, .d ((cLs (cXVariable cS cI) rfl).enc v0)), (3, .box ((cXTable cI (cLs cI rfl) (cLs cI rfl) cI).enc v1)), (5, .d ((cLo (cXVariable cS cI)).enc (s55.set ((k56 : Int)).toNat x93))), (12, .adr 3 [.fld 1]), (13, .d ((cLs cI rfl).enc v1.Vars)), (14, .d (cI.enc (v1.Vars.length : Int))), (15, .d (cI.enc ((k56 + 1 : Nat) : Int)))] (by kernel_rfl) <|
    xn <| hn85 (s55.set ((k56 : Int)).toNat x93) h)

def rs_impl_combinations (r : Int) : List D := [cI.enc r]
def m93 : MC := .seq (.reg [⟨some 2, .asg (.c (.int .i64 0)), none⟩] [0])
  (.seq (.reg [⟨some 3, .asg (.c (.int .i64 1)), none⟩] [0, 3])
  (.seq (.kp [3] (.seq (.reg [⟨some 6, .mv (.t 0), none⟩,
    ⟨some 7, .len false (.t 6), none⟩,
    ⟨some 8, .mv (.c (.int .i64 0)), none⟩] [0, 3, 6, 7, 8])
  (.blk 0 (.loop (.seq (.reg [⟨some 9, .bin .lss (.t 8) (.t 7), none⟩] [0, 3, 6, 7, 8, 9])
  (.seq (.kp [0, 3, 6, 7, 8] (.cond (.t 9) (.skip) (.exit 0)))
  (.seq (.kp [0, 3, 6, 7, 8] (.blk 1 (.seq (.reg [⟨some 10, .ia 6 (.t 8) 2, none⟩,
    ⟨some 11, .ld 10 2 true, none⟩,
    ⟨some 5, .alloc (.agg [.str [], .int .i64 0]), none⟩,
    ⟨none, .st 5 (.t 11) 2, none⟩] [0, 3, 5, 6, 7, 8])
  (.reg [⟨some 12, .mv (.t 3), none⟩,
    ⟨some 13, .fa 5 1 1, none⟩,
    ⟨some 14, .ld 13 1 false, none⟩,
    ⟨some 15, .bin .mul (.t 12) (.t 14), none⟩,
    ⟨some 3, .asg (.t 15), none⟩] [0, 3, 6, 7, 8]))))
  (.reg [⟨some 16, .bin .add (.t 8) (.c (.int .i64 1)), none⟩,
    ⟨some 8, .mv (.t 16), none⟩] [0, 3, 6, 7, 8]))))))))
  (.seq (.reg [⟨some 17, .mv (.t 3), none⟩,
    ⟨some 2, .asg (.t 17), none⟩] [2])
  (.ret))))
theorem con_impl_combinations {v0 : (List XVariable)} {r : Int} (h : sh_impl_combinations v0 = some r) : Con Tryd.prog 93 [(cLs (cXVariable cS cI) rfl).enc v0] [] (rs_impl_combinations r) := by
  delta sh_impl_combinations at h
  refine top (out := none) (f := Tryd.f93) (m := m93) (rs := [.t 2]) (by kernel_rfl) rfl (by kernel_rfl) (by kernel_rfl) (by kernel_rfl) (by kernel_rfl) (by kernel_rfl) ?_
  exact
   ini [(0, .d ((cLs (cXVariable cS cI) rfl).enc v0))] rfl <| wpC_seq <| reg_s <| x_asg (sc cI (0 : Int) rfl) <| seqN [(0, .d ((cLs (cXVariable cS cI) rfl).enc v0))] (by kernel_rfl) <|
    xn <| wpC_seq <| reg_s <| x_asg (sc cI (1 : Int) rfl) <| seqN [(0, .d ((cLs (cXVariable cS cI) rfl).enc v0)), (3, .d (cI.enc (1 : Int)))] (by kernel_rfl) <|
    xn <| wpC_seq <| wpC_kp <| wpC_seq <| reg_s <| st rfl <| mvd rfl rfl <| stw rfl <| lens rfl fun l18 => st rfl <| mvc cI (0 : Int) rfl <| seqN [(0, .d ((cLs (cXVariable cS cI) rfl).enc v0)), (3, .d (cI.enc (1 : Int))), (6, .d ((cLs (cXVariable cS cI) rfl).enc v0)), (7, .d (cI.enc (v0.length : Int))), (8, .d (cI.enc (0 : Int)))] (by kernel_rfl) <|
    xn <| wpC_blk <| lpR (fun (k20 : Nat) (s19 : Int) => [(0, .d ((cLs (cXVariable cS cI) rfl).enc v0)), (3, .d (cI.enc s19)), (6, .d ((cLs (cXVariable cS cI) rfl).enc v0)), (7, .d (cI.enc (v0.length : Int))), (8, .d (cI.enc (k20 : Int)))]) (1 : Int) rfl h
    (fun G30 s19 h => wpC_seq <| reg_s <| st rfl <| b_lss (k := .i64) rfl rfl <| seqN [(0, .d ((cLs (cXVariable cS cI) rfl).enc v0)), (3, .d (cI.enc s19)), (6, .d ((cLs (cXVariable cS cI) rfl).enc v0)), (7, .d (cI.enc (v0.length : Int))), (8, .d (cI.enc (v0.length : Int))), (9, .d (cB.enc (decide ((v0.length : Int) < (v0.length : Int)))))] (by kernel_rfl) <|
    xn <| wpC_seq <| wpC_kp <| cnd0 rfl (dlf _) <| wpC_exit <| xt <| xt <| xt <| xb <| kpN [(3, .d (cI.enc s19))] (by kernel_rfl) <| xn <| wpC_seq <| reg_s <| st rfl <| mvd rfl rfl <| x_asg (ss rfl rfl) <| seqN [(2, .d (cI.enc s19))] (by kernel_rfl) <|
    xn <| wpC_ret <| re <| fin h (r1 (ss rfl rfl) <| r0) rfl)
    (fun G30 nx28 k20 s19 x21 hk22 hx23 hn29 h => wpC_seq <| reg_s <| st rfl <| b_lss (k := .i64) rfl rfl <| seqN [(0, .d ((cLs (cXVariable cS cI) rfl).enc v0)), (3, .d (cI.enc s19)), (6, .d ((cLs (cXVariable cS cI) rfl).enc v0)), (7, .d (cI.enc (v0.length : Int))), (8, .d (cI.enc (k20 : Int))), (9, .d (cB.enc (decide ((k20 : Int) < (v0.length : Int)))))] (by kernel_rfl) <|
    xn <| wpC_seq <| wpC_kp <| cnd1 rfl (dlt hk22) <| wpC_skip <| kpN [(0, .d ((cLs (cXVariable cS cI) rfl).enc v0)), (3, .d (cI.enc s19)), (6, .d ((cLs (cXVariable cS cI) rfl).enc v0)), (7, .d (cI.enc (v0.length : Int))), (8, .d (cI.enc (k20 : Int)))] (by kernel_rfl) <| xn <| wpC_seq <| wpC_kp <| wpC_blk <| wpC_seq <| reg_s <| st rfl <| ias rfl rfl (Int.natCast_nonneg _) hx23 rfl <| st rfl <| ldi rfl rfl rfl rfl <| x_all (cXVariable cS cI) (⟨([] : List UInt8), (0 : Int)⟩ : XVariable) rfl <| x_stb (ss rfl rfl) rfl (Cd.h_sz _ _) rfl <| seqN [(0, .d ((cLs (cXVariable cS cI) rfl).enc v0)), (3, .d (cI.enc s19)), (5, .box ((cXVariable cS cI).enc x21)), (6, .d ((cLs (cXVariable cS cI) rfl).enc v0)), (7, .d (cI.enc (v0.length : Int))), (8, .d (cI.enc (k20 : Int)))] (by kernel_rfl) <|
    xn <| reg_s <| st rfl <| mvd rfl rfl <| st rfl <| fab rfl rfl rfl rfl <| st rfl <| lda rfl rfl rfl rfl rfl rfl <| ckI_k h fun i32 h => st rfl <| b_mul (k := .i64) rfl rfl i32 <| x_asg (ss rfl rfl) <| seqN [(0, .d ((cLs (cXVariable cS cI) rfl).enc v0)), (3, .d (cI.enc (s19 * x21.Levels))), (6, .d ((cLs (cXVariable cS cI) rfl).enc v0)), (7, .d (cI.enc (v0.length : Int))), (8, .d (cI.enc (k20 : Int)))] (by kernel_rfl) <|
    xbb <| kpN [(0, .d ((cLs (cXVariable cS cI) rfl).enc v0)), (3, .d (cI.enc (s19 * x21.Levels))), (6, .d ((cLs (cXVariable cS cI) rfl).enc v0)), (7, .d (cI.enc (v0.length : Int))), (8, .d (cI.enc (k20 : Int)))] (by kernel_rfl) <| xn <| reg_s <| st rfl <| b_inc rfl rfl l18 hk22 <| st rfl <| mvd rfl rfl <| seqN [(0, .d ((cLs (cXVariable cS cI) rfl).enc v0)), (3, .d (cI.enc (s19 * x21.Levels))), (6, .d ((cLs (cXVariable cS cI) rfl).enc v0)), (7, .d (cI.enc (v0.length : Int))), (8, .d (cI.enc ((k20 + 1 : Nat) : Int)))] (by kernel_rfl) <|
    xn <| hn29 (s19 * x21.Levels) h)

def rs_impl_cellCount (r : Int) : List D := [cI.enc r]
def m54 : MC := .seq (.reg [⟨some 3, .box (.t 0), none⟩,
    ⟨some 5, .box (.t 2), none⟩,
    ⟨some 6, .asg (.c (.int .i64 0)), none⟩] [1, 3, 5])
  (.seq (.drw [⟨0, ⟨some 7, .ld 3 1 true, none⟩, [8, 9, 10, 11, 12, 13, 14, 15, 16]⟩,
    ⟨1, ⟨some 8, .fa 5 0 0, none⟩, [7, 9, 10, 11, 12, 13, 14, 15, 16]⟩,
    ⟨2, ⟨some 9, .ld 8 1 false, none⟩, [7, 10, 11, 12, 13, 14, 15, 16]⟩,
    ⟨3, ⟨some 10, .call 92 [(.t 7), (.t 9)], none⟩, [11, 12, 13, 14, 15, 16]⟩,
    ⟨4, ⟨some 11, .len false (.t 10), none⟩, [12, 13, 14, 15, 16]⟩,
    ⟨5, ⟨some 12, .mv (.t 1), none⟩, [7, 8, 9, 10, 11, 13, 14, 15, 16]⟩,
    ⟨6, ⟨some 13, .ld 5 4 true, none⟩, [7, 8, 9, 10, 11, 12, 14, 15, 16]⟩,
    ⟨7, ⟨some 14, .call 94 [(.t 12), (.t 13)], none⟩, [11, 15, 16]⟩,
    ⟨8, ⟨some 15, .call 93 [(.t 14)], none⟩, [11, 16]⟩,
    ⟨9, ⟨some 16, .bin .mul (.t 11) (.t 15), none⟩, []⟩]
    [(10, ⟨some 6, .asg (.t 16), none⟩)] [6])
  (.ret))
theorem con_impl_cellCount {v0 : XGeo} {v1 : (List XVariable)} {v2 : XTable} {r : Int} (h : sh_impl_cellCount v0 v1 v2 = some r) : Con Tryd.prog 54 [(cXGeo (cLs cI rfl)).enc v0, (cLs (cXVariable cS cI) rfl).enc v1, (cXTable cI (cLs cI rfl) (cLs cI rfl) cI).enc v2] [] (rs_impl_cellCount r) := by
  delta sh_impl_cellCount at h
  refine top (out := none) (f := Tryd.f54) (m := m54) (rs := [.t 6]) (by kernel_rfl) rfl (by kernel_rfl) (by kernel_rfl) (by kernel_rfl) (by kernel_rfl) (by kernel_rfl) ?_
  exact
   ini [(0, .d ((cXGeo (cLs cI rfl)).enc v0)), (1, .d ((cLs (cXVariable cS cI) rfl).enc v1)), (2, .d ((cXTable cI (cLs cI rfl) (cLs cI rfl) cI).enc v2))] rfl <| wpC_seq <| reg_s <| x_box (ss rfl rfl) <| x_box (ss rfl rfl) <| x_asg (sc cI (0 : Int) rfl) <| seqN [(1, .d ((cLs (cXVariable cS cI) rfl).enc v1)), (3, .box ((cXGeo (cLs cI rfl)).enc v0)), (5, .box ((cXTable cI (cLs cI rfl) (cLs cI rfl) cI).enc v2))] (by kernel_rfl) <|
    xn <| wpC_seq <| drw_s <| pst rfl <| ldb rfl rfl rfl rfl ⟨rfl, pst rfl <| fab rfl rfl rfl rfl ⟨rfl, pst rfl <| lda rfl rfl rfl rfl rfl rfl ⟨rfl, bndp h fun x9 e10 h => pst rfl <| o_call (a1 (c := (cXGeo (cLs cI rfl))) (tXGeo (tLs tK)) rfl (a1 (c := cI) tK rfl a0)) (con_impl_areasAt e10) (.inl (so1 (sLo sK) so0)) ⟨rfl, lmO_kp h fun l11 h => pst rfl <| plno rfl l11 ⟨rfl, pst rfl <| mvd rfl rfl ⟨rfl, pst rfl <| ldb rfl rfl rfl rfl ⟨rfl, bndp h fun x12 e13 h => pst rfl <| o_call (a1 (c := (cLs (cXVariable cS cI) rfl)) (tLs (tXVariable tS tK)) rfl (a1 (c := (cXTable cI (cLs cI rfl) (cLs cI rfl) cI)) (tXTable tK (tLs tK) (tLs tK) tK) rfl a0)) (con_impl_crossed e13) (.inl (so1 (sLo (sXVariable sS sK)) so0)) ⟨rfl, bndp h fun x14 e15 h => pst rfl <| o_call (a1 (c := (cLo (cXVariable cS cI))) (tLo (tXVariable tS tK)) rfl a0) (con_impl_combinations e15) (.inl (so1 sK so0)) ⟨rfl, ckI_kp h fun i16 h => pst rfl <| b_mul (k := .i64) rfl rfl i16 ⟨rfl, preN <| x_asg (ss rfl rfl) <| seqN [(6, .d (cI.enc ((x9.length : Int) * x14)))] (by kernel_rfl) <|
    xn <| wpC_ret <| re <| fin h (r1 (ss rfl rfl) <| r0) rfl⟩⟩⟩⟩⟩⟩⟩⟩⟩⟩

def rs_impl_isTable (r : Bool) : List D := [cB.enc r]
def m86 : MC := .seq (.reg [⟨some 3, .box (.t 0), none⟩,
    ⟨some 5, .box (.t 2), none⟩,
    ⟨some 6, .asg (.c (.bool false)), none⟩] [1, 3, 5])
  (.seq (.kp [1, 3, 5] (.seq (.reg [⟨some 8, .mv (.t 1), none⟩,
    ⟨some 9, .fa 5 1 1, none⟩,
    ⟨some 10, .ld 9 1 false, none⟩,
    ⟨some 11, .call 115 [(.t 8), (.t 10)], none⟩,
    ⟨some 12, .nt (.t 11), none⟩,
    ⟨some 13, .mv (.t 12), none⟩,
    ⟨some 14, .mv (.t 1), some (13, false)⟩,
    ⟨some 15, .fa 5 2 2, some (13, false)⟩,
    ⟨some 16, .ld 15 1 false, some (13, false)⟩,
    ⟨some 17, .call 116 [(.t 14), (.t 16)], some (13, false)⟩,
    ⟨some 18, .nt (.t 17), some (13, false)⟩,
    ⟨some 19, .pick (.t 13) (.c (.bool true)) (.t 18), none⟩,
    ⟨some 20, .mv (.t 19), none⟩,
    ⟨some 21, .fa 5 3 3, some (20, false)⟩,
    ⟨some 22, .ld 21 1 false, some (20, false)⟩,
    ⟨some 23, .bin .lss (.t 22) (.c (.int .i64 (-1))), some (20, false)⟩,
    ⟨some 24, .pick (.t 20) (.c (.bool true)) (.t 23), none⟩,
    ⟨some 25, .mv (.t 24), none⟩,
    ⟨some 26, .fa 5 3 3, some (25, false)⟩,
    ⟨some 27, .ld 26 1 false, some (25, false)⟩,
    ⟨some 28, .mv (.t 1), some (25, false)⟩,
    ⟨some 29, .len false (.t 28), some (25, false)⟩,
    ⟨some 30, .bin .geq (.t 27) (.t 29), some (25, false)⟩,
    ⟨some 31, .pick (.t 25) (.c (.bool true)) (.t 30), none⟩] [1, 3, 5, 31])
  (.cond (.t 31) (.seq (.reg [⟨some 6, .asg (.c (.bool false)), none⟩] [6])
  (.ret)) (.skip))))
  (.seq (.reg [⟨some 32, .ld 3 1 true, none⟩,
    ⟨some 33, .mv (.t 1), none⟩,
    ⟨some 34, .ld 5 4 true, none⟩,
    ⟨some 35, .call 54 [(.t 32), (.t 33), (.t 34)], none⟩,
    ⟨some 7, .asg (.t 35), none⟩] [7])
  (.seq (.reg [⟨some 36, .mv (.t 7), none⟩,
    ⟨some 37, .bin .gtr (.t 36) (.c (.int .i64 0)), none⟩,
    ⟨some 38, .mv (.t 37), none⟩,
    ⟨some 39, .mv (.t 7), some (38, true)⟩,
    ⟨some 40, .bin .leq (.t 39) (.c (.int .i64 600)), some (38, true)⟩,
    ⟨some 41, .pick (.t 38) (.t 40) (.c (.bool false)), none⟩,
    ⟨some 6, .asg (.t 41), none⟩] [6])
  (.ret))))
theorem con_impl_isTable {v0 : XGeo} {v1 : (List XVariable)} {v2 : XTable} {r : Bool} (h : sh_impl_isTable v0 v1 v2 = some r) : Con Tryd.prog 86 [(cXGeo (cLs cI rfl)).enc v0, (cLs (cXVariable cS cI) rfl).enc v1, (cXTable cI (cLs cI rfl) (cLs cI rfl) cI).enc v2] [] (rs_impl_isTable r) := by
  delta sh_impl_isTable at h
  refine top (out := none) (f := Tryd.f86) (m := m86) (rs := [.t 6]) (by kernel_rfl) rfl (by kernel_rfl) (by kernel_rfl) (by kernel_rfl) (by kernel_rfl) (by kernel_rfl) ?_
  exact
   ini [(0, .d ((cXGeo (cLs cI rfl)).enc v0)), (1, .d ((cLs (cXVariable cS cI) rfl).enc v1)), (2, .d ((cXTable cI (cLs cI rfl) (cLs cI rfl) cI).enc v2))] rfl <| wpC_seq <| reg_s <| x_box (ss rfl rfl) <| x_box (ss rfl rfl) <| x_asg (sc cB false rfl) <| seqN [(1, .d ((cLs (cXVariable cS cI) rfl).enc v1)), (3, .box ((cXGeo (cLs cI rfl)).enc v0)), (5, .box ((cXTable cI (cLs cI rfl) (cLs cI rfl) cI).enc v2))] (by kernel_rfl) <|
    xn <| wpC_seq <| wpC_kp <| wpC_seq <| jw (fun (s28 : Bool) => [(1, .d ((cLs (cXVariable cS cI) rfl).enc v1)), (3, .box ((cXGeo (cLs cI rfl)).enc v0)), (5, .box ((cXTable cI (cLs cI rfl) (cLs cI rfl) cI).enc v2)), (31, .d (cB.enc s28))]) h (fun s28 h => xn <| cnd rfl h (fun b30 h => wpC_seq <| reg_s <| x_asg (sc cB false rfl) <| seqN [(6, .d (cB.enc false))] (by kernel_rfl) <|
    xn <| wpC_ret <| rt <| rt <| re <| fin h (r1 (ss rfl rfl) <| r0) rfl)
    (fun b30 h => wpC_skip <| kpN [(1, .d ((cLs (cXVariable cS cI) rfl).enc v1)), (3, .box ((cXGeo (cLs cI rfl)).enc v0)), (5, .box ((cXTable cI (cLs cI rfl) (cLs cI rfl) cI).enc v2))] (by kernel_rfl) <| xn <| wpC_seq <| reg_s <| st rfl <| ldb rfl rfl rfl rfl <| st rfl <| mvd rfl rfl <| st rfl <| ldb rfl rfl rfl rfl <| bnd h fun x33 e34 h => st rfl <| o_call (a1 (c := (cXGeo (cLs cI rfl))) (tXGeo (tLs tK)) rfl (a1 (c := (cLs (cXVariable cS cI) rfl)) (tLs (tXVariable tS tK)) rfl (a1 (c := (cXTable cI (cLs cI rfl) (cLs cI rfl) cI)) (tXTable tK (tLs tK) (tLs tK) tK) rfl a0))) (con_impl_cellCount e34) (.inl (so1 sK so0)) <| x_asg (ss rfl rfl) <| seqN [(7, .d (cI.enc x33))] (by kernel_rfl) <|
    xn <| wpC_seq <| reg_s <| st rfl <| mvd rfl rfl <| st rfl <| b_gtr (k := .i64) rfl rfl <| st rfl <| mvd rfl rfl <| ite_k h (fun b36 h => gt' rfl b36 <| st rfl <| mvd rfl rfl <| gt' rfl b36 <| st rfl <| b_leq (k := .i64) rfl rfl <| st rfl <| pick1 rfl b36 (cd := cB) (v := (decide (x33 ≤ (600 : Int)))) rfl rfl <| x_asg (ss rfl rfl) <| seqN [(6, .d (cB.enc (decide (x33 ≤ (600 : Int)))))] (by kernel_rfl) <|
    xn <| wpC_ret <| re <| fin h (r1 (ss rfl rfl) <| r0) rfl)
    (fun b36 h => gf rfl b36 <| gf rfl b36 <| st rfl <| pick0 rfl b36 (cd := cB) (v := false) rfl rfl <| x_asg (ss rfl rfl) <| seqN [(6, .d (cB.enc false))] (by kernel_rfl) <|
    xn <| wpC_ret <| re <| fin h (r1 (ss rfl rfl) <| r0) rfl)))
    fun s28' q29 h => reg_s <| st rfl <| mvd rfl rfl <| st rfl <| fab rfl rfl rfl rfl <| st rfl <| lda rfl rfl rfl rfl rfl rfl <| bnd h fun x37 e38 h => st rfl <| o_call (a1 (c := (cLs (cXVariable cS cI) rfl)) (tLs (tXVariable tS tK)) rfl (a1 (c := (cLs cI rfl)) (tLs tK) rfl a0)) (con_impl_areVars e38) (.inl (so1 sB so0)) <| st rfl <| o_nt rfl <| st rfl <| mvd rfl rfl <| ite_k h (fun b39 h => gf rfl b39 <| gf rfl b39 <| gf rfl b39 <| gf rfl b39 <| gf rfl b39 <| st rfl <| pick1 rfl b39 (cd := cB) (v := true) rfl rfl <| st rfl <| mvd rfl rfl <| gf rfl rfl <| gf rfl rfl <| gf rfl rfl <| st rfl <| pick1 rfl rfl (cd := cB) (v := true) rfl rfl <| st rfl <| mvd rfl rfl <| gf rfl rfl <| gf rfl rfl <| gf rfl rfl <| gf rfl rfl <| gf rfl rfl <| st rfl <| pick1 rfl rfl (cd := cB) (v := true) rfl rfl <| seqN [(1, .d ((cLs (cXVariable cS cI) rfl).enc v1)), (3, .box ((cXGeo (cLs cI rfl)).enc v0)), (5, .box ((cXTable cI (cLs cI rfl) (cLs cI rfl) cI).enc v2)), (31, .d (cB.enc true))] (by kernel_rfl) <|
    lfn (S := (fun (s28 : Bool) => [(1, .d ((cLs (cXVariable cS cI) rfl).enc v1)), (3, .box ((cXGeo (cLs cI rfl)).enc v0)), (5, .box ((cXTable cI (cLs cI rfl) (cLs cI rfl) cI).enc v2)), (31, .d (cB.enc s28))])) h q29 rfl)
    (fun b39 h => gt' rfl b39 <| st rfl <| mvd rfl rfl <| gt' rfl b39 <| st rfl <| fab rfl rfl rfl rfl <| gt' rfl b39 <| st rfl <| lda rfl rfl rfl rfl rfl rfl <| gt' rfl b39 <| bnd h fun x40 e41 h => st rfl <| o_call (a1 (c := (cLs (cXVariable cS cI) rfl)) (tLs (tXVariable tS tK)) rfl (a1 (c := (cLs cI rfl)) (tLs tK) rfl a0)) (con_impl_isWhere e41) (.inl (so1 sB so0)) <| gt' rfl b39 <| st rfl <| o_nt rfl <| st rfl <| pick0 rfl b39 (cd := cB) (v := (!x40)) rfl rfl <| st rfl <| mvd rfl rfl <| ite_k h (fun b42 h => gf rfl b42 <| gf rfl b42 <| gf rfl b42 <| st rfl <| pick1 rfl b42 (cd := cB) (v := true) rfl rfl <| st rfl <| mvd rfl rfl <| gf rfl rfl <| gf rfl rfl <| gf rfl rfl <| gf rfl rfl <| gf rfl rfl <| st rfl <| pick1 rfl rfl (cd := cB) (v := true) rfl rfl <| seqN [(1, .d ((cLs (cXVariable cS cI) rfl).enc v1)), (3, .box ((cXGeo (cLs cI rfl)).enc v0)), (5, .box ((cXTable cI (cLs cI rfl) (cLs cI rfl) cI).enc v2)), (31, .d (cB.enc true))] (by kernel_rfl) <|
    lfn (S := (fun (s28 : Bool) => [(1, .d ((cLs (cXVariable cS cI) rfl).enc v1)), (3, .box ((cXGeo (cLs cI rfl)).enc v0)), (5, .box ((cXTable cI (cLs cI rfl) (cLs cI rfl) cI).enc v2)), (31, .d (cB.enc s28))])) h q29 rfl)
    (fun b42 h => gt' rfl b42 <| st rfl <| fab rfl rfl rfl rfl <| gt' rfl b42 <| st rfl <| lda rfl rfl rfl rfl rfl rfl <| gt' rfl b42 <| st rfl <| b_lss (k := .i64) rfl rfl <| st rfl <| pick0 rfl b42 (cd := cB) (v := (decide (v2.Sum < (-1 : Int)))) rfl rfl <| st rfl <| mvd rfl rfl <| ite_k h (fun b43 h => gf rfl b43 <| gf rfl b43 <| gf rfl b43 <| gf rfl b43 <| gf rfl b43 <| st rfl <| pick1 rfl b43 (cd := cB) (v := true) rfl rfl <| seqN [(1, .d ((cLs (cXVariable cS cI) rfl).enc v1)), (3, .box ((cXGeo (cLs cI rfl)).enc v0)), (5, .box ((cXTable cI (cLs cI rfl) (cLs cI rfl) cI).enc v2)), (31, .d (cB.enc true))] (by kernel_rfl) <|
    lfn (S := (fun (s28 : Bool) => [(1, .d ((cLs (cXVariable cS cI) rfl).enc v1)), (3, .box ((cXGeo (cLs cI rfl)).enc v0)), (5, .box ((cXTable cI (cLs cI rfl) (cLs cI rfl) cI).enc v2)), (31, .d (cB.enc s28))])) h q29 rfl)
    (fun b43 h => gt' rfl b43 <| st rfl <| fab rfl rfl rfl rfl <| gt' rfl b43 <| st rfl <| lda rfl rfl rfl rfl rfl rfl <| gt' rfl b43 <| st rfl <| mvd rfl rfl <| gt' rfl b43 <| stw rfl <| lens rfl fun l44 => gt' rfl b43 <| st rfl <| b_geq (k := .i64) rfl rfl <| st rfl <| pick0 rfl b43 (cd := cB) (v := (decide ((v1.length : Int) ≤ v2.Sum))) rfl rfl <| seqN [(1, .d ((cLs (cXVariable cS cI) rfl).enc v1)), (3, .box ((cXGeo (cLs cI rfl)).enc v0)), (5, .box ((cXTable cI (cLs cI rfl) (cLs cI rfl) cI).enc v2)), (31, .d (cB.enc (decide ((v1.length : Int) ≤ v2.Sum))))] (by kernel_rfl) <|
    lfn (S := (fun (s28 : Bool) => [(1, .d ((cLs (cXVariable cS cI) rfl).enc v1)), (3, .box ((cXGeo (cLs cI rfl)).enc v0)), (5, .box ((cXTable cI (cLs cI rfl) (cLs cI rfl) cI).enc v2)), (31, .d (cB.enc s28))])) h q29 rfl)))

def rs_strconv_Itoa (r : (List UInt8)) : List D := [cS.enc r]
theorem con_strconv_Itoa {v0 : Int} {r : (List UInt8)} (h : sh_strconv_Itoa v0 = some r) : Con Tryd.prog 63 [cI.enc v0] [] (rs_strconv_Itoa r) := by
  unfold sh_strconv_Itoa at h
  split at h
  · rename_i hb
    have hd : r = Go.Lib.decDigits v0.toNat := by
      simp only [Option.some.injEq] at h
      rw [← h, Go.Lib.decDigits]
      by_cases h9 : v0 < 10
      · rw [if_pos h9, dif_pos (by omega)]
      · rw [if_neg h9, dif_neg (by omega), Go.Lib.decDigits, dif_pos (by omega)]; rfl
    have hl : r.length ≤ maxLen := by
      simp only [Option.some.injEq] at h
      have : maxLen = 9223372036854775807 := rfl
      rw [← h]
      split <;> simp <;> omega
    refine ⟨⟨Tryd.f63, _, Tryd.func63, rfl, by kernel_rfl⟩, ?_⟩
    intro w Z vs F hrep h1 h2 h3
    obtain ⟨x, vs2, f1, f2, rfl, e1, r1, rfl, e2⟩ := hrep
    obtain ⟨rfl, _⟩ := RepV.int r1
    have := Tryd.strconv_Itoa_small v0.toNat (by omega) w
    rw [Int.toNat_of_nonneg hb.1] at this
    refine this.mono ?_
    rintro e w' ⟨rfl, rfl⟩
    rw [← hd]
    exact ⟨_, Z, fun _ => 0, fun _ => 0, rfl, ret_below (RepV.mkStr hl) (Go.RowKit.Below.refl _ _)⟩
  · cases h

def rs_strings_Join (r : (List UInt8)) : List D := [cS.enc r]
theorem con_strings_Join {v0 : (List (List UInt8))} {v1 : (List UInt8)} {r : (List UInt8)} (h : sh_strings_Join v0 v1 = some r) : Con Tryd.prog 87 [(cLs cS rfl).enc v0, cS.enc v1] [] (rs_strings_Join r) := by
  unfold sh_strings_Join at h
  split at h
  · rename_i hb
    cases h
    refine ⟨⟨Tryd.f87, _, Tryd.func87, rfl, by kernel_rfl⟩, ?_⟩
    intro w Z vs F hrep h1 h2 h3
    obtain ⟨x, vs2, f1, f2, rfl, e1, r1, y, vs3, f3, f4, rfl, e2, r2, rfl, e4⟩ := hrep
    obtain ⟨rfl, hl1, hz1⟩ := RepV.str r2
    have hN : maxLen = 9223372036854775807 := rfl
    obtain ⟨k1, k2⟩ := r1
    simp only [cLs, RepX] at k2
    rcases k2 with ⟨hn, _, a, cap, hc, _⟩ | ⟨hne, g, off, cap, xs, sz, f5, hc, hcap, hle, hxl, hsz, hxs, ho⟩
    · have hv0 : v0 = [] := by simpa using hn
      subst hv0
      obtain rfl := cells_single k1 hc
      refine (Tryd.strings_Join_none a cap ⟨v1.toArray⟩ w).mono ?_
      rintro e w' ⟨rfl, rfl⟩
      exact ⟨_, Z, fun _ => 0, fun _ => 0, rfl, ret_below (RepV.mkStr (s := []) (Nat.zero_le _)) (Go.RowKit.Below.refl _ _)⟩
    · obtain rfl := cells_single k1 hc
      rcases ho with ⟨_, hZ, _, _, hcell⟩ | ⟨ho, _⟩
      · have hxs2 := rep_strs hxs
        subst hxs2
        have hm : (v0.map cS.enc).length = (v0.map fun s => (⟨s.toArray⟩ : ByteArray)).length := by simp
        have hd : (v0.map fun s => (⟨s.toArray⟩ : ByteArray)).map (fun b => b.data.toList) = v0 := by simp [List.map_map, Function.comp_def]
        have hj : Go.Lib.join ((v0.map fun s => (⟨s.toArray⟩ : ByteArray)).map (fun b => b.data.toList)) (⟨v1.toArray⟩ : ByteArray).data.toList = v1.intercalate v0 := by rw [hd]; rfl
        have := Tryd.strings_Join g off cap (v0.map fun s => (⟨s.toArray⟩ : ByteArray)) ⟨v1.toArray⟩ w (fun j x hx => hcell j _ (by
          simp only [List.getElem?_map, Option.map_eq_some_iff] at hx ⊢
          obtain ⟨s, h5, rfl⟩ := hx
          exact ⟨s, h5, rfl⟩)) (h3 g hZ).1 (by simp; omega) (by simpa using hle) (by rw [hj]; omega)
        rw [← hm, hj] at this
        refine this.mono ?_
        rintro e w' ⟨rfl, hbl⟩
        exact ⟨_, Z, fun _ => 0, fun _ => 0, rfl, ret_below (RepV.mkStr (by omega)) hbl⟩
      · cases ho
  · cases h

def rs_impl_setText (r : (List UInt8)) : List D := [cS.enc r]
def m88 : MC := .seq (.reg [⟨some 2, .asg (.c (.str [])), none⟩] [0])
  (.seq (.reg [⟨some 3, .asg (.c (.slice true [])), none⟩] [0, 3])
  (.seq (.kp [3] (.seq (.reg [⟨some 5, .mv (.c (.int .i64 0)), none⟩] [0, 3, 5])
  (.blk 0 (.loop (.seq (.reg [⟨some 6, .bin .lss (.t 5) (.c (.int .i64 8)), none⟩] [0, 3, 5, 6])
  (.seq (.kp [0, 3, 5] (.cond (.t 6) (.skip) (.exit 0)))
  (.seq (.kp [0, 3, 5] (.blk 1 (.seq (.reg [⟨some 7, .mv (.t 5), none⟩,
    ⟨some 4, .asg (.t 7), none⟩] [0, 3, 4, 5])
  (.seq (.reg [⟨some 8, .mv (.t 0), none⟩,
    ⟨some 9, .mv (.t 4), none⟩,
    ⟨some 10, .bin .shr (.t 8) (.t 9), none⟩,
    ⟨some 11, .bin .and (.t 10) (.c (.int .i64 1)), none⟩,
    ⟨some 12, .bin .eql (.t 11) (.c (.int .i64 1)), none⟩] [0, 3, 4, 5, 12])
  (.cond (.t 12) (.reg [⟨some 13, .mv (.t 3), none⟩,
    ⟨some 14, .mv (.t 4), none⟩,
    ⟨some 15, .bin .add (.c (.int .i64 48)) (.t 14), none⟩,
    ⟨some 16, .cvi .i32 (.t 15), none⟩,
    ⟨some 17, .i2s (.t 16), none⟩,
    ⟨some 18, .bsl [(.t 17)] 1, none⟩,
    ⟨some 19, .app (.t 13) (.t 18) 1, none⟩,
    ⟨some 3, .asg (.t 19), none⟩] [0, 3, 5]) (.skip))))))
  (.reg [⟨some 20, .bin .add (.t 5) (.c (.int .i64 1)), none⟩,
    ⟨some 5, .mv (.t 20), none⟩] [0, 3, 5]))))))))
  (.seq (.reg [⟨some 21, .mv (.t 3), none⟩,
    ⟨some 22, .call 87 [(.t 21), (.c (.str [44]))], none⟩,
    ⟨some 2, .asg (.t 22), none⟩] [2])
  (.ret))))
theorem con_impl_setText {v0 : Int} {r : (List UInt8)} (h : sh_impl_setText v0 = some r) : Con Tryd.prog 88 [cI.enc v0] [] (rs_impl_setText r) := by
  delta sh_impl_setText at h
  refine top (out := none) (f := Tryd.f88) (m := m88) (rs := [.t 2]) (by kernel_rfl) rfl (by kernel_rfl) (by kernel_rfl) (by kernel_rfl) (by kernel_rfl) (by kernel_rfl) ?_
  exact
   ini [(0, .d (cI.enc v0))] rfl <| wpC_seq <| reg_s <| x_asg (sc cS ([] : List UInt8) rfl) <| seqN [(0, .d (cI.enc v0))] (by kernel_rfl) <|
    xn <| wpC_seq <| reg_s <| x_asg (sc (cLo cS) ([] : List (List UInt8)) rfl) <| seqN [(0, .d (cI.enc v0)), (3, .d ((cLo cS).enc ([] : List (List UInt8))))] (by kernel_rfl) <|
    xn <| wpC_seq <| wpC_kp <| wpC_seq <| reg_s <| st rfl <| mvc cI (0 : Int) rfl <| seqN [(0, .d (cI.enc v0)), (3, .d ((cLo cS).enc ([] : List (List UInt8)))), (5, .d (cI.enc (0 : Int)))] (by kernel_rfl) <|
    xn <| wpC_blk <| lpF (fun (s111 : ((List (List UInt8)) × Int)) => [(0, .d (cI.enc v0)), (3, .d ((cLo cS).enc s111.1)), (5, .d (cI.enc s111.2))]) (([] : List (List UInt8)), (0 : Int)) rfl h
    fun G186 nx184 s111 hn185 h => wpC_seq <| reg_s <| st rfl <| b_lss (k := .i64) rfl rfl <| seqN [(0, .d (cI.enc v0)), (3, .d ((cLo cS).enc s111.1)), (5, .d (cI.enc s111.2)), (6, .d (cB.enc (decide (s111.2 < (8 : Int)))))] (by kernel_rfl) <|
    xn <| wpC_seq <| wpC_kp <| cnd rfl h (fun b188 h => wpC_skip <| kpN [(0, .d (cI.enc v0)), (3, .d ((cLo cS).enc s111.1)), (5, .d (cI.enc s111.2))] (by kernel_rfl) <| xn <| wpC_seq <| wpC_kp <| wpC_blk <| wpC_seq <| reg_s <| st rfl <| mvd rfl rfl <| x_asg (ss rfl rfl) <| seqN [(0, .d (cI.enc v0)), (3, .d ((cLo cS).enc s111.1)), (4, .d (cI.enc s111.2)), (5, .d (cI.enc s111.2))] (by kernel_rfl) <|
    xn <| wpC_seq <| reg_s <| st rfl <| mvd rfl rfl <| st rfl <| mvd rfl rfl <| ck_k h fun i209 h => st rfl <| b_shr (k := .i64) (k' := .i64) rfl rfl i209 rfl <| ck_k h fun i210 h => ckK_k h fun i211 h => ck_k h fun i212 h => ckK_k h fun i213 h => st rfl <| b_and (k := .i64) rfl rfl ⟨i210, i211⟩ ⟨i212, i213⟩ <| st rfl <| b_eql (k := .i64) rfl rfl <| seqN [(0, .d (cI.enc v0)), (3, .d ((cLo cS).enc s111.1)), (4, .d (cI.enc s111.2)), (5, .d (cI.enc s111.2)), (12, .d (cB.enc (decide ((((v0 / 2 ^ (s111.2).toNat).toNat &&& (1 : Int).toNat : Nat) : Int) = (1 : Int)))))] (by kernel_rfl) <|
    xn <| cnd rfl h (fun b214 h => reg_s <| st rfl <| mvo rfl rfl <| st rfl <| mvd rfl rfl <| ckI_k h fun i215 h => st rfl <| b_add (k := .i64) rfl rfl i215 <| ckK_k h fun i216 h => st rfl <| o_cvi (k := .i64) (k' := .i32) rfl i216 <| ck_k h fun i217 h => st rfl <| o_i2s (k := .i32) rfl i217 <| x_bsl cS [[UInt8.ofNat (((48 : Int) + s111.2)).toNat]] (t1 (ss rfl rfl) rfl t0) rfl rfl <| lnO_k h fun l218 h => x_app (sr rfl rfl) (to rfl rfl) l218 rfl <| x_asg (so rfl rfl) <| seqN [(0, .d (cI.enc v0)), (3, .d ((cLo cS).enc (s111.1 ++ [[UInt8.ofNat (((48 : Int) + s111.2)).toNat]]))), (5, .d (cI.enc s111.2))] (by kernel_rfl) <|
    xbb <| kpN [(0, .d (cI.enc v0)), (3, .d ((cLo cS).enc (s111.1 ++ [[UInt8.ofNat (((48 : Int) + s111.2)).toNat]]))), (5, .d (cI.enc s111.2))] (by kernel_rfl) <| xn <| reg_s <| ckI_k h fun i219 h => st rfl <| b_add (k := .i64) rfl rfl i219 <| st rfl <| mvd rfl rfl <| seqN [(0, .d (cI.enc v0)), (3, .d ((cLo cS).enc (s111.1 ++ [[UInt8.ofNat (((48 : Int) + s111.2)).toNat]]))), (5, .d (cI.enc (s111.2 + (1 : Int))))] (by kernel_rfl) <|
    xn <| hn185 ((s111.1 ++ [[UInt8.ofNat (((48 : Int) + s111.2)).toNat]]), (s111.2 + (1 : Int))) h)
    (fun b214 h => wpC_skip <| xbb <| kpN [(0, .d (cI.enc v0)), (3, .d ((cLo cS).enc s111.1)), (5, .d (cI.enc s111.2))] (by kernel_rfl) <| xn <| reg_s <| ckI_k h fun i220 h => st rfl <| b_add (k := .i64) rfl rfl i220 <| st rfl <| mvd rfl rfl <| seqN [(0, .d (cI.enc v0)), (3, .d ((cLo cS).enc s111.1)), (5, .d (cI.enc (s111.2 + (1 : Int))))] (by kernel_rfl) <|
    xn <| hn185 (s111.1, (s111.2 + (1 : Int))) h))
    (fun b188 h => wpC_exit <| xt <| xt <| xt <| xb <| kpN [(3, .d ((cLo cS).enc s111.1))] (by kernel_rfl) <| xn <| wpC_seq <| reg_s <| st rfl <| mvo rfl rfl <| bnd h fun x223 e224 h => st rfl <| o_call (a1 (c := (cLo cS)) (tLo tS) rfl (a1 (c := cS) tS rfl a0)) (con_strings_Join e224) (.inl (so1 sS so0)) <| x_asg (ss rfl rfl) <| seqN [(2, .d (cS.enc x223))] (by kernel_rfl) <|
    xn <| wpC_ret <| re <| fin h (r1 (ss rfl rfl) <| r0) rfl)

end AS.W
