/- The program computes the plain functions. No condition. -/
import Derived.Test.YtliinmppiocmcaaDoorQParseReportS
import Derived.Test.YtliinmppiocmcaaDoorProg
import Derived.Test.YtliinmppiocmcaaDoorQParseReportX
import Derived.Test.YtliinmppiocmcaaDoorQParseReportL0
set_option maxRecDepth 100000
set_option linter.unusedVariables false
set_option linter.unusedSimpArgs false
namespace AS.W
open Go Go.Proofs
def rs_spec_gLevel (r : (List Int)) : List D := [(cLo cI).enc r]
def m79 : MC := .seq (.reg [⟨some 2, .box (.t 0), none⟩,
    ⟨some 4, .asg (.c (.slice true [])), none⟩] [1, 2])
  (.seq (.reg [⟨some 5, .asg (.c (.slice true [])), none⟩] [1, 2, 5])
  (.seq (.kp [5] (.seq (.reg [⟨some 7, .fa 2 0 0, none⟩,
    ⟨some 8, .ld 7 1 false, none⟩,
    ⟨some 9, .len false (.t 8), none⟩,
    ⟨some 10, .mv (.c (.int .i64 0)), none⟩] [1, 2, 5, 9, 10])
  (.blk 0 (.loop (.seq (.reg [⟨some 11, .bin .lss (.t 10) (.t 9), none⟩] [1, 2, 5, 9, 10, 11])
  (.seq (.kp [1, 2, 5, 9, 10] (.cond (.t 11) (.skip) (.exit 0)))
  (.seq (.kp [1, 2, 5, 9, 10] (.blk 1 (.seq (.reg [⟨some 12, .mv (.t 10), none⟩,
    ⟨some 6, .asg (.t 12), none⟩] [1, 2, 5, 6, 9, 10])
  (.seq (.reg [⟨some 13, .ld 2 1 true, none⟩,
    ⟨some 14, .mv (.t 6), none⟩,
    ⟨some 15, .call 114 [(.t 13), (.t 14)], none⟩,
    ⟨some 16, .mv (.t 1), none⟩,
    ⟨some 17, .bin .eql (.t 15) (.t 16), none⟩] [1, 2, 5, 6, 9, 10, 17])
  (.cond (.t 17) (.reg [⟨some 18, .mv (.t 5), none⟩,
    ⟨some 19, .mv (.t 6), none⟩,
    ⟨some 20, .bsl [(.t 19)] 1, none⟩,
    ⟨some 21, .app (.t 18) (.t 20) 1, none⟩,
    ⟨some 5, .asg (.t 21), none⟩] [1, 2, 5, 9, 10]) (.skip))))))
  (.reg [⟨some 22, .bin .add (.t 10) (.c (.int .i64 1)), none⟩,
    ⟨some 10, .mv (.t 22), none⟩] [1, 2, 5, 9, 10]))))))))
  (.seq (.reg [⟨some 23, .mv (.t 5), none⟩,
    ⟨some 4, .asg (.t 23), none⟩] [4])
  (.ret))))
theorem con_spec_gLevel {v0 : XGeo} {v1 : Int} {r : (List Int)} (h : sh_spec_gLevel v0 v1 = some r) : Con Tryd.prog 79 [(cXGeo (cLs cI rfl)).enc v0, cI.enc v1] [] (rs_spec_gLevel r) := by
  delta sh_spec_gLevel at h
  refine top (out := none) (f := Tryd.f79) (m := m79) (rs := [.t 4]) (by kernel_rfl) rfl (by kernel_rfl) (by kernel_rfl) (by kernel_rfl) (by kernel_rfl) (by kernel_rfl) ?_
  exact
   ini [(0, .d ((cXGeo (cLs cI rfl)).enc v0)), (1, .d (cI.enc v1))] rfl <| wpC_seq <| reg_s <| x_box (ss rfl rfl) <| x_asg (sc (cLo cI) ([] : List Int) rfl) <| seqN [(1, .d (cI.enc v1)), (2, .box ((cXGeo (cLs cI rfl)).enc v0))] (by kernel_rfl) <|
    xn <| wpC_seq <| reg_s <| x_asg (sc (cLo cI) ([] : List Int) rfl) <| seqN [(1, .d (cI.enc v1)), (2, .box ((cXGeo (cLs cI rfl)).enc v0)), (5, .d ((cLo cI).enc ([] : List Int)))] (by kernel_rfl) <|
    xn <| wpC_seq <| wpC_kp <| wpC_seq <| reg_s <| st rfl <| fab rfl rfl rfl rfl <| st rfl <| lda rfl rfl rfl rfl rfl rfl <| stw rfl <| lens rfl fun l48 => st rfl <| mvc cI (0 : Int) rfl <| seqN [(1, .d (cI.enc v1)), (2, .box ((cXGeo (cLs cI rfl)).enc v0)), (5, .d ((cLo cI).enc ([] : List Int))), (9, .d (cI.enc (v0.Parents.length : Int))), (10, .d (cI.enc (0 : Int)))] (by kernel_rfl) <|
    xn <| wpC_blk <| lpR (fun (k50 : Nat) (s49 : (List Int)) => [(1, .d (cI.enc v1)), (2, .box ((cXGeo (cLs cI rfl)).enc v0)), (5, .d ((cLo cI).enc s49)), (9, .d (cI.enc (v0.Parents.length : Int))), (10, .d (cI.enc (k50 : Int)))]) ([] : List Int) rfl h
    (fun G80 s49 h => wpC_seq <| reg_s <| st rfl <| b_lss (k := .i64) rfl rfl <| seqN [(1, .d (cI.enc v1)), (2, .box ((cXGeo (cLs cI rfl)).enc v0)), (5, .d ((cLo cI).enc s49)), (9, .d (cI.enc (v0.Parents.length : Int))), (10, .d (cI.enc (v0.Parents.length : Int))), (11, .d (cB.enc (decide ((v0.Parents.length : Int) < (v0.Parents.length : Int)))))] (by kernel_rfl) <|
    xn <| wpC_seq <| wpC_kp <| cnd0 rfl (dlf _) <| wpC_exit <| xt <| xt <| xt <| xb <| kpN [(5, .d ((cLo cI).enc s49))] (by kernel_rfl) <| xn <| wpC_seq <| reg_s <| st rfl <| mvo rfl rfl <| x_asg (sr rfl rfl) <| seqN [(4, .d ((cLo cI).enc s49))] (by kernel_rfl) <|
    xn <| wpC_ret <| re <| fin h (r1 (so rfl rfl) <| r0) rfl)
    (fun G80 nx78 k50 s49 x51 hk52 hx53 hn79 h => wpC_seq <| reg_s <| st rfl <| b_lss (k := .i64) rfl rfl <| seqN [(1, .d (cI.enc v1)), (2, .box ((cXGeo (cLs cI rfl)).enc v0)), (5, .d ((cLo cI).enc s49)), (9, .d (cI.enc (v0.Parents.length : Int))), (10, .d (cI.enc (k50 : Int))), (11, .d (cB.enc (decide ((k50 : Int) < (v0.Parents.length : Int)))))] (by kernel_rfl) <|
    xn <| wpC_seq <| wpC_kp <| cnd1 rfl (dlt hk52) <| wpC_skip <| kpN [(1, .d (cI.enc v1)), (2, .box ((cXGeo (cLs cI rfl)).enc v0)), (5, .d ((cLo cI).enc s49)), (9, .d (cI.enc (v0.Parents.length : Int))), (10, .d (cI.enc (k50 : Int)))] (by kernel_rfl) <| xn <| wpC_seq <| wpC_kp <| wpC_blk <| wpC_seq <| reg_s <| st rfl <| mvd rfl rfl <| x_asg (ss rfl rfl) <| seqN [(1, .d (cI.enc v1)), (2, .box ((cXGeo (cLs cI rfl)).enc v0)), (5, .d ((cLo cI).enc s49)), (6, .d (cI.enc (k50 : Int))), (9, .d (cI.enc (v0.Parents.length : Int))), (10, .d (cI.enc (k50 : Int)))] (by kernel_rfl) <|
    xn <| wpC_seq <| reg_s <| st rfl <| ldb rfl rfl rfl rfl <| st rfl <| mvd rfl rfl <| bnd h fun x89 e90 h => st rfl <| o_call (a1 (c := (cXGeo (cLs cI rfl))) (tXGeo (tLs tK)) rfl (a1 (c := cI) tK rfl a0)) (con_spec_gDepth e90) (.inl (so1 sK so0)) <| st rfl <| mvd rfl rfl <| st rfl <| b_eql (k := .i64) rfl rfl <| seqN [(1, .d (cI.enc v1)), (2, .box ((cXGeo (cLs cI rfl)).enc v0)), (5, .d ((cLo cI).enc s49)), (6, .d (cI.enc (k50 : Int))), (9, .d (cI.enc (v0.Parents.length : Int))), (10, .d (cI.enc (k50 : Int))), (17, .d (cB.enc (decide (x89 = v1))))] (by kernel_rfl) <|
    xn <| cnd rfl h (fun b91 h => reg_s <| st rfl <| mvo rfl rfl <| st rfl <| mvd rfl rfl <| x_bsl cI [(k50 : Int)] (t1 (ss rfl rfl) rfl t0) rfl rfl <| lnO_k h fun l92 h => x_app (sr rfl rfl) (to rfl rfl) l92 rfl <| x_asg (so rfl rfl) <| seqN [(1, .d (cI.enc v1)), (2, .box ((cXGeo (cLs cI rfl)).enc v0)), (5, .d ((cLo cI).enc (s49 ++ [(k50 : Int)]))), (9, .d (cI.enc (v0.Parents.length : Int))), (10, .d (cI.enc (k50 : Int)))] (by kernel_rfl) <|
    xbb <| kpN [(1, .d (cI.enc v1)), (2, .box ((cXGeo (cLs cI rfl)).enc v0)), (5, .d ((cLo cI).enc (s49 ++ [(k50 : Int)]))), (9, .d (cI.enc (v0.Parents.length : Int))), (10, .d (cI.enc (k50 : Int)))] (by kernel_rfl) <| xn <| reg_s <| st rfl <| b_inc rfl rfl l48 hk52 <| st rfl <| mvd rfl rfl <| seqN [(1, .d (cI.enc v1)), (2, .box ((cXGeo (cLs cI rfl)).enc v0)), (5, .d ((cLo cI).enc (s49 ++ [(k50 : Int)]))), (9, .d (cI.enc (v0.Parents.length : Int))), (10, .d (cI.enc ((k50 + 1 : Nat) : Int)))] (by kernel_rfl) <|
    xn <| hn79 (s49 ++ [(k50 : Int)]) h)
    (fun b91 h => wpC_skip <| xbb <| kpN [(1, .d (cI.enc v1)), (2, .box ((cXGeo (cLs cI rfl)).enc v0)), (5, .d ((cLo cI).enc s49)), (9, .d (cI.enc (v0.Parents.length : Int))), (10, .d (cI.enc (k50 : Int)))] (by kernel_rfl) <| xn <| reg_s <| st rfl <| b_inc rfl rfl l48 hk52 <| st rfl <| mvd rfl rfl <| seqN [(1, .d (cI.enc v1)), (2, .box ((cXGeo (cLs cI rfl)).enc v0)), (5, .d ((cLo cI).enc s49)), (9, .d (cI.enc (v0.Parents.length : Int))), (10, .d (cI.enc ((k50 + 1 : Nat) : Int)))] (by kernel_rfl) <|
    xn <| hn79 s49 h))

def rs_spec_l1Rising (r : Bool) : List D := [cB.enc r]
def m80 : MC := .seq (.reg [⟨some 6, .asg (.c (.bool false)), none⟩] [0, 1, 2])
  (.seq (.kp [] (.seq (.reg [⟨some 9, .mv (.t 0), none⟩,
    ⟨some 10, .len false (.t 9), none⟩,
    ⟨some 11, .mv (.c (.int .i64 0)), none⟩] [0, 1, 2, 9, 10, 11])
  (.blk 0 (.loop (.seq (.reg [⟨some 12, .bin .lss (.t 11) (.t 10), none⟩] [0, 1, 2, 9, 10, 11, 12])
  (.seq (.kp [0, 1, 2, 9, 10, 11] (.cond (.t 12) (.skip) (.exit 0)))
  (.seq (.kp [0, 1, 2, 9, 10, 11] (.blk 1 (.seq (.reg [⟨some 13, .mv (.t 11), none⟩,
    ⟨some 14, .ia 9 (.t 11) 1, none⟩,
    ⟨some 15, .ld 14 1 false, none⟩,
    ⟨some 7, .asg (.t 13), none⟩,
    ⟨some 8, .asg (.t 15), none⟩] [0, 1, 2, 7, 8, 9, 10, 11])
  (.seq (.reg [⟨some 16, .mv (.t 8), none⟩,
    ⟨some 17, .mv (.t 1), none⟩,
    ⟨some 18, .mv (.t 2), none⟩,
    ⟨some 19, .call 51 [(.t 16), (.t 17), (.t 18)], none⟩,
    ⟨some 20, .nt (.t 19), none⟩,
    ⟨some 21, .mv (.t 20), none⟩,
    ⟨some 22, .mv (.t 7), some (21, false)⟩,
    ⟨some 23, .bin .gtr (.t 22) (.c (.int .i64 0)), some (21, false)⟩,
    ⟨some 24, .mv (.t 23), some (21, false)⟩,
    ⟨some 25, .mv (.t 0), some (24, true)⟩,
    ⟨some 26, .mv (.t 7), some (24, true)⟩,
    ⟨some 27, .bin .sub (.t 26) (.c (.int .i64 1)), some (24, true)⟩,
    ⟨some 28, .ia 25 (.t 27) 1, some (24, true)⟩,
    ⟨some 29, .ld 28 1 false, some (24, true)⟩,
    ⟨some 30, .mv (.t 8), some (24, true)⟩,
    ⟨some 31, .bin .geq (.t 29) (.t 30), some (24, true)⟩,
    ⟨some 32, .pick (.t 24) (.t 31) (.c (.bool false)), some (21, false)⟩,
    ⟨some 33, .pick (.t 21) (.c (.bool true)) (.t 32), none⟩] [0, 1, 2, 9, 10, 11, 33])
  (.cond (.t 33) (.seq (.reg [⟨some 6, .asg (.c (.bool false)), none⟩] [6])
  (.ret)) (.skip))))))
  (.reg [⟨some 34, .bin .add (.t 11) (.c (.int .i64 1)), none⟩,
    ⟨some 11, .mv (.t 34), none⟩] [0, 1, 2, 9, 10, 11]))))))))
  (.seq (.reg [⟨some 6, .asg (.c (.bool true)), none⟩] [6])
  (.ret)))
theorem con_spec_l1Rising {v0 : (List Int)} {v1 : Int} {v2 : Int} {r : Bool} (h : sh_spec_l1Rising v0 v1 v2 = some r) : Con Tryd.prog 80 [(cLs cI rfl).enc v0, cI.enc v1, cI.enc v2] [] (rs_spec_l1Rising r) := by
  delta sh_spec_l1Rising at h
  refine top (out := none) (f := Tryd.f80) (m := m80) (rs := [.t 6]) (by kernel_rfl) rfl (by kernel_rfl) (by kernel_rfl) (by kernel_rfl) (by kernel_rfl) (by kernel_rfl) ?_
  exact
   ini [(0, .d ((cLs cI rfl).enc v0)), (1, .d (cI.enc v1)), (2, .d (cI.enc v2))] rfl <| wpC_seq <| reg_s <| x_asg (sc cB false rfl) <| seqN [(0, .d ((cLs cI rfl).enc v0)), (1, .d (cI.enc v1)), (2, .d (cI.enc v2))] (by kernel_rfl) <|
    xn <| wpC_seq <| wpC_kp <| wpC_seq <| reg_s <| st rfl <| mvd rfl rfl <| stw rfl <| lens rfl fun l80 => st rfl <| mvc cI (0 : Int) rfl <| seqN [(0, .d ((cLs cI rfl).enc v0)), (1, .d (cI.enc v1)), (2, .d (cI.enc v2)), (9, .d ((cLs cI rfl).enc v0)), (10, .d (cI.enc (v0.length : Int))), (11, .d (cI.enc (0 : Int)))] (by kernel_rfl) <|
    xn <| wpC_blk <| lpR (fun (k82 : Nat) (s81 : Unit) => [(0, .d ((cLs cI rfl).enc v0)), (1, .d (cI.enc v1)), (2, .d (cI.enc v2)), (9, .d ((cLs cI rfl).enc v0)), (10, .d (cI.enc (v0.length : Int))), (11, .d (cI.enc (k82 : Int)))]) () rfl h
    (fun G122 s81 h => wpC_seq <| reg_s <| st rfl <| b_lss (k := .i64) rfl rfl <| seqN [(0, .d ((cLs cI rfl).enc v0)), (1, .d (cI.enc v1)), (2, .d (cI.enc v2)), (9, .d ((cLs cI rfl).enc v0)), (10, .d (cI.enc (v0.length : Int))), (11, .d (cI.enc (v0.length : Int))), (12, .d (cB.enc (decide ((v0.length : Int) < (v0.length : Int)))))] (by kernel_rfl) <|
    xn <| wpC_seq <| wpC_kp <| cnd0 rfl (dlf _) <| wpC_exit <| xt <| xt <| xt <| xb <| kpN [] (by kernel_rfl) <| xn <| wpC_seq <| reg_s <| x_asg (sc cB true rfl) <| seqN [(6, .d (cB.enc true))] (by kernel_rfl) <|
    xn <| wpC_ret <| re <| fin h (r1 (ss rfl rfl) <| r0) rfl)
    (fun G122 nx120 k82 s81 x83 hk84 hx85 hn121 h => wpC_seq <| reg_s <| st rfl <| b_lss (k := .i64) rfl rfl <| seqN [(0, .d ((cLs cI rfl).enc v0)), (1, .d (cI.enc v1)), (2, .d (cI.enc v2)), (9, .d ((cLs cI rfl).enc v0)), (10, .d (cI.enc (v0.length : Int))), (11, .d (cI.enc (k82 : Int))), (12, .d (cB.enc (decide ((k82 : Int) < (v0.length : Int)))))] (by kernel_rfl) <|
    xn <| wpC_seq <| wpC_kp <| cnd1 rfl (dlt hk84) <| wpC_skip <| kpN [(0, .d ((cLs cI rfl).enc v0)), (1, .d (cI.enc v1)), (2, .d (cI.enc v2)), (9, .d ((cLs cI rfl).enc v0)), (10, .d (cI.enc (v0.length : Int))), (11, .d (cI.enc (k82 : Int)))] (by kernel_rfl) <| xn <| wpC_seq <| wpC_kp <| wpC_blk <| wpC_seq <| reg_s <| st rfl <| mvd rfl rfl <| st rfl <| ias rfl rfl (Int.natCast_nonneg _) hx85 rfl <| st rfl <| ldi rfl rfl rfl rfl <| x_asg (ss rfl rfl) <| x_asg (ss rfl rfl) <| seqN [(0, .d ((cLs cI rfl).enc v0)), (1, .d (cI.enc v1)), (2, .d (cI.enc v2)), (7, .d (cI.enc (k82 : Int))), (8, .d (cI.enc x83)), (9, .d ((cLs cI rfl).enc v0)), (10, .d (cI.enc (v0.length : Int))), (11, .d (cI.enc (k82 : Int)))] (by kernel_rfl) <|
    xn <| wpC_seq <| reg_s <| st rfl <| mvd rfl rfl <| st rfl <| mvd rfl rfl <| st rfl <| mvd rfl rfl <| bnd h fun x148 e149 h => st rfl <| o_call (a1 (c := cI) tK rfl (a1 (c := cI) tK rfl (a1 (c := cI) tK rfl a0))) (con_spec_l1In e149) (.inl (so1 sB so0)) <| st rfl <| o_nt rfl <| st rfl <| mvd rfl rfl <| ite_k h (fun b150 h => gf rfl b150 <| gf rfl b150 <| gf rfl b150 <| gu rfl <| gu rfl <| gu rfl <| gu rfl <| gu rfl <| gu rfl <| gu rfl <| gf rfl b150 <| st rfl <| pick1 rfl b150 (cd := cB) (v := true) rfl rfl <| seqN [(0, .d ((cLs cI rfl).enc v0)), (1, .d (cI.enc v1)), (2, .d (cI.enc v2)), (9, .d ((cLs cI rfl).enc v0)), (10, .d (cI.enc (v0.length : Int))), (11, .d (cI.enc (k82 : Int))), (33, .d (cB.enc true))] (by kernel_rfl) <|
    xn <| cnd1 rfl rfl <| wpC_seq <| reg_s <| x_asg (sc cB false rfl) <| seqN [(6, .d (cB.enc false))] (by kernel_rfl) <|
    xn <| wpC_ret <| rb <| rt <| rt <| rt <| rb <| rt <| rt <| re <| fin h (r1 (ss rfl rfl) <| r0) rfl)
    (fun b150 h => gt' rfl b150 <| st rfl <| mvd rfl rfl <| gt' rfl b150 <| st rfl <| b_gtr (k := .i64) rfl rfl <| gt' rfl b150 <| st rfl <| mvd rfl rfl <| ite_k h (fun b151 h => gt' rfl b151 <| st rfl <| mvd rfl rfl <| gt' rfl b151 <| st rfl <| mvd rfl rfl <| gt' rfl b151 <| ckI_k h fun i152 h => st rfl <| b_sub (k := .i64) rfl rfl i152 <| gt' rfl b151 <| getO_k h fun x153 i154 g155 h => st rfl <| ias rfl rfl i154 g155 rfl <| gt' rfl b151 <| st rfl <| ldi rfl rfl rfl rfl <| gt' rfl b151 <| st rfl <| mvd rfl rfl <| gt' rfl b151 <| st rfl <| b_geq (k := .i64) rfl rfl <| gt' rfl b150 <| st rfl <| pick1 rfl b151 (cd := cB) (v := (decide (x83 ≤ x153))) rfl rfl <| st rfl <| pick0 rfl b150 (cd := cB) (v := (decide (x83 ≤ x153))) rfl rfl <| seqN [(0, .d ((cLs cI rfl).enc v0)), (1, .d (cI.enc v1)), (2, .d (cI.enc v2)), (9, .d ((cLs cI rfl).enc v0)), (10, .d (cI.enc (v0.length : Int))), (11, .d (cI.enc (k82 : Int))), (33, .d (cB.enc (decide (x83 ≤ x153))))] (by kernel_rfl) <|
    xn <| cnd rfl h (fun b156 h => wpC_seq <| reg_s <| x_asg (sc cB false rfl) <| seqN [(6, .d (cB.enc false))] (by kernel_rfl) <|
    xn <| wpC_ret <| rb <| rt <| rt <| rt <| rb <| rt <| rt <| re <| fin h (r1 (ss rfl rfl) <| r0) rfl)
    (fun b156 h => wpC_skip <| xbb <| kpN [(0, .d ((cLs cI rfl).enc v0)), (1, .d (cI.enc v1)), (2, .d (cI.enc v2)), (9, .d ((cLs cI rfl).enc v0)), (10, .d (cI.enc (v0.length : Int))), (11, .d (cI.enc (k82 : Int)))] (by kernel_rfl) <| xn <| reg_s <| st rfl <| b_inc rfl rfl l80 hk84 <| st rfl <| mvd rfl rfl <| seqN [(0, .d ((cLs cI rfl).enc v0)), (1, .d (cI.enc v1)), (2, .d (cI.enc v2)), (9, .d ((cLs cI rfl).enc v0)), (10, .d (cI.enc (v0.length : Int))), (11, .d (cI.enc ((k82 + 1 : Nat) : Int)))] (by kernel_rfl) <|
    xn <| hn121 () h))
    (fun b151 h => gf rfl b151 <| gf rfl b151 <| gf rfl b151 <| gf rfl b151 <| gf rfl b151 <| gf rfl b151 <| gf rfl b151 <| gt' rfl b150 <| st rfl <| pick0 rfl b151 (cd := cB) (v := false) rfl rfl <| st rfl <| pick0 rfl b150 (cd := cB) (v := false) rfl rfl <| seqN [(0, .d ((cLs cI rfl).enc v0)), (1, .d (cI.enc v1)), (2, .d (cI.enc v2)), (9, .d ((cLs cI rfl).enc v0)), (10, .d (cI.enc (v0.length : Int))), (11, .d (cI.enc (k82 : Int))), (33, .d (cB.enc false))] (by kernel_rfl) <|
    xn <| cnd0 rfl rfl <| wpC_skip <| xbb <| kpN [(0, .d ((cLs cI rfl).enc v0)), (1, .d (cI.enc v1)), (2, .d (cI.enc v2)), (9, .d ((cLs cI rfl).enc v0)), (10, .d (cI.enc (v0.length : Int))), (11, .d (cI.enc (k82 : Int)))] (by kernel_rfl) <| xn <| reg_s <| st rfl <| b_inc rfl rfl l80 hk84 <| st rfl <| mvd rfl rfl <| seqN [(0, .d ((cLs cI rfl).enc v0)), (1, .d (cI.enc v1)), (2, .d (cI.enc v2)), (9, .d ((cLs cI rfl).enc v0)), (10, .d (cI.enc (v0.length : Int))), (11, .d (cI.enc ((k82 + 1 : Nat) : Int)))] (by kernel_rfl) <|
    xn <| hn121 () h)))

def rs_spec_uWhere (r : Bool) : List D := [cB.enc r]
def m81 : MC := .seq (.reg [⟨some 4, .asg (.c (.bool false)), none⟩] [0, 1])
  (.seq (.kp [0, 1] (.seq (.reg [⟨some 7, .mv (.t 1), none⟩,
    ⟨some 8, .len false (.t 7), none⟩,
    ⟨some 9, .mv (.t 0), none⟩,
    ⟨some 10, .len false (.t 9), none⟩,
    ⟨some 11, .bin .neq (.t 8) (.t 10), none⟩] [0, 1, 11])
  (.cond (.t 11) (.seq (.reg [⟨some 4, .asg (.c (.bool false)), none⟩] [4])
  (.ret)) (.skip))))
  (.seq (.kp [] (.seq (.reg [⟨some 12, .mv (.t 0), none⟩,
    ⟨some 13, .len false (.t 12), none⟩,
    ⟨some 14, .mv (.c (.int .i64 0)), none⟩] [0, 1, 12, 13, 14])
  (.blk 0 (.loop (.seq (.reg [⟨some 15, .bin .lss (.t 14) (.t 13), none⟩] [0, 1, 12, 13, 14, 15])
  (.seq (.kp [0, 1, 12, 13, 14] (.cond (.t 15) (.skip) (.exit 0)))
  (.seq (.kp [0, 1, 12, 13, 14] (.blk 1 (.seq (.reg [⟨some 16, .mv (.t 14), none⟩,
    ⟨some 17, .ia 12 (.t 14) 2, none⟩,
    ⟨some 18, .ld 17 2 true, none⟩,
    ⟨some 6, .alloc (.agg [.str [], .int .i64 0]), none⟩,
    ⟨some 5, .asg (.t 16), none⟩,
    ⟨none, .st 6 (.t 18) 2, none⟩] [0, 1, 5, 6, 12, 13, 14])
  (.seq (.drw [⟨0, ⟨some 19, .mv (.t 1), none⟩, [20, 21, 22, 23, 24, 25, 26, 27, 28, 29]⟩,
    ⟨1, ⟨some 20, .mv (.t 5), none⟩, [19, 21, 22, 23, 24, 25, 26, 27, 28, 29]⟩,
    ⟨2, ⟨some 21, .ia 19 (.t 20) 1, none⟩, [22, 23, 24, 25, 26, 27, 28, 29]⟩,
    ⟨3, ⟨some 22, .ld 21 1 false, none⟩, [23, 24, 25, 26, 27, 28, 29]⟩,
    ⟨4, ⟨some 23, .fa 6 1 1, none⟩, [19, 20, 21, 22, 24, 25, 26, 27, 28, 29]⟩,
    ⟨5, ⟨some 24, .ld 23 1 false, none⟩, [19, 20, 21, 22, 25, 26, 27, 28, 29]⟩,
    ⟨6, ⟨some 25, .cvi .u64 (.t 24), none⟩, [19, 20, 21, 22, 26, 27, 28, 29]⟩,
    ⟨7, ⟨some 26, .bin .shl (.c (.int .i64 1)) (.t 25), none⟩, [19, 20, 21, 22, 27, 28, 29]⟩,
    ⟨8, ⟨some 27, .bin .sub (.t 26) (.c (.int .i64 1)), none⟩, [19, 20, 21, 22, 28, 29]⟩,
    ⟨9, ⟨some 28, .call 51 [(.t 22), (.c (.int .i64 0)), (.t 27)], none⟩, [29]⟩,
    ⟨10, ⟨some 29, .nt (.t 28), none⟩, []⟩]
    [] [0, 1, 12, 13, 14, 29])
  (.cond (.t 29) (.seq (.reg [⟨some 4, .asg (.c (.bool false)), none⟩] [4])
  (.ret)) (.skip))))))
  (.reg [⟨some 30, .bin .add (.t 14) (.c (.int .i64 1)), none⟩,
    ⟨some 14, .mv (.t 30), none⟩] [0, 1, 12, 13, 14]))))))))
  (.seq (.reg [⟨some 4, .asg (.c (.bool true)), none⟩] [4])
  (.ret))))
theorem con_spec_uWhere {v0 : (List XVariable)} {v1 : (List Int)} {r : Bool} (h : sh_spec_uWhere v0 v1 = some r) : Con Tryd.prog 81 [(cLs (cXVariable cS cI) rfl).enc v0, (cLs cI rfl).enc v1] [] (rs_spec_uWhere r) := by
  delta sh_spec_uWhere at h
  refine top (out := none) (f := Tryd.f81) (m := m81) (rs := [.t 4]) (by kernel_rfl) rfl (by kernel_rfl) (by kernel_rfl) (by kernel_rfl) (by kernel_rfl) (by kernel_rfl) ?_
  exact
   ini [(0, .d ((cLs (cXVariable cS cI) rfl).enc v0)), (1, .d ((cLs cI rfl).enc v1))] rfl <| wpC_seq <| reg_s <| x_asg (sc cB false rfl) <| seqN [(0, .d ((cLs (cXVariable cS cI) rfl).enc v0)), (1, .d ((cLs cI rfl).enc v1))] (by kernel_rfl) <|
    xn <| wpC_seq <| wpC_kp <| wpC_seq <| reg_s <| st rfl <| mvd rfl rfl <| stw rfl <| lens rfl fun l8 => st rfl <| mvd rfl rfl <| stw rfl <| lens rfl fun l9 => st rfl <| b_neq (k := .i64) rfl rfl <| seqN [(0, .d ((cLs (cXVariable cS cI) rfl).enc v0)), (1, .d ((cLs cI rfl).enc v1)), (11, .d (cB.enc (decide ((v1.length : Int) ≠ (v0.length : Int)))))] (by kernel_rfl) <|
    xn <| cnd rfl h (fun b10 h => wpC_seq <| reg_s <| x_asg (sc cB false rfl) <| seqN [(4, .d (cB.enc false))] (by kernel_rfl) <|
    xn <| wpC_ret <| rt <| rt <| re <| fin h (r1 (ss rfl rfl) <| r0) rfl)
    (fun b10 h => wpC_skip <| kpN [(0, .d ((cLs (cXVariable cS cI) rfl).enc v0)), (1, .d ((cLs cI rfl).enc v1))] (by kernel_rfl) <| xn <| wpC_seq <| wpC_kp <| wpC_seq <| reg_s <| st rfl <| mvd rfl rfl <| stw rfl <| lens rfl fun l98 => st rfl <| mvc cI (0 : Int) rfl <| seqN [(0, .d ((cLs (cXVariable cS cI) rfl).enc v0)), (1, .d ((cLs cI rfl).enc v1)), (12, .d ((cLs (cXVariable cS cI) rfl).enc v0)), (13, .d (cI.enc (v0.length : Int))), (14, .d (cI.enc (0 : Int)))] (by kernel_rfl) <|
    xn <| wpC_blk <| lpR (fun (k100 : Nat) (s99 : Unit) => [(0, .d ((cLs (cXVariable cS cI) rfl).enc v0)), (1, .d ((cLs cI rfl).enc v1)), (12, .d ((cLs (cXVariable cS cI) rfl).enc v0)), (13, .d (cI.enc (v0.length : Int))), (14, .d (cI.enc (k100 : Int)))]) () rfl h
    (fun G144 s99 h => wpC_seq <| reg_s <| st rfl <| b_lss (k := .i64) rfl rfl <| seqN [(0, .d ((cLs (cXVariable cS cI) rfl).enc v0)), (1, .d ((cLs cI rfl).enc v1)), (12, .d ((cLs (cXVariable cS cI) rfl).enc v0)), (13, .d (cI.enc (v0.length : Int))), (14, .d (cI.enc (v0.length : Int))), (15, .d (cB.enc (decide ((v0.length : Int) < (v0.length : Int)))))] (by kernel_rfl) <|
    xn <| wpC_seq <| wpC_kp <| cnd0 rfl (dlf _) <| wpC_exit <| xt <| xt <| xt <| xb <| kpN [] (by kernel_rfl) <| xn <| wpC_seq <| reg_s <| x_asg (sc cB true rfl) <| seqN [(4, .d (cB.enc true))] (by kernel_rfl) <|
    xn <| wpC_ret <| re <| fin h (r1 (ss rfl rfl) <| r0) rfl)
    (fun G144 nx142 k100 s99 x101 hk102 hx103 hn143 h => wpC_seq <| reg_s <| st rfl <| b_lss (k := .i64) rfl rfl <| seqN [(0, .d ((cLs (cXVariable cS cI) rfl).enc v0)), (1, .d ((cLs cI rfl).enc v1)), (12, .d ((cLs (cXVariable cS cI) rfl).enc v0)), (13, .d (cI.enc (v0.length : Int))), (14, .d (cI.enc (k100 : Int))), (15, .d (cB.enc (decide ((k100 : Int) < (v0.length : Int)))))] (by kernel_rfl) <|
    xn <| wpC_seq <| wpC_kp <| cnd1 rfl (dlt hk102) <| wpC_skip <| kpN [(0, .d ((cLs (cXVariable cS cI) rfl).enc v0)), (1, .d ((cLs cI rfl).enc v1)), (12, .d ((cLs (cXVariable cS cI) rfl).enc v0)), (13, .d (cI.enc (v0.length : Int))), (14, .d (cI.enc (k100 : Int)))] (by kernel_rfl) <| xn <| wpC_seq <| wpC_kp <| wpC_blk <| wpC_seq <| reg_s <| st rfl <| mvd rfl rfl <| st rfl <| ias rfl rfl (Int.natCast_nonneg _) hx103 rfl <| st rfl <| ldi rfl rfl rfl rfl <| x_all (cXVariable cS cI) (⟨([] : List UInt8), (0 : Int)⟩ : XVariable) rfl <| x_asg (ss rfl rfl) <| x_stb (ss rfl rfl) rfl (Cd.h_sz _ _) rfl <| seqN [(0, .d ((cLs (cXVariable cS cI) rfl).enc v0)), (1, .d ((cLs cI rfl).enc v1)), (5, .d (cI.enc (k100 : Int))), (6, .box ((cXVariable cS cI).enc x101)), (12, .d ((cLs (cXVariable cS cI) rfl).enc v0)), (13, .d (cI.enc (v0.length : Int))), (14, .d (cI.enc (k100 : Int)))] (by kernel_rfl) <|
    xn <| wpC_seq <| drw_s <| pst rfl <| mvd rfl rfl ⟨rfl, pst rfl <| mvd rfl rfl ⟨rfl, getO_kp h fun x173 i174 g175 h => pst rfl <| ias rfl rfl i174 g175 rfl ⟨rfl, pst rfl <| ldi rfl rfl rfl rfl ⟨rfl, pst rfl <| fab rfl rfl rfl rfl ⟨rfl, pst rfl <| lda rfl rfl rfl rfl rfl rfl ⟨rfl, ckK_kp h fun i176 h => pst rfl <| o_cvi (k := .i64) (k' := .u64) rfl i176 ⟨rfl, ck_kp h fun i177 h => ckI_kp h fun i178 h => pst rfl <| b_shl (k := .i64) (k' := .u64) rfl rfl i177 rfl i178 ⟨rfl, ckI_kp h fun i179 h => pst rfl <| b_sub (k := .i64) rfl rfl i179 ⟨rfl, bndp h fun x180 e181 h => pst rfl <| o_call (a1 (c := cI) tK rfl (a1 (c := cI) tK rfl (a1 (c := cI) tK rfl a0))) (con_spec_l1In e181) (.inl (so1 sB so0)) ⟨rfl, pst rfl <| o_nt rfl ⟨rfl, preN <| seqN [(0, .d ((cLs (cXVariable cS cI) rfl).enc v0)), (1, .d ((cLs cI rfl).enc v1)), (12, .d ((cLs (cXVariable cS cI) rfl).enc v0)), (13, .d (cI.enc (v0.length : Int))), (14, .d (cI.enc (k100 : Int))), (29, .d (cB.enc (!x180)))] (by kernel_rfl) <|
    xn <| cnd rfl h (fun b182 h => wpC_seq <| reg_s <| x_asg (sc cB false rfl) <| seqN [(4, .d (cB.enc false))] (by kernel_rfl) <|
    xn <| wpC_ret <| rb <| rt <| rt <| rt <| rb <| rt <| rt <| re <| fin h (r1 (ss rfl rfl) <| r0) rfl)
    (fun b182 h => wpC_skip <| xbb <| kpN [(0, .d ((cLs (cXVariable cS cI) rfl).enc v0)), (1, .d ((cLs cI rfl).enc v1)), (12, .d ((cLs (cXVariable cS cI) rfl).enc v0)), (13, .d (cI.enc (v0.length : Int))), (14, .d (cI.enc (k100 : Int)))] (by kernel_rfl) <| xn <| reg_s <| st rfl <| b_inc rfl rfl l98 hk102 <| st rfl <| mvd rfl rfl <| seqN [(0, .d ((cLs (cXVariable cS cI) rfl).enc v0)), (1, .d ((cLs cI rfl).enc v1)), (12, .d ((cLs (cXVariable cS cI) rfl).enc v0)), (13, .d (cI.enc (v0.length : Int))), (14, .d (cI.enc ((k100 + 1 : Nat) : Int)))] (by kernel_rfl) <|
    xn <| hn143 () h)⟩⟩⟩⟩⟩⟩⟩⟩⟩⟩⟩))

def rs_spec_sPart (r : (List XVariable)) : List D := [(cLo (cXVariable cS cI)).enc r]
def m90 : MC := .seq (.reg [⟨some 4, .asg (.c (.slice true [])), none⟩] [0, 1])
  (.seq (.reg [⟨some 5, .asg (.c (.slice true [])), none⟩] [0, 1, 5])
  (.seq (.kp [5] (.seq (.reg [⟨some 8, .mv (.t 1), none⟩,
    ⟨some 9, .len false (.t 8), none⟩,
    ⟨some 10, .mv (.c (.int .i64 0)), none⟩] [0, 1, 5, 8, 9, 10])
  (.blk 0 (.loop (.seq (.reg [⟨some 11, .bin .lss (.t 10) (.t 9), none⟩] [0, 1, 5, 8, 9, 10, 11])
  (.seq (.kp [0, 1, 5, 8, 9, 10] (.cond (.t 11) (.skip) (.exit 0)))
  (.seq (.kp [0, 1, 5, 8, 9, 10] (.blk 1 (.seq (.reg [⟨some 12, .ia 8 (.t 10) 1, none⟩,
    ⟨some 13, .ld 12 1 false, none⟩,
    ⟨some 7, .asg (.t 13), none⟩] [0, 1, 5, 7, 8, 9, 10])
  (.reg [⟨some 14, .mv (.t 5), none⟩,
    ⟨some 15, .mv (.t 0), none⟩,
    ⟨some 16, .mv (.t 7), none⟩,
    ⟨some 17, .ia 15 (.t 16) 2, none⟩,
    ⟨some 18, .ld 17 2 true, none⟩,
    ⟨some 19, .bsl [(.t 18)] 2, none⟩,
    ⟨some 20, .app (.t 14) (.t 19) 2, none⟩,
    ⟨some 5, .asg (.t 20), none⟩] [0, 1, 5, 8, 9, 10]))))
  (.reg [⟨some 21, .bin .add (.t 10) (.c (.int .i64 1)), none⟩,
    ⟨some 10, .mv (.t 21), none⟩] [0, 1, 5, 8, 9, 10]))))))))
  (.seq (.reg [⟨some 22, .mv (.t 5), none⟩,
    ⟨some 4, .asg (.t 22), none⟩] [4])
  (.ret))))
theorem con_spec_sPart {v0 : (List XVariable)} {v1 : (List Int)} {r : (List XVariable)} (h : sh_spec_sPart v0 v1 = some r) : Con Tryd.prog 90 [(cLs (cXVariable cS cI) rfl).enc v0, (cLs cI rfl).enc v1] [] (rs_spec_sPart r) := by
  delta sh_spec_sPart at h
  refine top (out := none) (f := Tryd.f90) (m := m90) (rs := [.t 4]) (by kernel_rfl) rfl (by kernel_rfl) (by kernel_rfl) (by kernel_rfl) (by kernel_rfl) (by kernel_rfl) ?_
  exact
   ini [(0, .d ((cLs (cXVariable cS cI) rfl).enc v0)), (1, .d ((cLs cI rfl).enc v1))] rfl <| wpC_seq <| reg_s <| x_asg (sc (cLo (cXVariable cS cI)) ([] : List XVariable) rfl) <| seqN [(0, .d ((cLs (cXVariable cS cI) rfl).enc v0)), (1, .d ((cLs cI rfl).enc v1))] (by kernel_rfl) <|
    xn <| wpC_seq <| reg_s <| x_asg (sc (cLo (cXVariable cS cI)) ([] : List XVariable) rfl) <| seqN [(0, .d ((cLs (cXVariable cS cI) rfl).enc v0)), (1, .d ((cLs cI rfl).enc v1)), (5, .d ((cLo (cXVariable cS cI)).enc ([] : List XVariable)))] (by kernel_rfl) <|
    xn <| wpC_seq <| wpC_kp <| wpC_seq <| reg_s <| st rfl <| mvd rfl rfl <| stw rfl <| lens rfl fun l36 => st rfl <| mvc cI (0 : Int) rfl <| seqN [(0, .d ((cLs (cXVariable cS cI) rfl).enc v0)), (1, .d ((cLs cI rfl).enc v1)), (5, .d ((cLo (cXVariable cS cI)).enc ([] : List XVariable))), (8, .d ((cLs cI rfl).enc v1)), (9, .d (cI.enc (v1.length : Int))), (10, .d (cI.enc (0 : Int)))] (by kernel_rfl) <|
    xn <| wpC_blk <| lpR (fun (k38 : Nat) (s37 : (List XVariable)) => [(0, .d ((cLs (cXVariable cS cI) rfl).enc v0)), (1, .d ((cLs cI rfl).enc v1)), (5, .d ((cLo (cXVariable cS cI)).enc s37)), (8, .d ((cLs cI rfl).enc v1)), (9, .d (cI.enc (v1.length : Int))), (10, .d (cI.enc (k38 : Int)))]) ([] : List XVariable) rfl h
    (fun G60 s37 h => wpC_seq <| reg_s <| st rfl <| b_lss (k := .i64) rfl rfl <| seqN [(0, .d ((cLs (cXVariable cS cI) rfl).enc v0)), (1, .d ((cLs cI rfl).enc v1)), (5, .d ((cLo (cXVariable cS cI)).enc s37)), (8, .d ((cLs cI rfl).enc v1)), (9, .d (cI.enc (v1.length : Int))), (10, .d (cI.enc (v1.length : Int))), (11, .d (cB.enc (decide ((v1.length : Int) < (v1.length : Int)))))] (by kernel_rfl) <|
    xn <| wpC_seq <| wpC_kp <| cnd0 rfl (dlf _) <| wpC_exit <| xt <| xt <| xt <| xb <| kpN [(5, .d ((cLo (cXVariable cS cI)).enc s37))] (by kernel_rfl) <| xn <| wpC_seq <| reg_s <| st rfl <| mvo rfl rfl <| x_asg (sr rfl rfl) <| seqN [(4, .d ((cLo (cXVariable cS cI)).enc s37))] (by kernel_rfl) <|
    xn <| wpC_ret <| re <| fin h (r1 (so rfl rfl) <| r0) rfl)
    (fun G60 nx58 k38 s37 x39 hk40 hx41 hn59 h => wpC_seq <| reg_s <| st rfl <| b_lss (k := .i64) rfl rfl <| seqN [(0, .d ((cLs (cXVariable cS cI) rfl).enc v0)), (1, .d ((cLs cI rfl).enc v1)), (5, .d ((cLo (cXVariable cS cI)).enc s37)), (8, .d ((cLs cI rfl).enc v1)), (9, .d (cI.enc (v1.length : Int))), (10, .d (cI.enc (k38 : Int))), (11, .d (cB.enc (decide ((k38 : Int) < (v1.length : Int)))))] (by kernel_rfl) <|
    xn <| wpC_seq <| wpC_kp <| cnd1 rfl (dlt hk40) <| wpC_skip <| kpN [(0, .d ((cLs (cXVariable cS cI) rfl).enc v0)), (1, .d ((cLs cI rfl).enc v1)), (5, .d ((cLo (cXVariable cS cI)).enc s37)), (8, .d ((cLs cI rfl).enc v1)), (9, .d (cI.enc (v1.length : Int))), (10, .d (cI.enc (k38 : Int)))] (by kernel_rfl) <| xn <| wpC_seq <| wpC_kp <| wpC_blk <| wpC_seq <| reg_s <| st rfl <| ias rfl rfl (Int.natCast_nonneg _) hx41 rfl <| st rfl <| ldi rfl rfl rfl rfl <| x_asg (ss rfl rfl) <| seqN [(0, .d ((cLs (cXVariable cS cI) rfl).enc v0)), (1, .d ((cLs cI rfl).enc v1)), (5, .d ((cLo (cXVariable cS cI)).enc s37)), (7, .d (cI.enc x39)), (8, .d ((cLs cI rfl).enc v1)), (9, .d (cI.enc (v1.length : Int))), (10, .d (cI.enc (k38 : Int)))] (by kernel_rfl) <|
    xn <| reg_s <| st rfl <| mvo rfl rfl <| st rfl <| mvd rfl rfl <| st rfl <| mvd rfl rfl <| getO_k h fun x65 i66 g67 h => st rfl <| ias rfl rfl i66 g67 rfl <| st rfl <| ldi rfl rfl rfl rfl <| x_bsl (cXVariable cS cI) [x65] (t1 (ss rfl rfl) rfl t0) rfl rfl <| lnO_k h fun l68 h => x_app (sr rfl rfl) (to rfl rfl) l68 rfl <| x_asg (so rfl rfl) <| seqN [(0, .d ((cLs (cXVariable cS cI) rfl).enc v0)), (1, .d ((cLs cI rfl).enc v1)), (5, .d ((cLo (cXVariable cS cI)).enc (s37 ++ [x65]))), (8, .d ((cLs cI rfl).enc v1)), (9, .d (cI.enc (v1.length : Int))), (10, .d (cI.enc (k38 : Int)))] (by kernel_rfl) <|
    xbb <| kpN [(0, .d ((cLs (cXVariable cS cI) rfl).enc v0)), (1, .d ((cLs cI rfl).enc v1)), (5, .d ((cLo (cXVariable cS cI)).enc (s37 ++ [x65]))), (8, .d ((cLs cI rfl).enc v1)), (9, .d (cI.enc (v1.length : Int))), (10, .d (cI.enc (k38 : Int)))] (by kernel_rfl) <| xn <| reg_s <| st rfl <| b_inc rfl rfl l36 hk40 <| st rfl <| mvd rfl rfl <| seqN [(0, .d ((cLs (cXVariable cS cI) rfl).enc v0)), (1, .d ((cLs cI rfl).enc v1)), (5, .d ((cLo (cXVariable cS cI)).enc (s37 ++ [x65]))), (8, .d ((cLs cI rfl).enc v1)), (9, .d (cI.enc (v1.length : Int))), (10, .d (cI.enc ((k38 + 1 : Nat) : Int)))] (by kernel_rfl) <|
    xn <| hn59 (s37 ++ [x65]) h)

def rs_spec_sCount (r : Int) : List D := [cI.enc r]
def m89 : MC := .seq (.reg [⟨some 2, .asg (.c (.int .i64 0)), none⟩] [0])
  (.seq (.reg [⟨some 3, .asg (.c (.int .i64 1)), none⟩] [0, 3])
  (.seq (.kp [3] (.seq (.reg [⟨some 6, .mv (.t 0), none⟩,
    ⟨some 7, .len false (.t 6), none⟩,
    ⟨some 8, .mv (.c (.int .i64 0)), none⟩] [0, 3, 6, 7, 8])
  (.blk 0 (.loop (.seq (.reg [⟨some 9, .bin .lss (.t 8) (.t 7), none⟩] [0, 3, 6, 7, 8, 9])
  (.seq (.kp [0, 3, 6, 7, 8] (.cond (.t 9) (.skip) (.exit 0)))
  (.seq (.kp [0, 3, 6, 7, 8] (.blk 1 (.seq (.reg [⟨some 10, .ia 6 (.t 8) 2, none⟩,
    ⟨some 11, .ld 10 2 true, none⟩,
    ⟨some 5, .alloc (.agg [.str [], .int .i64 0]), none⟩,
    ⟨none, .st 5 (.t 11) 2, none⟩] [0, 3, 5, 6, 7, 8])
  (.reg [⟨some 12, .mv (.t 3), none⟩,
    ⟨some 13, .fa 5 1 1, none⟩,
    ⟨some 14, .ld 13 1 false, none⟩,
    ⟨some 15, .bin .mul (.t 12) (.t 14), none⟩,
    ⟨some 3, .asg (.t 15), none⟩] [0, 3, 6, 7, 8]))))
  (.reg [⟨some 16, .bin .add (.t 8) (.c (.int .i64 1)), none⟩,
    ⟨some 8, .mv (.t 16), none⟩] [0, 3, 6, 7, 8]))))))))
  (.seq (.reg [⟨some 17, .mv (.t 3), none⟩,
    ⟨some 2, .asg (.t 17), none⟩] [2])
  (.ret))))
theorem con_spec_sCount {v0 : (List XVariable)} {r : Int} (h : sh_spec_sCount v0 = some r) : Con Tryd.prog 89 [(cLs (cXVariable cS cI) rfl).enc v0] [] (rs_spec_sCount r) := by
  delta sh_spec_sCount at h
  refine top (out := none) (f := Tryd.f89) (m := m89) (rs := [.t 2]) (by kernel_rfl) rfl (by kernel_rfl) (by kernel_rfl) (by kernel_rfl) (by kernel_rfl) (by kernel_rfl) ?_
  exact
   ini [(0, .d ((cLs (cXVariable cS cI) rfl).enc v0))] rfl <| wpC_seq <| reg_s <| x_asg (sc cI (0 : Int) rfl) <| seqN [(0, .d ((cLs (cXVariable cS cI) rfl).enc v0))] (by kernel_rfl) <|
    xn <| wpC_seq <| reg_s <| x_asg (sc cI (1 : Int) rfl) <| seqN [(0, .d ((cLs (cXVariable cS cI) rfl).enc v0)), (3, .d (cI.enc (1 : Int)))] (by kernel_rfl) <|
    xn <| wpC_seq <| wpC_kp <| wpC_seq <| reg_s <| st rfl <| mvd rfl rfl <| stw rfl <| lens rfl fun l18 => st rfl <| mvc cI (0 : Int) rfl <| seqN [(0, .d ((cLs (cXVariable cS cI) rfl).enc v0)), (3, .d (cI.enc (1 : Int))), (6, .d ((cLs (cXVariable cS cI) rfl).enc v0)), (7, .d (cI.enc (v0.length : Int))), (8, .d (cI.enc (0 : Int)))] (by kernel_rfl) <|
    xn <| wpC_blk <| lpR (fun (k20 : Nat) (s19 : Int) => [(0, .d ((cLs (cXVariable cS cI) rfl).enc v0)), (3, .d (cI.enc s19)), (6, .d ((cLs (cXVariable cS cI) rfl).enc v0)), (7, .d (cI.enc (v0.length : Int))), (8, .d (cI.enc (k20 : Int)))]) (1 : Int) rfl h
    (fun G30 s19 h => wpC_seq <| reg_s <| st rfl <| b_lss (k := .i64) rfl rfl <| seqN [(0, .d ((cLs (cXVariable cS cI) rfl).enc v0)), (3, .d (cI.enc s19)), (6, .d ((cLs (cXVariable cS cI) rfl).enc v0)), (7, .d (cI.enc (v0.length : Int))), (8, .d (cI.enc (v0.length : Int))), (9, .d (cB.enc (decide ((v0.length : Int) < (v0.length : Int)))))] (by kernel_rfl) <|
    xn <| wpC_seq <| wpC_kp <| cnd0 rfl (dlf _) <| wpC_exit <| xt <| xt <| xt <| xb <| kpN [(3, .d (cI.enc s19))] (by kernel_rfl) <| xn <| wpC_seq <| reg_s <| st rfl <| mvd rfl rfl <| x_asg (ss rfl rfl) <| seqN [(2, .d (cI.enc s19))] (by kernel_rfl) <|
    xn <| wpC_ret <| re <| fin h (r1 (ss rfl rfl) <| r0) rfl)
    (fun G30 nx28 k20 s19 x21 hk22 hx23 hn29 h => wpC_seq <| reg_s <| st rfl <| b_lss (k := .i64) rfl rfl <| seqN [(0, .d ((cLs (cXVariable cS cI) rfl).enc v0)), (3, .d (cI.enc s19)), (6, .d ((cLs (cXVariable cS cI) rfl).enc v0)), (7, .d (cI.enc (v0.length : Int))), (8, .d (cI.enc (k20 : Int))), (9, .d (cB.enc (decide ((k20 : Int) < (v0.length : Int)))))] (by kernel_rfl) <|
    xn <| wpC_seq <| wpC_kp <| cnd1 rfl (dlt hk22) <| wpC_skip <| kpN [(0, .d ((cLs (cXVariable cS cI) rfl).enc v0)), (3, .d (cI.enc s19)), (6, .d ((cLs (cXVariable cS cI) rfl).enc v0)), (7, .d (cI.enc (v0.length : Int))), (8, .d (cI.enc (k20 : Int)))] (by kernel_rfl) <| xn <| wpC_seq <| wpC_kp <| wpC_blk <| wpC_seq <| reg_s <| st rfl <| ias rfl rfl (Int.natCast_nonneg _) hx23 rfl <| st rfl <| ldi rfl rfl rfl rfl <| x_all (cXVariable cS cI) (⟨([] : List UInt8), (0 : Int)⟩ : XVariable) rfl <| x_stb (ss rfl rfl) rfl (Cd.h_sz _ _) rfl <| seqN [(0, .d ((cLs (cXVariable cS cI) rfl).enc v0)), (3, .d (cI.enc s19)), (5, .box ((cXVariable cS cI).enc x21)), (6, .d ((cLs (cXVariable cS cI) rfl).enc v0)), (7, .d (cI.enc (v0.length : Int))), (8, .d (cI.enc (k20 : Int)))] (by kernel_rfl) <|
    xn <| reg_s <| st rfl <| mvd rfl rfl <| st rfl <| fab rfl rfl rfl rfl <| st rfl <| lda rfl rfl rfl rfl rfl rfl <| ckI_k h fun i32 h => st rfl <| b_mul (k := .i64) rfl rfl i32 <| x_asg (ss rfl rfl) <| seqN [(0, .d ((cLs (cXVariable cS cI) rfl).enc v0)), (3, .d (cI.enc (s19 * x21.Levels))), (6, .d ((cLs (cXVariable cS cI) rfl).enc v0)), (7, .d (cI.enc (v0.length : Int))), (8, .d (cI.enc (k20 : Int)))] (by kernel_rfl) <|
    xbb <| kpN [(0, .d ((cLs (cXVariable cS cI) rfl).enc v0)), (3, .d (cI.enc (s19 * x21.Levels))), (6, .d ((cLs (cXVariable cS cI) rfl).enc v0)), (7, .d (cI.enc (v0.length : Int))), (8, .d (cI.enc (k20 : Int)))] (by kernel_rfl) <| xn <| reg_s <| st rfl <| b_inc rfl rfl l18 hk22 <| st rfl <| mvd rfl rfl <| seqN [(0, .d ((cLs (cXVariable cS cI) rfl).enc v0)), (3, .d (cI.enc (s19 * x21.Levels))), (6, .d ((cLs (cXVariable cS cI) rfl).enc v0)), (7, .d (cI.enc (v0.length : Int))), (8, .d (cI.enc ((k20 + 1 : Nat) : Int)))] (by kernel_rfl) <|
    xn <| hn29 (s19 * x21.Levels) h)

def rs_spec_uCount (r : Int) : List D := [cI.enc r]
def m52 : MC := .seq (.reg [⟨some 3, .box (.t 0), none⟩,
    ⟨some 5, .box (.t 2), none⟩,
    ⟨some 6, .asg (.c (.int .i64 0)), none⟩] [1, 3, 5])
  (.seq (.drw [⟨0, ⟨some 7, .ld 3 1 true, none⟩, [8, 9, 10, 11, 12, 13, 14, 15, 16, 17]⟩,
    ⟨1, ⟨some 8, .fa 5 0 0, none⟩, [7, 9, 10, 11, 12, 13, 14, 15, 16, 17]⟩,
    ⟨2, ⟨some 9, .ld 8 1 false, none⟩, [7, 10, 11, 12, 13, 14, 15, 16, 17]⟩,
    ⟨3, ⟨some 10, .call 79 [(.t 7), (.t 9)], none⟩, [11, 12, 13, 14, 15, 16, 17]⟩,
    ⟨4, ⟨some 11, .len false (.t 10), none⟩, [12, 13, 14, 15, 16, 17]⟩,
    ⟨5, ⟨some 12, .mv (.t 1), none⟩, [7, 8, 9, 10, 11, 13, 14, 15, 16, 17]⟩,
    ⟨6, ⟨some 13, .fa 5 1 1, none⟩, [7, 8, 9, 10, 11, 12, 14, 15, 16, 17]⟩,
    ⟨7, ⟨some 14, .ld 13 1 false, none⟩, [7, 8, 9, 10, 11, 12, 15, 16, 17]⟩,
    ⟨8, ⟨some 15, .call 90 [(.t 12), (.t 14)], none⟩, [11, 16, 17]⟩,
    ⟨9, ⟨some 16, .call 89 [(.t 15)], none⟩, [11, 17]⟩,
    ⟨10, ⟨some 17, .bin .mul (.t 11) (.t 16), none⟩, []⟩]
    [(11, ⟨some 6, .asg (.t 17), none⟩)] [6])
  (.ret))
theorem con_spec_uCount {v0 : XGeo} {v1 : (List XVariable)} {v2 : XTable} {r : Int} (h : sh_spec_uCount v0 v1 v2 = some r) : Con Tryd.prog 52 [(cXGeo (cLs cI rfl)).enc v0, (cLs (cXVariable cS cI) rfl).enc v1, (cXTable cI (cLs cI rfl) (cLs cI rfl) cI).enc v2] [] (rs_spec_uCount r) := by
  delta sh_spec_uCount at h
  refine top (out := none) (f := Tryd.f52) (m := m52) (rs := [.t 6]) (by kernel_rfl) rfl (by kernel_rfl) (by kernel_rfl) (by kernel_rfl) (by kernel_rfl) (by kernel_rfl) ?_
  exact
   ini [(0, .d ((cXGeo (cLs cI rfl)).enc v0)), (1, .d ((cLs (cXVariable cS cI) rfl).enc v1)), (2, .d ((cXTable cI (cLs cI rfl) (cLs cI rfl) cI).enc v2))] rfl <| wpC_seq <| reg_s <| x_box (ss rfl rfl) <| x_box (ss rfl rfl) <| x_asg (sc cI (0 : Int) rfl) <| seqN [(1, .d ((cLs (cXVariable cS cI) rfl).enc v1)), (3, .box ((cXGeo (cLs cI rfl)).enc v0)), (5, .box ((cXTable cI (cLs cI rfl) (cLs cI rfl) cI).enc v2))] (by kernel_rfl) <|
    xn <| wpC_seq <| drw_s <| pst rfl <| ldb rfl rfl rfl rfl ⟨rfl, pst rfl <| fab rfl rfl rfl rfl ⟨rfl, pst rfl <| lda rfl rfl rfl rfl rfl rfl ⟨rfl, bndp h fun x9 e10 h => pst rfl <| o_call (a1 (c := (cXGeo (cLs cI rfl))) (tXGeo (tLs tK)) rfl (a1 (c := cI) tK rfl a0)) (con_spec_gLevel e10) (.inl (so1 (sLo sK) so0)) ⟨rfl, lmO_kp h fun l11 h => pst rfl <| plno rfl l11 ⟨rfl, pst rfl <| mvd rfl rfl ⟨rfl, pst rfl <| fab rfl rfl rfl rfl ⟨rfl, pst rfl <| lda rfl rfl rfl rfl rfl rfl ⟨rfl, bndp h fun x12 e13 h => pst rfl <| o_call (a1 (c := (cLs (cXVariable cS cI) rfl)) (tLs (tXVariable tS tK)) rfl (a1 (c := (cLs cI rfl)) (tLs tK) rfl a0)) (con_spec_sPart e13) (.inl (so1 (sLo (sXVariable sS sK)) so0)) ⟨rfl, bndp h fun x14 e15 h => pst rfl <| o_call (a1 (c := (cLo (cXVariable cS cI))) (tLo (tXVariable tS tK)) rfl a0) (con_spec_sCount e15) (.inl (so1 sK so0)) ⟨rfl, ckI_kp h fun i16 h => pst rfl <| b_mul (k := .i64) rfl rfl i16 ⟨rfl, preN <| x_asg (ss rfl rfl) <| seqN [(6, .d (cI.enc ((x9.length : Int) * x14)))] (by kernel_rfl) <|
    xn <| wpC_ret <| re <| fin h (r1 (ss rfl rfl) <| r0) rfl⟩⟩⟩⟩⟩⟩⟩⟩⟩⟩⟩

def rs_spec_uGood (r : Bool) : List D := [cB.enc r]
def m45 : MC := .seq (.reg [⟨some 3, .box (.t 0), none⟩,
    ⟨some 5, .box (.t 2), none⟩,
    ⟨some 6, .asg (.c (.bool false)), none⟩] [1, 3, 5])
  (.seq (.kp [1, 3, 5] (.seq (.reg [⟨some 7, .ld 3 1 true, none⟩,
    ⟨some 8, .call 78 [(.t 7)], none⟩,
    ⟨some 9, .nt (.t 8), none⟩,
    ⟨some 10, .mv (.t 9), none⟩,
    ⟨some 11, .mv (.t 1), some (10, false)⟩,
    ⟨some 12, .call 70 [(.t 11)], some (10, false)⟩,
    ⟨some 13, .nt (.t 12), some (10, false)⟩,
    ⟨some 14, .pick (.t 10) (.c (.bool true)) (.t 13), none⟩,
    ⟨some 15, .mv (.t 14), none⟩,
    ⟨some 16, .ld 3 1 true, some (15, false)⟩,
    ⟨some 17, .fa 5 0 0, some (15, false)⟩,
    ⟨some 18, .ld 17 1 false, some (15, false)⟩,
    ⟨some 19, .call 79 [(.t 16), (.t 18)], some (15, false)⟩,
    ⟨some 20, .len false (.t 19), some (15, false)⟩,
    ⟨some 21, .bin .eql (.t 20) (.c (.int .i64 0)), some (15, false)⟩,
    ⟨some 22, .pick (.t 15) (.c (.bool true)) (.t 21), none⟩,
    ⟨some 23, .mv (.t 22), none⟩,
    ⟨some 24, .fa 5 1 1, some (23, false)⟩,
    ⟨some 25, .ld 24 1 false, some (23, false)⟩,
    ⟨some 26, .mv (.t 1), some (23, false)⟩,
    ⟨some 27, .len false (.t 26), some (23, false)⟩,
    ⟨some 28, .bin .sub (.t 27) (.c (.int .i64 1)), some (23, false)⟩,
    ⟨some 29, .call 80 [(.t 25), (.c (.int .i64 0)), (.t 28)], some (23, false)⟩,
    ⟨some 30, .nt (.t 29), some (23, false)⟩,
    ⟨some 31, .pick (.t 23) (.c (.bool true)) (.t 30), none⟩,
    ⟨some 32, .mv (.t 31), none⟩,
    ⟨some 33, .mv (.t 1), some (32, false)⟩,
    ⟨some 34, .fa 5 2 2, some (32, false)⟩,
    ⟨some 35, .ld 34 1 false, some (32, false)⟩,
    ⟨some 36, .call 81 [(.t 33), (.t 35)], some (32, false)⟩,
    ⟨some 37, .nt (.t 36), some (32, false)⟩,
    ⟨some 38, .pick (.t 32) (.c (.bool true)) (.t 37), none⟩,
    ⟨some 39, .mv (.t 38), none⟩,
    ⟨some 40, .fa 5 3 3, some (39, false)⟩,
    ⟨some 41, .ld 40 1 false, some (39, false)⟩,
    ⟨some 42, .mv (.t 1), some (39, false)⟩,
    ⟨some 43, .len false (.t 42), some (39, false)⟩,
    ⟨some 44, .bin .sub (.t 43) (.c (.int .i64 1)), some (39, false)⟩,
    ⟨some 45, .call 51 [(.t 41), (.c (.int .i64 (-1))), (.t 44)], some (39, false)⟩,
    ⟨some 46, .nt (.t 45), some (39, false)⟩,
    ⟨some 47, .pick (.t 39) (.c (.bool true)) (.t 46), none⟩] [1, 3, 5, 47])
  (.cond (.t 47) (.seq (.reg [⟨some 6, .asg (.c (.bool false)), none⟩] [6])
  (.ret)) (.skip))))
  (.seq (.reg [⟨some 48, .ld 3 1 true, none⟩,
    ⟨some 49, .mv (.t 1), none⟩,
    ⟨some 50, .ld 5 4 true, none⟩,
    ⟨some 51, .call 52 [(.t 48), (.t 49), (.t 50)], none⟩,
    ⟨some 52, .bin .leq (.t 51) (.c (.int .i64 600)), none⟩,
    ⟨some 6, .asg (.t 52), none⟩] [6])
  (.ret)))
theorem con_spec_uGood {v0 : XGeo} {v1 : (List XVariable)} {v2 : XTable} {r : Bool} (h : sh_spec_uGood v0 v1 v2 = some r) : Con Tryd.prog 45 [(cXGeo (cLs cI rfl)).enc v0, (cLs (cXVariable cS cI) rfl).enc v1, (cXTable cI (cLs cI rfl) (cLs cI rfl) cI).enc v2] [] (rs_spec_uGood r) := by
  delta sh_spec_uGood at h
  refine top (out := none) (f := Tryd.f45) (m := m45) (rs := [.t 6]) (by kernel_rfl) rfl (by kernel_rfl) (by kernel_rfl) (by kernel_rfl) (by kernel_rfl) (by kernel_rfl) ?_
  exact
   ini [(0, .d ((cXGeo (cLs cI rfl)).enc v0)), (1, .d ((cLs (cXVariable cS cI) rfl).enc v1)), (2, .d ((cXTable cI (cLs cI rfl) (cLs cI rfl) cI).enc v2))] rfl <| wpC_seq <| reg_s <| x_box (ss rfl rfl) <| x_box (ss rfl rfl) <| x_asg (sc cB false rfl) <| seqN [(1, .d ((cLs (cXVariable cS cI) rfl).enc v1)), (3, .box ((cXGeo (cLs cI rfl)).enc v0)), (5, .box ((cXTable cI (cLs cI rfl) (cLs cI rfl) cI).enc v2))] (by kernel_rfl) <|
    xn <| wpC_seq <| wpC_kp <| wpC_seq <| jw (fun (s70 : Bool) => [(1, .d ((cLs (cXVariable cS cI) rfl).enc v1)), (3, .box ((cXGeo (cLs cI rfl)).enc v0)), (5, .box ((cXTable cI (cLs cI rfl) (cLs cI rfl) cI).enc v2)), (47, .d (cB.enc s70))]) h (fun s70 h => xn <| cnd rfl h (fun b72 h => wpC_seq <| reg_s <| x_asg (sc cB false rfl) <| seqN [(6, .d (cB.enc false))] (by kernel_rfl) <|
    xn <| wpC_ret <| rt <| rt <| re <| fin h (r1 (ss rfl rfl) <| r0) rfl)
    (fun b72 h => wpC_skip <| kpN [(1, .d ((cLs (cXVariable cS cI) rfl).enc v1)), (3, .box ((cXGeo (cLs cI rfl)).enc v0)), (5, .box ((cXTable cI (cLs cI rfl) (cLs cI rfl) cI).enc v2))] (by kernel_rfl) <| xn <| wpC_seq <| reg_s <| st rfl <| ldb rfl rfl rfl rfl <| st rfl <| mvd rfl rfl <| st rfl <| ldb rfl rfl rfl rfl <| bnd h fun x75 e76 h => st rfl <| o_call (a1 (c := (cXGeo (cLs cI rfl))) (tXGeo (tLs tK)) rfl (a1 (c := (cLs (cXVariable cS cI) rfl)) (tLs (tXVariable tS tK)) rfl (a1 (c := (cXTable cI (cLs cI rfl) (cLs cI rfl) cI)) (tXTable tK (tLs tK) (tLs tK) tK) rfl a0))) (con_spec_uCount e76) (.inl (so1 sK so0)) <| st rfl <| b_leq (k := .i64) rfl rfl <| x_asg (ss rfl rfl) <| seqN [(6, .d (cB.enc (decide (x75 ≤ (600 : Int)))))] (by kernel_rfl) <|
    xn <| wpC_ret <| re <| fin h (r1 (ss rfl rfl) <| r0) rfl))
    fun s70' q71 h => reg_s <| st rfl <| ldb rfl rfl rfl rfl <| bnd h fun x77 e78 h => st rfl <| o_call (a1 (c := (cXGeo (cLs cI rfl))) (tXGeo (tLs tK)) rfl a0) (con_spec_gGood e78) (.inl (so1 sB so0)) <| st rfl <| o_nt rfl <| st rfl <| mvd rfl rfl <| ite_k h (fun b79 h => gf rfl b79 <| gf rfl b79 <| gf rfl b79 <| st rfl <| pick1 rfl b79 (cd := cB) (v := true) rfl rfl <| st rfl <| mvd rfl rfl <| gf rfl rfl <| gf rfl rfl <| gf rfl rfl <| gf rfl rfl <| gf rfl rfl <| gf rfl rfl <| st rfl <| pick1 rfl rfl (cd := cB) (v := true) rfl rfl <| st rfl <| mvd rfl rfl <| gf rfl rfl <| gf rfl rfl <| gf rfl rfl <| gf rfl rfl <| gf rfl rfl <| gf rfl rfl <| gf rfl rfl <| st rfl <| pick1 rfl rfl (cd := cB) (v := true) rfl rfl <| st rfl <| mvd rfl rfl <| gf rfl rfl <| gf rfl rfl <| gf rfl rfl <| gf rfl rfl <| gf rfl rfl <| st rfl <| pick1 rfl rfl (cd := cB) (v := true) rfl rfl <| st rfl <| mvd rfl rfl <| gf rfl rfl <| gf rfl rfl <| gf rfl rfl <| gf rfl rfl <| gf rfl rfl <| gf rfl rfl <| gf rfl rfl <| st rfl <| pick1 rfl rfl (cd := cB) (v := true) rfl rfl <| seqN [(1, .d ((cLs (cXVariable cS cI) rfl).enc v1)), (3, .box ((cXGeo (cLs cI rfl)).enc v0)), (5, .box ((cXTable cI (cLs cI rfl) (cLs cI rfl) cI).enc v2)), (47, .d (cB.enc true))] (by kernel_rfl) <|
    lfn (S := (fun (s70 : Bool) => [(1, .d ((cLs (cXVariable cS cI) rfl).enc v1)), (3, .box ((cXGeo (cLs cI rfl)).enc v0)), (5, .box ((cXTable cI (cLs cI rfl) (cLs cI rfl) cI).enc v2)), (47, .d (cB.enc s70))])) h q71 rfl)
    (fun b79 h => gt' rfl b79 <| st rfl <| mvd rfl rfl <| gt' rfl b79 <| bnd h fun x80 e81 h => st rfl <| o_call (a1 (c := (cLs (cXVariable cS cI) rfl)) (tLs (tXVariable tS tK)) rfl a0) (con_spec_sGood e81) (.inl (so1 sB so0)) <| gt' rfl b79 <| st rfl <| o_nt rfl <| st rfl <| pick0 rfl b79 (cd := cB) (v := (!x80)) rfl rfl <| st rfl <| mvd rfl rfl <| ite_k h (fun b82 h => gf rfl b82 <| gf rfl b82 <| gf rfl b82 <| gf rfl b82 <| gf rfl b82 <| gf rfl b82 <| st rfl <| pick1 rfl b82 (cd := cB) (v := true) rfl rfl <| st rfl <| mvd rfl rfl <| gf rfl rfl <| gf rfl rfl <| gf rfl rfl <| gf rfl rfl <| gf rfl rfl <| gf rfl rfl <| gf rfl rfl <| st rfl <| pick1 rfl rfl (cd := cB) (v := true) rfl rfl <| st rfl <| mvd rfl rfl <| gf rfl rfl <| gf rfl rfl <| gf rfl rfl <| gf rfl rfl <| gf rfl rfl <| st rfl <| pick1 rfl rfl (cd := cB) (v := true) rfl rfl <| st rfl <| mvd rfl rfl <| gf rfl rfl <| gf rfl rfl <| gf rfl rfl <| gf rfl rfl <| gf rfl rfl <| gf rfl rfl <| gf rfl rfl <| st rfl <| pick1 rfl rfl (cd := cB) (v := true) rfl rfl <| seqN [(1, .d ((cLs (cXVariable cS cI) rfl).enc v1)), (3, .box ((cXGeo (cLs cI rfl)).enc v0)), (5, .box ((cXTable cI (cLs cI rfl) (cLs cI rfl) cI).enc v2)), (47, .d (cB.enc true))] (by kernel_rfl) <|
    lfn (S := (fun (s70 : Bool) => [(1, .d ((cLs (cXVariable cS cI) rfl).enc v1)), (3, .box ((cXGeo (cLs cI rfl)).enc v0)), (5, .box ((cXTable cI (cLs cI rfl) (cLs cI rfl) cI).enc v2)), (47, .d (cB.enc s70))])) h q71 rfl)
    (fun b82 h => gt' rfl b82 <| st rfl <| ldb rfl rfl rfl rfl <| gt' rfl b82 <| st rfl <| fab rfl rfl rfl rfl <| gt' rfl b82 <| st rfl <| lda rfl rfl rfl rfl rfl rfl <| gt' rfl b82 <| bnd h fun x83 e84 h => st rfl <| o_call (a1 (c := (cXGeo (cLs cI rfl))) (tXGeo (tLs tK)) rfl (a1 (c := cI) tK rfl a0)) (con_spec_gLevel e84) (.inl (so1 (sLo sK) so0)) <| gt' rfl b82 <| stw rfl <| leno rfl fun l85 => gt' rfl b82 <| st rfl <| b_eql (k := .i64) rfl rfl <| st rfl <| pick0 rfl b82 (cd := cB) (v := (decide ((x83.length : Int) = (0 : Int)))) rfl rfl <| st rfl <| mvd rfl rfl <| ite_k h (fun b86 h => gf rfl b86 <| gf rfl b86 <| gf rfl b86 <| gf rfl b86 <| gf rfl b86 <| gf rfl b86 <| gf rfl b86 <| st rfl <| pick1 rfl b86 (cd := cB) (v := true) rfl rfl <| st rfl <| mvd rfl rfl <| gf rfl rfl <| gf rfl rfl <| gf rfl rfl <| gf rfl rfl <| gf rfl rfl <| st rfl <| pick1 rfl rfl (cd := cB) (v := true) rfl rfl <| st rfl <| mvd rfl rfl <| gf rfl rfl <| gf rfl rfl <| gf rfl rfl <| gf rfl rfl <| gf rfl rfl <| gf rfl rfl <| gf rfl rfl <| st rfl <| pick1 rfl rfl (cd := cB) (v := true) rfl rfl <| seqN [(1, .d ((cLs (cXVariable cS cI) rfl).enc v1)), (3, .box ((cXGeo (cLs cI rfl)).enc v0)), (5, .box ((cXTable cI (cLs cI rfl) (cLs cI rfl) cI).enc v2)), (47, .d (cB.enc true))] (by kernel_rfl) <|
    lfn (S := (fun (s70 : Bool) => [(1, .d ((cLs (cXVariable cS cI) rfl).enc v1)), (3, .box ((cXGeo (cLs cI rfl)).enc v0)), (5, .box ((cXTable cI (cLs cI rfl) (cLs cI rfl) cI).enc v2)), (47, .d (cB.enc s70))])) h q71 rfl)
    (fun b86 h => gt' rfl b86 <| st rfl <| fab rfl rfl rfl rfl <| gt' rfl b86 <| st rfl <| lda rfl rfl rfl rfl rfl rfl <| gt' rfl b86 <| st rfl <| mvd rfl rfl <| gt' rfl b86 <| stw rfl <| lens rfl fun l87 => gt' rfl b86 <| ckI_k h fun i88 h => st rfl <| b_sub (k := .i64) rfl rfl i88 <| gt' rfl b86 <| bnd h fun x89 e90 h => st rfl <| o_call (a1 (c := (cLs cI rfl)) (tLs tK) rfl (a1 (c := cI) tK rfl (a1 (c := cI) tK rfl a0))) (con_spec_l1Rising e90) (.inl (so1 sB so0)) <| gt' rfl b86 <| st rfl <| o_nt rfl <| st rfl <| pick0 rfl b86 (cd := cB) (v := (!x89)) rfl rfl <| st rfl <| mvd rfl rfl <| ite_k h (fun b91 h => gf rfl b91 <| gf rfl b91 <| gf rfl b91 <| gf rfl b91 <| gf rfl b91 <| st rfl <| pick1 rfl b91 (cd := cB) (v := true) rfl rfl <| st rfl <| mvd rfl rfl <| gf rfl rfl <| gf rfl rfl <| gf rfl rfl <| gf rfl rfl <| gf rfl rfl <| gf rfl rfl <| gf rfl rfl <| st rfl <| pick1 rfl rfl (cd := cB) (v := true) rfl rfl <| seqN [(1, .d ((cLs (cXVariable cS cI) rfl).enc v1)), (3, .box ((cXGeo (cLs cI rfl)).enc v0)), (5, .box ((cXTable cI (cLs cI rfl) (cLs cI rfl) cI).enc v2)), (47, .d (cB.enc true))] (by kernel_rfl) <|
    lfn (S := (fun (s70 : Bool) => [(1, .d ((cLs (cXVariable cS cI) rfl).enc v1)), (3, .box ((cXGeo (cLs cI rfl)).enc v0)), (5, .box ((cXTable cI (cLs cI rfl) (cLs cI rfl) cI).enc v2)), (47, .d (cB.enc s70))])) h q71 rfl)
    (fun b91 h => gt' rfl b91 <| st rfl <| mvd rfl rfl <| gt' rfl b91 <| st rfl <| fab rfl rfl rfl rfl <| gt' rfl b91 <| st rfl <| lda rfl rfl rfl rfl rfl rfl <| gt' rfl b91 <| bnd h fun x92 e93 h => st rfl <| o_call (a1 (c := (cLs (cXVariable cS cI) rfl)) (tLs (tXVariable tS tK)) rfl (a1 (c := (cLs cI rfl)) (tLs tK) rfl a0)) (con_spec_uWhere e93) (.inl (so1 sB so0)) <| gt' rfl b91 <| st rfl <| o_nt rfl <| st rfl <| pick0 rfl b91 (cd := cB) (v := (!x92)) rfl rfl <| st rfl <| mvd rfl rfl <| ite_k h (fun b94 h => gf rfl b94 <| gf rfl b94 <| gf rfl b94 <| gf rfl b94 <| gf rfl b94 <| gf rfl b94 <| gf rfl b94 <| st rfl <| pick1 rfl b94 (cd := cB) (v := true) rfl rfl <| seqN [(1, .d ((cLs (cXVariable cS cI) rfl).enc v1)), (3, .box ((cXGeo (cLs cI rfl)).enc v0)), (5, .box ((cXTable cI (cLs cI rfl) (cLs cI rfl) cI).enc v2)), (47, .d (cB.enc true))] (by kernel_rfl) <|
    lfn (S := (fun (s70 : Bool) => [(1, .d ((cLs (cXVariable cS cI) rfl).enc v1)), (3, .box ((cXGeo (cLs cI rfl)).enc v0)), (5, .box ((cXTable cI (cLs cI rfl) (cLs cI rfl) cI).enc v2)), (47, .d (cB.enc s70))])) h q71 rfl)
    (fun b94 h => gt' rfl b94 <| st rfl <| fab rfl rfl rfl rfl <| gt' rfl b94 <| st rfl <| lda rfl rfl rfl rfl rfl rfl <| gt' rfl b94 <| st rfl <| mvd rfl rfl <| gt' rfl b94 <| stw rfl <| lens rfl fun l95 => gt' rfl b94 <| ckI_k h fun i96 h => st rfl <| b_sub (k := .i64) rfl rfl i96 <| gt' rfl b94 <| bnd h fun x97 e98 h => st rfl <| o_call (a1 (c := cI) tK rfl (a1 (c := cI) tK rfl (a1 (c := cI) tK rfl a0))) (con_spec_l1In e98) (.inl (so1 sB so0)) <| gt' rfl b94 <| st rfl <| o_nt rfl <| st rfl <| pick0 rfl b94 (cd := cB) (v := (!x97)) rfl rfl <| seqN [(1, .d ((cLs (cXVariable cS cI) rfl).enc v1)), (3, .box ((cXGeo (cLs cI rfl)).enc v0)), (5, .box ((cXTable cI (cLs cI rfl) (cLs cI rfl) cI).enc v2)), (47, .d (cB.enc (!x97)))] (by kernel_rfl) <|
    lfn (S := (fun (s70 : Bool) => [(1, .d ((cLs (cXVariable cS cI) rfl).enc v1)), (3, .box ((cXGeo (cLs cI rfl)).enc v0)), (5, .box ((cXTable cI (cLs cI rfl) (cLs cI rfl) cI).enc v2)), (47, .d (cB.enc s70))])) h q71 rfl)))))

def rs_impl_IsGeo (r : Bool) : List D := [cB.enc r]
def m85 : MC := .seq (.reg [⟨some 1, .box (.t 0), none⟩,
    ⟨some 2, .asg (.c (.bool false)), none⟩] [1])
  (.seq (.kp [1] (.seq (.reg [⟨some 4, .fa 1 0 0, none⟩,
    ⟨some 5, .ld 4 1 false, none⟩,
    ⟨some 6, .len false (.t 5), none⟩,
    ⟨some 7, .bin .lss (.t 6) (.c (.int .i64 1)), none⟩,
    ⟨some 8, .mv (.t 7), none⟩,
    ⟨some 9, .fa 1 0 0, some (8, false)⟩,
    ⟨some 10, .ld 9 1 false, some (8, false)⟩,
    ⟨some 11, .len false (.t 10), some (8, false)⟩,
    ⟨some 12, .bin .gtr (.t 11) (.c (.int .i64 30)), some (8, false)⟩,
    ⟨some 13, .pick (.t 8) (.c (.bool true)) (.t 12), none⟩,
    ⟨some 14, .mv (.t 13), none⟩,
    ⟨some 15, .fa 1 0 0, some (14, false)⟩,
    ⟨some 16, .ld 15 1 false, some (14, false)⟩,
    ⟨some 17, .ia 16 (.c (.int .i64 0)) 1, some (14, false)⟩,
    ⟨some 18, .ld 17 1 false, some (14, false)⟩,
    ⟨some 19, .bin .neq (.t 18) (.c (.int .i64 (-1))), some (14, false)⟩,
    ⟨some 20, .pick (.t 14) (.c (.bool true)) (.t 19), none⟩] [1, 20])
  (.cond (.t 20) (.seq (.reg [⟨some 2, .asg (.c (.bool false)), none⟩] [2])
  (.ret)) (.skip))))
  (.seq (.kp [] (.seq (.reg [⟨some 3, .asg (.c (.int .i64 1)), none⟩] [1, 3])
  (.blk 0 (.loop (.seq (.kp [1, 3] (.seq (.reg [⟨some 21, .mv (.t 3), none⟩,
    ⟨some 22, .fa 1 0 0, none⟩,
    ⟨some 23, .ld 22 1 false, none⟩,
    ⟨some 24, .len false (.t 23), none⟩,
    ⟨some 25, .bin .lss (.t 21) (.t 24), none⟩] [1, 3, 25])
  (.cond (.t 25) (.skip) (.exit 0))))
  (.seq (.kp [1, 3] (.blk 1 (.seq (.reg [⟨some 28, .fa 1 0 0, none⟩,
    ⟨some 29, .ld 28 1 false, none⟩,
    ⟨some 30, .mv (.t 3), none⟩,
    ⟨some 31, .ia 29 (.t 30) 1, none⟩,
    ⟨some 32, .ld 31 1 false, none⟩,
    ⟨some 33, .bin .lss (.t 32) (.c (.int .i64 0)), none⟩,
    ⟨some 34, .mv (.t 33), none⟩,
    ⟨some 35, .fa 1 0 0, some (34, false)⟩,
    ⟨some 36, .ld 35 1 false, some (34, false)⟩,
    ⟨some 37, .mv (.t 3), some (34, false)⟩,
    ⟨some 38, .ia 36 (.t 37) 1, some (34, false)⟩,
    ⟨some 39, .ld 38 1 false, some (34, false)⟩,
    ⟨some 40, .mv (.t 3), some (34, false)⟩,
    ⟨some 41, .bin .geq (.t 39) (.t 40), some (34, false)⟩,
    ⟨some 42, .pick (.t 34) (.c (.bool true)) (.t 41), none⟩] [1, 3, 42])
  (.cond (.t 42) (.seq (.reg [⟨some 2, .asg (.c (.bool false)), none⟩] [2])
  (.ret)) (.skip)))))
  (.reg [⟨some 26, .mv (.t 3), none⟩,
    ⟨some 27, .bin .add (.t 26) (.c (.int .i64 1)), none⟩,
    ⟨some 3, .asg (.t 27), none⟩] [1, 3])))))))
  (.seq (.reg [⟨some 2, .asg (.c (.bool true)), none⟩] [2])
  (.ret))))
theorem con_impl_IsGeo {v0 : XGeo} {r : Bool} (h : sh_impl_IsGeo v0 = some r) : Con Tryd.prog 85 [(cXGeo (cLs cI rfl)).enc v0] [] (rs_impl_IsGeo r) := by
  delta sh_impl_IsGeo at h
  refine top (out := none) (f := Tryd.f85) (m := m85) (rs := [.t 2]) (by kernel_rfl) rfl (by kernel_rfl) (by kernel_rfl) (by kernel_rfl) (by kernel_rfl) (by kernel_rfl) ?_
  exact
   ini [(0, .d ((cXGeo (cLs cI rfl)).enc v0))] rfl <| wpC_seq <| reg_s <| x_box (ss rfl rfl) <| x_asg (sc cB false rfl) <| seqN [(1, .box ((cXGeo (cLs cI rfl)).enc v0))] (by kernel_rfl) <|
    xn <| wpC_seq <| wpC_kp <| wpC_seq <| reg_s <| st rfl <| fab rfl rfl rfl rfl <| st rfl <| lda rfl rfl rfl rfl rfl rfl <| stw rfl <| lens rfl fun l23 => st rfl <| b_lss (k := .i64) rfl rfl <| st rfl <| mvd rfl rfl <| ite_k h (fun b24 h => gf rfl b24 <| gf rfl b24 <| gf rfl b24 <| gf rfl b24 <| st rfl <| pick1 rfl b24 (cd := cB) (v := true) rfl rfl <| st rfl <| mvd rfl rfl <| gf rfl rfl <| gf rfl rfl <| gf rfl rfl <| gf rfl rfl <| gf rfl rfl <| st rfl <| pick1 rfl rfl (cd := cB) (v := true) rfl rfl <| seqN [(1, .box ((cXGeo (cLs cI rfl)).enc v0)), (20, .d (cB.enc true))] (by kernel_rfl) <|
    xn <| cnd1 rfl rfl <| wpC_seq <| reg_s <| x_asg (sc cB false rfl) <| seqN [(2, .d (cB.enc false))] (by kernel_rfl) <|
    xn <| wpC_ret <| rt <| rt <| re <| fin h (r1 (ss rfl rfl) <| r0) rfl)
    (fun b24 h => gt' rfl b24 <| st rfl <| fab rfl rfl rfl rfl <| gt' rfl b24 <| st rfl <| lda rfl rfl rfl rfl rfl rfl <| gt' rfl b24 <| stw rfl <| lens rfl fun l25 => gt' rfl b24 <| st rfl <| b_gtr (k := .i64) rfl rfl <| st rfl <| pick0 rfl b24 (cd := cB) (v := (decide ((30 : Int) < (v0.Parents.length : Int)))) rfl rfl <| st rfl <| mvd rfl rfl <| ite_k h (fun b26 h => gf rfl b26 <| gf rfl b26 <| gf rfl b26 <| gf rfl b26 <| gf rfl b26 <| st rfl <| pick1 rfl b26 (cd := cB) (v := true) rfl rfl <| seqN [(1, .box ((cXGeo (cLs cI rfl)).enc v0)), (20, .d (cB.enc true))] (by kernel_rfl) <|
    xn <| cnd1 rfl rfl <| wpC_seq <| reg_s <| x_asg (sc cB false rfl) <| seqN [(2, .d (cB.enc false))] (by kernel_rfl) <|
    xn <| wpC_ret <| rt <| rt <| re <| fin h (r1 (ss rfl rfl) <| r0) rfl)
    (fun b26 h => gt' rfl b26 <| st rfl <| fab rfl rfl rfl rfl <| gt' rfl b26 <| st rfl <| lda rfl rfl rfl rfl rfl rfl <| gt' rfl b26 <| getO_k h fun x27 i28 g29 h => st rfl <| ias rfl rfl i28 g29 rfl <| gt' rfl b26 <| st rfl <| ldi rfl rfl rfl rfl <| gt' rfl b26 <| st rfl <| b_neq (k := .i64) rfl rfl <| st rfl <| pick0 rfl b26 (cd := cB) (v := (decide (x27 ≠ (-1 : Int)))) rfl rfl <| seqN [(1, .box ((cXGeo (cLs cI rfl)).enc v0)), (20, .d (cB.enc (decide (x27 ≠ (-1 : Int)))))] (by kernel_rfl) <|
    xn <| cnd rfl h (fun b30 h => wpC_seq <| reg_s <| x_asg (sc cB false rfl) <| seqN [(2, .d (cB.enc false))] (by kernel_rfl) <|
    xn <| wpC_ret <| rt <| rt <| re <| fin h (r1 (ss rfl rfl) <| r0) rfl)
    (fun b30 h => wpC_skip <| kpN [(1, .box ((cXGeo (cLs cI rfl)).enc v0))] (by kernel_rfl) <| xn <| wpC_seq <| wpC_kp <| wpC_seq <| reg_s <| x_asg (sc cI (1 : Int) rfl) <| seqN [(1, .box ((cXGeo (cLs cI rfl)).enc v0)), (3, .d (cI.enc (1 : Int)))] (by kernel_rfl) <|
    xn <| wpC_blk <| lpF (fun (s114 : Int) => [(1, .box ((cXGeo (cLs cI rfl)).enc v0)), (3, .d (cI.enc s114))]) (1 : Int) rfl h
    fun G171 nx169 s114 hn170 h => wpC_seq <| wpC_kp <| wpC_seq <| reg_s <| st rfl <| mvd rfl rfl <| st rfl <| fab rfl rfl rfl rfl <| st rfl <| lda rfl rfl rfl rfl rfl rfl <| stw rfl <| lens rfl fun l176 => st rfl <| b_lss (k := .i64) rfl rfl <| seqN [(1, .box ((cXGeo (cLs cI rfl)).enc v0)), (3, .d (cI.enc s114)), (25, .d (cB.enc (decide (s114 < (v0.Parents.length : Int)))))] (by kernel_rfl) <|
    xn <| cnd rfl h (fun b177 h => wpC_skip <| kpN [(1, .box ((cXGeo (cLs cI rfl)).enc v0)), (3, .d (cI.enc s114))] (by kernel_rfl) <| xn <| wpC_seq <| wpC_kp <| wpC_blk <| wpC_seq <| reg_s <| st rfl <| fab rfl rfl rfl rfl <| st rfl <| lda rfl rfl rfl rfl rfl rfl <| st rfl <| mvd rfl rfl <| getO_k h fun x191 i192 g193 h => st rfl <| ias rfl rfl i192 g193 rfl <| st rfl <| ldi rfl rfl rfl rfl <| st rfl <| b_lss (k := .i64) rfl rfl <| st rfl <| mvd rfl rfl <| ite_k h (fun b194 h => gf rfl b194 <| gf rfl b194 <| gf rfl b194 <| gf rfl b194 <| gf rfl b194 <| gf rfl b194 <| gf rfl b194 <| st rfl <| pick1 rfl b194 (cd := cB) (v := true) rfl rfl <| seqN [(1, .box ((cXGeo (cLs cI rfl)).enc v0)), (3, .d (cI.enc s114)), (42, .d (cB.enc true))] (by kernel_rfl) <|
    xn <| cnd1 rfl rfl <| wpC_seq <| reg_s <| x_asg (sc cB false rfl) <| seqN [(2, .d (cB.enc false))] (by kernel_rfl) <|
    xn <| wpC_ret <| rb <| rt <| rt <| rt <| rb <| rt <| rt <| re <| fin h (r1 (ss rfl rfl) <| r0) rfl)
    (fun b194 h => gt' rfl b194 <| st rfl <| fab rfl rfl rfl rfl <| gt' rfl b194 <| st rfl <| lda rfl rfl rfl rfl rfl rfl <| gt' rfl b194 <| st rfl <| mvd rfl rfl <| gt' rfl b194 <| st rfl <| ias rfl rfl i192 g193 rfl <| gt' rfl b194 <| st rfl <| ldi rfl rfl rfl rfl <| gt' rfl b194 <| st rfl <| mvd rfl rfl <| gt' rfl b194 <| st rfl <| b_geq (k := .i64) rfl rfl <| st rfl <| pick0 rfl b194 (cd := cB) (v := (decide (s114 ≤ x191))) rfl rfl <| seqN [(1, .box ((cXGeo (cLs cI rfl)).enc v0)), (3, .d (cI.enc s114)), (42, .d (cB.enc (decide (s114 ≤ x191))))] (by kernel_rfl) <|
    xn <| cnd rfl h (fun b195 h => wpC_seq <| reg_s <| x_asg (sc cB false rfl) <| seqN [(2, .d (cB.enc false))] (by kernel_rfl) <|
    xn <| wpC_ret <| rb <| rt <| rt <| rt <| rb <| rt <| rt <| re <| fin h (r1 (ss rfl rfl) <| r0) rfl)
    (fun b195 h => wpC_skip <| xbb <| kpN [(1, .box ((cXGeo (cLs cI rfl)).enc v0)), (3, .d (cI.enc s114))] (by kernel_rfl) <| xn <| reg_s <| st rfl <| mvd rfl rfl <| ckI_k h fun i196 h => st rfl <| b_add (k := .i64) rfl rfl i196 <| x_asg (ss rfl rfl) <| seqN [(1, .box ((cXGeo (cLs cI rfl)).enc v0)), (3, .d (cI.enc (s114 + (1 : Int))))] (by kernel_rfl) <|
    xn <| hn170 (s114 + (1 : Int)) h)))
    (fun b177 h => wpC_exit <| xt <| xt <| xt <| xb <| kpN [] (by kernel_rfl) <| xn <| wpC_seq <| reg_s <| x_asg (sc cB true rfl) <| seqN [(2, .d (cB.enc true))] (by kernel_rfl) <|
    xn <| wpC_ret <| re <| fin h (r1 (ss rfl rfl) <| r0) rfl))))

def rs_impl_areVars (r : Bool) : List D := [cB.enc r]
def m115 : MC := .seq (.reg [⟨some 4, .asg (.c (.bool false)), none⟩] [0, 1])
  (.seq (.reg [⟨some 5, .asg (.c (.int .i64 (-1))), none⟩] [0, 1, 5])
  (.seq (.kp [] (.seq (.reg [⟨some 8, .mv (.t 1), none⟩,
    ⟨some 9, .len false (.t 8), none⟩,
    ⟨some 10, .mv (.c (.int .i64 0)), none⟩] [0, 1, 5, 8, 9, 10])
  (.blk 0 (.loop (.seq (.reg [⟨some 11, .bin .lss (.t 10) (.t 9), none⟩] [0, 1, 5, 8, 9, 10, 11])
  (.seq (.kp [0, 1, 5, 8, 9, 10] (.cond (.t 11) (.skip) (.exit 0)))
  (.seq (.kp [0, 1, 5, 8, 9, 10] (.blk 1 (.seq (.reg [⟨some 12, .ia 8 (.t 10) 1, none⟩,
    ⟨some 13, .ld 12 1 false, none⟩,
    ⟨some 7, .asg (.t 13), none⟩] [0, 1, 5, 7, 8, 9, 10])
  (.seq (.kp [0, 1, 7, 8, 9, 10] (.seq (.reg [⟨some 14, .mv (.t 7), none⟩,
    ⟨some 15, .mv (.t 5), none⟩,
    ⟨some 16, .bin .leq (.t 14) (.t 15), none⟩,
    ⟨some 17, .mv (.t 16), none⟩,
    ⟨some 18, .mv (.t 7), some (17, false)⟩,
    ⟨some 19, .mv (.t 0), some (17, false)⟩,
    ⟨some 20, .len false (.t 19), some (17, false)⟩,
    ⟨some 21, .bin .geq (.t 18) (.t 20), some (17, false)⟩,
    ⟨some 22, .pick (.t 17) (.c (.bool true)) (.t 21), none⟩] [0, 1, 7, 8, 9, 10, 22])
  (.cond (.t 22) (.seq (.reg [⟨some 4, .asg (.c (.bool false)), none⟩] [4])
  (.ret)) (.skip))))
  (.reg [⟨some 23, .mv (.t 7), none⟩,
    ⟨some 5, .asg (.t 23), none⟩] [0, 1, 5, 8, 9, 10])))))
  (.reg [⟨some 24, .bin .add (.t 10) (.c (.int .i64 1)), none⟩,
    ⟨some 10, .mv (.t 24), none⟩] [0, 1, 5, 8, 9, 10]))))))))
  (.seq (.reg [⟨some 4, .asg (.c (.bool true)), none⟩] [4])
  (.ret))))
theorem con_impl_areVars {v0 : (List XVariable)} {v1 : (List Int)} {r : Bool} (h : sh_impl_areVars v0 v1 = some r) : Con Tryd.prog 115 [(cLs (cXVariable cS cI) rfl).enc v0, (cLs cI rfl).enc v1] [] (rs_impl_areVars r) := by
  delta sh_impl_areVars at h
  refine top (out := none) (f := Tryd.f115) (m := m115) (rs := [.t 4]) (by kernel_rfl) rfl (by kernel_rfl) (by kernel_rfl) (by kernel_rfl) (by kernel_rfl) (by kernel_rfl) ?_
  exact
   ini [(0, .d ((cLs (cXVariable cS cI) rfl).enc v0)), (1, .d ((cLs cI rfl).enc v1))] rfl <| wpC_seq <| reg_s <| x_asg (sc cB false rfl) <| seqN [(0, .d ((cLs (cXVariable cS cI) rfl).enc v0)), (1, .d ((cLs cI rfl).enc v1))] (by kernel_rfl) <|
    xn <| wpC_seq <| reg_s <| x_asg (sc cI (-1 : Int) rfl) <| seqN [(0, .d ((cLs (cXVariable cS cI) rfl).enc v0)), (1, .d ((cLs cI rfl).enc v1)), (5, .d (cI.enc (-1 : Int)))] (by kernel_rfl) <|
    xn <| wpC_seq <| wpC_kp <| wpC_seq <| reg_s <| st rfl <| mvd rfl rfl <| stw rfl <| lens rfl fun l72 => st rfl <| mvc cI (0 : Int) rfl <| seqN [(0, .d ((cLs (cXVariable cS cI) rfl).enc v0)), (1, .d ((cLs cI rfl).enc v1)), (5, .d (cI.enc (-1 : Int))), (8, .d ((cLs cI rfl).enc v1)), (9, .d (cI.enc (v1.length : Int))), (10, .d (cI.enc (0 : Int)))] (by kernel_rfl) <|
    xn <| wpC_blk <| lpR (fun (k74 : Nat) (s73 : Int) => [(0, .d ((cLs (cXVariable cS cI) rfl).enc v0)), (1, .d ((cLs cI rfl).enc v1)), (5, .d (cI.enc s73)), (8, .d ((cLs cI rfl).enc v1)), (9, .d (cI.enc (v1.length : Int))), (10, .d (cI.enc (k74 : Int)))]) (-1 : Int) rfl h
    (fun G120 s73 h => wpC_seq <| reg_s <| st rfl <| b_lss (k := .i64) rfl rfl <| seqN [(0, .d ((cLs (cXVariable cS cI) rfl).enc v0)), (1, .d ((cLs cI rfl).enc v1)), (5, .d (cI.enc s73)), (8, .d ((cLs cI rfl).enc v1)), (9, .d (cI.enc (v1.length : Int))), (10, .d (cI.enc (v1.length : Int))), (11, .d (cB.enc (decide ((v1.length : Int) < (v1.length : Int)))))] (by kernel_rfl) <|
    xn <| wpC_seq <| wpC_kp <| cnd0 rfl (dlf _) <| wpC_exit <| xt <| xt <| xt <| xb <| kpN [] (by kernel_rfl) <| xn <| wpC_seq <| reg_s <| x_asg (sc cB true rfl) <| seqN [(4, .d (cB.enc true))] (by kernel_rfl) <|
    xn <| wpC_ret <| re <| fin h (r1 (ss rfl rfl) <| r0) rfl)
    (fun G120 nx118 k74 s73 x75 hk76 hx77 hn119 h => wpC_seq <| reg_s <| st rfl <| b_lss (k := .i64) rfl rfl <| seqN [(0, .d ((cLs (cXVariable cS cI) rfl).enc v0)), (1, .d ((cLs cI rfl).enc v1)), (5, .d (cI.enc s73)), (8, .d ((cLs cI rfl).enc v1)), (9, .d (cI.enc (v1.length : Int))), (10, .d (cI.enc (k74 : Int))), (11, .d (cB.enc (decide ((k74 : Int) < (v1.length : Int)))))] (by kernel_rfl) <|
    xn <| wpC_seq <| wpC_kp <| cnd1 rfl (dlt hk76) <| wpC_skip <| kpN [(0, .d ((cLs (cXVariable cS cI) rfl).enc v0)), (1, .d ((cLs cI rfl).enc v1)), (5, .d (cI.enc s73)), (8, .d ((cLs cI rfl).enc v1)), (9, .d (cI.enc (v1.length : Int))), (10, .d (cI.enc (k74 : Int)))] (by kernel_rfl) <| xn <| wpC_seq <| wpC_kp <| wpC_blk <| wpC_seq <| reg_s <| st rfl <| ias rfl rfl (Int.natCast_nonneg _) hx77 rfl <| st rfl <| ldi rfl rfl rfl rfl <| x_asg (ss rfl rfl) <| seqN [(0, .d ((cLs (cXVariable cS cI) rfl).enc v0)), (1, .d ((cLs cI rfl).enc v1)), (5, .d (cI.enc s73)), (7, .d (cI.enc x75)), (8, .d ((cLs cI rfl).enc v1)), (9, .d (cI.enc (v1.length : Int))), (10, .d (cI.enc (k74 : Int)))] (by kernel_rfl) <|
    xn <| wpC_seq <| wpC_kp <| wpC_seq <| reg_s <| st rfl <| mvd rfl rfl <| st rfl <| mvd rfl rfl <| st rfl <| b_leq (k := .i64) rfl rfl <| st rfl <| mvd rfl rfl <| ite_k h (fun b138 h => gf rfl b138 <| gf rfl b138 <| gf rfl b138 <| gf rfl b138 <| st rfl <| pick1 rfl b138 (cd := cB) (v := true) rfl rfl <| seqN [(0, .d ((cLs (cXVariable cS cI) rfl).enc v0)), (1, .d ((cLs cI rfl).enc v1)), (7, .d (cI.enc x75)), (8, .d ((cLs cI rfl).enc v1)), (9, .d (cI.enc (v1.length : Int))), (10, .d (cI.enc (k74 : Int))), (22, .d (cB.enc true))] (by kernel_rfl) <|
    xn <| cnd1 rfl rfl <| wpC_seq <| reg_s <| x_asg (sc cB false rfl) <| seqN [(4, .d (cB.enc false))] (by kernel_rfl) <|
    xn <| wpC_ret <| rt <| rt <| rb <| rt <| rt <| rt <| rb <| rt <| rt <| re <| fin h (r1 (ss rfl rfl) <| r0) rfl)
    (fun b138 h => gt' rfl b138 <| st rfl <| mvd rfl rfl <| gt' rfl b138 <| st rfl <| mvd rfl rfl <| gt' rfl b138 <| stw rfl <| lens rfl fun l139 => gt' rfl b138 <| st rfl <| b_geq (k := .i64) rfl rfl <| st rfl <| pick0 rfl b138 (cd := cB) (v := (decide ((v0.length : Int) ≤ x75))) rfl rfl <| seqN [(0, .d ((cLs (cXVariable cS cI) rfl).enc v0)), (1, .d ((cLs cI rfl).enc v1)), (7, .d (cI.enc x75)), (8, .d ((cLs cI rfl).enc v1)), (9, .d (cI.enc (v1.length : Int))), (10, .d (cI.enc (k74 : Int))), (22, .d (cB.enc (decide ((v0.length : Int) ≤ x75))))] (by kernel_rfl) <|
    xn <| cnd rfl h (fun b140 h => wpC_seq <| reg_s <| x_asg (sc cB false rfl) <| seqN [(4, .d (cB.enc false))] (by kernel_rfl) <|
    xn <| wpC_ret <| rt <| rt <| rb <| rt <| rt <| rt <| rb <| rt <| rt <| re <| fin h (r1 (ss rfl rfl) <| r0) rfl)
    (fun b140 h => wpC_skip <| kpN [(0, .d ((cLs (cXVariable cS cI) rfl).enc v0)), (1, .d ((cLs cI rfl).enc v1)), (7, .d (cI.enc x75)), (8, .d ((cLs cI rfl).enc v1)), (9, .d (cI.enc (v1.length : Int))), (10, .d (cI.enc (k74 : Int)))] (by kernel_rfl) <| xn <| reg_s <| st rfl <| mvd rfl rfl <| x_asg (ss rfl rfl) <| seqN [(0, .d ((cLs (cXVariable cS cI) rfl).enc v0)), (1, .d ((cLs cI rfl).enc v1)), (5, .d (cI.enc x75)), (8, .d ((cLs cI rfl).enc v1)), (9, .d (cI.enc (v1.length : Int))), (10, .d (cI.enc (k74 : Int)))] (by kernel_rfl) <|
    xbb <| kpN [(0, .d ((cLs (cXVariable cS cI) rfl).enc v0)), (1, .d ((cLs cI rfl).enc v1)), (5, .d (cI.enc x75)), (8, .d ((cLs cI rfl).enc v1)), (9, .d (cI.enc (v1.length : Int))), (10, .d (cI.enc (k74 : Int)))] (by kernel_rfl) <| xn <| reg_s <| st rfl <| b_inc rfl rfl l72 hk76 <| st rfl <| mvd rfl rfl <| seqN [(0, .d ((cLs (cXVariable cS cI) rfl).enc v0)), (1, .d ((cLs cI rfl).enc v1)), (5, .d (cI.enc x75)), (8, .d ((cLs cI rfl).enc v1)), (9, .d (cI.enc (v1.length : Int))), (10, .d (cI.enc ((k74 + 1 : Nat) : Int)))] (by kernel_rfl) <|
    xn <| hn119 x75 h)))
def rs_impl_isWhere (r : Bool) : List D := [cB.enc r]
def m116 : MC := .seq (.reg [⟨some 4, .asg (.c (.bool false)), none⟩] [0, 1])
  (.seq (.kp [0, 1] (.seq (.reg [⟨some 7, .mv (.t 1), none⟩,
    ⟨some 8, .len false (.t 7), none⟩,
    ⟨some 9, .mv (.t 0), none⟩,
    ⟨some 10, .len false (.t 9), none⟩,
    ⟨some 11, .bin .neq (.t 8) (.t 10), none⟩] [0, 1, 11])
  (.cond (.t 11) (.seq (.reg [⟨some 4, .asg (.c (.bool false)), none⟩] [4])
  (.ret)) (.skip))))
  (.seq (.kp [] (.seq (.reg [⟨some 12, .mv (.t 1), none⟩,
    ⟨some 13, .len false (.t 12), none⟩,
    ⟨some 14, .mv (.c (.int .i64 0)), none⟩] [0, 1, 12, 13, 14])
  (.blk 0 (.loop (.seq (.reg [⟨some 15, .bin .lss (.t 14) (.t 13), none⟩] [0, 1, 12, 13, 14, 15])
  (.seq (.kp [0, 1, 12, 13, 14] (.cond (.t 15) (.skip) (.exit 0)))
  (.seq (.kp [0, 1, 12, 13, 14] (.blk 1 (.seq (.reg [⟨some 16, .mv (.t 14), none⟩,
    ⟨some 17, .ia 12 (.t 14) 1, none⟩,
    ⟨some 18, .ld 17 1 false, none⟩,
    ⟨some 5, .asg (.t 16), none⟩,
    ⟨some 6, .asg (.t 18), none⟩] [0, 1, 5, 6, 12, 13, 14])
  (.seq (.reg [⟨some 19, .mv (.t 6), none⟩,
    ⟨some 20, .bin .lss (.t 19) (.c (.int .i64 0)), none⟩,
    ⟨some 21, .mv (.t 20), none⟩,
    ⟨some 22, .mv (.t 6), some (21, false)⟩,
    ⟨some 23, .mv (.t 0), some (21, false)⟩,
    ⟨some 24, .mv (.t 5), some (21, false)⟩,
    ⟨some 25, .ia 23 (.t 24) 2, some (21, false)⟩,
    ⟨some 26, .ld 25 2 true, some (21, false)⟩,
    ⟨some 27, .call 73 [(.t 26)], some (21, false)⟩,
    ⟨some 28, .bin .gtr (.t 22) (.t 27), some (21, false)⟩,
    ⟨some 29, .pick (.t 21) (.c (.bool true)) (.t 28), none⟩] [0, 1, 12, 13, 14, 29])
  (.cond (.t 29) (.seq (.reg [⟨some 4, .asg (.c (.bool false)), none⟩] [4])
  (.ret)) (.skip))))))
  (.reg [⟨some 30, .bin .add (.t 14) (.c (.int .i64 1)), none⟩,
    ⟨some 14, .mv (.t 30), none⟩] [0, 1, 12, 13, 14]))))))))
  (.seq (.reg [⟨some 4, .asg (.c (.bool true)), none⟩] [4])
  (.ret))))
theorem con_impl_isWhere {v0 : (List XVariable)} {v1 : (List Int)} {r : Bool} (h : sh_impl_isWhere v0 v1 = some r) : Con Tryd.prog 116 [(cLs (cXVariable cS cI) rfl).enc v0, (cLs cI rfl).enc v1] [] (rs_impl_isWhere r) := by
  delta sh_impl_isWhere at h
  refine top (out := none) (f := Tryd.f116) (m := m116) (rs := [.t 4]) (by kernel_rfl) rfl (by kernel_rfl) (by kernel_rfl) (by kernel_rfl) (by kernel_rfl) (by kernel_rfl) ?_
  exact
   ini [(0, .d ((cLs (cXVariable cS cI) rfl).enc v0)), (1, .d ((cLs cI rfl).enc v1))] rfl <| wpC_seq <| reg_s <| x_asg (sc cB false rfl) <| seqN [(0, .d ((cLs (cXVariable cS cI) rfl).enc v0)), (1, .d ((cLs cI rfl).enc v1))] (by kernel_rfl) <|
    xn <| wpC_seq <| wpC_kp <| wpC_seq <| reg_s <| st rfl <| mvd rfl rfl <| stw rfl <| lens rfl fun l8 => st rfl <| mvd rfl rfl <| stw rfl <| lens rfl fun l9 => st rfl <| b_neq (k := .i64) rfl rfl <| seqN [(0, .d ((cLs (cXVariable cS cI) rfl).enc v0)), (1, .d ((cLs cI rfl).enc v1)), (11, .d (cB.enc (decide ((v1.length : Int) ≠ (v0.length : Int)))))] (by kernel_rfl) <|
    xn <| cnd rfl h (fun b10 h => wpC_seq <| reg_s <| x_asg (sc cB false rfl) <| seqN [(4, .d (cB.enc false))] (by kernel_rfl) <|
    xn <| wpC_ret <| rt <| rt <| re <| fin h (r1 (ss rfl rfl) <| r0) rfl)
    (fun b10 h => wpC_skip <| kpN [(0, .d ((cLs (cXVariable cS cI) rfl).enc v0)), (1, .d ((cLs cI rfl).enc v1))] (by kernel_rfl) <| xn <| wpC_seq <| wpC_kp <| wpC_seq <| reg_s <| st rfl <| mvd rfl rfl <| stw rfl <| lens rfl fun l74 => st rfl <| mvc cI (0 : Int) rfl <| seqN [(0, .d ((cLs (cXVariable cS cI) rfl).enc v0)), (1, .d ((cLs cI rfl).enc v1)), (12, .d ((cLs cI rfl).enc v1)), (13, .d (cI.enc (v1.length : Int))), (14, .d (cI.enc (0 : Int)))] (by kernel_rfl) <|
    xn <| wpC_blk <| lpR (fun (k76 : Nat) (s75 : Unit) => [(0, .d ((cLs (cXVariable cS cI) rfl).enc v0)), (1, .d ((cLs cI rfl).enc v1)), (12, .d ((cLs cI rfl).enc v1)), (13, .d (cI.enc (v1.length : Int))), (14, .d (cI.enc (k76 : Int)))]) () rfl h
    (fun G108 s75 h => wpC_seq <| reg_s <| st rfl <| b_lss (k := .i64) rfl rfl <| seqN [(0, .d ((cLs (cXVariable cS cI) rfl).enc v0)), (1, .d ((cLs cI rfl).enc v1)), (12, .d ((cLs cI rfl).enc v1)), (13, .d (cI.enc (v1.length : Int))), (14, .d (cI.enc (v1.length : Int))), (15, .d (cB.enc (decide ((v1.length : Int) < (v1.length : Int)))))] (by kernel_rfl) <|
    xn <| wpC_seq <| wpC_kp <| cnd0 rfl (dlf _) <| wpC_exit <| xt <| xt <| xt <| xb <| kpN [] (by kernel_rfl) <| xn <| wpC_seq <| reg_s <| x_asg (sc cB true rfl) <| seqN [(4, .d (cB.enc true))] (by kernel_rfl) <|
    xn <| wpC_ret <| re <| fin h (r1 (ss rfl rfl) <| r0) rfl)
    (fun G108 nx106 k76 s75 x77 hk78 hx79 hn107 h => wpC_seq <| reg_s <| st rfl <| b_lss (k := .i64) rfl rfl <| seqN [(0, .d ((cLs (cXVariable cS cI) rfl).enc v0)), (1, .d ((cLs cI rfl).enc v1)), (12, .d ((cLs cI rfl).enc v1)), (13, .d (cI.enc (v1.length : Int))), (14, .d (cI.enc (k76 : Int))), (15, .d (cB.enc (decide ((k76 : Int) < (v1.length : Int)))))] (by kernel_rfl) <|
    xn <| wpC_seq <| wpC_kp <| cnd1 rfl (dlt hk78) <| wpC_skip <| kpN [(0, .d ((cLs (cXVariable cS cI) rfl).enc v0)), (1, .d ((cLs cI rfl).enc v1)), (12, .d ((cLs cI rfl).enc v1)), (13, .d (cI.enc (v1.length : Int))), (14, .d (cI.enc (k76 : Int)))] (by kernel_rfl) <| xn <| wpC_seq <| wpC_kp <| wpC_blk <| wpC_seq <| reg_s <| st rfl <| mvd rfl rfl <| st rfl <| ias rfl rfl (Int.natCast_nonneg _) hx79 rfl <| st rfl <| ldi rfl rfl rfl rfl <| x_asg (ss rfl rfl) <| x_asg (ss rfl rfl) <| seqN [(0, .d ((cLs (cXVariable cS cI) rfl).enc v0)), (1, .d ((cLs cI rfl).enc v1)), (5, .d (cI.enc (k76 : Int))), (6, .d (cI.enc x77)), (12, .d ((cLs cI rfl).enc v1)), (13, .d (cI.enc (v1.length : Int))), (14, .d (cI.enc (k76 : Int)))] (by kernel_rfl) <|
    xn <| wpC_seq <| reg_s <| st rfl <| mvd rfl rfl <| st rfl <| b_lss (k := .i64) rfl rfl <| st rfl <| mvd rfl rfl <| ite_k h (fun b128 h => gf rfl b128 <| gf rfl b128 <| gf rfl b128 <| gf rfl b128 <| gf rfl b128 <| gf rfl b128 <| gf rfl b128 <| st rfl <| pick1 rfl b128 (cd := cB) (v := true) rfl rfl <| seqN [(0, .d ((cLs (cXVariable cS cI) rfl).enc v0)), (1, .d ((cLs cI rfl).enc v1)), (12, .d ((cLs cI rfl).enc v1)), (13, .d (cI.enc (v1.length : Int))), (14, .d (cI.enc (k76 : Int))), (29, .d (cB.enc true))] (by kernel_rfl) <|
    xn <| cnd1 rfl rfl <| wpC_seq <| reg_s <| x_asg (sc cB false rfl) <| seqN [(4, .d (cB.enc false))] (by kernel_rfl) <|
    xn <| wpC_ret <| rb <| rt <| rt <| rt <| rb <| rt <| rt <| re <| fin h (r1 (ss rfl rfl) <| r0) rfl)
    (fun b128 h => gt' rfl b128 <| st rfl <| mvd rfl rfl <| gt' rfl b128 <| st rfl <| mvd rfl rfl <| gt' rfl b128 <| st rfl <| mvd rfl rfl <| gt' rfl b128 <| getO_k h fun x129 i130 g131 h => st rfl <| ias rfl rfl i130 g131 rfl <| gt' rfl b128 <| st rfl <| ldi rfl rfl rfl rfl <| gt' rfl b128 <| bnd h fun x132 e133 h => st rfl <| o_call (a1 (c := (cXVariable cS cI)) (tXVariable tS tK) rfl a0) (con_impl_fullSet e133) (.inl (so1 sK so0)) <| gt' rfl b128 <| st rfl <| b_gtr (k := .i64) rfl rfl <| st rfl <| pick0 rfl b128 (cd := cB) (v := (decide (x132 < x77))) rfl rfl <| seqN [(0, .d ((cLs (cXVariable cS cI) rfl).enc v0)), (1, .d ((cLs cI rfl).enc v1)), (12, .d ((cLs cI rfl).enc v1)), (13, .d (cI.enc (v1.length : Int))), (14, .d (cI.enc (k76 : Int))), (29, .d (cB.enc (decide (x132 < x77))))] (by kernel_rfl) <|
    xn <| cnd rfl h (fun b134 h => wpC_seq <| reg_s <| x_asg (sc cB false rfl) <| seqN [(4, .d (cB.enc false))] (by kernel_rfl) <|
    xn <| wpC_ret <| rb <| rt <| rt <| rt <| rb <| rt <| rt <| re <| fin h (r1 (ss rfl rfl) <| r0) rfl)
    (fun b134 h => wpC_skip <| xbb <| kpN [(0, .d ((cLs (cXVariable cS cI) rfl).enc v0)), (1, .d ((cLs cI rfl).enc v1)), (12, .d ((cLs cI rfl).enc v1)), (13, .d (cI.enc (v1.length : Int))), (14, .d (cI.enc (k76 : Int)))] (by kernel_rfl) <| xn <| reg_s <| st rfl <| b_inc rfl rfl l74 hk78 <| st rfl <| mvd rfl rfl <| seqN [(0, .d ((cLs (cXVariable cS cI) rfl).enc v0)), (1, .d ((cLs cI rfl).enc v1)), (12, .d ((cLs cI rfl).enc v1)), (13, .d (cI.enc (v1.length : Int))), (14, .d (cI.enc ((k76 + 1 : Nat) : Int)))] (by kernel_rfl) <|
    xn <| hn107 () h))))

def rs_impl_depthOf (r : Int) : List D := [cI.enc r]
def m119 : MC := .seq (.reg [⟨some 2, .box (.t 0), none⟩,
    ⟨some 4, .asg (.c (.int .i64 0)), none⟩] [1, 2])
  (.seq (.reg [⟨some 5, .asg (.c (.int .i64 0)), none⟩] [1, 2, 5])
  (.seq (.kp [5] (.blk 0 (.loop (.kp [1, 2, 5] (.seq (.kp [1, 2, 5] (.seq (.reg [⟨some 6, .mv (.t 1), none⟩,
    ⟨some 7, .bin .gtr (.t 6) (.c (.int .i64 0)), none⟩] [1, 2, 5, 7])
  (.cond (.t 7) (.skip) (.exit 0))))
  (.blk 1 (.seq (.reg [⟨some 8, .fa 2 0 0, none⟩,
    ⟨some 9, .ld 8 1 false, none⟩,
    ⟨some 10, .mv (.t 1), none⟩,
    ⟨some 11, .ia 9 (.t 10) 1, none⟩,
    ⟨some 12, .ld 11 1 false, none⟩,
    ⟨some 1, .asg (.t 12), none⟩] [1, 2, 5])
  (.reg [⟨some 13, .mv (.t 5), none⟩,
    ⟨some 14, .bin .add (.t 13) (.c (.int .i64 1)), none⟩,
    ⟨some 5, .asg (.t 14), none⟩] [1, 2, 5]))))))))
  (.seq (.reg [⟨some 15, .mv (.t 5), none⟩,
    ⟨some 4, .asg (.t 15), none⟩] [4])
  (.ret))))
theorem con_impl_depthOf {v0 : XGeo} {v1 : Int} {r : Int} (h : sh_impl_depthOf v0 v1 = some r) : Con Tryd.prog 119 [(cXGeo (cLs cI rfl)).enc v0, cI.enc v1] [] (rs_impl_depthOf r) := by
  delta sh_impl_depthOf at h
  refine top (out := none) (f := Tryd.f119) (m := m119) (rs := [.t 4]) (by kernel_rfl) rfl (by kernel_rfl) (by kernel_rfl) (by kernel_rfl) (by kernel_rfl) (by kernel_rfl) ?_
  exact
   ini [(0, .d ((cXGeo (cLs cI rfl)).enc v0)), (1, .d (cI.enc v1))] rfl <| wpC_seq <| reg_s <| x_box (ss rfl rfl) <| x_asg (sc cI (0 : Int) rfl) <| seqN [(1, .d (cI.enc v1)), (2, .box ((cXGeo (cLs cI rfl)).enc v0))] (by kernel_rfl) <|
    xn <| wpC_seq <| reg_s <| x_asg (sc cI (0 : Int) rfl) <| seqN [(1, .d (cI.enc v1)), (2, .box ((cXGeo (cLs cI rfl)).enc v0)), (5, .d (cI.enc (0 : Int)))] (by kernel_rfl) <|
    xn <| wpC_seq <| wpC_kp <| wpC_blk <| lpF (fun (s36 : (Int × Int)) => [(1, .d (cI.enc s36.1)), (2, .box ((cXGeo (cLs cI rfl)).enc v0)), (5, .d (cI.enc s36.2))]) (v1, (0 : Int)) rfl h
    fun G61 nx59 s36 hn60 h => wpC_kp <| wpC_seq <| wpC_kp <| wpC_seq <| reg_s <| st rfl <| mvd rfl rfl <| st rfl <| b_gtr (k := .i64) rfl rfl <| seqN [(1, .d (cI.enc s36.1)), (2, .box ((cXGeo (cLs cI rfl)).enc v0)), (5, .d (cI.enc s36.2)), (7, .d (cB.enc (decide ((0 : Int) < s36.1))))] (by kernel_rfl) <|
    xn <| cnd rfl h (fun b63 h => wpC_skip <| kpN [(1, .d (cI.enc s36.1)), (2, .box ((cXGeo (cLs cI rfl)).enc v0)), (5, .d (cI.enc s36.2))] (by kernel_rfl) <| xn <| wpC_blk <| wpC_seq <| reg_s <| st rfl <| fab rfl rfl rfl rfl <| st rfl <| lda rfl rfl rfl rfl rfl rfl <| st rfl <| mvd rfl rfl <| getO_k h fun x67 i68 g69 h => st rfl <| ias rfl rfl i68 g69 rfl <| st rfl <| ldi rfl rfl rfl rfl <| x_asg (ss rfl rfl) <| seqN [(1, .d (cI.enc x67)), (2, .box ((cXGeo (cLs cI rfl)).enc v0)), (5, .d (cI.enc s36.2))] (by kernel_rfl) <|
    xn <| reg_s <| st rfl <| mvd rfl rfl <| ckI_k h fun i70 h => st rfl <| b_add (k := .i64) rfl rfl i70 <| x_asg (ss rfl rfl) <| seqN [(1, .d (cI.enc x67)), (2, .box ((cXGeo (cLs cI rfl)).enc v0)), (5, .d (cI.enc (s36.2 + (1 : Int))))] (by kernel_rfl) <|
    xbb <| kpN [(1, .d (cI.enc x67)), (2, .box ((cXGeo (cLs cI rfl)).enc v0)), (5, .d (cI.enc (s36.2 + (1 : Int))))] (by kernel_rfl) <| xn <| hn60 (x67, (s36.2 + (1 : Int))) h)
    (fun b63 h => wpC_exit <| xt <| xt <| xt <| xt <| xb <| kpN [(5, .d (cI.enc s36.2))] (by kernel_rfl) <| xn <| wpC_seq <| reg_s <| st rfl <| mvd rfl rfl <| x_asg (ss rfl rfl) <| seqN [(4, .d (cI.enc s36.2))] (by kernel_rfl) <|
    xn <| wpC_ret <| re <| fin h (r1 (ss rfl rfl) <| r0) rfl)

def rs_impl_areasAt (r : (List Int)) : List D := [(cLo cI).enc r]
def m92 : MC := .seq (.reg [⟨some 2, .box (.t 0), none⟩,
    ⟨some 4, .asg (.c (.slice true [])), none⟩] [1, 2])
  (.seq (.reg [⟨some 5, .asg (.c (.slice true [])), none⟩] [1, 2, 5])
  (.seq (.kp [5] (.seq (.reg [⟨some 7, .fa 2 0 0, none⟩,
    ⟨some 8, .ld 7 1 false, none⟩,
    ⟨some 9, .len false (.t 8), none⟩,
    ⟨some 10, .mv (.c (.int .i64 0)), none⟩] [1, 2, 5, 9, 10])
  (.blk 0 (.loop (.seq (.reg [⟨some 11, .bin .lss (.t 10) (.t 9), none⟩] [1, 2, 5, 9, 10, 11])
  (.seq (.kp [1, 2, 5, 9, 10] (.cond (.t 11) (.skip) (.exit 0)))
  (.seq (.kp [1, 2, 5, 9, 10] (.blk 1 (.seq (.reg [⟨some 12, .mv (.t 10), none⟩,
    ⟨some 6, .asg (.t 12), none⟩] [1, 2, 5, 6, 9, 10])
  (.seq (.reg [⟨some 13, .ld 2 1 true, none⟩,
    ⟨some 14, .mv (.t 6), none⟩,
    ⟨some 15, .call 119 [(.t 13), (.t 14)], none⟩,
    ⟨some 16, .mv (.t 1), none⟩,
    ⟨some 17, .bin .eql (.t 15) (.t 16), none⟩] [1, 2, 5, 6, 9, 10, 17])
  (.cond (.t 17) (.reg [⟨some 18, .mv (.t 5), none⟩,
    ⟨some 19, .mv (.t 6), none⟩,
    ⟨some 20, .bsl [(.t 19)] 1, none⟩,
    ⟨some 21, .app (.t 18) (.t 20) 1, none⟩,
    ⟨some 5, .asg (.t 21), none⟩] [1, 2, 5, 9, 10]) (.skip))))))
  (.reg [⟨some 22, .bin .add (.t 10) (.c (.int .i64 1)), none⟩,
    ⟨some 10, .mv (.t 22), none⟩] [1, 2, 5, 9, 10]))))))))
  (.seq (.reg [⟨some 23, .mv (.t 5), none⟩,
    ⟨some 4, .asg (.t 23), none⟩] [4])
  (.ret))))
theorem con_impl_areasAt {v0 : XGeo} {v1 : Int} {r : (List Int)} (h : sh_impl_areasAt v0 v1 = some r) : Con Tryd.prog 92 [(cXGeo (cLs cI rfl)).enc v0, cI.enc v1] [] (rs_impl_areasAt r) := by
  delta sh_impl_areasAt at h
  refine top (out := none) (f := Tryd.f92) (m := m92) (rs := [.t 4]) (by kernel_rfl) rfl (by kernel_rfl) (by kernel_rfl) (by kernel_rfl) (by kernel_rfl) (by kernel_rfl) ?_
  exact
   ini [(0, .d ((cXGeo (cLs cI rfl)).enc v0)), (1, .d (cI.enc v1))] rfl <| wpC_seq <| reg_s <| x_box (ss rfl rfl) <| x_asg (sc (cLo cI) ([] : List Int) rfl) <| seqN [(1, .d (cI.enc v1)), (2, .box ((cXGeo (cLs cI rfl)).enc v0))] (by kernel_rfl) <|
    xn <| wpC_seq <| reg_s <| x_asg (sc (cLo cI) ([] : List Int) rfl) <| seqN [(1, .d (cI.enc v1)), (2, .box ((cXGeo (cLs cI rfl)).enc v0)), (5, .d ((cLo cI).enc ([] : List Int)))] (by kernel_rfl) <|
    xn <| wpC_seq <| wpC_kp <| wpC_seq <| reg_s <| st rfl <| fab rfl rfl rfl rfl <| st rfl <| lda rfl rfl rfl rfl rfl rfl <| stw rfl <| lens rfl fun l48 => st rfl <| mvc cI (0 : Int) rfl <| seqN [(1, .d (cI.enc v1)), (2, .box ((cXGeo (cLs cI rfl)).enc v0)), (5, .d ((cLo cI).enc ([] : List Int))), (9, .d (cI.enc (v0.Parents.length : Int))), (10, .d (cI.enc (0 : Int)))] (by kernel_rfl) <|
    xn <| wpC_blk <| lpR (fun (k50 : Nat) (s49 : (List Int)) => [(1, .d (cI.enc v1)), (2, .box ((cXGeo (cLs cI rfl)).enc v0)), (5, .d ((cLo cI).enc s49)), (9, .d (cI.enc (v0.Parents.length : Int))), (10, .d (cI.enc (k50 : Int)))]) ([] : List Int) rfl h
    (fun G80 s49 h => wpC_seq <| reg_s <| st rfl <| b_lss (k := .i64) rfl rfl <| seqN [(1, .d (cI.enc v1)), (2, .box ((cXGeo (cLs cI rfl)).enc v0)), (5, .d ((cLo cI).enc s49)), (9, .d (cI.enc (v0.Parents.length : Int))), (10, .d (cI.enc (v0.Parents.length : Int))), (11, .d (cB.enc (decide ((v0.Parents.length : Int) < (v0.Parents.length : Int)))))] (by kernel_rfl) <|
    xn <| wpC_seq <| wpC_kp <| cnd0 rfl (dlf _) <| wpC_exit <| xt <| xt <| xt <| xb <| kpN [(5, .d ((cLo cI).enc s49))] (by kernel_rfl) <| xn <| wpC_seq <| reg_s <| st rfl <| mvo rfl rfl <| x_asg (sr rfl rfl) <| seqN [(4, .d ((cLo cI).enc s49))] (by kernel_rfl) <|
    xn <| wpC_ret <| re <| fin h (r1 (so rfl rfl) <| r0) rfl)
    (fun G80 nx78 k50 s49 x51 hk52 hx53 hn79 h => wpC_seq <| reg_s <| st rfl <| b_lss (k := .i64) rfl rfl <| seqN [(1, .d (cI.enc v1)), (2, .box ((cXGeo (cLs cI rfl)).enc v0)), (5, .d ((cLo cI).enc s49)), (9, .d (cI.enc (v0.Parents.length : Int))), (10, .d (cI.enc (k50 : Int))), (11, .d (cB.enc (decide ((k50 : Int) < (v0.Parents.length : Int)))))] (by kernel_rfl) <|
    xn <| wpC_seq <| wpC_kp <| cnd1 rfl (dlt hk52) <| wpC_skip <| kpN [(1, .d (cI.enc v1)), (2, .box ((cXGeo (cLs cI rfl)).enc v0)), (5, .d ((cLo cI).enc s49)), (9, .d (cI.enc (v0.Parents.length : Int))), (10, .d (cI.enc (k50 : Int)))] (by kernel_rfl) <| xn <| wpC_seq <| wpC_kp <| wpC_blk <| wpC_seq <| reg_s <| st rfl <| mvd rfl rfl <| x_asg (ss rfl rfl) <| seqN [(1, .d (cI.enc v1)), (2, .box ((cXGeo (cLs cI rfl)).enc v0)), (5, .d ((cLo cI).enc s49)), (6, .d (cI.enc (k50 : Int))), (9, .d (cI.enc (v0.Parents.length : Int))), (10, .d (cI.enc (k50 : Int)))] (by kernel_rfl) <|
    xn <| wpC_seq <| reg_s <| st rfl <| ldb rfl rfl rfl rfl <| st rfl <| mvd rfl rfl <| bnd h fun x89 e90 h => st rfl <| o_call (a1 (c := (cXGeo (cLs cI rfl))) (tXGeo (tLs tK)) rfl (a1 (c := cI) tK rfl a0)) (con_impl_depthOf e90) (.inl (so1 sK so0)) <| st rfl <| mvd rfl rfl <| st rfl <| b_eql (k := .i64) rfl rfl <| seqN [(1, .d (cI.enc v1)), (2, .box ((cXGeo (cLs cI rfl)).enc v0)), (5, .d ((cLo cI).enc s49)), (6, .d (cI.enc (k50 : Int))), (9, .d (cI.enc (v0.Parents.length : Int))), (10, .d (cI.enc (k50 : Int))), (17, .d (cB.enc (decide (x89 = v1))))] (by kernel_rfl) <|
    xn <| cnd rfl h (fun b91 h => reg_s <| st rfl <| mvo rfl rfl <| st rfl <| mvd rfl rfl <| x_bsl cI [(k50 : Int)] (t1 (ss rfl rfl) rfl t0) rfl rfl <| lnO_k h fun l92 h => x_app (sr rfl rfl) (to rfl rfl) l92 rfl <| x_asg (so rfl rfl) <| seqN [(1, .d (cI.enc v1)), (2, .box ((cXGeo (cLs cI rfl)).enc v0)), (5, .d ((cLo cI).enc (s49 ++ [(k50 : Int)]))), (9, .d (cI.enc (v0.Parents.length : Int))), (10, .d (cI.enc (k50 : Int)))] (by kernel_rfl) <|
    xbb <| kpN [(1, .d (cI.enc v1)), (2, .box ((cXGeo (cLs cI rfl)).enc v0)), (5, .d ((cLo cI).enc (s49 ++ [(k50 : Int)]))), (9, .d (cI.enc (v0.Parents.length : Int))), (10, .d (cI.enc (k50 : Int)))] (by kernel_rfl) <| xn <| reg_s <| st rfl <| b_inc rfl rfl l48 hk52 <| st rfl <| mvd rfl rfl <| seqN [(1, .d (cI.enc v1)), (2, .box ((cXGeo (cLs cI rfl)).enc v0)), (5, .d ((cLo cI).enc (s49 ++ [(k50 : Int)]))), (9, .d (cI.enc (v0.Parents.length : Int))), (10, .d (cI.enc ((k50 + 1 : Nat) : Int)))] (by kernel_rfl) <|
    xn <| hn79 (s49 ++ [(k50 : Int)]) h)
    (fun b91 h => wpC_skip <| xbb <| kpN [(1, .d (cI.enc v1)), (2, .box ((cXGeo (cLs cI rfl)).enc v0)), (5, .d ((cLo cI).enc s49)), (9, .d (cI.enc (v0.Parents.length : Int))), (10, .d (cI.enc (k50 : Int)))] (by kernel_rfl) <| xn <| reg_s <| st rfl <| b_inc rfl rfl l48 hk52 <| st rfl <| mvd rfl rfl <| seqN [(1, .d (cI.enc v1)), (2, .box ((cXGeo (cLs cI rfl)).enc v0)), (5, .d ((cLo cI).enc s49)), (9, .d (cI.enc (v0.Parents.length : Int))), (10, .d (cI.enc ((k50 + 1 : Nat) : Int)))] (by kernel_rfl) <|
    xn <| hn79 s49 h))

def rs_impl_crossed (r : (List XVariable)) : List D := [(cLo (cXVariable cS cI)).enc r]
def m94 : MC := .seq (.reg [⟨some 3, .box (.t 1), none⟩,
    ⟨some 4, .asg (.c (.slice true [])), none⟩] [0, 3])
  (.seq (.reg [⟨some 8, .fa 3 1 1, none⟩,
    ⟨some 9, .ld 8 1 false, none⟩,
    ⟨some 10, .len false (.t 9), none⟩,
    ⟨some 11, .mk (.agg [.str [], .int .i64 0]) (.t 10), none⟩,
    ⟨some 5, .asg (.t 11), none⟩] [0, 3, 5])
  (.seq (.kp [5] (.seq (.reg [⟨some 12, .fa 3 1 1, none⟩,
    ⟨some 13, .ld 12 1 false, none⟩,
    ⟨some 14, .len false (.t 13), none⟩,
    ⟨some 15, .mv (.c (.int .i64 0)), none⟩] [0, 3, 5, 12, 13, 14, 15])
  (.blk 0 (.loop (.seq (.reg [⟨some 16, .bin .lss (.t 15) (.t 14), none⟩] [0, 3, 5, 12, 13, 14, 15, 16])
  (.seq (.kp [0, 3, 5, 12, 13, 14, 15] (.cond (.t 16) (.skip) (.exit 0)))
  (.seq (.kp [0, 3, 5, 12, 13, 14, 15] (.blk 1 (.seq (.reg [⟨some 17, .mv (.t 15), none⟩,
    ⟨some 18, .ia 13 (.t 15) 1, none⟩,
    ⟨some 19, .ld 18 1 false, none⟩,
    ⟨some 6, .asg (.t 17), none⟩,
    ⟨some 7, .asg (.t 19), none⟩] [0, 3, 5, 6, 7, 12, 13, 14, 15])
  (.reg [⟨some 20, .mv (.t 5), none⟩,
    ⟨some 21, .mv (.t 6), none⟩,
    ⟨some 22, .mv (.t 0), none⟩,
    ⟨some 23, .mv (.t 7), none⟩,
    ⟨some 24, .ia 22 (.t 23) 2, none⟩,
    ⟨some 25, .ld 24 2 true, none⟩,
    ⟨some 26, .ia 20 (.t 21) 2, none⟩,
    ⟨none, .st 26 (.t 25) 2, none⟩] [0, 3, 5, 12, 13, 14, 15]))))
  (.reg [⟨some 27, .bin .add (.t 15) (.c (.int .i64 1)), none⟩,
    ⟨some 15, .mv (.t 27), none⟩] [0, 3, 5, 12, 13, 14, 15]))))))))
  (.seq (.reg [⟨some 28, .mv (.t 5), none⟩,
    ⟨some 4, .asg (.t 28), none⟩] [4])
  (.ret))))
theorem con_impl_crossed {v0 : (List XVariable)} {v1 : XTable} {r : (List XVariable)} (h : sh_impl_crossed v0 v1 = some r) : Con Tryd.prog 94 [(cLs (cXVariable cS cI) rfl).enc v0, (cXTable cI (cLs cI rfl) (cLs cI rfl) cI).enc v1] [] (rs_impl_crossed r) := by
  delta sh_impl_crossed at h
  refine top (out := none) (f := Tryd.f94) (m := m94) (rs := [.t 4]) (by kernel_rfl) rfl (by kernel_rfl) (by kernel_rfl) (by kernel_rfl) (by kernel_rfl) (by kernel_rfl) ?_
  exact
   ini [(0, .d ((cLs (cXVariable cS cI) rfl).enc v0)), (1, .d ((cXTable cI (cLs cI rfl) (cLs cI rfl) cI).enc v1))] rfl <| wpC_seq <| reg_s <| x_box (ss rfl rfl) <| x_asg (sc (cLo (cXVariable cS cI)) ([] : List XVariable) rfl) <| seqN [(0, .d ((cLs (cXVariable cS cI) rfl).enc v0)), (3, .box ((cXTable cI (cLs cI rfl) (cLs cI rfl) cI).enc v1))] (by kernel_rfl) <|
    xn <| wpC_seq <| reg_s <| st rfl <| fab rfl rfl rfl rfl <| st rfl <| lda rfl rfl rfl rfl rfl rfl <| stw rfl <| lens rfl fun l4 => mkO_k h fun i5 l6 h => st rfl <| o_mk (c := (cXVariable cS cI)) (a0 := (⟨([] : List UInt8), (0 : Int)⟩ : XVariable)) rfl (k := .i64) rfl i5 l6 <| x_asg (so rfl rfl) <| seqN [(0, .d ((cLs (cXVariable cS cI) rfl).enc v0)), (3, .box ((cXTable cI (cLs cI rfl) (cLs cI rfl) cI).enc v1)), (5, .d ((cLo (cXVariable cS cI)).enc (List.replicate ((v1.Vars.length : Int)).toNat (⟨([] : List UInt8), (0 : Int)⟩ : XVariable))))] (by kernel_rfl) <|
    xn <| wpC_seq <| wpC_kp <| wpC_seq <| reg_s <| st rfl <| fab rfl rfl rfl rfl <| st rfl <| lda rfl rfl rfl rfl rfl rfl <| stw rfl <| lens rfl fun l54 => st rfl <| mvc cI (0 : Int) rfl <| seqN [(0, .d ((cLs (cXVariable cS cI) rfl).enc v0)), (3, .box ((cXTable cI (cLs cI rfl) (cLs cI rfl) cI).enc v1)), (5, .d ((cLo (cXVariable cS cI)).enc (List.replicate ((v1.Vars.length : Int)).toNat (⟨([] : List UInt8), (0 : Int)⟩ : XVariable)))), (12, .adr 3 [.fld 1]), (13, .d ((cLs cI rfl).enc v1.Vars)), (14, .d (cI.enc (v1.Vars.length : Int))), (15, .d (cI.enc (0 : Int)))] (by kernel_rfl) <|
    xn <| wpC_blk <| lpR (fun (k56 : Nat) (s55 : (List XVariable)) => [(0, .d ((cLs (cXVariable cS cI) rfl).enc v0)), (3, .box ((cXTable cI (cLs cI rfl) (cLs cI rfl) cI).enc v1)), (5, .d ((cLo (cXVariable cS cI)).enc s55)), (12, .adr 3 [.fld 1]), (13, .d ((cLs cI rfl).enc v1.Vars)), (14, .d (cI.enc (v1.Vars.length : Int))), (15, .d (cI.enc (k56 : Int)))]) (List.replicate ((v1.Vars.length : Int)).toNat (⟨([] : List UInt8), (0 : Int)⟩ : XVariable)) rfl h
    (fun G86 s55 h => wpC_seq <| reg_s <| st rfl <| b_lss (k := .i64) rfl rfl <| seqN [(0, .d ((cLs (cXVariable cS cI) rfl).enc v0)), (3, .box ((cXTable cI (cLs cI rfl) (cLs cI rfl) cI).enc v1)), (5, .d ((cLo (cXVariable cS cI)).enc s55)), (12, .adr 3 [.fld 1]), (13, .d ((cLs cI rfl).enc v1.Vars)), (14, .d (cI.enc (v1.Vars.length : Int))), (15, .d (cI.enc (v1.Vars.length : Int))), (16, .d (cB.enc (decide ((v1.Vars.length : Int) < (v1.Vars.length : Int)))))] (by kernel_rfl) <|
    xn <| wpC_seq <| wpC_kp <| cnd0 rfl (dlf _) <| wpC_exit <| xt <| xt <| xt <| xb <| kpN [(5, .d ((cLo (cXVariable cS cI)).enc s55))] (by kernel_rfl) <| xn <| wpC_seq <| reg_s <| st rfl <| mvo rfl rfl <| x_asg (sr rfl rfl) <| seqN [(4, .d ((cLo (cXVariable cS cI)).enc s55))] (by kernel_rfl) <|
    xn <| wpC_ret <| re <| fin h (r1 (so rfl rfl) <| r0) rfl)
    (fun G86 nx84 k56 s55 x57 hk58 hx59 hn85 h => wpC_seq <| reg_s <| st rfl <| b_lss (k := .i64) rfl rfl <| seqN [(0, .d ((cLs (cXVariable cS cI) rfl).enc v0)), (3, .box ((cXTable cI (cLs cI rfl) (cLs cI rfl) cI).enc v1)), (5, .d ((cLo (cXVariable cS cI)).enc s55)), (12, .adr 3 [.fld 1]), (13, .d ((cLs cI rfl).enc v1.Vars)), (14, .d (cI.enc (v1.Vars.length : Int))), (15, .d (cI.enc (k56 : Int))), (16, .d (cB.enc (decide ((k56 : Int) < (v1.Vars.length : Int)))))] (by kernel_rfl) <|
    xn <| wpC_seq <| wpC_kp <| cnd1 rfl (dlt hk58) <| wpC_skip <| kpN [(0, .d ((cLs (cXVariable cS cI) rfl).enc v0)), (3, .box ((cXTable cI (cLs cI rfl) (cLs cI rfl) cI).enc v1)), (5, .d ((cLo (cXVariable cS cI)).enc s55)), (12, .adr 3 [.fld 1]), (13, .d ((cLs cI rfl).enc v1.Vars)), (14, .d (cI.enc (v1.Vars.length : Int))), (15, .d (cI.enc (k56 : Int)))] (by kernel_rfl) <| xn <| wpC_seq <| wpC_kp <| wpC_blk <| wpC_seq <| reg_s <| st rfl <| mvd rfl rfl <| st rfl <| ias rfl rfl (Int.natCast_nonneg _) hx59 rfl <| st rfl <| ldi rfl rfl rfl rfl <| x_asg (ss rfl rfl) <| x_asg (ss rfl rfl) <| seqN [(0, .d ((cLs (cXVariable cS cI) rfl).enc v0)), (3, .box ((cXTable cI (cLs cI rfl) (cLs cI rfl) cI).enc v1)), (5, .d ((cLo (cXVariable cS cI)).enc s55)), (6, .d (cI.enc (k56 : Int))), (7, .d (cI.enc x57)), (12, .adr 3 [.fld 1]), (13, .d ((cLs cI rfl).enc v1.Vars)), (14, .d (cI.enc (v1.Vars.length : Int))), (15, .d (cI.enc (k56 : Int)))] (by kernel_rfl) <|
    xn <| reg_s <| st rfl <| mvo rfl rfl <| st rfl <| mvd rfl rfl <| st rfl <| mvd rfl rfl <| st rfl <| mvd rfl rfl <| getO_k h fun x93 i94 g95 h => st rfl <| ias rfl rfl i94 g95 rfl <| st rfl <| ldi rfl rfl rfl rfl <| getO_k h fun x96 i97 g98 h => st rfl <| iar rfl rfl rfl rfl i97 g98 rfl <| x_sta ((cLo (cXVariable cS cI)).enc (s55.set ((k56 : Int)).toNat x93)) (ss rfl rfl) rfl rfl (Ln.idx g98 Ln.nil) (Cd.h_sz (cXVariable cS cI) _) rfl <| seqN [(0, .d ((cLs (cXVariable cS cI) rfl).enc v0)), (3, .box ((cXTable cI (cLs cI rfl) (cLs cI rfl) cI).enc v1)), (5, .d ((cLo (cXVariable cS cI)).enc (s55.set ((k56 : Int)).toNat x93))), (12, .adr 3 [.fld 1]), (13, .d ((cLs cI rfl).enc v1.Vars)), (14, .d (cI.enc (v1.Vars.length : Int))), (15, .d (cI.enc (k56 : Int)))] (by kernel_rfl) <|
    xbb <| kpN [(0, .d ((cLs (cXVariable cS cI) rfl).enc v0)), (3, .box ((cXTable cI (cLs cI rfl) (cLs cI rfl) cI).enc v1)), (5, .d ((cLo (cXVariable cS cI)).enc (s55.set ((k56 : Int)).toNat x93))), (12, .adr 3 [.fld 1]), (13, .d ((cLs cI rfl).enc v1.Vars)), (14, .d (cI.enc (v1.Vars.length : Int))), (15, .d (cI.enc (k56 : Int)))] (by kernel_rfl) <| xn <| reg_s <| st rfl <| b_inc rfl rfl l54 hk58 <| st rfl <| mvd rfl rfl <| seqN [(0, .d ((cLs (cXVariable cS cI) rfl).enc v0)), (3, .box ((cXTable cI (cLs cI rfl) (cLs cI rfl) cI).enc v1)), (5, .d ((cLo (cXVariable cS cI)).enc (s55.set ((k56 : Int)).toNat x93))), (12, .adr 3 [.fld 1]), (13, .d ((cLs cI rfl).enc v1.Vars)), (14, .d (cI.enc (v1.Vars.length : Int))), (15, .d (cI.enc ((k56 + 1 : Nat) : Int)))] (by kernel_rfl) <|
    xn <| hn85 (s55.set ((k56 : Int)).toNat x93) h)

def rs_impl_combinations (r : Int) : List D := [cI.enc r]
def m93 : MC := .seq (.reg [⟨some 2, .asg (.c (.int .i64 0)), none⟩] [0])
  (.seq (.reg [⟨some 3, .asg (.c (.int .i64 1)), none⟩] [0, 3])
  (.seq (.kp [3] (.seq (.reg [⟨some 6, .mv (.t 0), none⟩,
    ⟨some 7, .len false (.t 6), none⟩,
    ⟨some 8, .mv (.c (.int .i64 0)), none⟩] [0, 3, 6, 7, 8])
  (.blk 0 (.loop (.seq (.reg [⟨some 9, .bin .lss (.t 8) (.t 7), none⟩] [0, 3, 6, 7, 8, 9])
  (.seq (.kp [0, 3, 6, 7, 8] (.cond (.t 9) (.skip) (.exit 0)))
  (.seq (.kp [0, 3, 6, 7, 8] (.blk 1 (.seq (.reg [⟨some 10, .ia 6 (.t 8) 2, none⟩,
    ⟨some 11, .ld 10 2 true, none⟩,
    ⟨some 5, .alloc (.agg [.str [], .int .i64 0]), none⟩,
    ⟨none, .st 5 (.t 11) 2, none⟩] [0, 3, 5, 6, 7, 8])
  (.reg [⟨some 12, .mv (.t 3), none⟩,
    ⟨some 13, .fa 5 1 1, none⟩,
    ⟨some 14, .ld 13 1 false, none⟩,
    ⟨some 15, .bin .mul (.t 12) (.t 14), none⟩,
    ⟨some 3, .asg (.t 15), none⟩] [0, 3, 6, 7, 8]))))
  (.reg [⟨some 16, .bin .add (.t 8) (.c (.int .i64 1)), none⟩,
    ⟨some 8, .mv (.t 16), none⟩] [0, 3, 6, 7, 8]))))))))
  (.seq (.reg [⟨some 17, .mv (.t 3), none⟩,
    ⟨some 2, .asg (.t 17), none⟩] [2])
  (.ret))))
theorem con_impl_combinations {v0 : (List XVariable)} {r : Int} (h : sh_impl_combinations v0 = some r) : Con Tryd.prog 93 [(cLs (cXVariable cS cI) rfl).enc v0] [] (rs_impl_combinations r) := by
  delta sh_impl_combinations at h
  refine top (out := none) (f := Tryd.f93) (m := m93) (rs := [.t 2]) (by kernel_rfl) rfl (by kernel_rfl) (by kernel_rfl) (by kernel_rfl) (by kernel_rfl) (by kernel_rfl) ?_
  exact
   ini [(0, .d ((cLs (cXVariable cS cI) rfl).enc v0))] rfl <| wpC_seq <| reg_s <| x_asg (sc cI (0 : Int) rfl) <| seqN [(0, .d ((cLs (cXVariable cS cI) rfl).enc v0))] (by kernel_rfl) <|
    xn <| wpC_seq <| reg_s <| x_asg (sc cI (1 : Int) rfl) <| seqN [(0, .d ((cLs (cXVariable cS cI) rfl).enc v0)), (3, .d (cI.enc (1 : Int)))] (by kernel_rfl) <|
    xn <| wpC_seq <| wpC_kp <| wpC_seq <| reg_s <| st rfl <| mvd rfl rfl <| stw rfl <| lens rfl fun l18 => st rfl <| mvc cI (0 : Int) rfl <| seqN [(0, .d ((cLs (cXVariable cS cI) rfl).enc v0)), (3, .d (cI.enc (1 : Int))), (6, .d ((cLs (cXVariable cS cI) rfl).enc v0)), (7, .d (cI.enc (v0.length : Int))), (8, .d (cI.enc (0 : Int)))] (by kernel_rfl) <|
    xn <| wpC_blk <| lpR (fun (k20 : Nat) (s19 : Int) => [(0, .d ((cLs (cXVariable cS cI) rfl).enc v0)), (3, .d (cI.enc s19)), (6, .d ((cLs (cXVariable cS cI) rfl).enc v0)), (7, .d (cI.enc (v0.length : Int))), (8, .d (cI.enc (k20 : Int)))]) (1 : Int) rfl h
    (fun G30 s19 h => wpC_seq <| reg_s <| st rfl <| b_lss (k := .i64) rfl rfl <| seqN [(0, .d ((cLs (cXVariable cS cI) rfl).enc v0)), (3, .d (cI.enc s19)), (6, .d ((cLs (cXVariable cS cI) rfl).enc v0)), (7, .d (cI.enc (v0.length : Int))), (8, .d (cI.enc (v0.length : Int))), (9, .d (cB.enc (decide ((v0.length : Int) < (v0.length : Int)))))] (by kernel_rfl) <|
    xn <| wpC_seq <| wpC_kp <| cnd0 rfl (dlf _) <| wpC_exit <| xt <| xt <| xt <| xb <| kpN [(3, .d (cI.enc s19))] (by kernel_rfl) <| xn <| wpC_seq <| reg_s <| st rfl <| mvd rfl rfl <| x_asg (ss rfl rfl) <| seqN [(2, .d (cI.enc s19))] (by kernel_rfl) <|
    xn <| wpC_ret <| re <| fin h (r1 (ss rfl rfl) <| r0) rfl)
    (fun G30 nx28 k20 s19 x21 hk22 hx23 hn29 h => wpC_seq <| reg_s <| st rfl <| b_lss (k := .i64) rfl rfl <| seqN [(0, .d ((cLs (cXVariable cS cI) rfl).enc v0)), (3, .d (cI.enc s19)), (6, .d ((cLs (cXVariable cS cI) rfl).enc v0)), (7, .d (cI.enc (v0.length : Int))), (8, .d (cI.enc (k20 : Int))), (9, .d (cB.enc (decide ((k20 : Int) < (v0.length : Int)))))] (by kernel_rfl) <|
    xn <| wpC_seq <| wpC_kp <| cnd1 rfl (dlt hk22) <| wpC_skip <| kpN [(0, .d ((cLs (cXVariable cS cI) rfl).enc v0)), (3, .d (cI.enc s19)), (6, .d ((cLs (cXVariable cS cI) rfl).enc v0)), (7, .d (cI.enc (v0.length : Int))), (8, .d (cI.enc (k20 : Int)))] (by kernel_rfl) <| xn <| wpC_seq <| wpC_kp <| wpC_blk <| wpC_seq <| reg_s <| st rfl <| ias rfl rfl (Int.natCast_nonneg _) hx23 rfl <| st rfl <| ldi rfl rfl rfl rfl <| x_all (cXVariable cS cI) (⟨([] : List UInt8), (0 : Int)⟩ : XVariable) rfl <| x_stb (ss rfl rfl) rfl (Cd.h_sz _ _) rfl <| seqN [(0, .d ((cLs (cXVariable cS cI) rfl).enc v0)), (3, .d (cI.enc s19)), (5, .box ((cXVariable cS cI).enc x21)), (6, .d ((cLs (cXVariable cS cI) rfl).enc v0)), (7, .d (cI.enc (v0.length : Int))), (8, .d (cI.enc (k20 : Int)))] (by kernel_rfl) <|
    xn <| reg_s <| st rfl <| mvd rfl rfl <| st rfl <| fab rfl rfl rfl rfl <| st rfl <| lda rfl rfl rfl rfl rfl rfl <| ckI_k h fun i32 h => st rfl <| b_mul (k := .i64) rfl rfl i32 <| x_asg (ss rfl rfl) <| seqN [(0, .d ((cLs (cXVariable cS cI) rfl).enc v0)), (3, .d (cI.enc (s19 * x21.Levels))), (6, .d ((cLs (cXVariable cS cI) rfl).enc v0)), (7, .d (cI.enc (v0.length : Int))), (8, .d (cI.enc (k20 : Int)))] (by kernel_rfl) <|
    xbb <| kpN [(0, .d ((cLs (cXVariable cS cI) rfl).enc v0)), (3, .d (cI.enc (s19 * x21.Levels))), (6, .d ((cLs (cXVariable cS cI) rfl).enc v0)), (7, .d (cI.enc (v0.length : Int))), (8, .d (cI.enc (k20 : Int)))] (by kernel_rfl) <| xn <| reg_s <| st rfl <| b_inc rfl rfl l18 hk22 <| st rfl <| mvd rfl rfl <| seqN [(0, .d ((cLs (cXVariable cS cI) rfl).enc v0)), (3, .d (cI.enc (s19 * x21.Levels))), (6, .d ((cLs (cXVariable cS cI) rfl).enc v0)), (7, .d (cI.enc (v0.length : Int))), (8, .d (cI.enc ((k20 + 1 : Nat) : Int)))] (by kernel_rfl) <|
    xn <| hn29 (s19 * x21.Levels) h)

def rs_impl_cellCount (r : Int) : List D := [cI.enc r]
def m54 : MC := .seq (.reg [⟨some 3, .box (.t 0), none⟩,
    ⟨some 5, .box (.t 2), none⟩,
    ⟨some 6, .asg (.c (.int .i64 0)), none⟩] [1, 3, 5])
  (.seq (.drw [⟨0, ⟨some 7, .ld 3 1 true, none⟩, [8, 9, 10, 11, 12, 13, 14, 15, 16]⟩,
    ⟨1, ⟨some 8, .fa 5 0 0, none⟩, [7, 9, 10, 11, 12, 13, 14, 15, 16]⟩,
    ⟨2, ⟨some 9, .ld 8 1 false, none⟩, [7, 10, 11, 12, 13, 14, 15, 16]⟩,
    ⟨3, ⟨some 10, .call 92 [(.t 7), (.t 9)], none⟩, [11, 12, 13, 14, 15, 16]⟩,
    ⟨4, ⟨some 11, .len false (.t 10), none⟩, [12, 13, 14, 15, 16]⟩,
    ⟨5, ⟨some 12, .mv (.t 1), none⟩, [7, 8, 9, 10, 11, 13, 14, 15, 16]⟩,
    ⟨6, ⟨some 13, .ld 5 4 true, none⟩, [7, 8, 9, 10, 11, 12, 14, 15, 16]⟩,
    ⟨7, ⟨some 14, .call 94 [(.t 12), (.t 13)], none⟩, [11, 15, 16]⟩,
    ⟨8, ⟨some 15, .call 93 [(.t 14)], none⟩, [11, 16]⟩,
    ⟨9, ⟨some 16, .bin .mul (.t 11) (.t 15), none⟩, []⟩]
    [(10, ⟨some 6, .asg (.t 16), none⟩)] [6])
  (.ret))
theorem con_impl_cellCount {v0 : XGeo} {v1 : (List XVariable)} {v2 : XTable} {r : Int} (h : sh_impl_cellCount v0 v1 v2 = some r) : Con Tryd.prog 54 [(cXGeo (cLs cI rfl)).enc v0, (cLs (cXVariable cS cI) rfl).enc v1, (cXTable cI (cLs cI rfl) (cLs cI rfl) cI).enc v2] [] (rs_impl_cellCount r) := by
  delta sh_impl_cellCount at h
  refine top (out := none) (f := Tryd.f54) (m := m54) (rs := [.t 6]) (by kernel_rfl) rfl (by kernel_rfl) (by kernel_rfl) (by kernel_rfl) (by kernel_rfl) (by kernel_rfl) ?_
  exact
   ini [(0, .d ((cXGeo (cLs cI rfl)).enc v0)), (1, .d ((cLs (cXVariable cS cI) rfl).enc v1)), (2, .d ((cXTable cI (cLs cI rfl) (cLs cI rfl) cI).enc v2))] rfl <| wpC_seq <| reg_s <| x_box (ss rfl rfl) <| x_box (ss rfl rfl) <| x_asg (sc cI (0 : Int) rfl) <| seqN [(1, .d ((cLs (cXVariable cS cI) rfl).enc v1)), (3, .box ((cXGeo (cLs cI rfl)).enc v0)), (5, .box ((cXTable cI (cLs cI rfl) (cLs cI rfl) cI).enc v2))] (by kernel_rfl) <|
    xn <| wpC_seq <| drw_s <| pst rfl <| ldb rfl rfl rfl rfl ⟨rfl, pst rfl <| fab rfl rfl rfl rfl ⟨rfl, pst rfl <| lda rfl rfl rfl rfl rfl rfl ⟨rfl, bndp h fun x9 e10 h => pst rfl <| o_call (a1 (c := (cXGeo (cLs cI rfl))) (tXGeo (tLs tK)) rfl (a1 (c := cI) tK rfl a0)) (con_impl_areasAt e10) (.inl (so1 (sLo sK) so0)) ⟨rfl, lmO_kp h fun l11 h => pst rfl <| plno rfl l11 ⟨rfl, pst rfl <| mvd rfl rfl ⟨rfl, pst rfl <| ldb rfl rfl rfl rfl ⟨rfl, bndp h fun x12 e13 h => pst rfl <| o_call (a1 (c := (cLs (cXVariable cS cI) rfl)) (tLs (tXVariable tS tK)) rfl (a1 (c := (cXTable cI (cLs cI rfl) (cLs cI rfl) cI)) (tXTable tK (tLs tK) (tLs tK) tK) rfl a0)) (con_impl_crossed e13) (.inl (so1 (sLo (sXVariable sS sK)) so0)) ⟨rfl, bndp h fun x14 e15 h => pst rfl <| o_call (a1 (c := (cLo (cXVariable cS cI))) (tLo (tXVariable tS tK)) rfl a0) (con_impl_combinations e15) (.inl (so1 sK so0)) ⟨rfl, ckI_kp h fun i16 h => pst rfl <| b_mul (k := .i64) rfl rfl i16 ⟨rfl, preN <| x_asg (ss rfl rfl) <| seqN [(6, .d (cI.enc ((x9.length : Int) * x14)))] (by kernel_rfl) <|
    xn <| wpC_ret <| re <| fin h (r1 (ss rfl rfl) <| r0) rfl⟩⟩⟩⟩⟩⟩⟩⟩⟩⟩

def rs_impl_isTable (r : Bool) : List D := [cB.enc r]
def m86 : MC := .seq (.reg [⟨some 3, .box (.t 0), none⟩,
    ⟨some 5, .box (.t 2), none⟩,
    ⟨some 6, .asg (.c (.bool false)), none⟩] [1, 3, 5])
  (.seq (.kp [1, 3, 5] (.seq (.reg [⟨some 8, .mv (.t 1), none⟩,
    ⟨some 9, .fa 5 1 1, none⟩,
    ⟨some 10, .ld 9 1 false, none⟩,
    ⟨some 11, .call 115 [(.t 8), (.t 10)], none⟩,
    ⟨some 12, .nt (.t 11), none⟩,
    ⟨some 13, .mv (.t 12), none⟩,
    ⟨some 14, .mv (.t 1), some (13, false)⟩,
    ⟨some 15, .fa 5 2 2, some (13, false)⟩,
    ⟨some 16, .ld 15 1 false, some (13, false)⟩,
    ⟨some 17, .call 116 [(.t 14), (.t 16)], some (13, false)⟩,
    ⟨some 18, .nt (.t 17), some (13, false)⟩,
    ⟨some 19, .pick (.t 13) (.c (.bool true)) (.t 18), none⟩,
    ⟨some 20, .mv (.t 19), none⟩,
    ⟨some 21, .fa 5 3 3, some (20, false)⟩,
    ⟨some 22, .ld 21 1 false, some (20, false)⟩,
    ⟨some 23, .bin .lss (.t 22) (.c (.int .i64 (-1))), some (20, false)⟩,
    ⟨some 24, .pick (.t 20) (.c (.bool true)) (.t 23), none⟩,
    ⟨some 25, .mv (.t 24), none⟩,
    ⟨some 26, .fa 5 3 3, some (25, false)⟩,
    ⟨some 27, .ld 26 1 false, some (25, false)⟩,
    ⟨some 28, .mv (.t 1), some (25, false)⟩,
    ⟨some 29, .len false (.t 28), some (25, false)⟩,
    ⟨some 30, .bin .geq (.t 27) (.t 29), some (25, false)⟩,
    ⟨some 31, .pick (.t 25) (.c (.bool true)) (.t 30), none⟩] [1, 3, 5, 31])
  (.cond (.t 31) (.seq (.reg [⟨some 6, .asg (.c (.bool false)), none⟩] [6])
  (.ret)) (.skip))))
  (.seq (.reg [⟨some 32, .ld 3 1 true, none⟩,
    ⟨some 33, .mv (.t 1), none⟩,
    ⟨some 34, .ld 5 4 true, none⟩,
    ⟨some 35, .call 54 [(.t 32), (.t 33), (.t 34)], none⟩,
    ⟨some 7, .asg (.t 35), none⟩] [7])
  (.seq (.reg [⟨some 36, .mv (.t 7), none⟩,
    ⟨some 37, .bin .gtr (.t 36) (.c (.int .i64 0)), none⟩,
    ⟨some 38, .mv (.t 37), none⟩,
    ⟨some 39, .mv (.t 7), some (38, true)⟩,
    ⟨some 40, .bin .leq (.t 39) (.c (.int .i64 600)), some (38, true)⟩,
    ⟨some 41, .pick (.t 38) (.t 40) (.c (.bool false)), none⟩,
    ⟨some 6, .asg (.t 41), none⟩] [6])
  (.ret))))
theorem con_impl_isTable {v0 : XGeo} {v1 : (List XVariable)} {v2 : XTable} {r : Bool} (h : sh_impl_isTable v0 v1 v2 = some r) : Con Tryd.prog 86 [(cXGeo (cLs cI rfl)).enc v0, (cLs (cXVariable cS cI) rfl).enc v1, (cXTable cI (cLs cI rfl) (cLs cI rfl) cI).enc v2] [] (rs_impl_isTable r) := by
  delta sh_impl_isTable at h
  refine top (out := none) (f := Tryd.f86) (m := m86) (rs := [.t 6]) (by kernel_rfl) rfl (by kernel_rfl) (by kernel_rfl) (by kernel_rfl) (by kernel_rfl) (by kernel_rfl) ?_
  exact
   ini [(0, .d ((cXGeo (cLs cI rfl)).enc v0)), (1, .d ((cLs (cXVariable cS cI) rfl).enc v1)), (2, .d ((cXTable cI (cLs cI rfl) (cLs cI rfl) cI).enc v2))] rfl <| wpC_seq <| reg_s <| x_box (ss rfl rfl) <| x_box (ss rfl rfl) <| x_asg (sc cB false rfl) <| seqN [(1, .d ((cLs (cXVariable cS cI) rfl).enc v1)), (3, .box ((cXGeo (cLs cI rfl)).enc v0)), (5, .box ((cXTable cI (cLs cI rfl) (cLs cI rfl) cI).enc v2))] (by kernel_rfl) <|
    xn <| wpC_seq <| wpC_kp <| wpC_seq <| jw (fun (s28 : Bool) => [(1, .d ((cLs (cXVariable cS cI) rfl).enc v1)), (3, .box ((cXGeo (cLs cI rfl)).enc v0)), (5, .box ((cXTable cI (cLs cI rfl) (cLs cI rfl) cI).enc v2)), (31, .d (cB.enc s28))]) h (fun s28 h => xn <| cnd rfl h (fun b30 h => wpC_seq <| reg_s <| x_asg (sc cB false rfl) <| seqN [(6, .d (cB.enc false))] (by kernel_rfl) <|
    xn <| wpC_ret <| rt <| rt <| re <| fin h (r1 (ss rfl rfl) <| r0) rfl)
    (fun b30 h => wpC_skip <| kpN [(1, .d ((cLs (cXVariable cS cI) rfl).enc v1)), (3, .box ((cXGeo (cLs cI rfl)).enc v0)), (5, .box ((cXTable cI (cLs cI rfl) (cLs cI rfl) cI).enc v2))] (by kernel_rfl) <| xn <| wpC_seq <| reg_s <| st rfl <| ldb rfl rfl rfl rfl <| st rfl <| mvd rfl rfl <| st rfl <| ldb rfl rfl rfl rfl <| bnd h fun x33 e34 h => st rfl <| o_call (a1 (c := (cXGeo (cLs cI rfl))) (tXGeo (tLs tK)) rfl (a1 (c := (cLs (cXVariable cS cI) rfl)) (tLs (tXVariable tS tK)) rfl (a1 (c := (cXTable cI (cLs cI rfl) (cLs cI rfl) cI)) (tXTable tK (tLs tK) (tLs tK) tK) rfl a0))) (con_impl_cellCount e34) (.inl (so1 sK so0)) <| x_asg (ss rfl rfl) <| seqN [(7, .d (cI.enc x33))] (by kernel_rfl) <|
    xn <| wpC_seq <| reg_s <| st rfl <| mvd rfl rfl <| st rfl <| b_gtr (k := .i64) rfl rfl <| st rfl <| mvd rfl rfl <| ite_k h (fun b36 h => gt' rfl b36 <| st rfl <| mvd rfl rfl <| gt' rfl b36 <| st rfl <| b_leq (k := .i64) rfl rfl <| st rfl <| pick1 rfl b36 (cd := cB) (v := (decide (x33 ≤ (600 : Int)))) rfl rfl <| x_asg (ss rfl rfl) <| seqN [(6, .d (cB.enc (decide (x33 ≤ (600 : Int)))))] (by kernel_rfl) <|
    xn <| wpC_ret <| re <| fin h (r1 (ss rfl rfl) <| r0) rfl)
    (fun b36 h => gf rfl b36 <| gf rfl b36 <| st rfl <| pick0 rfl b36 (cd := cB) (v := false) rfl rfl <| x_asg (ss rfl rfl) <| seqN [(6, .d (cB.enc false))] (by kernel_rfl) <|
    xn <| wpC_ret <| re <| fin h (r1 (ss rfl rfl) <| r0) rfl)))
    fun s28' q29 h => reg_s <| st rfl <| mvd rfl rfl <| st rfl <| fab rfl rfl rfl rfl <| st rfl <| lda rfl rfl rfl rfl rfl rfl <| bnd h fun x37 e38 h => st rfl <| o_call (a1 (c := (cLs (cXVariable cS cI) rfl)) (tLs (tXVariable tS tK)) rfl (a1 (c := (cLs cI rfl)) (tLs tK) rfl a0)) (con_impl_areVars e38) (.inl (so1 sB so0)) <| st rfl <| o_nt rfl <| st rfl <| mvd rfl rfl <| ite_k h (fun b39 h => gf rfl b39 <| gf rfl b39 <| gf rfl b39 <| gf rfl b39 <| gf rfl b39 <| st rfl <| pick1 rfl b39 (cd := cB) (v := true) rfl rfl <| st rfl <| mvd rfl rfl <| gf rfl rfl <| gf rfl rfl <| gf rfl rfl <| st rfl <| pick1 rfl rfl (cd := cB) (v := true) rfl rfl <| st rfl <| mvd rfl rfl <| gf rfl rfl <| gf rfl rfl <| gf rfl rfl <| gf rfl rfl <| gf rfl rfl <| st rfl <| pick1 rfl rfl (cd := cB) (v := true) rfl rfl <| seqN [(1, .d ((cLs (cXVariable cS cI) rfl).enc v1)), (3, .box ((cXGeo (cLs cI rfl)).enc v0)), (5, .box ((cXTable cI (cLs cI rfl) (cLs cI rfl) cI).enc v2)), (31, .d (cB.enc true))] (by kernel_rfl) <|
    lfn (S := (fun (s28 : Bool) => [(1, .d ((cLs (cXVariable cS cI) rfl).enc v1)), (3, .box ((cXGeo (cLs cI rfl)).enc v0)), (5, .box ((cXTable cI (cLs cI rfl) (cLs cI rfl) cI).enc v2)), (31, .d (cB.enc s28))])) h q29 rfl)
    (fun b39 h => gt' rfl b39 <| st rfl <| mvd rfl rfl <| gt' rfl b39 <| st rfl <| fab rfl rfl rfl rfl <| gt' rfl b39 <| st rfl <| lda rfl rfl rfl rfl rfl rfl <| gt' rfl b39 <| bnd h fun x40 e41 h => st rfl <| o_call (a1 (c := (cLs (cXVariable cS cI) rfl)) (tLs (tXVariable tS tK)) rfl (a1 (c := (cLs cI rfl)) (tLs tK) rfl a0)) (con_impl_isWhere e41) (.inl (so1 sB so0)) <| gt' rfl b39 <| st rfl <| o_nt rfl <| st rfl <| pick0 rfl b39 (cd := cB) (v := (!x40)) rfl rfl <| st rfl <| mvd rfl rfl <| ite_k h (fun b42 h => gf rfl b42 <| gf rfl b42 <| gf rfl b42 <| st rfl <| pick1 rfl b42 (cd := cB) (v := true) rfl rfl <| st rfl <| mvd rfl rfl <| gf rfl rfl <| gf rfl rfl <| gf rfl rfl <| gf rfl rfl <| gf rfl rfl <| st rfl <| pick1 rfl rfl (cd := cB) (v := true) rfl rfl <| seqN [(1, .d ((cLs (cXVariable cS cI) rfl).enc v1)), (3, .box ((cXGeo (cLs cI rfl)).enc v0)), (5, .box ((cXTable cI (cLs cI rfl) (cLs cI rfl) cI).enc v2)), (31, .d (cB.enc true))] (by kernel_rfl) <|
    lfn (S := (fun (s28 : Bool) => [(1, .d ((cLs (cXVariable cS cI) rfl).enc v1)), (3, .box ((cXGeo (cLs cI rfl)).enc v0)), (5, .box ((cXTable cI (cLs cI rfl) (cLs cI rfl) cI).enc v2)), (31, .d (cB.enc s28))])) h q29 rfl)
    (fun b42 h => gt' rfl b42 <| st rfl <| fab rfl rfl rfl rfl <| gt' rfl b42 <| st rfl <| lda rfl rfl rfl rfl rfl rfl <| gt' rfl b42 <| st rfl <| b_lss (k := .i64) rfl rfl <| st rfl <| pick0 rfl b42 (cd := cB) (v := (decide (v2.Sum < (-1 : Int)))) rfl rfl <| st rfl <| mvd rfl rfl <| ite_k h (fun b43 h => gf rfl b43 <| gf rfl b43 <| gf rfl b43 <| gf rfl b43 <| gf rfl b43 <| st rfl <| pick1 rfl b43 (cd := cB) (v := true) rfl rfl <| seqN [(1, .d ((cLs (cXVariable cS cI) rfl).enc v1)), (3, .box ((cXGeo (cLs cI rfl)).enc v0)), (5, .box ((cXTable cI (cLs cI rfl) (cLs cI rfl) cI).enc v2)), (31, .d (cB.enc true))] (by kernel_rfl) <|
    lfn (S := (fun (s28 : Bool) => [(1, .d ((cLs (cXVariable cS cI) rfl).enc v1)), (3, .box ((cXGeo (cLs cI rfl)).enc v0)), (5, .box ((cXTable cI (cLs cI rfl) (cLs cI rfl) cI).enc v2)), (31, .d (cB.enc s28))])) h q29 rfl)
    (fun b43 h => gt' rfl b43 <| st rfl <| fab rfl rfl rfl rfl <| gt' rfl b43 <| st rfl <| lda rfl rfl rfl rfl rfl rfl <| gt' rfl b43 <| st rfl <| mvd rfl rfl <| gt' rfl b43 <| stw rfl <| lens rfl fun l44 => gt' rfl b43 <| st rfl <| b_geq (k := .i64) rfl rfl <| st rfl <| pick0 rfl b43 (cd := cB) (v := (decide ((v1.length : Int) ≤ v2.Sum))) rfl rfl <| seqN [(1, .d ((cLs (cXVariable cS cI) rfl).enc v1)), (3, .box ((cXGeo (cLs cI rfl)).enc v0)), (5, .box ((cXTable cI (cLs cI rfl) (cLs cI rfl) cI).enc v2)), (31, .d (cB.enc (decide ((v1.length : Int) ≤ v2.Sum))))] (by kernel_rfl) <|
    lfn (S := (fun (s28 : Bool) => [(1, .d ((cLs (cXVariable cS cI) rfl).enc v1)), (3, .box ((cXGeo (cLs cI rfl)).enc v0)), (5, .box ((cXTable cI (cLs cI rfl) (cLs cI rfl) cI).enc v2)), (31, .d (cB.enc s28))])) h q29 rfl)))

def rs_impl_areTabled (r : Bool) : List D := [cB.enc r]
def m48 : MC := .seq (.reg [⟨some 3, .box (.t 0), none⟩,
    ⟨some 5, .box (.t 2), none⟩,
    ⟨some 6, .asg (.c (.bool false)), none⟩] [1, 3, 5])
  (.seq (.reg [⟨some 7, .ld 3 1 true, none⟩,
    ⟨some 8, .call 85 [(.t 7)], none⟩,
    ⟨some 9, .mv (.t 8), none⟩,
    ⟨some 10, .mv (.t 1), some (9, true)⟩,
    ⟨some 11, .call 72 [(.t 10)], some (9, true)⟩,
    ⟨some 12, .pick (.t 9) (.t 11) (.c (.bool false)), none⟩,
    ⟨some 13, .mv (.t 12), none⟩,
    ⟨some 14, .ld 3 1 true, some (13, true)⟩,
    ⟨some 15, .mv (.t 1), some (13, true)⟩,
    ⟨some 16, .ld 5 4 true, some (13, true)⟩,
    ⟨some 17, .call 86 [(.t 14), (.t 15), (.t 16)], some (13, true)⟩,
    ⟨some 18, .pick (.t 13) (.t 17) (.c (.bool false)), none⟩,
    ⟨some 6, .asg (.t 18), none⟩] [6])
  (.ret))
theorem con_impl_areTabled {v0 : XGeo} {v1 : (List XVariable)} {v2 : XTable} {r : Bool} (h : sh_impl_areTabled v0 v1 v2 = some r) : Con Tryd.prog 48 [(cXGeo (cLs cI rfl)).enc v0, (cLs (cXVariable cS cI) rfl).enc v1, (cXTable cI (cLs cI rfl) (cLs cI rfl) cI).enc v2] [] (rs_impl_areTabled r) := by
  delta sh_impl_areTabled at h
  refine top (out := none) (f := Tryd.f48) (m := m48) (rs := [.t 6]) (by kernel_rfl) rfl (by kernel_rfl) (by kernel_rfl) (by kernel_rfl) (by kernel_rfl) (by kernel_rfl) ?_
  exact
   ini [(0, .d ((cXGeo (cLs cI rfl)).enc v0)), (1, .d ((cLs (cXVariable cS cI) rfl).enc v1)), (2, .d ((cXTable cI (cLs cI rfl) (cLs cI rfl) cI).enc v2))] rfl <| wpC_seq <| reg_s <| x_box (ss rfl rfl) <| x_box (ss rfl rfl) <| x_asg (sc cB false rfl) <| seqN [(1, .d ((cLs (cXVariable cS cI) rfl).enc v1)), (3, .box ((cXGeo (cLs cI rfl)).enc v0)), (5, .box ((cXTable cI (cLs cI rfl) (cLs cI rfl) cI).enc v2))] (by kernel_rfl) <|
    xn <| wpC_seq <| reg_s <| st rfl <| ldb rfl rfl rfl rfl <| bnd h fun x9 e10 h => st rfl <| o_call (a1 (c := (cXGeo (cLs cI rfl))) (tXGeo (tLs tK)) rfl a0) (con_impl_IsGeo e10) (.inl (so1 sB so0)) <| st rfl <| mvd rfl rfl <| ite_k h (fun b11 h => gt' rfl b11 <| st rfl <| mvd rfl rfl <| gt' rfl b11 <| bnd h fun x12 e13 h => st rfl <| o_call (a1 (c := (cLs (cXVariable cS cI) rfl)) (tLs (tXVariable tS tK)) rfl a0) (con_impl_IsSchema e13) (.inl (so1 sB so0)) <| st rfl <| pick1 rfl b11 (cd := cB) (v := x12) rfl rfl <| st rfl <| mvd rfl rfl <| ite_k h (fun b14 h => gt' rfl b14 <| st rfl <| ldb rfl rfl rfl rfl <| gt' rfl b14 <| st rfl <| mvd rfl rfl <| gt' rfl b14 <| st rfl <| ldb rfl rfl rfl rfl <| gt' rfl b14 <| bnd h fun x15 e16 h => st rfl <| o_call (a1 (c := (cXGeo (cLs cI rfl))) (tXGeo (tLs tK)) rfl (a1 (c := (cLs (cXVariable cS cI) rfl)) (tLs (tXVariable tS tK)) rfl (a1 (c := (cXTable cI (cLs cI rfl) (cLs cI rfl) cI)) (tXTable tK (tLs tK) (tLs tK) tK) rfl a0))) (con_impl_isTable e16) (.inl (so1 sB so0)) <| st rfl <| pick1 rfl b14 (cd := cB) (v := x15) rfl rfl <| x_asg (ss rfl rfl) <| seqN [(6, .d (cB.enc x15))] (by kernel_rfl) <|
    xn <| wpC_ret <| re <| fin h (r1 (ss rfl rfl) <| r0) rfl)
    (fun b14 h => gf rfl b14 <| gf rfl b14 <| gf rfl b14 <| gf rfl b14 <| st rfl <| pick0 rfl b14 (cd := cB) (v := false) rfl rfl <| x_asg (ss rfl rfl) <| seqN [(6, .d (cB.enc false))] (by kernel_rfl) <|
    xn <| wpC_ret <| re <| fin h (r1 (ss rfl rfl) <| r0) rfl))
    (fun b11 h => gf rfl b11 <| gf rfl b11 <| st rfl <| pick0 rfl b11 (cd := cB) (v := false) rfl rfl <| st rfl <| mvd rfl rfl <| gf rfl rfl <| gf rfl rfl <| gf rfl rfl <| gf rfl rfl <| st rfl <| pick0 rfl rfl (cd := cB) (v := false) rfl rfl <| x_asg (ss rfl rfl) <| seqN [(6, .d (cB.enc false))] (by kernel_rfl) <|
    xn <| wpC_ret <| re <| fin h (r1 (ss rfl rfl) <| r0) rfl)

def rs_strconv_Itoa (r : (List UInt8)) : List D := [cS.enc r]
theorem con_strconv_Itoa {v0 : Int} {r : (List UInt8)} (h : sh_strconv_Itoa v0 = some r) : Con Tryd.prog 63 [cI.enc v0] [] (rs_strconv_Itoa r) := by
  unfold sh_strconv_Itoa at h
  split at h
  · rename_i hb
    have hd : r = Go.Lib.decDigits v0.toNat := by
      simp only [Option.some.injEq] at h
      rw [← h, Go.Lib.decDigits]
      by_cases h9 : v0 < 10
      · rw [if_pos h9, dif_pos (by omega)]
      · rw [if_neg h9, dif_neg (by omega), Go.Lib.decDigits, dif_pos (by omega)]; rfl
    have hl : r.length ≤ maxLen := by
      simp only [Option.some.injEq] at h
      have : maxLen = 9223372036854775807 := rfl
      rw [← h]
      split <;> simp <;> omega
    refine ⟨⟨Tryd.f63, _, Tryd.func63, rfl, by kernel_rfl⟩, ?_⟩
    intro w Z vs F hrep h1 h2 h3
    obtain ⟨x, vs2, f1, f2, rfl, e1, r1, rfl, e2⟩ := hrep
    obtain ⟨rfl, _⟩ := RepV.int r1
    have := Tryd.strconv_Itoa_small v0.toNat (by omega) w
    rw [Int.toNat_of_nonneg hb.1] at this
    refine this.mono ?_
    rintro e w' ⟨rfl, rfl⟩
    rw [← hd]
    exact ⟨_, Z, fun _ => 0, fun _ => 0, rfl, ret_below (RepV.mkStr hl) (Go.RowKit.Below.refl _ _)⟩
  · cases h

def rs_laws_eqGeo (r : Bool) : List D := [cB.enc r]
def m17 : MC := .seq (.reg [⟨some 2, .box (.t 0), none⟩,
    ⟨some 3, .box (.t 1), none⟩,
    ⟨some 4, .asg (.c (.bool false)), none⟩] [2, 3])
  (.seq (.kp [] (.seq (.reg [⟨some 5, .fa 2 0 0, none⟩,
    ⟨some 6, .ld 5 1 false, none⟩,
    ⟨some 7, .fa 3 0 0, none⟩,
    ⟨some 8, .ld 7 1 false, none⟩,
    ⟨some 9, .call 30 [(.t 6), (.t 8)], none⟩,
    ⟨some 10, .nt (.t 9), none⟩] [10])
  (.cond (.t 10) (.seq (.reg [⟨some 4, .asg (.c (.bool false)), none⟩] [4])
  (.ret)) (.skip))))
  (.seq (.reg [⟨some 4, .asg (.c (.bool true)), none⟩] [4])
  (.ret)))
theorem con_laws_eqGeo {v0 : XGeo} {v1 : XGeo} {r : Bool} (h : sh_laws_eqGeo v0 v1 = some r) : Con Tryd.prog 17 [(cXGeo (cLs cI rfl)).enc v0, (cXGeo (cLs cI rfl)).enc v1] [] (rs_laws_eqGeo r) := by
  delta sh_laws_eqGeo at h
  refine top (out := none) (f := Tryd.f17) (m := m17) (rs := [.t 4]) (by kernel_rfl) rfl (by kernel_rfl) (by kernel_rfl) (by kernel_rfl) (by kernel_rfl) (by kernel_rfl) ?_
  exact
   ini [(0, .d ((cXGeo (cLs cI rfl)).enc v0)), (1, .d ((cXGeo (cLs cI rfl)).enc v1))] rfl <| wpC_seq <| reg_s <| x_box (ss rfl rfl) <| x_box (ss rfl rfl) <| x_asg (sc cB false rfl) <| seqN [(2, .box ((cXGeo (cLs cI rfl)).enc v0)), (3, .box ((cXGeo (cLs cI rfl)).enc v1))] (by kernel_rfl) <|
    xn <| wpC_seq <| wpC_kp <| wpC_seq <| reg_s <| st rfl <| fab rfl rfl rfl rfl <| st rfl <| lda rfl rfl rfl rfl rfl rfl <| st rfl <| fab rfl rfl rfl rfl <| st rfl <| lda rfl rfl rfl rfl rfl rfl <| bnd h fun x8 e9 h => st rfl <| o_call (a1 (c := (cLs cI rfl)) (tLs tK) rfl (a1 (c := (cLs cI rfl)) (tLs tK) rfl a0)) (con_laws_eqIntS e9) (.inl (so1 sB so0)) <| st rfl <| o_nt rfl <| seqN [(10, .d (cB.enc (!x8)))] (by kernel_rfl) <|
    xn <| cnd rfl h (fun b10 h => wpC_seq <| reg_s <| x_asg (sc cB false rfl) <| seqN [(4, .d (cB.enc false))] (by kernel_rfl) <|
    xn <| wpC_ret <| rt <| rt <| re <| fin h (r1 (ss rfl rfl) <| r0) rfl)
    (fun b10 h => wpC_skip <| kpN [] (by kernel_rfl) <| xn <| wpC_seq <| reg_s <| x_asg (sc cB true rfl) <| seqN [(4, .d (cB.enc true))] (by kernel_rfl) <|
    xn <| wpC_ret <| re <| fin h (r1 (ss rfl rfl) <| r0) rfl)

def rs_laws_eqTable (r : Bool) : List D := [cB.enc r]
def m19 : MC := .seq (.reg [⟨some 2, .box (.t 0), none⟩,
    ⟨some 3, .box (.t 1), none⟩,
    ⟨some 4, .asg (.c (.bool false)), none⟩] [2, 3])
  (.seq (.kp [2, 3] (.seq (.reg [⟨some 5, .fa 2 0 0, none⟩,
    ⟨some 6, .ld 5 1 false, none⟩,
    ⟨some 7, .fa 3 0 0, none⟩,
    ⟨some 8, .ld 7 1 false, none⟩,
    ⟨some 9, .bin .neq (.t 6) (.t 8), none⟩] [2, 3, 9])
  (.cond (.t 9) (.seq (.reg [⟨some 4, .asg (.c (.bool false)), none⟩] [4])
  (.ret)) (.skip))))
  (.seq (.kp [2, 3] (.seq (.reg [⟨some 10, .fa 2 1 1, none⟩,
    ⟨some 11, .ld 10 1 false, none⟩,
    ⟨some 12, .fa 3 1 1, none⟩,
    ⟨some 13, .ld 12 1 false, none⟩,
    ⟨some 14, .call 30 [(.t 11), (.t 13)], none⟩,
    ⟨some 15, .nt (.t 14), none⟩] [2, 3, 15])
  (.cond (.t 15) (.seq (.reg [⟨some 4, .asg (.c (.bool false)), none⟩] [4])
  (.ret)) (.skip))))
  (.seq (.kp [2, 3] (.seq (.reg [⟨some 16, .fa 2 2 2, none⟩,
    ⟨some 17, .ld 16 1 false, none⟩,
    ⟨some 18, .fa 3 2 2, none⟩,
    ⟨some 19, .ld 18 1 false, none⟩,
    ⟨some 20, .call 30 [(.t 17), (.t 19)], none⟩,
    ⟨some 21, .nt (.t 20), none⟩] [2, 3, 21])
  (.cond (.t 21) (.seq (.reg [⟨some 4, .asg (.c (.bool false)), none⟩] [4])
  (.ret)) (.skip))))
  (.seq (.kp [] (.seq (.reg [⟨some 22, .fa 2 3 3, none⟩,
    ⟨some 23, .ld 22 1 false, none⟩,
    ⟨some 24, .fa 3 3 3, none⟩,
    ⟨some 25, .ld 24 1 false, none⟩,
    ⟨some 26, .bin .neq (.t 23) (.t 25), none⟩] [26])
  (.cond (.t 26) (.seq (.reg [⟨some 4, .asg (.c (.bool false)), none⟩] [4])
  (.ret)) (.skip))))
  (.seq (.reg [⟨some 4, .asg (.c (.bool true)), none⟩] [4])
  (.ret))))))
theorem con_laws_eqTable {v0 : XTable} {v1 : XTable} {r : Bool} (h : sh_laws_eqTable v0 v1 = some r) : Con Tryd.prog 19 [(cXTable cI (cLs cI rfl) (cLs cI rfl) cI).enc v0, (cXTable cI (cLs cI rfl) (cLs cI rfl) cI).enc v1] [] (rs_laws_eqTable r) := by
  delta sh_laws_eqTable at h
  refine top (out := none) (f := Tryd.f19) (m := m19) (rs := [.t 4]) (by kernel_rfl) rfl (by kernel_rfl) (by kernel_rfl) (by kernel_rfl) (by kernel_rfl) (by kernel_rfl) ?_
  exact
   ini [(0, .d ((cXTable cI (cLs cI rfl) (cLs cI rfl) cI).enc v0)), (1, .d ((cXTable cI (cLs cI rfl) (cLs cI rfl) cI).enc v1))] rfl <| wpC_seq <| reg_s <| x_box (ss rfl rfl) <| x_box (ss rfl rfl) <| x_asg (sc cB false rfl) <| seqN [(2, .box ((cXTable cI (cLs cI rfl) (cLs cI rfl) cI).enc v0)), (3, .box ((cXTable cI (cLs cI rfl) (cLs cI rfl) cI).enc v1))] (by kernel_rfl) <|
    xn <| wpC_seq <| wpC_kp <| wpC_seq <| reg_s <| st rfl <| fab rfl rfl rfl rfl <| st rfl <| lda rfl rfl rfl rfl rfl rfl <| st rfl <| fab rfl rfl rfl rfl <| st rfl <| lda rfl rfl rfl rfl rfl rfl <| st rfl <| b_neq (k := .i64) rfl rfl <| seqN [(2, .box ((cXTable cI (cLs cI rfl) (cLs cI rfl) cI).enc v0)), (3, .box ((cXTable cI (cLs cI rfl) (cLs cI rfl) cI).enc v1)), (9, .d (cB.enc (decide (v0.Level ≠ v1.Level))))] (by kernel_rfl) <|
    xn <| cnd rfl h (fun b2 h => wpC_seq <| reg_s <| x_asg (sc cB false rfl) <| seqN [(4, .d (cB.enc false))] (by kernel_rfl) <|
    xn <| wpC_ret <| rt <| rt <| re <| fin h (r1 (ss rfl rfl) <| r0) rfl)
    (fun b2 h => wpC_skip <| kpN [(2, .box ((cXTable cI (cLs cI rfl) (cLs cI rfl) cI).enc v0)), (3, .box ((cXTable cI (cLs cI rfl) (cLs cI rfl) cI).enc v1))] (by kernel_rfl) <| xn <| wpC_seq <| wpC_kp <| wpC_seq <| reg_s <| st rfl <| fab rfl rfl rfl rfl <| st rfl <| lda rfl rfl rfl rfl rfl rfl <| st rfl <| fab rfl rfl rfl rfl <| st rfl <| lda rfl rfl rfl rfl rfl rfl <| bnd h fun x10 e11 h => st rfl <| o_call (a1 (c := (cLs cI rfl)) (tLs tK) rfl (a1 (c := (cLs cI rfl)) (tLs tK) rfl a0)) (con_laws_eqIntS e11) (.inl (so1 sB so0)) <| st rfl <| o_nt rfl <| seqN [(2, .box ((cXTable cI (cLs cI rfl) (cLs cI rfl) cI).enc v0)), (3, .box ((cXTable cI (cLs cI rfl) (cLs cI rfl) cI).enc v1)), (15, .d (cB.enc (!x10)))] (by kernel_rfl) <|
    xn <| cnd rfl h (fun b12 h => wpC_seq <| reg_s <| x_asg (sc cB false rfl) <| seqN [(4, .d (cB.enc false))] (by kernel_rfl) <|
    xn <| wpC_ret <| rt <| rt <| re <| fin h (r1 (ss rfl rfl) <| r0) rfl)
    (fun b12 h => wpC_skip <| kpN [(2, .box ((cXTable cI (cLs cI rfl) (cLs cI rfl) cI).enc v0)), (3, .box ((cXTable cI (cLs cI rfl) (cLs cI rfl) cI).enc v1))] (by kernel_rfl) <| xn <| wpC_seq <| wpC_kp <| wpC_seq <| reg_s <| st rfl <| fab rfl rfl rfl rfl <| st rfl <| lda rfl rfl rfl rfl rfl rfl <| st rfl <| fab rfl rfl rfl rfl <| st rfl <| lda rfl rfl rfl rfl rfl rfl <| bnd h fun x20 e21 h => st rfl <| o_call (a1 (c := (cLs cI rfl)) (tLs tK) rfl (a1 (c := (cLs cI rfl)) (tLs tK) rfl a0)) (con_laws_eqIntS e21) (.inl (so1 sB so0)) <| st rfl <| o_nt rfl <| seqN [(2, .box ((cXTable cI (cLs cI rfl) (cLs cI rfl) cI).enc v0)), (3, .box ((cXTable cI (cLs cI rfl) (cLs cI rfl) cI).enc v1)), (21, .d (cB.enc (!x20)))] (by kernel_rfl) <|
    xn <| cnd rfl h (fun b22 h => wpC_seq <| reg_s <| x_asg (sc cB false rfl) <| seqN [(4, .d (cB.enc false))] (by kernel_rfl) <|
    xn <| wpC_ret <| rt <| rt <| re <| fin h (r1 (ss rfl rfl) <| r0) rfl)
    (fun b22 h => wpC_skip <| kpN [(2, .box ((cXTable cI (cLs cI rfl) (cLs cI rfl) cI).enc v0)), (3, .box ((cXTable cI (cLs cI rfl) (cLs cI rfl) cI).enc v1))] (by kernel_rfl) <| xn <| wpC_seq <| wpC_kp <| wpC_seq <| reg_s <| st rfl <| fab rfl rfl rfl rfl <| st rfl <| lda rfl rfl rfl rfl rfl rfl <| st rfl <| fab rfl rfl rfl rfl <| st rfl <| lda rfl rfl rfl rfl rfl rfl <| st rfl <| b_neq (k := .i64) rfl rfl <| seqN [(26, .d (cB.enc (decide (v0.Sum ≠ v1.Sum))))] (by kernel_rfl) <|
    xn <| cnd rfl h (fun b24 h => wpC_seq <| reg_s <| x_asg (sc cB false rfl) <| seqN [(4, .d (cB.enc false))] (by kernel_rfl) <|
    xn <| wpC_ret <| rt <| rt <| re <| fin h (r1 (ss rfl rfl) <| r0) rfl)
    (fun b24 h => wpC_skip <| kpN [] (by kernel_rfl) <| xn <| wpC_seq <| reg_s <| x_asg (sc cB true rfl) <| seqN [(4, .d (cB.enc true))] (by kernel_rfl) <|
    xn <| wpC_ret <| re <| fin h (r1 (ss rfl rfl) <| r0) rfl))))

def rs_spec_sAt (r : (List Int)) : List D := [(cLo cI).enc r]
def m118 : MC := .seq (.reg [⟨some 4, .asg (.c (.slice true [])), none⟩] [0, 1])
  (.seq (.reg [⟨some 7, .mv (.t 0), none⟩,
    ⟨some 8, .len false (.t 7), none⟩,
    ⟨some 9, .mk (.int .i64 0) (.t 8), none⟩,
    ⟨some 5, .asg (.t 9), none⟩] [0, 1, 5])
  (.seq (.kp [5] (.seq (.reg [⟨some 10, .mv (.t 0), none⟩,
    ⟨some 11, .len false (.t 10), none⟩,
    ⟨some 12, .bin .sub (.t 11) (.c (.int .i64 1)), none⟩,
    ⟨some 6, .asg (.t 12), none⟩] [0, 1, 5, 6])
  (.blk 0 (.loop (.seq (.kp [0, 1, 5, 6] (.seq (.reg [⟨some 13, .mv (.t 6), none⟩,
    ⟨some 14, .bin .geq (.t 13) (.c (.int .i64 0)), none⟩] [0, 1, 5, 6, 14])
  (.cond (.t 14) (.skip) (.exit 0))))
  (.seq (.kp [0, 1, 5, 6] (.blk 1 (.seq (.reg [⟨some 17, .mv (.t 5), none⟩,
    ⟨some 18, .mv (.t 6), none⟩,
    ⟨some 19, .mv (.t 1), none⟩,
    ⟨some 20, .mv (.t 0), none⟩,
    ⟨some 21, .mv (.t 6), none⟩,
    ⟨some 22, .ia 20 (.t 21) 2, none⟩,
    ⟨some 23, .fa 22 1 1, none⟩,
    ⟨some 24, .ld 23 1 false, none⟩,
    ⟨some 25, .bin .rem (.t 19) (.t 24), none⟩,
    ⟨some 26, .ia 17 (.t 18) 1, none⟩,
    ⟨none, .st 26 (.t 25) 1, none⟩] [0, 1, 5, 6])
  (.reg [⟨some 27, .mv (.t 1), none⟩,
    ⟨some 28, .mv (.t 0), none⟩,
    ⟨some 29, .mv (.t 6), none⟩,
    ⟨some 30, .ia 28 (.t 29) 2, none⟩,
    ⟨some 31, .fa 30 1 1, none⟩,
    ⟨some 32, .ld 31 1 false, none⟩,
    ⟨some 33, .bin .quo (.t 27) (.t 32), none⟩,
    ⟨some 1, .asg (.t 33), none⟩] [0, 1, 5, 6]))))
  (.reg [⟨some 15, .mv (.t 6), none⟩,
    ⟨some 16, .bin .sub (.t 15) (.c (.int .i64 1)), none⟩,
    ⟨some 6, .asg (.t 16), none⟩] [0, 1, 5, 6])))))))
  (.seq (.reg [⟨some 34, .mv (.t 5), none⟩,
    ⟨some 4, .asg (.t 34), none⟩] [4])
  (.ret))))
theorem con_spec_sAt {v0 : (List XVariable)} {v1 : Int} {r : (List Int)} (h : sh_spec_sAt v0 v1 = some r) : Con Tryd.prog 118 [(cLs (cXVariable cS cI) rfl).enc v0, cI.enc v1] [] (rs_spec_sAt r) := by
  delta sh_spec_sAt at h
  refine top (out := none) (f := Tryd.f118) (m := m118) (rs := [.t 4]) (by kernel_rfl) rfl (by kernel_rfl) (by kernel_rfl) (by kernel_rfl) (by kernel_rfl) (by kernel_rfl) ?_
  exact
   ini [(0, .d ((cLs (cXVariable cS cI) rfl).enc v0)), (1, .d (cI.enc v1))] rfl <| wpC_seq <| reg_s <| x_asg (sc (cLo cI) ([] : List Int) rfl) <| seqN [(0, .d ((cLs (cXVariable cS cI) rfl).enc v0)), (1, .d (cI.enc v1))] (by kernel_rfl) <|
    xn <| wpC_seq <| reg_s <| st rfl <| mvd rfl rfl <| stw rfl <| lens rfl fun l4 => mkO_k h fun i5 l6 h => st rfl <| o_mk (c := cI) (a0 := (0 : Int)) rfl (k := .i64) rfl i5 l6 <| x_asg (so rfl rfl) <| seqN [(0, .d ((cLs (cXVariable cS cI) rfl).enc v0)), (1, .d (cI.enc v1)), (5, .d ((cLo cI).enc (List.replicate ((v0.length : Int)).toNat (0 : Int))))] (by kernel_rfl) <|
    xn <| wpC_seq <| wpC_kp <| wpC_seq <| reg_s <| st rfl <| mvd rfl rfl <| stw rfl <| lens rfl fun l126 => ckI_k h fun i127 h => st rfl <| b_sub (k := .i64) rfl rfl i127 <| x_asg (ss rfl rfl) <| seqN [(0, .d ((cLs (cXVariable cS cI) rfl).enc v0)), (1, .d (cI.enc v1)), (5, .d ((cLo cI).enc (List.replicate ((v0.length : Int)).toNat (0 : Int)))), (6, .d (cI.enc ((v0.length : Int) - (1 : Int))))] (by kernel_rfl) <|
    xn <| wpC_blk <| lpF (fun (s128 : (Int × (List Int) × Int)) => [(0, .d ((cLs (cXVariable cS cI) rfl).enc v0)), (1, .d (cI.enc s128.1)), (5, .d ((cLo cI).enc s128.2.1)), (6, .d (cI.enc s128.2.2))]) (v1, (List.replicate ((v0.length : Int)).toNat (0 : Int)), ((v0.length : Int) - (1 : Int))) rfl h
    fun G205 nx203 s128 hn204 h => wpC_seq <| wpC_kp <| wpC_seq <| reg_s <| st rfl <| mvd rfl rfl <| st rfl <| b_geq (k := .i64) rfl rfl <| seqN [(0, .d ((cLs (cXVariable cS cI) rfl).enc v0)), (1, .d (cI.enc s128.1)), (5, .d ((cLo cI).enc s128.2.1)), (6, .d (cI.enc s128.2.2)), (14, .d (cB.enc (decide ((0 : Int) ≤ s128.2.2))))] (by kernel_rfl) <|
    xn <| cnd rfl h (fun b207 h => wpC_skip <| kpN [(0, .d ((cLs (cXVariable cS cI) rfl).enc v0)), (1, .d (cI.enc s128.1)), (5, .d ((cLo cI).enc s128.2.1)), (6, .d (cI.enc s128.2.2))] (by kernel_rfl) <| xn <| wpC_seq <| wpC_kp <| wpC_blk <| wpC_seq <| reg_s <| st rfl <| mvo rfl rfl <| st rfl <| mvd rfl rfl <| st rfl <| mvd rfl rfl <| st rfl <| mvd rfl rfl <| st rfl <| mvd rfl rfl <| getO_k h fun x231 i232 g233 h => st rfl <| ias rfl rfl i232 g233 rfl <| st rfl <| fai rfl rfl rfl rfl <| st rfl <| ldi rfl rfl rfl rfl <| ck_k h fun i234 h => st rfl <| b_rem (k := .i64) rfl rfl i234 <| getO_k h fun x235 i236 g237 h => st rfl <| iar rfl rfl rfl rfl i236 g237 rfl <| x_sta ((cLo cI).enc (s128.2.1.set (s128.2.2).toNat (s128.1.tmod x231.Levels))) (ss rfl rfl) rfl rfl (Ln.idx g237 Ln.nil) (Cd.h_sz cI _) rfl <| seqN [(0, .d ((cLs (cXVariable cS cI) rfl).enc v0)), (1, .d (cI.enc s128.1)), (5, .d ((cLo cI).enc (s128.2.1.set (s128.2.2).toNat (s128.1.tmod x231.Levels)))), (6, .d (cI.enc s128.2.2))] (by kernel_rfl) <|
    xn <| reg_s <| st rfl <| mvd rfl rfl <| st rfl <| mvd rfl rfl <| st rfl <| mvd rfl rfl <| st rfl <| ias rfl rfl i232 g233 rfl <| st rfl <| fai rfl rfl rfl rfl <| st rfl <| ldi rfl rfl rfl rfl <| ck_k h fun i238 h => ckI_k h fun i239 h => st rfl <| b_quo (k := .i64) rfl rfl i238 i239 <| x_asg (ss rfl rfl) <| seqN [(0, .d ((cLs (cXVariable cS cI) rfl).enc v0)), (1, .d (cI.enc (s128.1.tdiv x231.Levels))), (5, .d ((cLo cI).enc (s128.2.1.set (s128.2.2).toNat (s128.1.tmod x231.Levels)))), (6, .d (cI.enc s128.2.2))] (by kernel_rfl) <|
    xbb <| kpN [(0, .d ((cLs (cXVariable cS cI) rfl).enc v0)), (1, .d (cI.enc (s128.1.tdiv x231.Levels))), (5, .d ((cLo cI).enc (s128.2.1.set (s128.2.2).toNat (s128.1.tmod x231.Levels)))), (6, .d (cI.enc s128.2.2))] (by kernel_rfl) <| xn <| reg_s <| st rfl <| mvd rfl rfl <| ckI_k h fun i240 h => st rfl <| b_sub (k := .i64) rfl rfl i240 <| x_asg (ss rfl rfl) <| seqN [(0, .d ((cLs (cXVariable cS cI) rfl).enc v0)), (1, .d (cI.enc (s128.1.tdiv x231.Levels))), (5, .d ((cLo cI).enc (s128.2.1.set (s128.2.2).toNat (s128.1.tmod x231.Levels)))), (6, .d (cI.enc (s128.2.2 - (1 : Int))))] (by kernel_rfl) <|
    xn <| hn204 ((s128.1.tdiv x231.Levels), (s128.2.1.set (s128.2.2).toNat (s128.1.tmod x231.Levels)), (s128.2.2 - (1 : Int))) h)
    (fun b207 h => wpC_exit <| xt <| xt <| xt <| xb <| kpN [(5, .d ((cLo cI).enc s128.2.1))] (by kernel_rfl) <| xn <| wpC_seq <| reg_s <| st rfl <| mvo rfl rfl <| x_asg (sr rfl rfl) <| seqN [(4, .d ((cLo cI).enc s128.2.1))] (by kernel_rfl) <|
    xn <| wpC_ret <| re <| fin h (r1 (so rfl rfl) <| r0) rfl)

def rs_spec_CellAt (r : (Int × (List Int) × Bool)) : List D := [cI.enc r.1, (cLo cI).enc r.2.1, cB.enc r.2.2]
def m91 : MC := .seq (.reg [⟨some 4, .box (.t 0), none⟩,
    ⟨some 6, .box (.t 2), none⟩,
    ⟨some 8, .asg (.c (.int .i64 0)), none⟩,
    ⟨some 9, .asg (.c (.slice true [])), none⟩,
    ⟨some 10, .asg (.c (.bool false)), none⟩] [1, 3, 4, 6])
  (.seq (.kp [1, 3, 4, 6] (.seq (.reg [⟨some 13, .ld 4 1 true, none⟩,
    ⟨some 14, .mv (.t 1), none⟩,
    ⟨some 15, .ld 6 4 true, none⟩,
    ⟨some 16, .call 45 [(.t 13), (.t 14), (.t 15)], none⟩,
    ⟨some 17, .nt (.t 16), none⟩,
    ⟨some 18, .mv (.t 17), none⟩,
    ⟨some 19, .mv (.t 3), some (18, false)⟩,
    ⟨some 20, .ld 4 1 true, some (18, false)⟩,
    ⟨some 21, .mv (.t 1), some (18, false)⟩,
    ⟨some 22, .ld 6 4 true, some (18, false)⟩,
    ⟨some 23, .call 52 [(.t 20), (.t 21), (.t 22)], some (18, false)⟩,
    ⟨some 24, .bin .sub (.t 23) (.c (.int .i64 1)), some (18, false)⟩,
    ⟨some 25, .call 51 [(.t 19), (.c (.int .i64 0)), (.t 24)], some (18, false)⟩,
    ⟨some 26, .nt (.t 25), some (18, false)⟩,
    ⟨some 27, .pick (.t 18) (.c (.bool true)) (.t 26), none⟩] [1, 3, 4, 6, 27])
  (.cond (.t 27) (.seq (.reg [⟨some 8, .asg (.c (.int .i64 0)), none⟩,
    ⟨some 9, .asg (.c (.slice true [])), none⟩,
    ⟨some 10, .asg (.c (.bool false)), none⟩] [8, 9, 10])
  (.ret)) (.skip))))
  (.seq (.reg [⟨some 28, .mv (.t 1), none⟩,
    ⟨some 29, .fa 6 1 1, none⟩,
    ⟨some 30, .ld 29 1 false, none⟩,
    ⟨some 31, .call 90 [(.t 28), (.t 30)], none⟩,
    ⟨some 11, .asg (.t 31), none⟩] [3, 4, 6, 11])
  (.seq (.reg [⟨some 32, .mv (.t 11), none⟩,
    ⟨some 33, .call 89 [(.t 32)], none⟩,
    ⟨some 12, .asg (.t 33), none⟩] [3, 4, 6, 11, 12])
  (.seq (.drw [⟨0, ⟨some 34, .ld 4 1 true, none⟩, [35, 36, 37, 38, 39, 40, 41, 42, 43, 44, 45, 46, 47]⟩,
    ⟨1, ⟨some 35, .fa 6 0 0, none⟩, [34, 36, 37, 38, 39, 40, 41, 42, 43, 44, 45, 46, 47]⟩,
    ⟨2, ⟨some 36, .ld 35 1 false, none⟩, [34, 37, 38, 39, 40, 41, 42, 43, 44, 45, 46, 47]⟩,
    ⟨3, ⟨some 37, .call 79 [(.t 34), (.t 36)], none⟩, [38, 39, 40, 41, 42, 43, 44, 45, 46, 47]⟩,
    ⟨4, ⟨some 38, .mv (.t 3), none⟩, [34, 35, 36, 37, 39, 40, 41, 42, 43, 44, 45, 46, 47]⟩,
    ⟨5, ⟨some 39, .mv (.t 12), none⟩, [34, 35, 36, 37, 38, 40, 41, 42, 43, 44, 45, 46, 47]⟩,
    ⟨6, ⟨some 40, .bin .quo (.t 38) (.t 39), none⟩, [34, 35, 36, 37, 41, 42, 43, 44, 45, 46, 47]⟩,
    ⟨7, ⟨some 41, .ia 37 (.t 40) 1, none⟩, [42, 43, 44, 45, 46, 47]⟩,
    ⟨8, ⟨some 42, .ld 41 1 false, none⟩, [43, 44, 45, 46, 47]⟩,
    ⟨9, ⟨some 43, .mv (.t 11), none⟩, [34, 35, 36, 37, 38, 39, 40, 41, 42, 44, 45, 46, 47]⟩,
    ⟨10, ⟨some 44, .mv (.t 3), none⟩, [34, 35, 36, 37, 38, 39, 40, 41, 42, 43, 45, 46, 47]⟩,
    ⟨11, ⟨some 45, .mv (.t 12), none⟩, [34, 35, 36, 37, 38, 39, 40, 41, 42, 43, 44, 46, 47]⟩,
    ⟨12, ⟨some 46, .bin .rem (.t 44) (.t 45), none⟩, [34, 35, 36, 37, 38, 39, 40, 41, 42, 43, 47]⟩,
    ⟨13, ⟨some 47, .call 118 [(.t 43), (.t 46)], none⟩, [38, 39, 40, 41, 42]⟩]
    [(14, ⟨some 8, .asg (.t 42), none⟩),
    (15, ⟨some 9, .asg (.t 47), none⟩),
    (16, ⟨some 10, .asg (.c (.bool true)), none⟩)] [8, 9, 10])
  (.ret)))))
theorem con_spec_CellAt {v0 : XGeo} {v1 : (List XVariable)} {v2 : XTable} {v3 : Int} {r : (Int × (List Int) × Bool)} (h : sh_spec_CellAt v0 v1 v2 v3 = some r) : Con Tryd.prog 91 [(cXGeo (cLs cI rfl)).enc v0, (cLs (cXVariable cS cI) rfl).enc v1, (cXTable cI (cLs cI rfl) (cLs cI rfl) cI).enc v2, cI.enc v3] [] (rs_spec_CellAt r) := by
  delta sh_spec_CellAt at h
  refine top (out := none) (f := Tryd.f91) (m := m91) (rs := [.t 8, .t 9, .t 10]) (by kernel_rfl) rfl (by kernel_rfl) (by kernel_rfl) (by kernel_rfl) (by kernel_rfl) (by kernel_rfl) ?_
  exact
   ini [(0, .d ((cXGeo (cLs cI rfl)).enc v0)), (1, .d ((cLs (cXVariable cS cI) rfl).enc v1)), (2, .d ((cXTable cI (cLs cI rfl) (cLs cI rfl) cI).enc v2)), (3, .d (cI.enc v3))] rfl <| wpC_seq <| reg_s <| x_box (ss rfl rfl) <| x_box (ss rfl rfl) <| x_asg (sc cI (0 : Int) rfl) <| x_asg (sc (cLo cI) ([] : List Int) rfl) <| x_asg (sc cB false rfl) <| seqN [(1, .d ((cLs (cXVariable cS cI) rfl).enc v1)), (3, .d (cI.enc v3)), (4, .box ((cXGeo (cLs cI rfl)).enc v0)), (6, .box ((cXTable cI (cLs cI rfl) (cLs cI rfl) cI).enc v2))] (by kernel_rfl) <|
    xn <| wpC_seq <| wpC_kp <| wpC_seq <| reg_s <| st rfl <| ldb rfl rfl rfl rfl <| st rfl <| mvd rfl rfl <| st rfl <| ldb rfl rfl rfl rfl <| bnd h fun x26 e27 h => st rfl <| o_call (a1 (c := (cXGeo (cLs cI rfl))) (tXGeo (tLs tK)) rfl (a1 (c := (cLs (cXVariable cS cI) rfl)) (tLs (tXVariable tS tK)) rfl (a1 (c := (cXTable cI (cLs cI rfl) (cLs cI rfl) cI)) (tXTable tK (tLs tK) (tLs tK) tK) rfl a0))) (con_spec_uGood e27) (.inl (so1 sB so0)) <| st rfl <| o_nt rfl <| st rfl <| mvd rfl rfl <| ite_k h (fun b28 h => gf rfl b28 <| gf rfl b28 <| gf rfl b28 <| gf rfl b28 <| gf rfl b28 <| gf rfl b28 <| gf rfl b28 <| gf rfl b28 <| st rfl <| pick1 rfl b28 (cd := cB) (v := true) rfl rfl <| seqN [(1, .d ((cLs (cXVariable cS cI) rfl).enc v1)), (3, .d (cI.enc v3)), (4, .box ((cXGeo (cLs cI rfl)).enc v0)), (6, .box ((cXTable cI (cLs cI rfl) (cLs cI rfl) cI).enc v2)), (27, .d (cB.enc true))] (by kernel_rfl) <|
    xn <| cnd1 rfl rfl <| wpC_seq <| reg_s <| x_asg (sc cI (0 : Int) rfl) <| x_asg (sc (cLo cI) ([] : List Int) rfl) <| x_asg (sc cB false rfl) <| seqN [(8, .d (cI.enc (0 : Int))), (9, .d ((cLo cI).enc ([] : List Int))), (10, .d (cB.enc false))] (by kernel_rfl) <|
    xn <| wpC_ret <| rt <| rt <| re <| fin h (r1 (ss rfl rfl) <| r1 (so rfl rfl) <| r1 (ss rfl rfl) <| r0) rfl)
    (fun b28 h => gt' rfl b28 <| st rfl <| mvd rfl rfl <| gt' rfl b28 <| st rfl <| ldb rfl rfl rfl rfl <| gt' rfl b28 <| st rfl <| mvd rfl rfl <| gt' rfl b28 <| st rfl <| ldb rfl rfl rfl rfl <| gt' rfl b28 <| bnd h fun x29 e30 h => st rfl <| o_call (a1 (c := (cXGeo (cLs cI rfl))) (tXGeo (tLs tK)) rfl (a1 (c := (cLs (cXVariable cS cI) rfl)) (tLs (tXVariable tS tK)) rfl (a1 (c := (cXTable cI (cLs cI rfl) (cLs cI rfl) cI)) (tXTable tK (tLs tK) (tLs tK) tK) rfl a0))) (con_spec_uCount e30) (.inl (so1 sK so0)) <| gt' rfl b28 <| ckI_k h fun i31 h => st rfl <| b_sub (k := .i64) rfl rfl i31 <| gt' rfl b28 <| bnd h fun x32 e33 h => st rfl <| o_call (a1 (c := cI) tK rfl (a1 (c := cI) tK rfl (a1 (c := cI) tK rfl a0))) (con_spec_l1In e33) (.inl (so1 sB so0)) <| gt' rfl b28 <| st rfl <| o_nt rfl <| st rfl <| pick0 rfl b28 (cd := cB) (v := (!x32)) rfl rfl <| seqN [(1, .d ((cLs (cXVariable cS cI) rfl).enc v1)), (3, .d (cI.enc v3)), (4, .box ((cXGeo (cLs cI rfl)).enc v0)), (6, .box ((cXTable cI (cLs cI rfl) (cLs cI rfl) cI).enc v2)), (27, .d (cB.enc (!x32)))] (by kernel_rfl) <|
    xn <| cnd rfl h (fun b34 h => wpC_seq <| reg_s <| x_asg (sc cI (0 : Int) rfl) <| x_asg (sc (cLo cI) ([] : List Int) rfl) <| x_asg (sc cB false rfl) <| seqN [(8, .d (cI.enc (0 : Int))), (9, .d ((cLo cI).enc ([] : List Int))), (10, .d (cB.enc false))] (by kernel_rfl) <|
    xn <| wpC_ret <| rt <| rt <| re <| fin h (r1 (ss rfl rfl) <| r1 (so rfl rfl) <| r1 (ss rfl rfl) <| r0) rfl)
    (fun b34 h => wpC_skip <| kpN [(1, .d ((cLs (cXVariable cS cI) rfl).enc v1)), (3, .d (cI.enc v3)), (4, .box ((cXGeo (cLs cI rfl)).enc v0)), (6, .box ((cXTable cI (cLs cI rfl) (cLs cI rfl) cI).enc v2))] (by kernel_rfl) <| xn <| wpC_seq <| reg_s <| st rfl <| mvd rfl rfl <| st rfl <| fab rfl rfl rfl rfl <| st rfl <| lda rfl rfl rfl rfl rfl rfl <| bnd h fun x37 e38 h => st rfl <| o_call (a1 (c := (cLs (cXVariable cS cI) rfl)) (tLs (tXVariable tS tK)) rfl (a1 (c := (cLs cI rfl)) (tLs tK) rfl a0)) (con_spec_sPart e38) (.inl (so1 (sLo (sXVariable sS sK)) so0)) <| x_asg (so rfl rfl) <| seqN [(3, .d (cI.enc v3)), (4, .box ((cXGeo (cLs cI rfl)).enc v0)), (6, .box ((cXTable cI (cLs cI rfl) (cLs cI rfl) cI).enc v2)), (11, .d ((cLo (cXVariable cS cI)).enc x37))] (by kernel_rfl) <|
    xn <| wpC_seq <| reg_s <| st rfl <| mvo rfl rfl <| bnd h fun x41 e42 h => st rfl <| o_call (a1 (c := (cLo (cXVariable cS cI))) (tLo (tXVariable tS tK)) rfl a0) (con_spec_sCount e42) (.inl (so1 sK so0)) <| x_asg (ss rfl rfl) <| seqN [(3, .d (cI.enc v3)), (4, .box ((cXGeo (cLs cI rfl)).enc v0)), (6, .box ((cXTable cI (cLs cI rfl) (cLs cI rfl) cI).enc v2)), (11, .d ((cLo (cXVariable cS cI)).enc x37)), (12, .d (cI.enc x41))] (by kernel_rfl) <|
    xn <| wpC_seq <| drw_s <| pst rfl <| ldb rfl rfl rfl rfl ⟨rfl, pst rfl <| fab rfl rfl rfl rfl ⟨rfl, pst rfl <| lda rfl rfl rfl rfl rfl rfl ⟨rfl, bndp h fun x53 e54 h => pst rfl <| o_call (a1 (c := (cXGeo (cLs cI rfl))) (tXGeo (tLs tK)) rfl (a1 (c := cI) tK rfl a0)) (con_spec_gLevel e54) (.inl (so1 (sLo sK) so0)) ⟨rfl, pst rfl <| mvd rfl rfl ⟨rfl, pst rfl <| mvd rfl rfl ⟨rfl, ck_kp h fun i55 h => ckI_kp h fun i56 h => pst rfl <| b_quo (k := .i64) rfl rfl i55 i56 ⟨rfl, getO_kp h fun x57 i58 g59 h => pst rfl <| iao rfl rfl i58 g59 rfl ⟨rfl, pst rfl <| lda rfl rfl (Gt.idx g59 Gt.nil) rfl rfl rfl ⟨rfl, pst rfl <| mvo rfl rfl ⟨rfl, pst rfl <| mvd rfl rfl ⟨rfl, pst rfl <| mvd rfl rfl ⟨rfl, ck_kp h fun i60 h => pst rfl <| b_rem (k := .i64) rfl rfl i60 ⟨rfl, bndp h fun x61 e62 h => pst rfl <| o_call (a1 (c := (cLo (cXVariable cS cI))) (tLo (tXVariable tS tK)) rfl (a1 (c := cI) tK rfl a0)) (con_spec_sAt e62) (.inl (so1 (sLo sK) so0)) ⟨rfl, preN <| x_asg (ss rfl rfl) <| x_asg (so rfl rfl) <| x_asg (sc cB true rfl) <| seqN [(8, .d (cI.enc x57)), (9, .d ((cLo cI).enc x61)), (10, .d (cB.enc true))] (by kernel_rfl) <|
    xn <| wpC_ret <| re <| fin h (r1 (ss rfl rfl) <| r1 (so rfl rfl) <| r1 (ss rfl rfl) <| r0) rfl⟩⟩⟩⟩⟩⟩⟩⟩⟩⟩⟩⟩⟩⟩))

end AS.W
