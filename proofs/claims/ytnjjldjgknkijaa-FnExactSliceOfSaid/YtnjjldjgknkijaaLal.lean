/- The program computes the plain functions. No condition. -/
import Derived.Test.YtnjjldjgknkijaaSal
import Derived.Test.YtnjjldjgknkijaaProg
import Derived.Test.YtnjjldjgknkijaaLaa
import Derived.Test.YtnjjldjgknkijaaLab
import Derived.Test.YtnjjldjgknkijaaLad
import Derived.Test.YtnjjldjgknkijaaLae
set_option maxRecDepth 100000
set_option linter.unusedVariables false
set_option linter.unusedSimpArgs false
namespace AS.W
open Go Go.Proofs
def rs_spec_l1Rising (r : Bool) : List D := [cB.enc r]
def m93 : MC := .seq (.reg [⟨some 6, .asg (.c (.bool false)), none⟩] [0, 1, 2])
  (.seq (.kp [] (.seq (.reg [⟨some 9, .mv (.t 0), none⟩,
    ⟨some 10, .len false (.t 9), none⟩,
    ⟨some 11, .mv (.c (.int .i64 0)), none⟩] [0, 1, 2, 9, 10, 11])
  (.blk 0 (.loop (.seq (.reg [⟨some 12, .bin .lss (.t 11) (.t 10), none⟩] [0, 1, 2, 9, 10, 11, 12])
  (.seq (.kp [0, 1, 2, 9, 10, 11] (.cond (.t 12) (.skip) (.exit 0)))
  (.seq (.kp [0, 1, 2, 9, 10, 11] (.blk 1 (.seq (.reg [⟨some 13, .mv (.t 11), none⟩,
    ⟨some 14, .ia 9 (.t 11) 1, none⟩,
    ⟨some 15, .ld 14 1 false, none⟩,
    ⟨some 7, .asg (.t 13), none⟩,
    ⟨some 8, .asg (.t 15), none⟩] [0, 1, 2, 7, 8, 9, 10, 11])
  (.seq (.reg [⟨some 16, .mv (.t 8), none⟩,
    ⟨some 17, .mv (.t 1), none⟩,
    ⟨some 18, .mv (.t 2), none⟩,
    ⟨some 19, .call 58 [(.t 16), (.t 17), (.t 18)], none⟩,
    ⟨some 20, .nt (.t 19), none⟩,
    ⟨some 21, .mv (.t 20), none⟩,
    ⟨some 22, .mv (.t 7), some (21, false)⟩,
    ⟨some 23, .bin .gtr (.t 22) (.c (.int .i64 0)), some (21, false)⟩,
    ⟨some 24, .mv (.t 23), some (21, false)⟩,
    ⟨some 25, .mv (.t 0), some (24, true)⟩,
    ⟨some 26, .mv (.t 7), some (24, true)⟩,
    ⟨some 27, .bin .sub (.t 26) (.c (.int .i64 1)), some (24, true)⟩,
    ⟨some 28, .ia 25 (.t 27) 1, some (24, true)⟩,
    ⟨some 29, .ld 28 1 false, some (24, true)⟩,
    ⟨some 30, .mv (.t 8), some (24, true)⟩,
    ⟨some 31, .bin .geq (.t 29) (.t 30), some (24, true)⟩,
    ⟨some 32, .pick (.t 24) (.t 31) (.c (.bool false)), some (21, false)⟩,
    ⟨some 33, .pick (.t 21) (.c (.bool true)) (.t 32), none⟩] [0, 1, 2, 9, 10, 11, 33])
  (.cond (.t 33) (.seq (.reg [⟨some 6, .asg (.c (.bool false)), none⟩] [6])
  (.ret)) (.skip))))))
  (.reg [⟨some 34, .bin .add (.t 11) (.c (.int .i64 1)), none⟩,
    ⟨some 11, .mv (.t 34), none⟩] [0, 1, 2, 9, 10, 11]))))))))
  (.seq (.reg [⟨some 6, .asg (.c (.bool true)), none⟩] [6])
  (.ret)))
theorem con_spec_l1Rising {v0 : (List Int)} {v1 : Int} {v2 : Int} {r : Bool} (h : sh_spec_l1Rising v0 v1 v2 = some r) : Con Try.prog 93 [(cLs cI rfl).enc v0, cI.enc v1, cI.enc v2] [] (rs_spec_l1Rising r) := by
  delta sh_spec_l1Rising at h
  refine top (out := none) (f := Try.f93) (m := m93) (rs := [.t 6]) (by kernel_rfl) rfl (by kernel_rfl) (by kernel_rfl) (by kernel_rfl) (by kernel_rfl) (by kernel_rfl) ?_
  exact
   ini [(0, .d ((cLs cI rfl).enc v0)), (1, .d (cI.enc v1)), (2, .d (cI.enc v2))] rfl <| wpC_seq <| reg_s <| x_asg (sc cB false rfl) <| seqN [(0, .d ((cLs cI rfl).enc v0)), (1, .d (cI.enc v1)), (2, .d (cI.enc v2))] (by kernel_rfl) <|
    xn <| wpC_seq <| wpC_kp <| wpC_seq <| reg_s <| st rfl <| mvd rfl rfl <| stw rfl <| lens rfl fun l80 => st rfl <| mvc cI (0 : Int) rfl <| seqN [(0, .d ((cLs cI rfl).enc v0)), (1, .d (cI.enc v1)), (2, .d (cI.enc v2)), (9, .d ((cLs cI rfl).enc v0)), (10, .d (cI.enc (v0.length : Int))), (11, .d (cI.enc (0 : Int)))] (by kernel_rfl) <|
    xn <| wpC_blk <| lpR (fun (k82 : Nat) (s81 : Unit) => [(0, .d ((cLs cI rfl).enc v0)), (1, .d (cI.enc v1)), (2, .d (cI.enc v2)), (9, .d ((cLs cI rfl).enc v0)), (10, .d (cI.enc (v0.length : Int))), (11, .d (cI.enc (k82 : Int)))]) () rfl h
    (fun G122 s81 h => wpC_seq <| reg_s <| st rfl <| b_lss (k := .i64) rfl rfl <| seqN [(0, .d ((cLs cI rfl).enc v0)), (1, .d (cI.enc v1)), (2, .d (cI.enc v2)), (9, .d ((cLs cI rfl).enc v0)), (10, .d (cI.enc (v0.length : Int))), (11, .d (cI.enc (v0.length : Int))), (12, .d (cB.enc (decide ((v0.length : Int) < (v0.length : Int)))))] (by kernel_rfl) <|
    xn <| wpC_seq <| wpC_kp <| cnd0 rfl (dlf _) <| wpC_exit <| xt <| xt <| xt <| xb <| kpN [] (by kernel_rfl) <| xn <| wpC_seq <| reg_s <| x_asg (sc cB true rfl) <| seqN [(6, .d (cB.enc true))] (by kernel_rfl) <|
    xn <| wpC_ret <| re <| fin h (r1 (ss rfl rfl) <| r0) rfl)
    (fun G122 nx120 k82 s81 x83 hk84 hx85 hn121 h => wpC_seq <| reg_s <| st rfl <| b_lss (k := .i64) rfl rfl <| seqN [(0, .d ((cLs cI rfl).enc v0)), (1, .d (cI.enc v1)), (2, .d (cI.enc v2)), (9, .d ((cLs cI rfl).enc v0)), (10, .d (cI.enc (v0.length : Int))), (11, .d (cI.enc (k82 : Int))), (12, .d (cB.enc (decide ((k82 : Int) < (v0.length : Int)))))] (by kernel_rfl) <|
    xn <| wpC_seq <| wpC_kp <| cnd1 rfl (dlt hk84) <| wpC_skip <| kpN [(0, .d ((cLs cI rfl).enc v0)), (1, .d (cI.enc v1)), (2, .d (cI.enc v2)), (9, .d ((cLs cI rfl).enc v0)), (10, .d (cI.enc (v0.length : Int))), (11, .d (cI.enc (k82 : Int)))] (by kernel_rfl) <| xn <| wpC_seq <| wpC_kp <| wpC_blk <| wpC_seq <| reg_s <| st rfl <| mvd rfl rfl <| st rfl <| ias rfl rfl (Int.natCast_nonneg _) hx85 rfl <| st rfl <| ldi rfl rfl rfl rfl <| x_asg (ss rfl rfl) <| x_asg (ss rfl rfl) <| seqN [(0, .d ((cLs cI rfl).enc v0)), (1, .d (cI.enc v1)), (2, .d (cI.enc v2)), (7, .d (cI.enc (k82 : Int))), (8, .d (cI.enc x83)), (9, .d ((cLs cI rfl).enc v0)), (10, .d (cI.enc (v0.length : Int))), (11, .d (cI.enc (k82 : Int)))] (by kernel_rfl) <|
    xn <| wpC_seq <| reg_s <| st rfl <| mvd rfl rfl <| st rfl <| mvd rfl rfl <| st rfl <| mvd rfl rfl <| bnd h fun x148 e149 h => st rfl <| o_call (a1 (c := cI) tK rfl (a1 (c := cI) tK rfl (a1 (c := cI) tK rfl a0))) (con_spec_l1In e149) (.inl (so1 sB so0)) <| st rfl <| o_nt rfl <| st rfl <| mvd rfl rfl <| ite_k h (fun b150 h => gf rfl b150 <| gf rfl b150 <| gf rfl b150 <| gu rfl <| gu rfl <| gu rfl <| gu rfl <| gu rfl <| gu rfl <| gu rfl <| gf rfl b150 <| st rfl <| pick1 rfl b150 (cd := cB) (v := true) rfl rfl <| seqN [(0, .d ((cLs cI rfl).enc v0)), (1, .d (cI.enc v1)), (2, .d (cI.enc v2)), (9, .d ((cLs cI rfl).enc v0)), (10, .d (cI.enc (v0.length : Int))), (11, .d (cI.enc (k82 : Int))), (33, .d (cB.enc true))] (by kernel_rfl) <|
    xn <| cnd1 rfl rfl <| wpC_seq <| reg_s <| x_asg (sc cB false rfl) <| seqN [(6, .d (cB.enc false))] (by kernel_rfl) <|
    xn <| wpC_ret <| rb <| rt <| rt <| rt <| rb <| rt <| rt <| re <| fin h (r1 (ss rfl rfl) <| r0) rfl)
    (fun b150 h => gt' rfl b150 <| st rfl <| mvd rfl rfl <| gt' rfl b150 <| st rfl <| b_gtr (k := .i64) rfl rfl <| gt' rfl b150 <| st rfl <| mvd rfl rfl <| ite_k h (fun b151 h => gt' rfl b151 <| st rfl <| mvd rfl rfl <| gt' rfl b151 <| st rfl <| mvd rfl rfl <| gt' rfl b151 <| ckI_k h fun i152 h => st rfl <| b_sub (k := .i64) rfl rfl i152 <| gt' rfl b151 <| getO_k h fun x153 i154 g155 h => st rfl <| ias rfl rfl i154 g155 rfl <| gt' rfl b151 <| st rfl <| ldi rfl rfl rfl rfl <| gt' rfl b151 <| st rfl <| mvd rfl rfl <| gt' rfl b151 <| st rfl <| b_geq (k := .i64) rfl rfl <| gt' rfl b150 <| st rfl <| pick1 rfl b151 (cd := cB) (v := (decide (x83 ≤ x153))) rfl rfl <| st rfl <| pick0 rfl b150 (cd := cB) (v := (decide (x83 ≤ x153))) rfl rfl <| seqN [(0, .d ((cLs cI rfl).enc v0)), (1, .d (cI.enc v1)), (2, .d (cI.enc v2)), (9, .d ((cLs cI rfl).enc v0)), (10, .d (cI.enc (v0.length : Int))), (11, .d (cI.enc (k82 : Int))), (33, .d (cB.enc (decide (x83 ≤ x153))))] (by kernel_rfl) <|
    xn <| cnd rfl h (fun b156 h => wpC_seq <| reg_s <| x_asg (sc cB false rfl) <| seqN [(6, .d (cB.enc false))] (by kernel_rfl) <|
    xn <| wpC_ret <| rb <| rt <| rt <| rt <| rb <| rt <| rt <| re <| fin h (r1 (ss rfl rfl) <| r0) rfl)
    (fun b156 h => wpC_skip <| xbb <| kpN [(0, .d ((cLs cI rfl).enc v0)), (1, .d (cI.enc v1)), (2, .d (cI.enc v2)), (9, .d ((cLs cI rfl).enc v0)), (10, .d (cI.enc (v0.length : Int))), (11, .d (cI.enc (k82 : Int)))] (by kernel_rfl) <| xn <| reg_s <| st rfl <| b_inc rfl rfl l80 hk84 <| st rfl <| mvd rfl rfl <| seqN [(0, .d ((cLs cI rfl).enc v0)), (1, .d (cI.enc v1)), (2, .d (cI.enc v2)), (9, .d ((cLs cI rfl).enc v0)), (10, .d (cI.enc (v0.length : Int))), (11, .d (cI.enc ((k82 + 1 : Nat) : Int)))] (by kernel_rfl) <|
    xn <| hn121 () h))
    (fun b151 h => gf rfl b151 <| gf rfl b151 <| gf rfl b151 <| gf rfl b151 <| gf rfl b151 <| gf rfl b151 <| gf rfl b151 <| gt' rfl b150 <| st rfl <| pick0 rfl b151 (cd := cB) (v := false) rfl rfl <| st rfl <| pick0 rfl b150 (cd := cB) (v := false) rfl rfl <| seqN [(0, .d ((cLs cI rfl).enc v0)), (1, .d (cI.enc v1)), (2, .d (cI.enc v2)), (9, .d ((cLs cI rfl).enc v0)), (10, .d (cI.enc (v0.length : Int))), (11, .d (cI.enc (k82 : Int))), (33, .d (cB.enc false))] (by kernel_rfl) <|
    xn <| cnd0 rfl rfl <| wpC_skip <| xbb <| kpN [(0, .d ((cLs cI rfl).enc v0)), (1, .d (cI.enc v1)), (2, .d (cI.enc v2)), (9, .d ((cLs cI rfl).enc v0)), (10, .d (cI.enc (v0.length : Int))), (11, .d (cI.enc (k82 : Int)))] (by kernel_rfl) <| xn <| reg_s <| st rfl <| b_inc rfl rfl l80 hk84 <| st rfl <| mvd rfl rfl <| seqN [(0, .d ((cLs cI rfl).enc v0)), (1, .d (cI.enc v1)), (2, .d (cI.enc v2)), (9, .d ((cLs cI rfl).enc v0)), (10, .d (cI.enc (v0.length : Int))), (11, .d (cI.enc ((k82 + 1 : Nat) : Int)))] (by kernel_rfl) <|
    xn <| hn121 () h)))

def rs_spec_sPick (r : (List Int)) : List D := [(cLo cI).enc r]
def m103 : MC := .seq (.reg [⟨some 4, .asg (.c (.slice true [])), none⟩] [0, 1])
  (.seq (.reg [⟨some 5, .asg (.c (.slice true [])), none⟩] [0, 1, 5])
  (.seq (.kp [5] (.seq (.reg [⟨some 8, .mv (.t 1), none⟩,
    ⟨some 9, .len false (.t 8), none⟩,
    ⟨some 10, .mv (.c (.int .i64 0)), none⟩] [0, 1, 5, 8, 9, 10])
  (.blk 0 (.loop (.seq (.reg [⟨some 11, .bin .lss (.t 10) (.t 9), none⟩] [0, 1, 5, 8, 9, 10, 11])
  (.seq (.kp [0, 1, 5, 8, 9, 10] (.cond (.t 11) (.skip) (.exit 0)))
  (.seq (.kp [0, 1, 5, 8, 9, 10] (.blk 1 (.seq (.reg [⟨some 12, .ia 8 (.t 10) 1, none⟩,
    ⟨some 13, .ld 12 1 false, none⟩,
    ⟨some 7, .asg (.t 13), none⟩] [0, 1, 5, 7, 8, 9, 10])
  (.reg [⟨some 14, .mv (.t 5), none⟩,
    ⟨some 15, .mv (.t 0), none⟩,
    ⟨some 16, .mv (.t 7), none⟩,
    ⟨some 17, .ia 15 (.t 16) 1, none⟩,
    ⟨some 18, .ld 17 1 false, none⟩,
    ⟨some 19, .bsl [(.t 18)] 1, none⟩,
    ⟨some 20, .app (.t 14) (.t 19) 1, none⟩,
    ⟨some 5, .asg (.t 20), none⟩] [0, 1, 5, 8, 9, 10]))))
  (.reg [⟨some 21, .bin .add (.t 10) (.c (.int .i64 1)), none⟩,
    ⟨some 10, .mv (.t 21), none⟩] [0, 1, 5, 8, 9, 10]))))))))
  (.seq (.reg [⟨some 22, .mv (.t 5), none⟩,
    ⟨some 4, .asg (.t 22), none⟩] [4])
  (.ret))))
theorem con_spec_sPick {v0 : (List Int)} {v1 : (List Int)} {r : (List Int)} (h : sh_spec_sPick v0 v1 = some r) : Con Try.prog 103 [(cLs cI rfl).enc v0, (cLs cI rfl).enc v1] [] (rs_spec_sPick r) := by
  delta sh_spec_sPick at h
  refine top (out := none) (f := Try.f103) (m := m103) (rs := [.t 4]) (by kernel_rfl) rfl (by kernel_rfl) (by kernel_rfl) (by kernel_rfl) (by kernel_rfl) (by kernel_rfl) ?_
  exact
   ini [(0, .d ((cLs cI rfl).enc v0)), (1, .d ((cLs cI rfl).enc v1))] rfl <| wpC_seq <| reg_s <| x_asg (sc (cLo cI) ([] : List Int) rfl) <| seqN [(0, .d ((cLs cI rfl).enc v0)), (1, .d ((cLs cI rfl).enc v1))] (by kernel_rfl) <|
    xn <| wpC_seq <| reg_s <| x_asg (sc (cLo cI) ([] : List Int) rfl) <| seqN [(0, .d ((cLs cI rfl).enc v0)), (1, .d ((cLs cI rfl).enc v1)), (5, .d ((cLo cI).enc ([] : List Int)))] (by kernel_rfl) <|
    xn <| wpC_seq <| wpC_kp <| wpC_seq <| reg_s <| st rfl <| mvd rfl rfl <| stw rfl <| lens rfl fun l36 => st rfl <| mvc cI (0 : Int) rfl <| seqN [(0, .d ((cLs cI rfl).enc v0)), (1, .d ((cLs cI rfl).enc v1)), (5, .d ((cLo cI).enc ([] : List Int))), (8, .d ((cLs cI rfl).enc v1)), (9, .d (cI.enc (v1.length : Int))), (10, .d (cI.enc (0 : Int)))] (by kernel_rfl) <|
    xn <| wpC_blk <| lpR (fun (k38 : Nat) (s37 : (List Int)) => [(0, .d ((cLs cI rfl).enc v0)), (1, .d ((cLs cI rfl).enc v1)), (5, .d ((cLo cI).enc s37)), (8, .d ((cLs cI rfl).enc v1)), (9, .d (cI.enc (v1.length : Int))), (10, .d (cI.enc (k38 : Int)))]) ([] : List Int) rfl h
    (fun G60 s37 h => wpC_seq <| reg_s <| st rfl <| b_lss (k := .i64) rfl rfl <| seqN [(0, .d ((cLs cI rfl).enc v0)), (1, .d ((cLs cI rfl).enc v1)), (5, .d ((cLo cI).enc s37)), (8, .d ((cLs cI rfl).enc v1)), (9, .d (cI.enc (v1.length : Int))), (10, .d (cI.enc (v1.length : Int))), (11, .d (cB.enc (decide ((v1.length : Int) < (v1.length : Int)))))] (by kernel_rfl) <|
    xn <| wpC_seq <| wpC_kp <| cnd0 rfl (dlf _) <| wpC_exit <| xt <| xt <| xt <| xb <| kpN [(5, .d ((cLo cI).enc s37))] (by kernel_rfl) <| xn <| wpC_seq <| reg_s <| st rfl <| mvo rfl rfl <| x_asg (sr rfl rfl) <| seqN [(4, .d ((cLo cI).enc s37))] (by kernel_rfl) <|
    xn <| wpC_ret <| re <| fin h (r1 (so rfl rfl) <| r0) rfl)
    (fun G60 nx58 k38 s37 x39 hk40 hx41 hn59 h => wpC_seq <| reg_s <| st rfl <| b_lss (k := .i64) rfl rfl <| seqN [(0, .d ((cLs cI rfl).enc v0)), (1, .d ((cLs cI rfl).enc v1)), (5, .d ((cLo cI).enc s37)), (8, .d ((cLs cI rfl).enc v1)), (9, .d (cI.enc (v1.length : Int))), (10, .d (cI.enc (k38 : Int))), (11, .d (cB.enc (decide ((k38 : Int) < (v1.length : Int)))))] (by kernel_rfl) <|
    xn <| wpC_seq <| wpC_kp <| cnd1 rfl (dlt hk40) <| wpC_skip <| kpN [(0, .d ((cLs cI rfl).enc v0)), (1, .d ((cLs cI rfl).enc v1)), (5, .d ((cLo cI).enc s37)), (8, .d ((cLs cI rfl).enc v1)), (9, .d (cI.enc (v1.length : Int))), (10, .d (cI.enc (k38 : Int)))] (by kernel_rfl) <| xn <| wpC_seq <| wpC_kp <| wpC_blk <| wpC_seq <| reg_s <| st rfl <| ias rfl rfl (Int.natCast_nonneg _) hx41 rfl <| st rfl <| ldi rfl rfl rfl rfl <| x_asg (ss rfl rfl) <| seqN [(0, .d ((cLs cI rfl).enc v0)), (1, .d ((cLs cI rfl).enc v1)), (5, .d ((cLo cI).enc s37)), (7, .d (cI.enc x39)), (8, .d ((cLs cI rfl).enc v1)), (9, .d (cI.enc (v1.length : Int))), (10, .d (cI.enc (k38 : Int)))] (by kernel_rfl) <|
    xn <| reg_s <| st rfl <| mvo rfl rfl <| st rfl <| mvd rfl rfl <| st rfl <| mvd rfl rfl <| getO_k h fun x65 i66 g67 h => st rfl <| ias rfl rfl i66 g67 rfl <| st rfl <| ldi rfl rfl rfl rfl <| x_bsl cI [x65] (t1 (ss rfl rfl) rfl t0) rfl rfl <| lnO_k h fun l68 h => x_app (sr rfl rfl) (to rfl rfl) l68 rfl <| x_asg (so rfl rfl) <| seqN [(0, .d ((cLs cI rfl).enc v0)), (1, .d ((cLs cI rfl).enc v1)), (5, .d ((cLo cI).enc (s37 ++ [x65]))), (8, .d ((cLs cI rfl).enc v1)), (9, .d (cI.enc (v1.length : Int))), (10, .d (cI.enc (k38 : Int)))] (by kernel_rfl) <|
    xbb <| kpN [(0, .d ((cLs cI rfl).enc v0)), (1, .d ((cLs cI rfl).enc v1)), (5, .d ((cLo cI).enc (s37 ++ [x65]))), (8, .d ((cLs cI rfl).enc v1)), (9, .d (cI.enc (v1.length : Int))), (10, .d (cI.enc (k38 : Int)))] (by kernel_rfl) <| xn <| reg_s <| st rfl <| b_inc rfl rfl l36 hk40 <| st rfl <| mvd rfl rfl <| seqN [(0, .d ((cLs cI rfl).enc v0)), (1, .d ((cLs cI rfl).enc v1)), (5, .d ((cLo cI).enc (s37 ++ [x65]))), (8, .d ((cLs cI rfl).enc v1)), (9, .d (cI.enc (v1.length : Int))), (10, .d (cI.enc ((k38 + 1 : Nat) : Int)))] (by kernel_rfl) <|
    xn <| hn59 (s37 ++ [x65]) h)

def rs_spec_cbFrom (r : XCube) : List D := [(cXCube (cLo cI) (cLo cI)).enc r]
def m94 : MC := .seq (.reg [⟨some 3, .box (.t 0), none⟩,
    ⟨some 6, .alloc (.agg [.slice true [], .slice true []]), none⟩] [1, 2, 3, 6])
  (.seq (.reg [⟨some 12, .fa 3 0 0, none⟩,
    ⟨some 13, .ld 12 1 false, none⟩,
    ⟨some 14, .mv (.t 1), none⟩,
    ⟨some 15, .call 103 [(.t 13), (.t 14)], none⟩,
    ⟨some 16, .bld [.slice true [], .slice true []] [(0, (.t 15))], none⟩,
    ⟨some 7, .alloc (.agg [.slice true [], .slice true []]), none⟩,
    ⟨none, .st 7 (.t 16) 2, none⟩] [1, 2, 3, 6, 7])
  (.seq (.kp [6, 7] (.seq (.reg [⟨some 8, .asg (.c (.int .i64 0)), none⟩] [1, 2, 3, 6, 7, 8])
  (.blk 0 (.loop (.seq (.kp [1, 2, 3, 6, 7, 8] (.seq (.reg [⟨some 17, .mv (.t 8), none⟩,
    ⟨some 18, .fa 7 0 0, none⟩,
    ⟨some 19, .ld 18 1 false, none⟩,
    ⟨some 20, .call 59 [(.t 19)], none⟩,
    ⟨some 21, .bin .lss (.t 17) (.t 20), none⟩] [1, 2, 3, 6, 7, 8, 21])
  (.cond (.t 21) (.skip) (.exit 0))))
  (.seq (.kp [1, 2, 3, 6, 7, 8] (.blk 1 (.seq (.reg [⟨some 24, .mv (.t 2), none⟩,
    ⟨some 25, .call 55 [(.t 24)], none⟩,
    ⟨some 9, .asg (.t 25), none⟩] [1, 2, 3, 6, 7, 8, 9])
  (.seq (.kp [1, 2, 3, 6, 7, 8, 9] (.seq (.reg [⟨some 26, .fa 7 0 0, none⟩,
    ⟨some 27, .ld 26 1 false, none⟩,
    ⟨some 28, .mv (.t 8), none⟩,
    ⟨some 29, .call 60 [(.t 27), (.t 28)], none⟩,
    ⟨some 30, .len false (.t 29), none⟩,
    ⟨some 31, .mv (.c (.int .i64 0)), none⟩] [1, 2, 3, 6, 7, 8, 9, 29, 30, 31])
  (.blk 2 (.loop (.seq (.reg [⟨some 32, .bin .lss (.t 31) (.t 30), none⟩] [1, 2, 3, 6, 7, 8, 9, 29, 30, 31, 32])
  (.seq (.kp [1, 2, 3, 6, 7, 8, 9, 29, 30, 31] (.cond (.t 32) (.skip) (.exit 2)))
  (.seq (.kp [1, 2, 3, 6, 7, 8, 9, 29, 30, 31] (.blk 3 (.seq (.reg [⟨some 33, .mv (.t 31), none⟩,
    ⟨some 34, .ia 29 (.t 31) 1, none⟩,
    ⟨some 35, .ld 34 1 false, none⟩,
    ⟨some 10, .asg (.t 33), none⟩,
    ⟨some 11, .asg (.t 35), none⟩] [1, 2, 3, 6, 7, 8, 9, 10, 11, 29, 30, 31])
  (.reg [⟨some 36, .mv (.t 9), none⟩,
    ⟨some 37, .mv (.t 1), none⟩,
    ⟨some 38, .mv (.t 10), none⟩,
    ⟨some 39, .ia 37 (.t 38) 1, none⟩,
    ⟨some 40, .ld 39 1 false, none⟩,
    ⟨some 41, .mv (.t 11), none⟩,
    ⟨some 42, .ia 36 (.t 40) 1, none⟩,
    ⟨none, .st 42 (.t 41) 1, none⟩] [1, 2, 3, 6, 7, 8, 9, 29, 30, 31]))))
  (.reg [⟨some 43, .bin .add (.t 31) (.c (.int .i64 1)), none⟩,
    ⟨some 31, .mv (.t 43), none⟩] [1, 2, 3, 6, 7, 8, 9, 29, 30, 31]))))))))
  (.drw [⟨0, ⟨some 44, .fa 7 1 1, none⟩, [45, 46, 47, 48, 49, 50, 51, 52, 53, 54]⟩,
    ⟨1, ⟨some 45, .ld 44 1 false, none⟩, [46, 47, 48, 49, 50, 51, 52, 53, 54]⟩,
    ⟨2, ⟨some 46, .fa 3 1 1, none⟩, [44, 45, 47, 48, 49, 50, 51, 52, 53, 54]⟩,
    ⟨3, ⟨some 47, .ld 46 1 false, none⟩, [44, 45, 48, 49, 50, 51, 52, 53, 54]⟩,
    ⟨4, ⟨some 48, .fa 3 0 0, none⟩, [44, 45, 46, 47, 49, 50, 51, 52, 53, 54]⟩,
    ⟨5, ⟨some 49, .ld 48 1 false, none⟩, [44, 45, 46, 47, 50, 51, 52, 53, 54]⟩,
    ⟨6, ⟨some 50, .mv (.t 9), none⟩, [44, 45, 46, 47, 48, 49, 51, 52, 53, 54]⟩,
    ⟨7, ⟨some 51, .call 82 [(.t 49), (.t 50)], none⟩, [44, 45, 46, 47, 52, 53, 54]⟩,
    ⟨8, ⟨some 52, .ia 47 (.t 51) 1, none⟩, [44, 45, 53, 54]⟩,
    ⟨9, ⟨some 53, .ld 52 1 false, none⟩, [44, 45, 54]⟩,
    ⟨10, ⟨some 54, .bsl [(.t 53)] 1, none⟩, [44, 45]⟩]
    [(11, ⟨some 55, .app (.t 45) (.t 54) 1, none⟩),
    (12, ⟨some 56, .fa 7 1 1, none⟩),
    (13, ⟨none, .st 56 (.t 55) 1, none⟩)] [1, 2, 3, 6, 7, 8])))))
  (.reg [⟨some 22, .mv (.t 8), none⟩,
    ⟨some 23, .bin .add (.t 22) (.c (.int .i64 1)), none⟩,
    ⟨some 8, .asg (.t 23), none⟩] [1, 2, 3, 6, 7, 8])))))))
  (.seq (.reg [⟨some 57, .ld 7 2 true, none⟩,
    ⟨none, .st 6 (.t 57) 2, none⟩] [6])
  (.ret))))
theorem con_spec_cbFrom {v0 : XCube} {v1 : (List Int)} {v2 : (List Int)} {r : XCube} (h : sh_spec_cbFrom v0 v1 v2 = some r) : Con Try.prog 94 [(cXCube (cLs cI rfl) (cLs cI rfl)).enc v0, (cLs cI rfl).enc v1, (cLs cI rfl).enc v2] [] (rs_spec_cbFrom r) := by
  delta sh_spec_cbFrom at h
  refine top (out := none) (f := Try.f94) (m := m94) (rs := [.c 6 2 true]) (by kernel_rfl) rfl (by kernel_rfl) (by kernel_rfl) (by kernel_rfl) (by kernel_rfl) (by kernel_rfl) ?_
  exact
   ini [(0, .d ((cXCube (cLs cI rfl) (cLs cI rfl)).enc v0)), (1, .d ((cLs cI rfl).enc v1)), (2, .d ((cLs cI rfl).enc v2))] rfl <| wpC_seq <| reg_s <| x_box (ss rfl rfl) <| x_all (cXCube (cLo cI) (cLo cI)) (⟨([] : List Int), ([] : List Int)⟩ : XCube) rfl <| seqN [(1, .d ((cLs cI rfl).enc v1)), (2, .d ((cLs cI rfl).enc v2)), (3, .box ((cXCube (cLs cI rfl) (cLs cI rfl)).enc v0)), (6, .box ((cXCube (cLo cI) (cLo cI)).enc (⟨([] : List Int), ([] : List Int)⟩ : XCube)))] (by kernel_rfl) <|
    xn <| wpC_seq <| reg_s <| st rfl <| fab rfl rfl rfl rfl <| st rfl <| lda rfl rfl rfl rfl rfl rfl <| st rfl <| mvd rfl rfl <| bnd h fun x3 e4 h => st rfl <| o_call (a1 (c := (cLs cI rfl)) (tLs tK) rfl (a1 (c := (cLs cI rfl)) (tLs tK) rfl a0)) (con_spec_sPick e4) (.inl (so1 (sLo sK) so0)) <| x_bld ((cXCube (cLo cI) (cLo cI)).enc (⟨x3, ([] : List Int)⟩ : XCube)) (t1 (so rfl rfl) rfl t0) rfl rfl <| x_all (cXCube (cLo cI) (cLo cI)) (⟨([] : List Int), ([] : List Int)⟩ : XCube) rfl <| x_stb (so rfl rfl) rfl (Cd.h_sz _ _) rfl <| seqN [(1, .d ((cLs cI rfl).enc v1)), (2, .d ((cLs cI rfl).enc v2)), (3, .box ((cXCube (cLs cI rfl) (cLs cI rfl)).enc v0)), (6, .box ((cXCube (cLo cI) (cLo cI)).enc (⟨([] : List Int), ([] : List Int)⟩ : XCube))), (7, .box ((cXCube (cLo cI) (cLo cI)).enc (⟨x3, ([] : List Int)⟩ : XCube)))] (by kernel_rfl) <|
    xn <| wpC_seq <| wpC_kp <| wpC_seq <| reg_s <| x_asg (sc cI (0 : Int) rfl) <| seqN [(1, .d ((cLs cI rfl).enc v1)), (2, .d ((cLs cI rfl).enc v2)), (3, .box ((cXCube (cLs cI rfl) (cLs cI rfl)).enc v0)), (6, .box ((cXCube (cLo cI) (cLo cI)).enc (⟨([] : List Int), ([] : List Int)⟩ : XCube))), (7, .box ((cXCube (cLo cI) (cLo cI)).enc (⟨x3, ([] : List Int)⟩ : XCube))), (8, .d (cI.enc (0 : Int)))] (by kernel_rfl) <|
    xn <| wpC_blk <| lpF (fun (s706 : (XCube × Int)) => [(1, .d ((cLs cI rfl).enc v1)), (2, .d ((cLs cI rfl).enc v2)), (3, .box ((cXCube (cLs cI rfl) (cLs cI rfl)).enc v0)), (6, .box ((cXCube (cLo cI) (cLo cI)).enc (⟨([] : List Int), ([] : List Int)⟩ : XCube))), (7, .box ((cXCube (cLo cI) (cLo cI)).enc s706.1)), (8, .d (cI.enc s706.2))]) ((⟨x3, ([] : List Int)⟩ : XCube), (0 : Int)) rfl h
    fun G1175 nx1173 s706 hn1174 h => wpC_seq <| wpC_kp <| wpC_seq <| reg_s <| st rfl <| mvd rfl rfl <| st rfl <| fab rfl rfl rfl rfl <| st rfl <| ldao rfl rfl rfl rfl rfl rfl <| bnd h fun x1183 e1184 h => st rfl <| o_call (a1 (c := (cLo cI)) (tLo tK) rfl a0) (con_spec_cbCount e1184) (.inl (so1 sK so0)) <| st rfl <| b_lss (k := .i64) rfl rfl <| seqN [(1, .d ((cLs cI rfl).enc v1)), (2, .d ((cLs cI rfl).enc v2)), (3, .box ((cXCube (cLs cI rfl) (cLs cI rfl)).enc v0)), (6, .box ((cXCube (cLo cI) (cLo cI)).enc (⟨([] : List Int), ([] : List Int)⟩ : XCube))), (7, .box ((cXCube (cLo cI) (cLo cI)).enc s706.1)), (8, .d (cI.enc s706.2)), (21, .d (cB.enc (decide (s706.2 < x1183))))] (by kernel_rfl) <|
    xn <| cnd rfl h (fun b1185 h => wpC_skip <| kpN [(1, .d ((cLs cI rfl).enc v1)), (2, .d ((cLs cI rfl).enc v2)), (3, .box ((cXCube (cLs cI rfl) (cLs cI rfl)).enc v0)), (6, .box ((cXCube (cLo cI) (cLo cI)).enc (⟨([] : List Int), ([] : List Int)⟩ : XCube))), (7, .box ((cXCube (cLo cI) (cLo cI)).enc s706.1)), (8, .d (cI.enc s706.2))] (by kernel_rfl) <| xn <| wpC_seq <| wpC_kp <| wpC_blk <| wpC_seq <| reg_s <| st rfl <| mvd rfl rfl <| bnd h fun x1298 e1299 h => st rfl <| o_call (a1 (c := (cLs cI rfl)) (tLs tK) rfl a0) (con_spec_l1Own e1299) (.inl (so1 (sLo sK) so0)) <| x_asg (so rfl rfl) <| seqN [(1, .d ((cLs cI rfl).enc v1)), (2, .d ((cLs cI rfl).enc v2)), (3, .box ((cXCube (cLs cI rfl) (cLs cI rfl)).enc v0)), (6, .box ((cXCube (cLo cI) (cLo cI)).enc (⟨([] : List Int), ([] : List Int)⟩ : XCube))), (7, .box ((cXCube (cLo cI) (cLo cI)).enc s706.1)), (8, .d (cI.enc s706.2)), (9, .d ((cLo cI).enc x1298))] (by kernel_rfl) <|
    xn <| wpC_seq <| wpC_kp <| wpC_seq <| reg_s <| st rfl <| fab rfl rfl rfl rfl <| st rfl <| ldao rfl rfl rfl rfl rfl rfl <| st rfl <| mvd rfl rfl <| bnd h fun x1353 e1354 h => st rfl <| o_call (a1 (c := (cLo cI)) (tLo tK) rfl (a1 (c := cI) tK rfl a0)) (con_spec_cbIndices e1354) (.inl (so1 (sLo sK) so0)) <| stw rfl <| leno rfl fun l1355 => st rfl <| mvc cI (0 : Int) rfl <| seqN [(1, .d ((cLs cI rfl).enc v1)), (2, .d ((cLs cI rfl).enc v2)), (3, .box ((cXCube (cLs cI rfl) (cLs cI rfl)).enc v0)), (6, .box ((cXCube (cLo cI) (cLo cI)).enc (⟨([] : List Int), ([] : List Int)⟩ : XCube))), (7, .box ((cXCube (cLo cI) (cLo cI)).enc s706.1)), (8, .d (cI.enc s706.2)), (9, .d ((cLo cI).enc x1298)), (29, .d ((cLo cI).enc x1353)), (30, .d (cI.enc (x1353.length : Int))), (31, .d (cI.enc (0 : Int)))] (by kernel_rfl) <|
    xn <| wpC_blk <| lpR (fun (k1357 : Nat) (s1356 : (List Int)) => [(1, .d ((cLs cI rfl).enc v1)), (2, .d ((cLs cI rfl).enc v2)), (3, .box ((cXCube (cLs cI rfl) (cLs cI rfl)).enc v0)), (6, .box ((cXCube (cLo cI) (cLo cI)).enc (⟨([] : List Int), ([] : List Int)⟩ : XCube))), (7, .box ((cXCube (cLo cI) (cLo cI)).enc s706.1)), (8, .d (cI.enc s706.2)), (9, .d ((cLo cI).enc s1356)), (29, .d ((cLo cI).enc x1353)), (30, .d (cI.enc (x1353.length : Int))), (31, .d (cI.enc (k1357 : Int)))]) x1298 rfl h
    (fun G1387 s1356 h => wpC_seq <| reg_s <| st rfl <| b_lss (k := .i64) rfl rfl <| seqN [(1, .d ((cLs cI rfl).enc v1)), (2, .d ((cLs cI rfl).enc v2)), (3, .box ((cXCube (cLs cI rfl) (cLs cI rfl)).enc v0)), (6, .box ((cXCube (cLo cI) (cLo cI)).enc (⟨([] : List Int), ([] : List Int)⟩ : XCube))), (7, .box ((cXCube (cLo cI) (cLo cI)).enc s706.1)), (8, .d (cI.enc s706.2)), (9, .d ((cLo cI).enc s1356)), (29, .d ((cLo cI).enc x1353)), (30, .d (cI.enc (x1353.length : Int))), (31, .d (cI.enc (x1353.length : Int))), (32, .d (cB.enc (decide ((x1353.length : Int) < (x1353.length : Int)))))] (by kernel_rfl) <|
    xn <| wpC_seq <| wpC_kp <| cnd0 rfl (dlf _) <| wpC_exit <| xt <| xt <| xt <| xb <| kpN [(1, .d ((cLs cI rfl).enc v1)), (2, .d ((cLs cI rfl).enc v2)), (3, .box ((cXCube (cLs cI rfl) (cLs cI rfl)).enc v0)), (6, .box ((cXCube (cLo cI) (cLo cI)).enc (⟨([] : List Int), ([] : List Int)⟩ : XCube))), (7, .box ((cXCube (cLo cI) (cLo cI)).enc s706.1)), (8, .d (cI.enc s706.2)), (9, .d ((cLo cI).enc s1356))] (by kernel_rfl) <| xn <| drw_s <| pst rfl <| fab rfl rfl rfl rfl ⟨rfl, pst rfl <| ldao rfl rfl rfl rfl rfl rfl ⟨rfl, pst rfl <| fab rfl rfl rfl rfl ⟨rfl, pst rfl <| lda rfl rfl rfl rfl rfl rfl ⟨rfl, pst rfl <| fab rfl rfl rfl rfl ⟨rfl, pst rfl <| lda rfl rfl rfl rfl rfl rfl ⟨rfl, pst rfl <| mvo rfl rfl ⟨rfl, bndp h fun x1388 e1389 h => pst rfl <| o_call (a1 (c := (cLs cI rfl)) (tLs tK) rfl (a1 (c := (cLo cI)) (tLo tK) rfl a0)) (con_spec_cbAt e1389) (.inl (so1 sK so0)) ⟨rfl, getO_kp h fun x1390 i1391 g1392 h => pst rfl <| ias rfl rfl i1391 g1392 rfl ⟨rfl, pst rfl <| ldi rfl rfl rfl rfl ⟨rfl, pst rfl <| p_bsl cI [x1390] (e1 rfl rfl rfl e0) rfl rfl ⟨rfl, preN <| lnO_k h fun l1393 h => x_app (sp ((cXCube (cLo cI) (cH (α := (List Int)))).enc (⟨s706.1.Sizes, s706.1.Cells⟩ : XCube)) rfl rfl (Ln.fld rfl rfl Ln.nil rfl)) (to rfl rfl) l1393 rfl <| st rfl <| fab rfl rfl rfl rfl <| x_sta ((cXCube (cLo cI) (cLo cI)).enc (⟨s706.1.Sizes, (s706.1.Cells ++ [x1390])⟩ : XCube)) (so rfl rfl) rfl rfl (Ln.fld rfl rfl Ln.nil rfl) (Cd.h_sz (cH (α := (List Int))) _) rfl <| seqN [(1, .d ((cLs cI rfl).enc v1)), (2, .d ((cLs cI rfl).enc v2)), (3, .box ((cXCube (cLs cI rfl) (cLs cI rfl)).enc v0)), (6, .box ((cXCube (cLo cI) (cLo cI)).enc (⟨([] : List Int), ([] : List Int)⟩ : XCube))), (7, .box ((cXCube (cLo cI) (cLo cI)).enc (⟨s706.1.Sizes, (s706.1.Cells ++ [x1390])⟩ : XCube))), (8, .d (cI.enc s706.2))] (by kernel_rfl) <|
    xbb <| kpN [(1, .d ((cLs cI rfl).enc v1)), (2, .d ((cLs cI rfl).enc v2)), (3, .box ((cXCube (cLs cI rfl) (cLs cI rfl)).enc v0)), (6, .box ((cXCube (cLo cI) (cLo cI)).enc (⟨([] : List Int), ([] : List Int)⟩ : XCube))), (7, .box ((cXCube (cLo cI) (cLo cI)).enc (⟨s706.1.Sizes, (s706.1.Cells ++ [x1390])⟩ : XCube))), (8, .d (cI.enc s706.2))] (by kernel_rfl) <| xn <| reg_s <| st rfl <| mvd rfl rfl <| ckI_k h fun i1394 h => st rfl <| b_add (k := .i64) rfl rfl i1394 <| x_asg (ss rfl rfl) <| seqN [(1, .d ((cLs cI rfl).enc v1)), (2, .d ((cLs cI rfl).enc v2)), (3, .box ((cXCube (cLs cI rfl) (cLs cI rfl)).enc v0)), (6, .box ((cXCube (cLo cI) (cLo cI)).enc (⟨([] : List Int), ([] : List Int)⟩ : XCube))), (7, .box ((cXCube (cLo cI) (cLo cI)).enc (⟨s706.1.Sizes, (s706.1.Cells ++ [x1390])⟩ : XCube))), (8, .d (cI.enc (s706.2 + (1 : Int))))] (by kernel_rfl) <|
    xn <| hn1174 ((⟨s706.1.Sizes, (s706.1.Cells ++ [x1390])⟩ : XCube), (s706.2 + (1 : Int))) h⟩⟩⟩⟩⟩⟩⟩⟩⟩⟩⟩)
    (fun G1387 nx1385 k1357 s1356 x1358 hk1359 hx1360 hn1386 h => wpC_seq <| reg_s <| st rfl <| b_lss (k := .i64) rfl rfl <| seqN [(1, .d ((cLs cI rfl).enc v1)), (2, .d ((cLs cI rfl).enc v2)), (3, .box ((cXCube (cLs cI rfl) (cLs cI rfl)).enc v0)), (6, .box ((cXCube (cLo cI) (cLo cI)).enc (⟨([] : List Int), ([] : List Int)⟩ : XCube))), (7, .box ((cXCube (cLo cI) (cLo cI)).enc s706.1)), (8, .d (cI.enc s706.2)), (9, .d ((cLo cI).enc s1356)), (29, .d ((cLo cI).enc x1353)), (30, .d (cI.enc (x1353.length : Int))), (31, .d (cI.enc (k1357 : Int))), (32, .d (cB.enc (decide ((k1357 : Int) < (x1353.length : Int)))))] (by kernel_rfl) <|
    xn <| wpC_seq <| wpC_kp <| cnd1 rfl (dlt hk1359) <| wpC_skip <| kpN [(1, .d ((cLs cI rfl).enc v1)), (2, .d ((cLs cI rfl).enc v2)), (3, .box ((cXCube (cLs cI rfl) (cLs cI rfl)).enc v0)), (6, .box ((cXCube (cLo cI) (cLo cI)).enc (⟨([] : List Int), ([] : List Int)⟩ : XCube))), (7, .box ((cXCube (cLo cI) (cLo cI)).enc s706.1)), (8, .d (cI.enc s706.2)), (9, .d ((cLo cI).enc s1356)), (29, .d ((cLo cI).enc x1353)), (30, .d (cI.enc (x1353.length : Int))), (31, .d (cI.enc (k1357 : Int)))] (by kernel_rfl) <| xn <| wpC_seq <| wpC_kp <| wpC_blk <| wpC_seq <| reg_s <| st rfl <| mvd rfl rfl <| st rfl <| iao rfl rfl (Int.natCast_nonneg _) hx1360 rfl <| st rfl <| lda rfl rfl (Gt.idx hx1360 Gt.nil) rfl rfl rfl <| x_asg (ss rfl rfl) <| x_asg (ss rfl rfl) <| seqN [(1, .d ((cLs cI rfl).enc v1)), (2, .d ((cLs cI rfl).enc v2)), (3, .box ((cXCube (cLs cI rfl) (cLs cI rfl)).enc v0)), (6, .box ((cXCube (cLo cI) (cLo cI)).enc (⟨([] : List Int), ([] : List Int)⟩ : XCube))), (7, .box ((cXCube (cLo cI) (cLo cI)).enc s706.1)), (8, .d (cI.enc s706.2)), (9, .d ((cLo cI).enc s1356)), (10, .d (cI.enc (k1357 : Int))), (11, .d (cI.enc x1358)), (29, .d ((cLo cI).enc x1353)), (30, .d (cI.enc (x1353.length : Int))), (31, .d (cI.enc (k1357 : Int)))] (by kernel_rfl) <|
    xn <| reg_s <| st rfl <| mvo rfl rfl <| st rfl <| mvd rfl rfl <| st rfl <| mvd rfl rfl <| getO_k h fun x1401 i1402 g1403 h => st rfl <| ias rfl rfl i1402 g1403 rfl <| st rfl <| ldi rfl rfl rfl rfl <| st rfl <| mvd rfl rfl <| getO_k h fun x1404 i1405 g1406 h => st rfl <| iar rfl rfl rfl rfl i1405 g1406 rfl <| x_sta ((cLo cI).enc (s1356.set (x1401).toNat x1358)) (ss rfl rfl) rfl rfl (Ln.idx g1406 Ln.nil) (Cd.h_sz cI _) rfl <| seqN [(1, .d ((cLs cI rfl).enc v1)), (2, .d ((cLs cI rfl).enc v2)), (3, .box ((cXCube (cLs cI rfl) (cLs cI rfl)).enc v0)), (6, .box ((cXCube (cLo cI) (cLo cI)).enc (⟨([] : List Int), ([] : List Int)⟩ : XCube))), (7, .box ((cXCube (cLo cI) (cLo cI)).enc s706.1)), (8, .d (cI.enc s706.2)), (9, .d ((cLo cI).enc (s1356.set (x1401).toNat x1358))), (29, .d ((cLo cI).enc x1353)), (30, .d (cI.enc (x1353.length : Int))), (31, .d (cI.enc (k1357 : Int)))] (by kernel_rfl) <|
    xbb <| kpN [(1, .d ((cLs cI rfl).enc v1)), (2, .d ((cLs cI rfl).enc v2)), (3, .box ((cXCube (cLs cI rfl) (cLs cI rfl)).enc v0)), (6, .box ((cXCube (cLo cI) (cLo cI)).enc (⟨([] : List Int), ([] : List Int)⟩ : XCube))), (7, .box ((cXCube (cLo cI) (cLo cI)).enc s706.1)), (8, .d (cI.enc s706.2)), (9, .d ((cLo cI).enc (s1356.set (x1401).toNat x1358))), (29, .d ((cLo cI).enc x1353)), (30, .d (cI.enc (x1353.length : Int))), (31, .d (cI.enc (k1357 : Int)))] (by kernel_rfl) <| xn <| reg_s <| st rfl <| b_inc rfl rfl l1355 hk1359 <| st rfl <| mvd rfl rfl <| seqN [(1, .d ((cLs cI rfl).enc v1)), (2, .d ((cLs cI rfl).enc v2)), (3, .box ((cXCube (cLs cI rfl) (cLs cI rfl)).enc v0)), (6, .box ((cXCube (cLo cI) (cLo cI)).enc (⟨([] : List Int), ([] : List Int)⟩ : XCube))), (7, .box ((cXCube (cLo cI) (cLo cI)).enc s706.1)), (8, .d (cI.enc s706.2)), (9, .d ((cLo cI).enc (s1356.set (x1401).toNat x1358))), (29, .d ((cLo cI).enc x1353)), (30, .d (cI.enc (x1353.length : Int))), (31, .d (cI.enc ((k1357 + 1 : Nat) : Int)))] (by kernel_rfl) <|
    xn <| hn1386 (s1356.set (x1401).toNat x1358) h))
    (fun b1185 h => wpC_exit <| xt <| xt <| xt <| xb <| kpN [(6, .box ((cXCube (cLo cI) (cLo cI)).enc (⟨([] : List Int), ([] : List Int)⟩ : XCube))), (7, .box ((cXCube (cLo cI) (cLo cI)).enc s706.1))] (by kernel_rfl) <| xn <| wpC_seq <| reg_s <| st rfl <| ldbo rfl rfl rfl rfl <| x_stb (sb rfl rfl) rfl (Cd.h_sz _ _) rfl <| seqN [(6, .box ((cXCube (cLo cI) (cLo cI)).enc s706.1))] (by kernel_rfl) <|
    xn <| wpC_ret <| re <| fin h (r2 rfl rfl rfl <| r0) rfl)

def rs_spec_MarginOf (r : (XCube × Bool)) : List D := [(cXCube (cLo cI) (cLo cI)).enc r.1, cB.enc r.2]
def m48 : MC := .seq (.reg [⟨some 2, .box (.t 0), none⟩,
    ⟨some 4, .alloc (.agg [.slice true [], .slice true []]), none⟩,
    ⟨some 5, .asg (.c (.bool false)), none⟩] [1, 2, 4])
  (.seq (.kp [1, 2, 4] (.seq (.reg [⟨some 6, .ld 2 2 true, none⟩,
    ⟨some 7, .call 66 [(.t 6)], none⟩,
    ⟨some 8, .nt (.t 7), none⟩,
    ⟨some 9, .mv (.t 8), none⟩,
    ⟨some 10, .mv (.t 1), some (9, false)⟩,
    ⟨some 11, .fa 2 0 0, some (9, false)⟩,
    ⟨some 12, .ld 11 1 false, some (9, false)⟩,
    ⟨some 13, .len false (.t 12), some (9, false)⟩,
    ⟨some 14, .bin .sub (.t 13) (.c (.int .i64 1)), some (9, false)⟩,
    ⟨some 15, .call 93 [(.t 10), (.c (.int .i64 0)), (.t 14)], some (9, false)⟩,
    ⟨some 16, .nt (.t 15), some (9, false)⟩,
    ⟨some 17, .pick (.t 9) (.c (.bool true)) (.t 16), none⟩] [1, 2, 4, 17])
  (.cond (.t 17) (.seq (.reg [⟨some 18, .bld [.slice true [], .slice true []] [], none⟩,
    ⟨none, .st 4 (.t 18) 2, none⟩,
    ⟨some 5, .asg (.c (.bool false)), none⟩] [4, 5])
  (.ret)) (.skip))))
  (.seq (.reg [⟨some 19, .ld 2 2 true, none⟩,
    ⟨some 20, .mv (.t 1), none⟩,
    ⟨some 21, .fa 2 0 0, none⟩,
    ⟨some 22, .ld 21 1 false, none⟩,
    ⟨some 23, .call 94 [(.t 19), (.t 20), (.t 22)], none⟩,
    ⟨none, .st 4 (.t 23) 2, none⟩,
    ⟨some 5, .asg (.c (.bool true)), none⟩] [4, 5])
  (.ret)))
theorem con_spec_MarginOf {v0 : XCube} {v1 : (List Int)} {r : (XCube × Bool)} (h : sh_spec_MarginOf v0 v1 = some r) : Con Try.prog 48 [(cXCube (cLs cI rfl) (cLs cI rfl)).enc v0, (cLs cI rfl).enc v1] [] (rs_spec_MarginOf r) := by
  delta sh_spec_MarginOf at h
  refine top (out := none) (f := Try.f48) (m := m48) (rs := [.c 4 2 true, .t 5]) (by kernel_rfl) rfl (by kernel_rfl) (by kernel_rfl) (by kernel_rfl) (by kernel_rfl) (by kernel_rfl) ?_
  exact
   ini [(0, .d ((cXCube (cLs cI rfl) (cLs cI rfl)).enc v0)), (1, .d ((cLs cI rfl).enc v1))] rfl <| wpC_seq <| reg_s <| x_box (ss rfl rfl) <| x_all (cXCube (cLo cI) (cLo cI)) (⟨([] : List Int), ([] : List Int)⟩ : XCube) rfl <| x_asg (sc cB false rfl) <| seqN [(1, .d ((cLs cI rfl).enc v1)), (2, .box ((cXCube (cLs cI rfl) (cLs cI rfl)).enc v0)), (4, .box ((cXCube (cLo cI) (cLo cI)).enc (⟨([] : List Int), ([] : List Int)⟩ : XCube)))] (by kernel_rfl) <|
    xn <| wpC_seq <| wpC_kp <| wpC_seq <| reg_s <| st rfl <| ldb rfl rfl rfl rfl <| bnd h fun x23 e24 h => st rfl <| o_call (a1 (c := (cXCube (cLs cI rfl) (cLs cI rfl))) (tXCube (tLs tK) (tLs tK)) rfl a0) (con_spec_cbGood e24) (.inl (so1 sB so0)) <| st rfl <| o_nt rfl <| st rfl <| mvd rfl rfl <| ite_k h (fun b25 h => gf rfl b25 <| gf rfl b25 <| gf rfl b25 <| gf rfl b25 <| gf rfl b25 <| gf rfl b25 <| gf rfl b25 <| st rfl <| pick1 rfl b25 (cd := cB) (v := true) rfl rfl <| seqN [(1, .d ((cLs cI rfl).enc v1)), (2, .box ((cXCube (cLs cI rfl) (cLs cI rfl)).enc v0)), (4, .box ((cXCube (cLo cI) (cLo cI)).enc (⟨([] : List Int), ([] : List Int)⟩ : XCube))), (17, .d (cB.enc true))] (by kernel_rfl) <|
    xn <| cnd1 rfl rfl <| wpC_seq <| reg_s <| x_bld ((cXCube (cLo cI) (cLo cI)).enc (⟨([] : List Int), ([] : List Int)⟩ : XCube)) t0 rfl rfl <| x_stb (so rfl rfl) rfl (Cd.h_sz _ _) rfl <| x_asg (sc cB false rfl) <| seqN [(4, .box ((cXCube (cLo cI) (cLo cI)).enc (⟨([] : List Int), ([] : List Int)⟩ : XCube))), (5, .d (cB.enc false))] (by kernel_rfl) <|
    xn <| wpC_ret <| rt <| rt <| re <| fin h (r2 rfl rfl rfl <| r1 (ss rfl rfl) <| r0) rfl)
    (fun b25 h => gt' rfl b25 <| st rfl <| mvd rfl rfl <| gt' rfl b25 <| st rfl <| fab rfl rfl rfl rfl <| gt' rfl b25 <| st rfl <| lda rfl rfl rfl rfl rfl rfl <| gt' rfl b25 <| stw rfl <| lens rfl fun l26 => gt' rfl b25 <| ckI_k h fun i27 h => st rfl <| b_sub (k := .i64) rfl rfl i27 <| gt' rfl b25 <| bnd h fun x28 e29 h => st rfl <| o_call (a1 (c := (cLs cI rfl)) (tLs tK) rfl (a1 (c := cI) tK rfl (a1 (c := cI) tK rfl a0))) (con_spec_l1Rising e29) (.inl (so1 sB so0)) <| gt' rfl b25 <| st rfl <| o_nt rfl <| st rfl <| pick0 rfl b25 (cd := cB) (v := (!x28)) rfl rfl <| seqN [(1, .d ((cLs cI rfl).enc v1)), (2, .box ((cXCube (cLs cI rfl) (cLs cI rfl)).enc v0)), (4, .box ((cXCube (cLo cI) (cLo cI)).enc (⟨([] : List Int), ([] : List Int)⟩ : XCube))), (17, .d (cB.enc (!x28)))] (by kernel_rfl) <|
    xn <| cnd rfl h (fun b30 h => wpC_seq <| reg_s <| x_bld ((cXCube (cLo cI) (cLo cI)).enc (⟨([] : List Int), ([] : List Int)⟩ : XCube)) t0 rfl rfl <| x_stb (so rfl rfl) rfl (Cd.h_sz _ _) rfl <| x_asg (sc cB false rfl) <| seqN [(4, .box ((cXCube (cLo cI) (cLo cI)).enc (⟨([] : List Int), ([] : List Int)⟩ : XCube))), (5, .d (cB.enc false))] (by kernel_rfl) <|
    xn <| wpC_ret <| rt <| rt <| re <| fin h (r2 rfl rfl rfl <| r1 (ss rfl rfl) <| r0) rfl)
    (fun b30 h => wpC_skip <| kpN [(1, .d ((cLs cI rfl).enc v1)), (2, .box ((cXCube (cLs cI rfl) (cLs cI rfl)).enc v0)), (4, .box ((cXCube (cLo cI) (cLo cI)).enc (⟨([] : List Int), ([] : List Int)⟩ : XCube)))] (by kernel_rfl) <| xn <| wpC_seq <| reg_s <| st rfl <| ldb rfl rfl rfl rfl <| st rfl <| mvd rfl rfl <| st rfl <| fab rfl rfl rfl rfl <| st rfl <| lda rfl rfl rfl rfl rfl rfl <| bnd h fun x33 e34 h => st rfl <| o_call (a1 (c := (cXCube (cLs cI rfl) (cLs cI rfl))) (tXCube (tLs tK) (tLs tK)) rfl (a1 (c := (cLs cI rfl)) (tLs tK) rfl (a1 (c := (cLs cI rfl)) (tLs tK) rfl a0))) (con_spec_cbFrom e34) (.inl (so1 (sXCube (sLo sK) (sLo sK)) so0)) <| x_stb (so rfl rfl) rfl (Cd.h_sz _ _) rfl <| x_asg (sc cB true rfl) <| seqN [(4, .box ((cXCube (cLo cI) (cLo cI)).enc x33)), (5, .d (cB.enc true))] (by kernel_rfl) <|
    xn <| wpC_ret <| re <| fin h (r2 rfl rfl rfl <| r1 (ss rfl rfl) <| r0) rfl))

def rs_impl_taken (r : XCube) : List D := [(cXCube (cLo cI) (cLo cI)).enc r]
def m95 : MC := .seq (.reg [⟨some 3, .box (.t 0), none⟩,
    ⟨some 6, .alloc (.agg [.slice true [], .slice true []]), none⟩] [1, 2, 3, 6])
  (.seq (.reg [⟨some 7, .alloc (.agg [.slice true [], .slice true []]), none⟩] [1, 2, 3, 6, 7])
  (.seq (.kp [1, 2, 3, 6, 7] (.seq (.reg [⟨some 14, .mv (.t 1), none⟩,
    ⟨some 15, .len false (.t 14), none⟩,
    ⟨some 16, .mv (.c (.int .i64 0)), none⟩] [1, 2, 3, 6, 7, 14, 15, 16])
  (.blk 0 (.loop (.seq (.reg [⟨some 17, .bin .lss (.t 16) (.t 15), none⟩] [1, 2, 3, 6, 7, 14, 15, 16, 17])
  (.seq (.kp [1, 2, 3, 6, 7, 14, 15, 16] (.cond (.t 17) (.skip) (.exit 0)))
  (.seq (.kp [1, 2, 3, 6, 7, 14, 15, 16] (.blk 1 (.seq (.reg [⟨some 18, .ia 14 (.t 16) 1, none⟩,
    ⟨some 19, .ld 18 1 false, none⟩,
    ⟨some 9, .asg (.t 19), none⟩] [1, 2, 3, 6, 7, 9, 14, 15, 16])
  (.drw [⟨0, ⟨some 20, .fa 7 0 0, none⟩, [21, 22, 23, 24, 25, 26, 27]⟩,
    ⟨1, ⟨some 21, .ld 20 1 false, none⟩, [22, 23, 24, 25, 26, 27]⟩,
    ⟨2, ⟨some 22, .fa 3 0 0, none⟩, [20, 21, 23, 24, 25, 26, 27]⟩,
    ⟨3, ⟨some 23, .ld 22 1 false, none⟩, [20, 21, 24, 25, 26, 27]⟩,
    ⟨4, ⟨some 24, .mv (.t 9), none⟩, [20, 21, 22, 23, 25, 26, 27]⟩,
    ⟨5, ⟨some 25, .ia 23 (.t 24) 1, none⟩, [20, 21, 26, 27]⟩,
    ⟨6, ⟨some 26, .ld 25 1 false, none⟩, [20, 21, 27]⟩,
    ⟨7, ⟨some 27, .bsl [(.t 26)] 1, none⟩, [20, 21]⟩]
    [(8, ⟨some 28, .app (.t 21) (.t 27) 1, none⟩),
    (9, ⟨some 29, .fa 7 0 0, none⟩),
    (10, ⟨none, .st 29 (.t 28) 1, none⟩)] [1, 2, 3, 6, 7, 14, 15, 16]))))
  (.reg [⟨some 30, .bin .add (.t 16) (.c (.int .i64 1)), none⟩,
    ⟨some 16, .mv (.t 30), none⟩] [1, 2, 3, 6, 7, 14, 15, 16]))))))))
  (.seq (.reg [⟨some 31, .fa 7 0 0, none⟩,
    ⟨some 32, .ld 31 1 false, none⟩,
    ⟨some 33, .call 62 [(.t 32)], none⟩,
    ⟨some 34, .mk (.int .i64 0) (.t 33), none⟩,
    ⟨some 35, .fa 7 1 1, none⟩,
    ⟨none, .st 35 (.t 34) 1, none⟩] [1, 2, 3, 6, 7])
  (.seq (.kp [6, 7] (.seq (.reg [⟨some 36, .fa 7 1 1, none⟩,
    ⟨some 37, .ld 36 1 false, none⟩,
    ⟨some 38, .len false (.t 37), none⟩,
    ⟨some 39, .mv (.c (.int .i64 0)), none⟩] [1, 2, 3, 6, 7, 38, 39])
  (.blk 2 (.loop (.seq (.reg [⟨some 40, .bin .lss (.t 39) (.t 38), none⟩] [1, 2, 3, 6, 7, 38, 39, 40])
  (.seq (.kp [1, 2, 3, 6, 7, 38, 39] (.cond (.t 40) (.skip) (.exit 2)))
  (.seq (.kp [1, 2, 3, 6, 7, 38, 39] (.blk 3 (.seq (.reg [⟨some 41, .mv (.t 39), none⟩,
    ⟨some 10, .asg (.t 41), none⟩] [1, 2, 3, 6, 7, 10, 38, 39])
  (.seq (.reg [⟨some 42, .mv (.t 2), none⟩,
    ⟨some 43, .call 57 [(.t 42)], none⟩,
    ⟨some 11, .asg (.t 43), none⟩] [1, 2, 3, 6, 7, 10, 11, 38, 39])
  (.seq (.kp [1, 2, 3, 6, 7, 10, 11, 38, 39] (.seq (.reg [⟨some 44, .fa 7 0 0, none⟩,
    ⟨some 45, .ld 44 1 false, none⟩,
    ⟨some 46, .mv (.t 10), none⟩,
    ⟨some 47, .call 64 [(.t 45), (.t 46)], none⟩,
    ⟨some 48, .len false (.t 47), none⟩,
    ⟨some 49, .mv (.c (.int .i64 0)), none⟩] [1, 2, 3, 6, 7, 10, 11, 38, 39, 47, 48, 49])
  (.blk 4 (.loop (.seq (.reg [⟨some 50, .bin .lss (.t 49) (.t 48), none⟩] [1, 2, 3, 6, 7, 10, 11, 38, 39, 47, 48, 49, 50])
  (.seq (.kp [1, 2, 3, 6, 7, 10, 11, 38, 39, 47, 48, 49] (.cond (.t 50) (.skip) (.exit 4)))
  (.seq (.kp [1, 2, 3, 6, 7, 10, 11, 38, 39, 47, 48, 49] (.blk 5 (.seq (.reg [⟨some 51, .mv (.t 49), none⟩,
    ⟨some 52, .ia 47 (.t 49) 1, none⟩,
    ⟨some 53, .ld 52 1 false, none⟩,
    ⟨some 12, .asg (.t 51), none⟩,
    ⟨some 13, .asg (.t 53), none⟩] [1, 2, 3, 6, 7, 10, 11, 12, 13, 38, 39, 47, 48, 49])
  (.reg [⟨some 54, .mv (.t 11), none⟩,
    ⟨some 55, .mv (.t 1), none⟩,
    ⟨some 56, .mv (.t 12), none⟩,
    ⟨some 57, .ia 55 (.t 56) 1, none⟩,
    ⟨some 58, .ld 57 1 false, none⟩,
    ⟨some 59, .mv (.t 13), none⟩,
    ⟨some 60, .ia 54 (.t 58) 1, none⟩,
    ⟨none, .st 60 (.t 59) 1, none⟩] [1, 2, 3, 6, 7, 10, 11, 38, 39, 47, 48, 49]))))
  (.reg [⟨some 61, .bin .add (.t 49) (.c (.int .i64 1)), none⟩,
    ⟨some 49, .mv (.t 61), none⟩] [1, 2, 3, 6, 7, 10, 11, 38, 39, 47, 48, 49]))))))))
  (.drw [⟨0, ⟨some 62, .fa 7 1 1, none⟩, [63, 64, 65, 66, 67, 68, 69, 70, 71, 72, 73]⟩,
    ⟨1, ⟨some 63, .ld 62 1 false, none⟩, [64, 65, 66, 67, 68, 69, 70, 71, 72, 73]⟩,
    ⟨2, ⟨some 64, .mv (.t 10), none⟩, [62, 63, 65, 66, 67, 68, 69, 70, 71, 72, 73]⟩,
    ⟨3, ⟨some 65, .fa 3 1 1, none⟩, [62, 63, 64, 66, 67, 68, 69, 70, 71, 72, 73]⟩,
    ⟨4, ⟨some 66, .ld 65 1 false, none⟩, [62, 63, 64, 67, 68, 69, 70, 71, 72, 73]⟩,
    ⟨5, ⟨some 67, .fa 3 0 0, none⟩, [62, 63, 64, 65, 66, 68, 69, 70, 71, 72, 73]⟩,
    ⟨6, ⟨some 68, .ld 67 1 false, none⟩, [62, 63, 64, 65, 66, 69, 70, 71, 72, 73]⟩,
    ⟨7, ⟨some 69, .mv (.t 11), none⟩, [62, 63, 64, 65, 66, 67, 68, 70, 71, 72, 73]⟩,
    ⟨8, ⟨some 70, .call 83 [(.t 68), (.t 69)], none⟩, [62, 63, 64, 65, 66, 71, 72, 73]⟩,
    ⟨9, ⟨some 71, .ia 66 (.t 70) 1, none⟩, [62, 63, 64, 72, 73]⟩,
    ⟨10, ⟨some 72, .ld 71 1 false, none⟩, [62, 63, 64, 73]⟩,
    ⟨11, ⟨some 73, .ia 63 (.t 64) 1, none⟩, []⟩]
    [(12, ⟨none, .st 73 (.t 72) 1, none⟩)] [1, 2, 3, 6, 7, 38, 39]))))))
  (.reg [⟨some 74, .bin .add (.t 39) (.c (.int .i64 1)), none⟩,
    ⟨some 39, .mv (.t 74), none⟩] [1, 2, 3, 6, 7, 38, 39]))))))))
  (.seq (.reg [⟨some 75, .ld 7 2 true, none⟩,
    ⟨none, .st 6 (.t 75) 2, none⟩] [6])
  (.ret))))))
theorem con_impl_taken {v0 : XCube} {v1 : (List Int)} {v2 : (List Int)} {r : XCube} (h : sh_impl_taken v0 v1 v2 = some r) : Con Try.prog 95 [(cXCube (cLs cI rfl) (cLs cI rfl)).enc v0, (cLs cI rfl).enc v1, (cLs cI rfl).enc v2] [] (rs_impl_taken r) := by
  delta sh_impl_taken at h
  refine top (out := none) (f := Try.f95) (m := m95) (rs := [.c 6 2 true]) (by kernel_rfl) rfl (by kernel_rfl) (by kernel_rfl) (by kernel_rfl) (by kernel_rfl) (by kernel_rfl) ?_
  exact
   ini [(0, .d ((cXCube (cLs cI rfl) (cLs cI rfl)).enc v0)), (1, .d ((cLs cI rfl).enc v1)), (2, .d ((cLs cI rfl).enc v2))] rfl <| wpC_seq <| reg_s <| x_box (ss rfl rfl) <| x_all (cXCube (cLo cI) (cLo cI)) (⟨([] : List Int), ([] : List Int)⟩ : XCube) rfl <| seqN [(1, .d ((cLs cI rfl).enc v1)), (2, .d ((cLs cI rfl).enc v2)), (3, .box ((cXCube (cLs cI rfl) (cLs cI rfl)).enc v0)), (6, .box ((cXCube (cLo cI) (cLo cI)).enc (⟨([] : List Int), ([] : List Int)⟩ : XCube)))] (by kernel_rfl) <|
    xn <| wpC_seq <| reg_s <| x_all (cXCube (cLo cI) (cLo cI)) (⟨([] : List Int), ([] : List Int)⟩ : XCube) rfl <| seqN [(1, .d ((cLs cI rfl).enc v1)), (2, .d ((cLs cI rfl).enc v2)), (3, .box ((cXCube (cLs cI rfl) (cLs cI rfl)).enc v0)), (6, .box ((cXCube (cLo cI) (cLo cI)).enc (⟨([] : List Int), ([] : List Int)⟩ : XCube))), (7, .box ((cXCube (cLo cI) (cLo cI)).enc (⟨([] : List Int), ([] : List Int)⟩ : XCube)))] (by kernel_rfl) <|
    xn <| wpC_seq <| wpC_kp <| wpC_seq <| reg_s <| st rfl <| mvd rfl rfl <| stw rfl <| lens rfl fun l36 => st rfl <| mvc cI (0 : Int) rfl <| seqN [(1, .d ((cLs cI rfl).enc v1)), (2, .d ((cLs cI rfl).enc v2)), (3, .box ((cXCube (cLs cI rfl) (cLs cI rfl)).enc v0)), (6, .box ((cXCube (cLo cI) (cLo cI)).enc (⟨([] : List Int), ([] : List Int)⟩ : XCube))), (7, .box ((cXCube (cLo cI) (cLo cI)).enc (⟨([] : List Int), ([] : List Int)⟩ : XCube))), (14, .d ((cLs cI rfl).enc v1)), (15, .d (cI.enc (v1.length : Int))), (16, .d (cI.enc (0 : Int)))] (by kernel_rfl) <|
    xn <| wpC_blk <| lpR (fun (k38 : Nat) (s37 : XCube) => [(1, .d ((cLs cI rfl).enc v1)), (2, .d ((cLs cI rfl).enc v2)), (3, .box ((cXCube (cLs cI rfl) (cLs cI rfl)).enc v0)), (6, .box ((cXCube (cLo cI) (cLo cI)).enc (⟨([] : List Int), ([] : List Int)⟩ : XCube))), (7, .box ((cXCube (cLo cI) (cLo cI)).enc s37)), (14, .d ((cLs cI rfl).enc v1)), (15, .d (cI.enc (v1.length : Int))), (16, .d (cI.enc (k38 : Int)))]) (⟨([] : List Int), ([] : List Int)⟩ : XCube) rfl h
    (fun G60 s37 h => wpC_seq <| reg_s <| st rfl <| b_lss (k := .i64) rfl rfl <| seqN [(1, .d ((cLs cI rfl).enc v1)), (2, .d ((cLs cI rfl).enc v2)), (3, .box ((cXCube (cLs cI rfl) (cLs cI rfl)).enc v0)), (6, .box ((cXCube (cLo cI) (cLo cI)).enc (⟨([] : List Int), ([] : List Int)⟩ : XCube))), (7, .box ((cXCube (cLo cI) (cLo cI)).enc s37)), (14, .d ((cLs cI rfl).enc v1)), (15, .d (cI.enc (v1.length : Int))), (16, .d (cI.enc (v1.length : Int))), (17, .d (cB.enc (decide ((v1.length : Int) < (v1.length : Int)))))] (by kernel_rfl) <|
    xn <| wpC_seq <| wpC_kp <| cnd0 rfl (dlf _) <| wpC_exit <| xt <| xt <| xt <| xb <| kpN [(1, .d ((cLs cI rfl).enc v1)), (2, .d ((cLs cI rfl).enc v2)), (3, .box ((cXCube (cLs cI rfl) (cLs cI rfl)).enc v0)), (6, .box ((cXCube (cLo cI) (cLo cI)).enc (⟨([] : List Int), ([] : List Int)⟩ : XCube))), (7, .box ((cXCube (cLo cI) (cLo cI)).enc s37))] (by kernel_rfl) <| xn <| wpC_seq <| reg_s <| st rfl <| fab rfl rfl rfl rfl <| st rfl <| ldao rfl rfl rfl rfl rfl rfl <| bnd h fun x65 e66 h => st rfl <| o_call (a1 (c := (cLo cI)) (tLo tK) rfl a0) (con_impl_cubeCells e66) (.inl (so1 sK so0)) <| mkO_k h fun i67 l68 h => st rfl <| o_mk (c := cI) (a0 := (0 : Int)) rfl (k := .i64) rfl i67 l68 <| st rfl <| fab rfl rfl rfl rfl <| x_sta ((cXCube (cLo cI) (cLo cI)).enc (⟨s37.Sizes, (List.replicate (x65).toNat (0 : Int))⟩ : XCube)) (so rfl rfl) rfl rfl (Ln.fld rfl rfl Ln.nil rfl) (Cd.h_sz (cLo cI) _) rfl <| seqN [(1, .d ((cLs cI rfl).enc v1)), (2, .d ((cLs cI rfl).enc v2)), (3, .box ((cXCube (cLs cI rfl) (cLs cI rfl)).enc v0)), (6, .box ((cXCube (cLo cI) (cLo cI)).enc (⟨([] : List Int), ([] : List Int)⟩ : XCube))), (7, .box ((cXCube (cLo cI) (cLo cI)).enc (⟨s37.Sizes, (List.replicate (x65).toNat (0 : Int))⟩ : XCube)))] (by kernel_rfl) <|
    xn <| wpC_seq <| wpC_kp <| wpC_seq <| reg_s <| st rfl <| fab rfl rfl rfl rfl <| st rfl <| ldao rfl rfl rfl rfl rfl rfl <| stw rfl <| leno rfl fun l746 => st rfl <| mvc cI (0 : Int) rfl <| seqN [(1, .d ((cLs cI rfl).enc v1)), (2, .d ((cLs cI rfl).enc v2)), (3, .box ((cXCube (cLs cI rfl) (cLs cI rfl)).enc v0)), (6, .box ((cXCube (cLo cI) (cLo cI)).enc (⟨([] : List Int), ([] : List Int)⟩ : XCube))), (7, .box ((cXCube (cLo cI) (cLo cI)).enc (⟨s37.Sizes, (List.replicate (x65).toNat (0 : Int))⟩ : XCube))), (38, .d (cI.enc ((List.replicate (x65).toNat (0 : Int)).length : Int))), (39, .d (cI.enc (0 : Int)))] (by kernel_rfl) <|
    xn <| wpC_blk <| lpR (fun (k748 : Nat) (s747 : XCube) => [(1, .d ((cLs cI rfl).enc v1)), (2, .d ((cLs cI rfl).enc v2)), (3, .box ((cXCube (cLs cI rfl) (cLs cI rfl)).enc v0)), (6, .box ((cXCube (cLo cI) (cLo cI)).enc (⟨([] : List Int), ([] : List Int)⟩ : XCube))), (7, .box ((cXCube (cLo cI) (cLo cI)).enc s747)), (38, .d (cI.enc ((List.replicate (x65).toNat (0 : Int)).length : Int))), (39, .d (cI.enc (k748 : Int)))]) (⟨s37.Sizes, (List.replicate (x65).toNat (0 : Int))⟩ : XCube) rfl h
    (fun G1196 s747 h => wpC_seq <| reg_s <| st rfl <| b_lss (k := .i64) rfl rfl <| seqN [(1, .d ((cLs cI rfl).enc v1)), (2, .d ((cLs cI rfl).enc v2)), (3, .box ((cXCube (cLs cI rfl) (cLs cI rfl)).enc v0)), (6, .box ((cXCube (cLo cI) (cLo cI)).enc (⟨([] : List Int), ([] : List Int)⟩ : XCube))), (7, .box ((cXCube (cLo cI) (cLo cI)).enc s747)), (38, .d (cI.enc ((List.replicate (x65).toNat (0 : Int)).length : Int))), (39, .d (cI.enc ((List.replicate (x65).toNat (0 : Int)).length : Int))), (40, .d (cB.enc (decide (((List.replicate (x65).toNat (0 : Int)).length : Int) < ((List.replicate (x65).toNat (0 : Int)).length : Int)))))] (by kernel_rfl) <|
    xn <| wpC_seq <| wpC_kp <| cnd0 rfl (dlf _) <| wpC_exit <| xt <| xt <| xt <| xb <| kpN [(6, .box ((cXCube (cLo cI) (cLo cI)).enc (⟨([] : List Int), ([] : List Int)⟩ : XCube))), (7, .box ((cXCube (cLo cI) (cLo cI)).enc s747))] (by kernel_rfl) <| xn <| wpC_seq <| reg_s <| st rfl <| ldbo rfl rfl rfl rfl <| x_stb (sb rfl rfl) rfl (Cd.h_sz _ _) rfl <| seqN [(6, .box ((cXCube (cLo cI) (cLo cI)).enc s747))] (by kernel_rfl) <|
    xn <| wpC_ret <| re <| fin h (r2 rfl rfl rfl <| r0) rfl)
    (fun G1196 nx1194 k748 s747 x749 hk750 hx751 hn1195 h => wpC_seq <| reg_s <| st rfl <| b_lss (k := .i64) rfl rfl <| seqN [(1, .d ((cLs cI rfl).enc v1)), (2, .d ((cLs cI rfl).enc v2)), (3, .box ((cXCube (cLs cI rfl) (cLs cI rfl)).enc v0)), (6, .box ((cXCube (cLo cI) (cLo cI)).enc (⟨([] : List Int), ([] : List Int)⟩ : XCube))), (7, .box ((cXCube (cLo cI) (cLo cI)).enc s747)), (38, .d (cI.enc ((List.replicate (x65).toNat (0 : Int)).length : Int))), (39, .d (cI.enc (k748 : Int))), (40, .d (cB.enc (decide ((k748 : Int) < ((List.replicate (x65).toNat (0 : Int)).length : Int)))))] (by kernel_rfl) <|
    xn <| wpC_seq <| wpC_kp <| cnd1 rfl (dlt hk750) <| wpC_skip <| kpN [(1, .d ((cLs cI rfl).enc v1)), (2, .d ((cLs cI rfl).enc v2)), (3, .box ((cXCube (cLs cI rfl) (cLs cI rfl)).enc v0)), (6, .box ((cXCube (cLo cI) (cLo cI)).enc (⟨([] : List Int), ([] : List Int)⟩ : XCube))), (7, .box ((cXCube (cLo cI) (cLo cI)).enc s747)), (38, .d (cI.enc ((List.replicate (x65).toNat (0 : Int)).length : Int))), (39, .d (cI.enc (k748 : Int)))] (by kernel_rfl) <| xn <| wpC_seq <| wpC_kp <| wpC_blk <| wpC_seq <| reg_s <| st rfl <| mvd rfl rfl <| x_asg (ss rfl rfl) <| seqN [(1, .d ((cLs cI rfl).enc v1)), (2, .d ((cLs cI rfl).enc v2)), (3, .box ((cXCube (cLs cI rfl) (cLs cI rfl)).enc v0)), (6, .box ((cXCube (cLo cI) (cLo cI)).enc (⟨([] : List Int), ([] : List Int)⟩ : XCube))), (7, .box ((cXCube (cLo cI) (cLo cI)).enc s747)), (10, .d (cI.enc (k748 : Int))), (38, .d (cI.enc ((List.replicate (x65).toNat (0 : Int)).length : Int))), (39, .d (cI.enc (k748 : Int)))] (by kernel_rfl) <|
    xn <| wpC_seq <| reg_s <| st rfl <| mvd rfl rfl <| bnd h fun x1311 e1312 h => st rfl <| o_call (a1 (c := (cLs cI rfl)) (tLs tK) rfl a0) (con_slices_Clone_int e1312) (.inl (so1 (sLo sK) so0)) <| x_asg (so rfl rfl) <| seqN [(1, .d ((cLs cI rfl).enc v1)), (2, .d ((cLs cI rfl).enc v2)), (3, .box ((cXCube (cLs cI rfl) (cLs cI rfl)).enc v0)), (6, .box ((cXCube (cLo cI) (cLo cI)).enc (⟨([] : List Int), ([] : List Int)⟩ : XCube))), (7, .box ((cXCube (cLo cI) (cLo cI)).enc s747)), (10, .d (cI.enc (k748 : Int))), (11, .d ((cLo cI).enc x1311)), (38, .d (cI.enc ((List.replicate (x65).toNat (0 : Int)).length : Int))), (39, .d (cI.enc (k748 : Int)))] (by kernel_rfl) <|
    xn <| wpC_seq <| wpC_kp <| wpC_seq <| reg_s <| st rfl <| fab rfl rfl rfl rfl <| st rfl <| ldao rfl rfl rfl rfl rfl rfl <| st rfl <| mvd rfl rfl <| bnd h fun x1366 e1367 h => st rfl <| o_call (a1 (c := (cLo cI)) (tLo tK) rfl (a1 (c := cI) tK rfl a0)) (con_impl_indexOf e1367) (.inl (so1 (sLo sK) so0)) <| stw rfl <| leno rfl fun l1368 => st rfl <| mvc cI (0 : Int) rfl <| seqN [(1, .d ((cLs cI rfl).enc v1)), (2, .d ((cLs cI rfl).enc v2)), (3, .box ((cXCube (cLs cI rfl) (cLs cI rfl)).enc v0)), (6, .box ((cXCube (cLo cI) (cLo cI)).enc (⟨([] : List Int), ([] : List Int)⟩ : XCube))), (7, .box ((cXCube (cLo cI) (cLo cI)).enc s747)), (10, .d (cI.enc (k748 : Int))), (11, .d ((cLo cI).enc x1311)), (38, .d (cI.enc ((List.replicate (x65).toNat (0 : Int)).length : Int))), (39, .d (cI.enc (k748 : Int))), (47, .d ((cLo cI).enc x1366)), (48, .d (cI.enc (x1366.length : Int))), (49, .d (cI.enc (0 : Int)))] (by kernel_rfl) <|
    xn <| wpC_blk <| lpR (fun (k1370 : Nat) (s1369 : (List Int)) => [(1, .d ((cLs cI rfl).enc v1)), (2, .d ((cLs cI rfl).enc v2)), (3, .box ((cXCube (cLs cI rfl) (cLs cI rfl)).enc v0)), (6, .box ((cXCube (cLo cI) (cLo cI)).enc (⟨([] : List Int), ([] : List Int)⟩ : XCube))), (7, .box ((cXCube (cLo cI) (cLo cI)).enc s747)), (10, .d (cI.enc (k748 : Int))), (11, .d ((cLo cI).enc s1369)), (38, .d (cI.enc ((List.replicate (x65).toNat (0 : Int)).length : Int))), (39, .d (cI.enc (k748 : Int))), (47, .d ((cLo cI).enc x1366)), (48, .d (cI.enc (x1366.length : Int))), (49, .d (cI.enc (k1370 : Int)))]) x1311 rfl h
    (fun G1400 s1369 h => wpC_seq <| reg_s <| st rfl <| b_lss (k := .i64) rfl rfl <| seqN [(1, .d ((cLs cI rfl).enc v1)), (2, .d ((cLs cI rfl).enc v2)), (3, .box ((cXCube (cLs cI rfl) (cLs cI rfl)).enc v0)), (6, .box ((cXCube (cLo cI) (cLo cI)).enc (⟨([] : List Int), ([] : List Int)⟩ : XCube))), (7, .box ((cXCube (cLo cI) (cLo cI)).enc s747)), (10, .d (cI.enc (k748 : Int))), (11, .d ((cLo cI).enc s1369)), (38, .d (cI.enc ((List.replicate (x65).toNat (0 : Int)).length : Int))), (39, .d (cI.enc (k748 : Int))), (47, .d ((cLo cI).enc x1366)), (48, .d (cI.enc (x1366.length : Int))), (49, .d (cI.enc (x1366.length : Int))), (50, .d (cB.enc (decide ((x1366.length : Int) < (x1366.length : Int)))))] (by kernel_rfl) <|
    xn <| wpC_seq <| wpC_kp <| cnd0 rfl (dlf _) <| wpC_exit <| xt <| xt <| xt <| xb <| kpN [(1, .d ((cLs cI rfl).enc v1)), (2, .d ((cLs cI rfl).enc v2)), (3, .box ((cXCube (cLs cI rfl) (cLs cI rfl)).enc v0)), (6, .box ((cXCube (cLo cI) (cLo cI)).enc (⟨([] : List Int), ([] : List Int)⟩ : XCube))), (7, .box ((cXCube (cLo cI) (cLo cI)).enc s747)), (10, .d (cI.enc (k748 : Int))), (11, .d ((cLo cI).enc s1369)), (38, .d (cI.enc ((List.replicate (x65).toNat (0 : Int)).length : Int))), (39, .d (cI.enc (k748 : Int)))] (by kernel_rfl) <| xn <| drw_s <| pst rfl <| fab rfl rfl rfl rfl ⟨rfl, pst rfl <| ldao rfl rfl rfl rfl rfl rfl ⟨rfl, pst rfl <| mvd rfl rfl ⟨rfl, pst rfl <| fab rfl rfl rfl rfl ⟨rfl, pst rfl <| lda rfl rfl rfl rfl rfl rfl ⟨rfl, pst rfl <| fab rfl rfl rfl rfl ⟨rfl, pst rfl <| lda rfl rfl rfl rfl rfl rfl ⟨rfl, pst rfl <| mvo rfl rfl ⟨rfl, bndp h fun x1401 e1402 h => pst rfl <| o_call (a1 (c := (cLs cI rfl)) (tLs tK) rfl (a1 (c := (cLo cI)) (tLo tK) rfl a0)) (con_impl_cellOf e1402) (.inl (so1 sK so0)) ⟨rfl, getO_kp h fun x1403 i1404 g1405 h => pst rfl <| ias rfl rfl i1404 g1405 rfl ⟨rfl, pst rfl <| ldi rfl rfl rfl rfl ⟨rfl, getO_kp h fun x1406 i1407 g1408 h => pst rfl <| iar rfl rfl rfl rfl i1407 g1408 rfl ⟨rfl, preN <| x_sta ((cXCube (cLo cI) (cLo cI)).enc (⟨s747.Sizes, (s747.Cells.set ((k748 : Int)).toNat x1403)⟩ : XCube)) (ss rfl rfl) rfl rfl (Ln.fld rfl rfl (Ln.idx g1408 Ln.nil) rfl) (Cd.h_sz cI _) rfl <| seqN [(1, .d ((cLs cI rfl).enc v1)), (2, .d ((cLs cI rfl).enc v2)), (3, .box ((cXCube (cLs cI rfl) (cLs cI rfl)).enc v0)), (6, .box ((cXCube (cLo cI) (cLo cI)).enc (⟨([] : List Int), ([] : List Int)⟩ : XCube))), (7, .box ((cXCube (cLo cI) (cLo cI)).enc (⟨s747.Sizes, (s747.Cells.set ((k748 : Int)).toNat x1403)⟩ : XCube))), (38, .d (cI.enc ((List.replicate (x65).toNat (0 : Int)).length : Int))), (39, .d (cI.enc (k748 : Int)))] (by kernel_rfl) <|
    xbb <| kpN [(1, .d ((cLs cI rfl).enc v1)), (2, .d ((cLs cI rfl).enc v2)), (3, .box ((cXCube (cLs cI rfl) (cLs cI rfl)).enc v0)), (6, .box ((cXCube (cLo cI) (cLo cI)).enc (⟨([] : List Int), ([] : List Int)⟩ : XCube))), (7, .box ((cXCube (cLo cI) (cLo cI)).enc (⟨s747.Sizes, (s747.Cells.set ((k748 : Int)).toNat x1403)⟩ : XCube))), (38, .d (cI.enc ((List.replicate (x65).toNat (0 : Int)).length : Int))), (39, .d (cI.enc (k748 : Int)))] (by kernel_rfl) <| xn <| reg_s <| st rfl <| b_inc rfl rfl l746 hk750 <| st rfl <| mvd rfl rfl <| seqN [(1, .d ((cLs cI rfl).enc v1)), (2, .d ((cLs cI rfl).enc v2)), (3, .box ((cXCube (cLs cI rfl) (cLs cI rfl)).enc v0)), (6, .box ((cXCube (cLo cI) (cLo cI)).enc (⟨([] : List Int), ([] : List Int)⟩ : XCube))), (7, .box ((cXCube (cLo cI) (cLo cI)).enc (⟨s747.Sizes, (s747.Cells.set ((k748 : Int)).toNat x1403)⟩ : XCube))), (38, .d (cI.enc ((List.replicate (x65).toNat (0 : Int)).length : Int))), (39, .d (cI.enc ((k748 + 1 : Nat) : Int)))] (by kernel_rfl) <|
    xn <| hn1195 (⟨s747.Sizes, (s747.Cells.set ((k748 : Int)).toNat x1403)⟩ : XCube) h⟩⟩⟩⟩⟩⟩⟩⟩⟩⟩⟩⟩)
    (fun G1400 nx1398 k1370 s1369 x1371 hk1372 hx1373 hn1399 h => wpC_seq <| reg_s <| st rfl <| b_lss (k := .i64) rfl rfl <| seqN [(1, .d ((cLs cI rfl).enc v1)), (2, .d ((cLs cI rfl).enc v2)), (3, .box ((cXCube (cLs cI rfl) (cLs cI rfl)).enc v0)), (6, .box ((cXCube (cLo cI) (cLo cI)).enc (⟨([] : List Int), ([] : List Int)⟩ : XCube))), (7, .box ((cXCube (cLo cI) (cLo cI)).enc s747)), (10, .d (cI.enc (k748 : Int))), (11, .d ((cLo cI).enc s1369)), (38, .d (cI.enc ((List.replicate (x65).toNat (0 : Int)).length : Int))), (39, .d (cI.enc (k748 : Int))), (47, .d ((cLo cI).enc x1366)), (48, .d (cI.enc (x1366.length : Int))), (49, .d (cI.enc (k1370 : Int))), (50, .d (cB.enc (decide ((k1370 : Int) < (x1366.length : Int)))))] (by kernel_rfl) <|
    xn <| wpC_seq <| wpC_kp <| cnd1 rfl (dlt hk1372) <| wpC_skip <| kpN [(1, .d ((cLs cI rfl).enc v1)), (2, .d ((cLs cI rfl).enc v2)), (3, .box ((cXCube (cLs cI rfl) (cLs cI rfl)).enc v0)), (6, .box ((cXCube (cLo cI) (cLo cI)).enc (⟨([] : List Int), ([] : List Int)⟩ : XCube))), (7, .box ((cXCube (cLo cI) (cLo cI)).enc s747)), (10, .d (cI.enc (k748 : Int))), (11, .d ((cLo cI).enc s1369)), (38, .d (cI.enc ((List.replicate (x65).toNat (0 : Int)).length : Int))), (39, .d (cI.enc (k748 : Int))), (47, .d ((cLo cI).enc x1366)), (48, .d (cI.enc (x1366.length : Int))), (49, .d (cI.enc (k1370 : Int)))] (by kernel_rfl) <| xn <| wpC_seq <| wpC_kp <| wpC_blk <| wpC_seq <| reg_s <| st rfl <| mvd rfl rfl <| st rfl <| iao rfl rfl (Int.natCast_nonneg _) hx1373 rfl <| st rfl <| lda rfl rfl (Gt.idx hx1373 Gt.nil) rfl rfl rfl <| x_asg (ss rfl rfl) <| x_asg (ss rfl rfl) <| seqN [(1, .d ((cLs cI rfl).enc v1)), (2, .d ((cLs cI rfl).enc v2)), (3, .box ((cXCube (cLs cI rfl) (cLs cI rfl)).enc v0)), (6, .box ((cXCube (cLo cI) (cLo cI)).enc (⟨([] : List Int), ([] : List Int)⟩ : XCube))), (7, .box ((cXCube (cLo cI) (cLo cI)).enc s747)), (10, .d (cI.enc (k748 : Int))), (11, .d ((cLo cI).enc s1369)), (12, .d (cI.enc (k1370 : Int))), (13, .d (cI.enc x1371)), (38, .d (cI.enc ((List.replicate (x65).toNat (0 : Int)).length : Int))), (39, .d (cI.enc (k748 : Int))), (47, .d ((cLo cI).enc x1366)), (48, .d (cI.enc (x1366.length : Int))), (49, .d (cI.enc (k1370 : Int)))] (by kernel_rfl) <|
    xn <| reg_s <| st rfl <| mvo rfl rfl <| st rfl <| mvd rfl rfl <| st rfl <| mvd rfl rfl <| getO_k h fun x1415 i1416 g1417 h => st rfl <| ias rfl rfl i1416 g1417 rfl <| st rfl <| ldi rfl rfl rfl rfl <| st rfl <| mvd rfl rfl <| getO_k h fun x1418 i1419 g1420 h => st rfl <| iar rfl rfl rfl rfl i1419 g1420 rfl <| x_sta ((cLo cI).enc (s1369.set (x1415).toNat x1371)) (ss rfl rfl) rfl rfl (Ln.idx g1420 Ln.nil) (Cd.h_sz cI _) rfl <| seqN [(1, .d ((cLs cI rfl).enc v1)), (2, .d ((cLs cI rfl).enc v2)), (3, .box ((cXCube (cLs cI rfl) (cLs cI rfl)).enc v0)), (6, .box ((cXCube (cLo cI) (cLo cI)).enc (⟨([] : List Int), ([] : List Int)⟩ : XCube))), (7, .box ((cXCube (cLo cI) (cLo cI)).enc s747)), (10, .d (cI.enc (k748 : Int))), (11, .d ((cLo cI).enc (s1369.set (x1415).toNat x1371))), (38, .d (cI.enc ((List.replicate (x65).toNat (0 : Int)).length : Int))), (39, .d (cI.enc (k748 : Int))), (47, .d ((cLo cI).enc x1366)), (48, .d (cI.enc (x1366.length : Int))), (49, .d (cI.enc (k1370 : Int)))] (by kernel_rfl) <|
    xbb <| kpN [(1, .d ((cLs cI rfl).enc v1)), (2, .d ((cLs cI rfl).enc v2)), (3, .box ((cXCube (cLs cI rfl) (cLs cI rfl)).enc v0)), (6, .box ((cXCube (cLo cI) (cLo cI)).enc (⟨([] : List Int), ([] : List Int)⟩ : XCube))), (7, .box ((cXCube (cLo cI) (cLo cI)).enc s747)), (10, .d (cI.enc (k748 : Int))), (11, .d ((cLo cI).enc (s1369.set (x1415).toNat x1371))), (38, .d (cI.enc ((List.replicate (x65).toNat (0 : Int)).length : Int))), (39, .d (cI.enc (k748 : Int))), (47, .d ((cLo cI).enc x1366)), (48, .d (cI.enc (x1366.length : Int))), (49, .d (cI.enc (k1370 : Int)))] (by kernel_rfl) <| xn <| reg_s <| st rfl <| b_inc rfl rfl l1368 hk1372 <| st rfl <| mvd rfl rfl <| seqN [(1, .d ((cLs cI rfl).enc v1)), (2, .d ((cLs cI rfl).enc v2)), (3, .box ((cXCube (cLs cI rfl) (cLs cI rfl)).enc v0)), (6, .box ((cXCube (cLo cI) (cLo cI)).enc (⟨([] : List Int), ([] : List Int)⟩ : XCube))), (7, .box ((cXCube (cLo cI) (cLo cI)).enc s747)), (10, .d (cI.enc (k748 : Int))), (11, .d ((cLo cI).enc (s1369.set (x1415).toNat x1371))), (38, .d (cI.enc ((List.replicate (x65).toNat (0 : Int)).length : Int))), (39, .d (cI.enc (k748 : Int))), (47, .d ((cLo cI).enc x1366)), (48, .d (cI.enc (x1366.length : Int))), (49, .d (cI.enc ((k1370 + 1 : Nat) : Int)))] (by kernel_rfl) <|
    xn <| hn1399 (s1369.set (x1415).toNat x1371) h)))
    (fun G60 nx58 k38 s37 x39 hk40 hx41 hn59 h => wpC_seq <| reg_s <| st rfl <| b_lss (k := .i64) rfl rfl <| seqN [(1, .d ((cLs cI rfl).enc v1)), (2, .d ((cLs cI rfl).enc v2)), (3, .box ((cXCube (cLs cI rfl) (cLs cI rfl)).enc v0)), (6, .box ((cXCube (cLo cI) (cLo cI)).enc (⟨([] : List Int), ([] : List Int)⟩ : XCube))), (7, .box ((cXCube (cLo cI) (cLo cI)).enc s37)), (14, .d ((cLs cI rfl).enc v1)), (15, .d (cI.enc (v1.length : Int))), (16, .d (cI.enc (k38 : Int))), (17, .d (cB.enc (decide ((k38 : Int) < (v1.length : Int)))))] (by kernel_rfl) <|
    xn <| wpC_seq <| wpC_kp <| cnd1 rfl (dlt hk40) <| wpC_skip <| kpN [(1, .d ((cLs cI rfl).enc v1)), (2, .d ((cLs cI rfl).enc v2)), (3, .box ((cXCube (cLs cI rfl) (cLs cI rfl)).enc v0)), (6, .box ((cXCube (cLo cI) (cLo cI)).enc (⟨([] : List Int), ([] : List Int)⟩ : XCube))), (7, .box ((cXCube (cLo cI) (cLo cI)).enc s37)), (14, .d ((cLs cI rfl).enc v1)), (15, .d (cI.enc (v1.length : Int))), (16, .d (cI.enc (k38 : Int)))] (by kernel_rfl) <| xn <| wpC_seq <| wpC_kp <| wpC_blk <| wpC_seq <| reg_s <| st rfl <| ias rfl rfl (Int.natCast_nonneg _) hx41 rfl <| st rfl <| ldi rfl rfl rfl rfl <| x_asg (ss rfl rfl) <| seqN [(1, .d ((cLs cI rfl).enc v1)), (2, .d ((cLs cI rfl).enc v2)), (3, .box ((cXCube (cLs cI rfl) (cLs cI rfl)).enc v0)), (6, .box ((cXCube (cLo cI) (cLo cI)).enc (⟨([] : List Int), ([] : List Int)⟩ : XCube))), (7, .box ((cXCube (cLo cI) (cLo cI)).enc s37)), (9, .d (cI.enc x39)), (14, .d ((cLs cI rfl).enc v1)), (15, .d (cI.enc (v1.length : Int))), (16, .d (cI.enc (k38 : Int)))] (by kernel_rfl) <|
    xn <| drw_s <| pst rfl <| fab rfl rfl rfl rfl ⟨rfl, pst rfl <| ldao rfl rfl rfl rfl rfl rfl ⟨rfl, pst rfl <| fab rfl rfl rfl rfl ⟨rfl, pst rfl <| lda rfl rfl rfl rfl rfl rfl ⟨rfl, pst rfl <| mvd rfl rfl ⟨rfl, getO_kp h fun x1425 i1426 g1427 h => pst rfl <| ias rfl rfl i1426 g1427 rfl ⟨rfl, pst rfl <| ldi rfl rfl rfl rfl ⟨rfl, pst rfl <| p_bsl cI [x1425] (e1 rfl rfl rfl e0) rfl rfl ⟨rfl, preN <| lnO_k h fun l1428 h => x_app (sp ((cXCube (cH (α := (List Int))) (cLo cI)).enc (⟨s37.Sizes, s37.Cells⟩ : XCube)) rfl rfl (Ln.fld rfl rfl Ln.nil rfl)) (to rfl rfl) l1428 rfl <| st rfl <| fab rfl rfl rfl rfl <| x_sta ((cXCube (cLo cI) (cLo cI)).enc (⟨(s37.Sizes ++ [x1425]), s37.Cells⟩ : XCube)) (so rfl rfl) rfl rfl (Ln.fld rfl rfl Ln.nil rfl) (Cd.h_sz (cH (α := (List Int))) _) rfl <| seqN [(1, .d ((cLs cI rfl).enc v1)), (2, .d ((cLs cI rfl).enc v2)), (3, .box ((cXCube (cLs cI rfl) (cLs cI rfl)).enc v0)), (6, .box ((cXCube (cLo cI) (cLo cI)).enc (⟨([] : List Int), ([] : List Int)⟩ : XCube))), (7, .box ((cXCube (cLo cI) (cLo cI)).enc (⟨(s37.Sizes ++ [x1425]), s37.Cells⟩ : XCube))), (14, .d ((cLs cI rfl).enc v1)), (15, .d (cI.enc (v1.length : Int))), (16, .d (cI.enc (k38 : Int)))] (by kernel_rfl) <|
    xbb <| kpN [(1, .d ((cLs cI rfl).enc v1)), (2, .d ((cLs cI rfl).enc v2)), (3, .box ((cXCube (cLs cI rfl) (cLs cI rfl)).enc v0)), (6, .box ((cXCube (cLo cI) (cLo cI)).enc (⟨([] : List Int), ([] : List Int)⟩ : XCube))), (7, .box ((cXCube (cLo cI) (cLo cI)).enc (⟨(s37.Sizes ++ [x1425]), s37.Cells⟩ : XCube))), (14, .d ((cLs cI rfl).enc v1)), (15, .d (cI.enc (v1.length : Int))), (16, .d (cI.enc (k38 : Int)))] (by kernel_rfl) <| xn <| reg_s <| st rfl <| b_inc rfl rfl l36 hk40 <| st rfl <| mvd rfl rfl <| seqN [(1, .d ((cLs cI rfl).enc v1)), (2, .d ((cLs cI rfl).enc v2)), (3, .box ((cXCube (cLs cI rfl) (cLs cI rfl)).enc v0)), (6, .box ((cXCube (cLo cI) (cLo cI)).enc (⟨([] : List Int), ([] : List Int)⟩ : XCube))), (7, .box ((cXCube (cLo cI) (cLo cI)).enc (⟨(s37.Sizes ++ [x1425]), s37.Cells⟩ : XCube))), (14, .d ((cLs cI rfl).enc v1)), (15, .d (cI.enc (v1.length : Int))), (16, .d (cI.enc ((k38 + 1 : Nat) : Int)))] (by kernel_rfl) <|
    xn <| hn59 (⟨(s37.Sizes ++ [x1425]), s37.Cells⟩ : XCube) h⟩⟩⟩⟩⟩⟩⟩⟩)

def rs_impl_MarginOf (r : (XCube × Bool)) : List D := [(cXCube (cLo cI) (cLo cI)).enc r.1, cB.enc r.2]
def m49 : MC := .seq (.reg [⟨some 2, .box (.t 0), none⟩,
    ⟨some 4, .alloc (.agg [.slice true [], .slice true []]), none⟩,
    ⟨some 5, .asg (.c (.bool false)), none⟩] [1, 2, 4])
  (.seq (.reg [⟨some 6, .asg (.c (.int .i64 (-1))), none⟩] [1, 2, 4, 6])
  (.seq (.kp [1, 2, 4] (.seq (.reg [⟨some 9, .mv (.t 1), none⟩,
    ⟨some 10, .len false (.t 9), none⟩,
    ⟨some 11, .mv (.c (.int .i64 0)), none⟩] [1, 2, 4, 6, 9, 10, 11])
  (.blk 0 (.loop (.seq (.reg [⟨some 12, .bin .lss (.t 11) (.t 10), none⟩] [1, 2, 4, 6, 9, 10, 11, 12])
  (.seq (.kp [1, 2, 4, 6, 9, 10, 11] (.cond (.t 12) (.skip) (.exit 0)))
  (.seq (.kp [1, 2, 4, 6, 9, 10, 11] (.blk 1 (.seq (.reg [⟨some 13, .ia 9 (.t 11) 1, none⟩,
    ⟨some 14, .ld 13 1 false, none⟩,
    ⟨some 8, .asg (.t 14), none⟩] [1, 2, 4, 6, 8, 9, 10, 11])
  (.seq (.kp [1, 2, 4, 8, 9, 10, 11] (.seq (.reg [⟨some 15, .mv (.t 8), none⟩,
    ⟨some 16, .mv (.t 6), none⟩,
    ⟨some 17, .bin .leq (.t 15) (.t 16), none⟩,
    ⟨some 18, .mv (.t 17), none⟩,
    ⟨some 19, .mv (.t 8), some (18, false)⟩,
    ⟨some 20, .fa 2 0 0, some (18, false)⟩,
    ⟨some 21, .ld 20 1 false, some (18, false)⟩,
    ⟨some 22, .len false (.t 21), some (18, false)⟩,
    ⟨some 23, .bin .geq (.t 19) (.t 22), some (18, false)⟩,
    ⟨some 24, .pick (.t 18) (.c (.bool true)) (.t 23), none⟩] [1, 2, 4, 8, 9, 10, 11, 24])
  (.cond (.t 24) (.seq (.reg [⟨some 25, .bld [.slice true [], .slice true []] [], none⟩,
    ⟨none, .st 4 (.t 25) 2, none⟩,
    ⟨some 5, .asg (.c (.bool false)), none⟩] [4, 5])
  (.ret)) (.skip))))
  (.reg [⟨some 26, .mv (.t 8), none⟩,
    ⟨some 6, .asg (.t 26), none⟩] [1, 2, 4, 6, 9, 10, 11])))))
  (.reg [⟨some 27, .bin .add (.t 11) (.c (.int .i64 1)), none⟩,
    ⟨some 11, .mv (.t 27), none⟩] [1, 2, 4, 6, 9, 10, 11]))))))))
  (.seq (.kp [1, 2, 4] (.seq (.reg [⟨some 28, .ld 2 2 true, none⟩,
    ⟨some 29, .call 29 [(.t 28)], none⟩,
    ⟨some 30, .nt (.t 29), none⟩] [1, 2, 4, 30])
  (.cond (.t 30) (.seq (.reg [⟨some 31, .bld [.slice true [], .slice true []] [], none⟩,
    ⟨none, .st 4 (.t 31) 2, none⟩,
    ⟨some 5, .asg (.c (.bool false)), none⟩] [4, 5])
  (.ret)) (.skip))))
  (.seq (.reg [⟨some 32, .ld 2 2 true, none⟩,
    ⟨some 33, .mv (.t 1), none⟩,
    ⟨some 34, .fa 2 0 0, none⟩,
    ⟨some 35, .ld 34 1 false, none⟩,
    ⟨some 36, .call 95 [(.t 32), (.t 33), (.t 35)], none⟩,
    ⟨none, .st 4 (.t 36) 2, none⟩,
    ⟨some 5, .asg (.c (.bool true)), none⟩] [4, 5])
  (.ret)))))
theorem con_impl_MarginOf {v0 : XCube} {v1 : (List Int)} {r : (XCube × Bool)} (h : sh_impl_MarginOf v0 v1 = some r) : Con Try.prog 49 [(cXCube (cLs cI rfl) (cLs cI rfl)).enc v0, (cLs cI rfl).enc v1] [] (rs_impl_MarginOf r) := by
  delta sh_impl_MarginOf at h
  refine top (out := none) (f := Try.f49) (m := m49) (rs := [.c 4 2 true, .t 5]) (by kernel_rfl) rfl (by kernel_rfl) (by kernel_rfl) (by kernel_rfl) (by kernel_rfl) (by kernel_rfl) ?_
  exact
   ini [(0, .d ((cXCube (cLs cI rfl) (cLs cI rfl)).enc v0)), (1, .d ((cLs cI rfl).enc v1))] rfl <| wpC_seq <| reg_s <| x_box (ss rfl rfl) <| x_all (cXCube (cLo cI) (cLo cI)) (⟨([] : List Int), ([] : List Int)⟩ : XCube) rfl <| x_asg (sc cB false rfl) <| seqN [(1, .d ((cLs cI rfl).enc v1)), (2, .box ((cXCube (cLs cI rfl) (cLs cI rfl)).enc v0)), (4, .box ((cXCube (cLo cI) (cLo cI)).enc (⟨([] : List Int), ([] : List Int)⟩ : XCube)))] (by kernel_rfl) <|
    xn <| wpC_seq <| reg_s <| x_asg (sc cI (-1 : Int) rfl) <| seqN [(1, .d ((cLs cI rfl).enc v1)), (2, .box ((cXCube (cLs cI rfl) (cLs cI rfl)).enc v0)), (4, .box ((cXCube (cLo cI) (cLo cI)).enc (⟨([] : List Int), ([] : List Int)⟩ : XCube))), (6, .d (cI.enc (-1 : Int)))] (by kernel_rfl) <|
    xn <| wpC_seq <| wpC_kp <| wpC_seq <| reg_s <| st rfl <| mvd rfl rfl <| stw rfl <| lens rfl fun l72 => st rfl <| mvc cI (0 : Int) rfl <| seqN [(1, .d ((cLs cI rfl).enc v1)), (2, .box ((cXCube (cLs cI rfl) (cLs cI rfl)).enc v0)), (4, .box ((cXCube (cLo cI) (cLo cI)).enc (⟨([] : List Int), ([] : List Int)⟩ : XCube))), (6, .d (cI.enc (-1 : Int))), (9, .d ((cLs cI rfl).enc v1)), (10, .d (cI.enc (v1.length : Int))), (11, .d (cI.enc (0 : Int)))] (by kernel_rfl) <|
    xn <| wpC_blk <| lpR (fun (k74 : Nat) (s73 : Int) => [(1, .d ((cLs cI rfl).enc v1)), (2, .box ((cXCube (cLs cI rfl) (cLs cI rfl)).enc v0)), (4, .box ((cXCube (cLo cI) (cLo cI)).enc (⟨([] : List Int), ([] : List Int)⟩ : XCube))), (6, .d (cI.enc s73)), (9, .d ((cLs cI rfl).enc v1)), (10, .d (cI.enc (v1.length : Int))), (11, .d (cI.enc (k74 : Int)))]) (-1 : Int) rfl h
    (fun G120 s73 h => wpC_seq <| reg_s <| st rfl <| b_lss (k := .i64) rfl rfl <| seqN [(1, .d ((cLs cI rfl).enc v1)), (2, .box ((cXCube (cLs cI rfl) (cLs cI rfl)).enc v0)), (4, .box ((cXCube (cLo cI) (cLo cI)).enc (⟨([] : List Int), ([] : List Int)⟩ : XCube))), (6, .d (cI.enc s73)), (9, .d ((cLs cI rfl).enc v1)), (10, .d (cI.enc (v1.length : Int))), (11, .d (cI.enc (v1.length : Int))), (12, .d (cB.enc (decide ((v1.length : Int) < (v1.length : Int)))))] (by kernel_rfl) <|
    xn <| wpC_seq <| wpC_kp <| cnd0 rfl (dlf _) <| wpC_exit <| xt <| xt <| xt <| xb <| kpN [(1, .d ((cLs cI rfl).enc v1)), (2, .box ((cXCube (cLs cI rfl) (cLs cI rfl)).enc v0)), (4, .box ((cXCube (cLo cI) (cLo cI)).enc (⟨([] : List Int), ([] : List Int)⟩ : XCube)))] (by kernel_rfl) <| xn <| wpC_seq <| wpC_kp <| wpC_seq <| reg_s <| st rfl <| ldb rfl rfl rfl rfl <| bnd h fun x128 e129 h => st rfl <| o_call (a1 (c := (cXCube (cLs cI rfl) (cLs cI rfl))) (tXCube (tLs tK) (tLs tK)) rfl a0) (con_impl_IsCube e129) (.inl (so1 sB so0)) <| st rfl <| o_nt rfl <| seqN [(1, .d ((cLs cI rfl).enc v1)), (2, .box ((cXCube (cLs cI rfl) (cLs cI rfl)).enc v0)), (4, .box ((cXCube (cLo cI) (cLo cI)).enc (⟨([] : List Int), ([] : List Int)⟩ : XCube))), (30, .d (cB.enc (!x128)))] (by kernel_rfl) <|
    xn <| cnd rfl h (fun b130 h => wpC_seq <| reg_s <| x_bld ((cXCube (cLo cI) (cLo cI)).enc (⟨([] : List Int), ([] : List Int)⟩ : XCube)) t0 rfl rfl <| x_stb (so rfl rfl) rfl (Cd.h_sz _ _) rfl <| x_asg (sc cB false rfl) <| seqN [(4, .box ((cXCube (cLo cI) (cLo cI)).enc (⟨([] : List Int), ([] : List Int)⟩ : XCube))), (5, .d (cB.enc false))] (by kernel_rfl) <|
    xn <| wpC_ret <| rt <| rt <| re <| fin h (r2 rfl rfl rfl <| r1 (ss rfl rfl) <| r0) rfl)
    (fun b130 h => wpC_skip <| kpN [(1, .d ((cLs cI rfl).enc v1)), (2, .box ((cXCube (cLs cI rfl) (cLs cI rfl)).enc v0)), (4, .box ((cXCube (cLo cI) (cLo cI)).enc (⟨([] : List Int), ([] : List Int)⟩ : XCube)))] (by kernel_rfl) <| xn <| wpC_seq <| reg_s <| st rfl <| ldb rfl rfl rfl rfl <| st rfl <| mvd rfl rfl <| st rfl <| fab rfl rfl rfl rfl <| st rfl <| lda rfl rfl rfl rfl rfl rfl <| bnd h fun x133 e134 h => st rfl <| o_call (a1 (c := (cXCube (cLs cI rfl) (cLs cI rfl))) (tXCube (tLs tK) (tLs tK)) rfl (a1 (c := (cLs cI rfl)) (tLs tK) rfl (a1 (c := (cLs cI rfl)) (tLs tK) rfl a0))) (con_impl_taken e134) (.inl (so1 (sXCube (sLo sK) (sLo sK)) so0)) <| x_stb (so rfl rfl) rfl (Cd.h_sz _ _) rfl <| x_asg (sc cB true rfl) <| seqN [(4, .box ((cXCube (cLo cI) (cLo cI)).enc x133)), (5, .d (cB.enc true))] (by kernel_rfl) <|
    xn <| wpC_ret <| re <| fin h (r2 rfl rfl rfl <| r1 (ss rfl rfl) <| r0) rfl))
    (fun G120 nx118 k74 s73 x75 hk76 hx77 hn119 h => wpC_seq <| reg_s <| st rfl <| b_lss (k := .i64) rfl rfl <| seqN [(1, .d ((cLs cI rfl).enc v1)), (2, .box ((cXCube (cLs cI rfl) (cLs cI rfl)).enc v0)), (4, .box ((cXCube (cLo cI) (cLo cI)).enc (⟨([] : List Int), ([] : List Int)⟩ : XCube))), (6, .d (cI.enc s73)), (9, .d ((cLs cI rfl).enc v1)), (10, .d (cI.enc (v1.length : Int))), (11, .d (cI.enc (k74 : Int))), (12, .d (cB.enc (decide ((k74 : Int) < (v1.length : Int)))))] (by kernel_rfl) <|
    xn <| wpC_seq <| wpC_kp <| cnd1 rfl (dlt hk76) <| wpC_skip <| kpN [(1, .d ((cLs cI rfl).enc v1)), (2, .box ((cXCube (cLs cI rfl) (cLs cI rfl)).enc v0)), (4, .box ((cXCube (cLo cI) (cLo cI)).enc (⟨([] : List Int), ([] : List Int)⟩ : XCube))), (6, .d (cI.enc s73)), (9, .d ((cLs cI rfl).enc v1)), (10, .d (cI.enc (v1.length : Int))), (11, .d (cI.enc (k74 : Int)))] (by kernel_rfl) <| xn <| wpC_seq <| wpC_kp <| wpC_blk <| wpC_seq <| reg_s <| st rfl <| ias rfl rfl (Int.natCast_nonneg _) hx77 rfl <| st rfl <| ldi rfl rfl rfl rfl <| x_asg (ss rfl rfl) <| seqN [(1, .d ((cLs cI rfl).enc v1)), (2, .box ((cXCube (cLs cI rfl) (cLs cI rfl)).enc v0)), (4, .box ((cXCube (cLo cI) (cLo cI)).enc (⟨([] : List Int), ([] : List Int)⟩ : XCube))), (6, .d (cI.enc s73)), (8, .d (cI.enc x75)), (9, .d ((cLs cI rfl).enc v1)), (10, .d (cI.enc (v1.length : Int))), (11, .d (cI.enc (k74 : Int)))] (by kernel_rfl) <|
    xn <| wpC_seq <| wpC_kp <| wpC_seq <| reg_s <| st rfl <| mvd rfl rfl <| st rfl <| mvd rfl rfl <| st rfl <| b_leq (k := .i64) rfl rfl <| st rfl <| mvd rfl rfl <| ite_k h (fun b152 h => gf rfl b152 <| gf rfl b152 <| gf rfl b152 <| gf rfl b152 <| gf rfl b152 <| st rfl <| pick1 rfl b152 (cd := cB) (v := true) rfl rfl <| seqN [(1, .d ((cLs cI rfl).enc v1)), (2, .box ((cXCube (cLs cI rfl) (cLs cI rfl)).enc v0)), (4, .box ((cXCube (cLo cI) (cLo cI)).enc (⟨([] : List Int), ([] : List Int)⟩ : XCube))), (8, .d (cI.enc x75)), (9, .d ((cLs cI rfl).enc v1)), (10, .d (cI.enc (v1.length : Int))), (11, .d (cI.enc (k74 : Int))), (24, .d (cB.enc true))] (by kernel_rfl) <|
    xn <| cnd1 rfl rfl <| wpC_seq <| reg_s <| x_bld ((cXCube (cLo cI) (cLo cI)).enc (⟨([] : List Int), ([] : List Int)⟩ : XCube)) t0 rfl rfl <| x_stb (so rfl rfl) rfl (Cd.h_sz _ _) rfl <| x_asg (sc cB false rfl) <| seqN [(4, .box ((cXCube (cLo cI) (cLo cI)).enc (⟨([] : List Int), ([] : List Int)⟩ : XCube))), (5, .d (cB.enc false))] (by kernel_rfl) <|
    xn <| wpC_ret <| rt <| rt <| rb <| rt <| rt <| rt <| rb <| rt <| rt <| re <| fin h (r2 rfl rfl rfl <| r1 (ss rfl rfl) <| r0) rfl)
    (fun b152 h => gt' rfl b152 <| st rfl <| mvd rfl rfl <| gt' rfl b152 <| st rfl <| fab rfl rfl rfl rfl <| gt' rfl b152 <| st rfl <| lda rfl rfl rfl rfl rfl rfl <| gt' rfl b152 <| stw rfl <| lens rfl fun l153 => gt' rfl b152 <| st rfl <| b_geq (k := .i64) rfl rfl <| st rfl <| pick0 rfl b152 (cd := cB) (v := (decide ((v0.Sizes.length : Int) ≤ x75))) rfl rfl <| seqN [(1, .d ((cLs cI rfl).enc v1)), (2, .box ((cXCube (cLs cI rfl) (cLs cI rfl)).enc v0)), (4, .box ((cXCube (cLo cI) (cLo cI)).enc (⟨([] : List Int), ([] : List Int)⟩ : XCube))), (8, .d (cI.enc x75)), (9, .d ((cLs cI rfl).enc v1)), (10, .d (cI.enc (v1.length : Int))), (11, .d (cI.enc (k74 : Int))), (24, .d (cB.enc (decide ((v0.Sizes.length : Int) ≤ x75))))] (by kernel_rfl) <|
    xn <| cnd rfl h (fun b154 h => wpC_seq <| reg_s <| x_bld ((cXCube (cLo cI) (cLo cI)).enc (⟨([] : List Int), ([] : List Int)⟩ : XCube)) t0 rfl rfl <| x_stb (so rfl rfl) rfl (Cd.h_sz _ _) rfl <| x_asg (sc cB false rfl) <| seqN [(4, .box ((cXCube (cLo cI) (cLo cI)).enc (⟨([] : List Int), ([] : List Int)⟩ : XCube))), (5, .d (cB.enc false))] (by kernel_rfl) <|
    xn <| wpC_ret <| rt <| rt <| rb <| rt <| rt <| rt <| rb <| rt <| rt <| re <| fin h (r2 rfl rfl rfl <| r1 (ss rfl rfl) <| r0) rfl)
    (fun b154 h => wpC_skip <| kpN [(1, .d ((cLs cI rfl).enc v1)), (2, .box ((cXCube (cLs cI rfl) (cLs cI rfl)).enc v0)), (4, .box ((cXCube (cLo cI) (cLo cI)).enc (⟨([] : List Int), ([] : List Int)⟩ : XCube))), (8, .d (cI.enc x75)), (9, .d ((cLs cI rfl).enc v1)), (10, .d (cI.enc (v1.length : Int))), (11, .d (cI.enc (k74 : Int)))] (by kernel_rfl) <| xn <| reg_s <| st rfl <| mvd rfl rfl <| x_asg (ss rfl rfl) <| seqN [(1, .d ((cLs cI rfl).enc v1)), (2, .box ((cXCube (cLs cI rfl) (cLs cI rfl)).enc v0)), (4, .box ((cXCube (cLo cI) (cLo cI)).enc (⟨([] : List Int), ([] : List Int)⟩ : XCube))), (6, .d (cI.enc x75)), (9, .d ((cLs cI rfl).enc v1)), (10, .d (cI.enc (v1.length : Int))), (11, .d (cI.enc (k74 : Int)))] (by kernel_rfl) <|
    xbb <| kpN [(1, .d ((cLs cI rfl).enc v1)), (2, .box ((cXCube (cLs cI rfl) (cLs cI rfl)).enc v0)), (4, .box ((cXCube (cLo cI) (cLo cI)).enc (⟨([] : List Int), ([] : List Int)⟩ : XCube))), (6, .d (cI.enc x75)), (9, .d ((cLs cI rfl).enc v1)), (10, .d (cI.enc (v1.length : Int))), (11, .d (cI.enc (k74 : Int)))] (by kernel_rfl) <| xn <| reg_s <| st rfl <| b_inc rfl rfl l72 hk76 <| st rfl <| mvd rfl rfl <| seqN [(1, .d ((cLs cI rfl).enc v1)), (2, .box ((cXCube (cLs cI rfl) (cLs cI rfl)).enc v0)), (4, .box ((cXCube (cLo cI) (cLo cI)).enc (⟨([] : List Int), ([] : List Int)⟩ : XCube))), (6, .d (cI.enc x75)), (9, .d ((cLs cI rfl).enc v1)), (10, .d (cI.enc (v1.length : Int))), (11, .d (cI.enc ((k74 + 1 : Nat) : Int)))] (by kernel_rfl) <|
    xn <| hn119 x75 h)))

def rs_laws_FnExactMarginOf (r : Bool) : List D := [cB.enc r]
def m12 : MC := .seq (.reg [⟨some 2, .box (.t 0), none⟩,
    ⟨some 4, .asg (.c (.bool false)), none⟩] [1, 2])
  (.seq (.kp [1, 2] (.seq (.reg [⟨some 17, .mv (.t 1), none⟩,
    ⟨some 18, .len false (.t 17), none⟩,
    ⟨some 19, .bin .gtr (.t 18) (.c (.int .i64 1048576)), none⟩] [1, 2, 19])
  (.cond (.t 19) (.seq (.reg [⟨some 4, .asg (.c (.bool true)), none⟩] [4])
  (.ret)) (.skip))))
  (.seq (.reg [⟨some 5, .asg (.c (.int .i64 1048576)), none⟩] [1, 2, 5])
  (.seq (.reg [⟨some 20, .ld 2 2 true, none⟩,
    ⟨some 21, .mv (.t 5), none⟩,
    ⟨some 22, .call 26 [(.t 20), (.t 21)], none⟩,
    ⟨some 5, .asg (.t 22), none⟩] [1, 2, 5])
  (.seq (.kp [1, 2] (.seq (.reg [⟨some 23, .mv (.t 5), none⟩,
    ⟨some 24, .bin .lss (.t 23) (.c (.int .i64 0)), none⟩] [1, 2, 24])
  (.cond (.t 24) (.seq (.reg [⟨some 4, .asg (.c (.bool true)), none⟩] [4])
  (.ret)) (.skip))))
  (.seq (.reg [⟨some 26, .ld 2 2 true, none⟩,
    ⟨some 27, .call 28 [(.t 26)], none⟩,
    ⟨some 28, .mv (.t 1), none⟩,
    ⟨some 29, .call 16 [(.t 28)], none⟩,
    ⟨some 30, .call 48 [(.t 27), (.t 29)], none⟩,
    ⟨some 25, .mvt 30, none⟩,
    ⟨some 31, .ext 25 0, none⟩,
    ⟨some 32, .ext 25 1, none⟩,
    ⟨some 6, .alloc (.agg [.slice true [], .slice true []]), none⟩,
    ⟨none, .st 6 (.t 31) 2, none⟩,
    ⟨some 7, .asg (.t 32), none⟩] [1, 2, 6, 7])
  (.seq (.reg [⟨some 33, .ld 2 2 true, none⟩,
    ⟨some 34, .call 28 [(.t 33)], none⟩,
    ⟨some 8, .alloc (.agg [.slice true [], .slice true []]), none⟩,
    ⟨none, .st 8 (.t 34) 2, none⟩] [1, 2, 6, 7, 8])
  (.seq (.reg [⟨some 35, .mv (.t 1), none⟩,
    ⟨some 36, .call 16 [(.t 35)], none⟩,
    ⟨some 9, .asg (.t 36), none⟩] [1, 2, 6, 7, 8, 9])
  (.seq (.reg [⟨some 38, .ld 8 2 true, none⟩,
    ⟨some 39, .mv (.t 9), none⟩,
    ⟨some 40, .call 49 [(.t 38), (.t 39)], none⟩,
    ⟨some 37, .mvt 40, none⟩,
    ⟨some 41, .ext 37 0, none⟩,
    ⟨some 42, .ext 37 1, none⟩,
    ⟨some 10, .alloc (.agg [.slice true [], .slice true []]), none⟩,
    ⟨none, .st 10 (.t 41) 2, none⟩,
    ⟨some 11, .asg (.t 42), none⟩] [1, 2, 6, 7, 8, 9, 10, 11])
  (.seq (.kp [1, 2, 6, 7, 8, 9, 10, 11] (.seq (.reg [⟨some 43, .ld 10 2 true, none⟩,
    ⟨some 44, .ld 6 2 true, none⟩,
    ⟨some 45, .call 30 [(.t 43), (.t 44)], none⟩,
    ⟨some 46, .nt (.t 45), none⟩,
    ⟨some 47, .mv (.t 46), none⟩,
    ⟨some 48, .mv (.t 11), some (47, false)⟩,
    ⟨some 49, .mv (.t 7), some (47, false)⟩,
    ⟨some 50, .eqb true (.t 48) (.t 49), some (47, false)⟩,
    ⟨some 51, .pick (.t 47) (.c (.bool true)) (.t 50), none⟩] [1, 2, 6, 7, 8, 9, 10, 11, 51])
  (.cond (.t 51) (.seq (.reg [⟨some 4, .asg (.c (.bool false)), none⟩] [4])
  (.ret)) (.skip))))
  (.seq (.kp [1, 2, 6, 7, 8, 9, 10, 11] (.seq (.drw [⟨0, ⟨some 52, .ld 8 2 true, none⟩, [53, 54, 55, 56]⟩,
    ⟨1, ⟨some 53, .ld 2 2 true, none⟩, [52, 54, 55, 56]⟩,
    ⟨2, ⟨some 54, .call 28 [(.t 53)], none⟩, [52, 55, 56]⟩,
    ⟨3, ⟨some 55, .call 30 [(.t 52), (.t 54)], none⟩, [56]⟩,
    ⟨4, ⟨some 56, .nt (.t 55), none⟩, []⟩]
    [] [1, 2, 6, 7, 8, 9, 10, 11, 56])
  (.cond (.t 56) (.seq (.reg [⟨some 4, .asg (.c (.bool false)), none⟩] [4])
  (.ret)) (.skip))))
  (.seq (.kp [1, 2, 6, 7, 8, 9, 10, 11] (.seq (.reg [⟨some 57, .mv (.t 9), none⟩,
    ⟨some 58, .mv (.t 1), none⟩,
    ⟨some 59, .call 16 [(.t 58)], none⟩,
    ⟨some 60, .call 18 [(.t 57), (.t 59)], none⟩,
    ⟨some 61, .nt (.t 60), none⟩] [1, 2, 6, 7, 8, 9, 10, 11, 61])
  (.cond (.t 61) (.seq (.reg [⟨some 4, .asg (.c (.bool false)), none⟩] [4])
  (.ret)) (.skip))))
  (.seq (.reg [⟨some 12, .asg (.c (.int .i64 1)), none⟩] [1, 2, 6, 7, 8, 9, 10, 11, 12])
  (.seq (.reg [⟨some 62, .ld 8 2 true, none⟩,
    ⟨some 63, .mv (.t 12), none⟩,
    ⟨some 64, .callO 42 [(.t 62), (.t 63)], none⟩,
    ⟨some 12, .asg (.t 64), none⟩] [1, 2, 6, 7, 9, 10, 11, 12])
  (.seq (.reg [⟨some 65, .mv (.t 9), none⟩,
    ⟨some 66, .mv (.t 12), none⟩,
    ⟨some 67, .callO 19 [(.t 65), (.t 66)], none⟩,
    ⟨some 12, .asg (.t 67), none⟩] [1, 2, 6, 7, 10, 11, 12])
  (.seq (.kp [1, 2, 6, 7, 10] (.seq (.reg [⟨some 68, .mv (.t 12), none⟩,
    ⟨some 69, .bin .lss (.t 68) (.c (.int .i64 0)), none⟩,
    ⟨some 70, .mv (.t 69), none⟩,
    ⟨some 71, .ld 10 2 true, some (70, false)⟩,
    ⟨some 72, .ld 6 2 true, some (70, false)⟩,
    ⟨some 73, .call 30 [(.t 71), (.t 72)], some (70, false)⟩,
    ⟨some 74, .nt (.t 73), some (70, false)⟩,
    ⟨some 75, .pick (.t 70) (.c (.bool true)) (.t 74), none⟩,
    ⟨some 76, .mv (.t 75), none⟩,
    ⟨some 77, .mv (.t 11), some (76, false)⟩,
    ⟨some 78, .mv (.t 7), some (76, false)⟩,
    ⟨some 79, .eqb true (.t 77) (.t 78), some (76, false)⟩,
    ⟨some 80, .pick (.t 76) (.c (.bool true)) (.t 79), none⟩] [1, 2, 6, 7, 10, 80])
  (.cond (.t 80) (.seq (.reg [⟨some 4, .asg (.c (.bool false)), none⟩] [4])
  (.ret)) (.skip))))
  (.seq (.reg [⟨some 13, .asg (.c (.int .i64 1)), none⟩] [1, 2, 6, 7, 10, 13])
  (.seq (.reg [⟨some 81, .ld 10 2 true, none⟩,
    ⟨some 82, .mv (.t 13), none⟩,
    ⟨some 83, .callO 42 [(.t 81), (.t 82)], none⟩,
    ⟨some 13, .asg (.t 83), none⟩] [1, 2, 6, 7, 10, 13])
  (.seq (.reg [⟨some 14, .asg (.c (.int .i64 1)), none⟩] [1, 2, 6, 7, 10, 13, 14])
  (.seq (.reg [⟨some 84, .ld 10 2 true, none⟩,
    ⟨some 85, .mv (.t 14), none⟩,
    ⟨some 86, .call 45 [(.t 84), (.t 85)], none⟩,
    ⟨some 14, .asg (.t 86), none⟩] [1, 2, 6, 7, 10, 13, 14])
  (.seq (.kp [1, 2, 6, 7, 10, 13, 14] (.seq (.reg [⟨some 87, .mv (.t 14), none⟩,
    ⟨some 88, .bin .lss (.t 87) (.c (.int .i64 0)), none⟩] [1, 2, 6, 7, 10, 13, 14, 88])
  (.cond (.t 88) (.seq (.reg [⟨some 4, .asg (.c (.bool false)), none⟩] [4])
  (.ret)) (.skip))))
  (.seq (.kp [1, 2, 6, 7, 10, 13] (.seq (.reg [⟨some 89, .mv (.t 14), none⟩,
    ⟨some 90, .mv (.t 13), none⟩,
    ⟨some 91, .bin .neq (.t 89) (.t 90), none⟩] [1, 2, 6, 7, 10, 13, 91])
  (.cond (.t 91) (.seq (.reg [⟨some 4, .asg (.c (.bool false)), none⟩] [4])
  (.ret)) (.skip))))
  (.seq (.reg [⟨some 93, .ld 2 2 true, none⟩,
    ⟨some 94, .call 28 [(.t 93)], none⟩,
    ⟨some 95, .mv (.t 1), none⟩,
    ⟨some 96, .call 16 [(.t 95)], none⟩,
    ⟨some 97, .call 49 [(.t 94), (.t 96)], none⟩,
    ⟨some 92, .mvt 97, none⟩,
    ⟨some 98, .ext 92 0, none⟩,
    ⟨some 99, .ext 92 1, none⟩,
    ⟨some 15, .alloc (.agg [.slice true [], .slice true []]), none⟩,
    ⟨none, .st 15 (.t 98) 2, none⟩,
    ⟨some 16, .asg (.t 99), none⟩] [6, 7, 10, 13, 15, 16])
  (.seq (.kp [10, 13] (.seq (.reg [⟨some 100, .ld 15 2 true, none⟩,
    ⟨some 101, .ld 6 2 true, none⟩,
    ⟨some 102, .call 30 [(.t 100), (.t 101)], none⟩,
    ⟨some 103, .nt (.t 102), none⟩,
    ⟨some 104, .mv (.t 103), none⟩,
    ⟨some 105, .mv (.t 16), some (104, false)⟩,
    ⟨some 106, .mv (.t 7), some (104, false)⟩,
    ⟨some 107, .eqb true (.t 105) (.t 106), some (104, false)⟩,
    ⟨some 108, .pick (.t 104) (.c (.bool true)) (.t 107), none⟩] [10, 13, 108])
  (.cond (.t 108) (.seq (.reg [⟨some 4, .asg (.c (.bool false)), none⟩] [4])
  (.ret)) (.skip))))
  (.seq (.reg [⟨some 14, .asg (.c (.int .i64 1)), none⟩] [10, 13, 14])
  (.seq (.reg [⟨some 109, .ld 10 2 true, none⟩,
    ⟨some 110, .mv (.t 14), none⟩,
    ⟨some 111, .call 45 [(.t 109), (.t 110)], none⟩,
    ⟨some 14, .asg (.t 111), none⟩] [13, 14])
  (.seq (.kp [13, 14] (.seq (.reg [⟨some 112, .mv (.t 14), none⟩,
    ⟨some 113, .bin .lss (.t 112) (.c (.int .i64 0)), none⟩] [13, 14, 113])
  (.cond (.t 113) (.seq (.reg [⟨some 4, .asg (.c (.bool false)), none⟩] [4])
  (.ret)) (.skip))))
  (.seq (.kp [] (.seq (.reg [⟨some 114, .mv (.t 14), none⟩,
    ⟨some 115, .mv (.t 13), none⟩,
    ⟨some 116, .bin .neq (.t 114) (.t 115), none⟩] [116])
  (.cond (.t 116) (.seq (.reg [⟨some 4, .asg (.c (.bool false)), none⟩] [4])
  (.ret)) (.skip))))
  (.seq (.reg [⟨some 4, .asg (.c (.bool true)), none⟩] [4])
  (.ret)))))))))))))))))))))))))))))
theorem con_laws_FnExactMarginOf {v0 : XCube} {v1 : (List Int)} {r : Bool} (h : sh_laws_FnExactMarginOf v0 v1 = some r) : Con Try.prog 12 [(cXCube (cLs cI rfl) (cLs cI rfl)).enc v0, (cLs cI rfl).enc v1] [] (rs_laws_FnExactMarginOf r) := by
  delta sh_laws_FnExactMarginOf at h
  refine top (out := none) (f := Try.f12) (m := m12) (rs := [.t 4]) (by kernel_rfl) rfl (by kernel_rfl) (by kernel_rfl) (by kernel_rfl) (by kernel_rfl) (by kernel_rfl) ?_
  exact
   ini [(0, .d ((cXCube (cLs cI rfl) (cLs cI rfl)).enc v0)), (1, .d ((cLs cI rfl).enc v1))] rfl <| wpC_seq <| reg_s <| x_box (ss rfl rfl) <| x_asg (sc cB false rfl) <| seqN [(1, .d ((cLs cI rfl).enc v1)), (2, .box ((cXCube (cLs cI rfl) (cLs cI rfl)).enc v0))] (by kernel_rfl) <|
    xn <| wpC_seq <| wpC_kp <| wpC_seq <| reg_s <| st rfl <| mvd rfl rfl <| stw rfl <| lens rfl fun l5 => st rfl <| b_gtr (k := .i64) rfl rfl <| seqN [(1, .d ((cLs cI rfl).enc v1)), (2, .box ((cXCube (cLs cI rfl) (cLs cI rfl)).enc v0)), (19, .d (cB.enc (decide ((1048576 : Int) < (v1.length : Int)))))] (by kernel_rfl) <|
    xn <| cnd rfl h (fun b6 h => wpC_seq <| reg_s <| x_asg (sc cB true rfl) <| seqN [(4, .d (cB.enc true))] (by kernel_rfl) <|
    xn <| wpC_ret <| rt <| rt <| re <| fin h (r1 (ss rfl rfl) <| r0) rfl)
    (fun b6 h => wpC_skip <| kpN [(1, .d ((cLs cI rfl).enc v1)), (2, .box ((cXCube (cLs cI rfl) (cLs cI rfl)).enc v0))] (by kernel_rfl) <| xn <| wpC_seq <| reg_s <| x_asg (sc cI (1048576 : Int) rfl) <| seqN [(1, .d ((cLs cI rfl).enc v1)), (2, .box ((cXCube (cLs cI rfl) (cLs cI rfl)).enc v0)), (5, .d (cI.enc (1048576 : Int)))] (by kernel_rfl) <|
    xn <| wpC_seq <| reg_s <| st rfl <| ldb rfl rfl rfl rfl <| st rfl <| mvd rfl rfl <| bnd h fun x9 e10 h => st rfl <| o_call (a1 (c := (cXCube (cLs cI rfl) (cLs cI rfl))) (tXCube (tLs tK) (tLs tK)) rfl (a1 (c := cI) tK rfl a0)) (con_laws_szCube e10) (.inl (so1 sK so0)) <| x_asg (ss rfl rfl) <| seqN [(1, .d ((cLs cI rfl).enc v1)), (2, .box ((cXCube (cLs cI rfl) (cLs cI rfl)).enc v0)), (5, .d (cI.enc x9))] (by kernel_rfl) <|
    xn <| wpC_seq <| wpC_kp <| wpC_seq <| reg_s <| st rfl <| mvd rfl rfl <| st rfl <| b_lss (k := .i64) rfl rfl <| seqN [(1, .d ((cLs cI rfl).enc v1)), (2, .box ((cXCube (cLs cI rfl) (cLs cI rfl)).enc v0)), (24, .d (cB.enc (decide (x9 < (0 : Int)))))] (by kernel_rfl) <|
    xn <| cnd rfl h (fun b12 h => wpC_seq <| reg_s <| x_asg (sc cB true rfl) <| seqN [(4, .d (cB.enc true))] (by kernel_rfl) <|
    xn <| wpC_ret <| rt <| rt <| re <| fin h (r1 (ss rfl rfl) <| r0) rfl)
    (fun b12 h => wpC_skip <| kpN [(1, .d ((cLs cI rfl).enc v1)), (2, .box ((cXCube (cLs cI rfl) (cLs cI rfl)).enc v0))] (by kernel_rfl) <| xn <| wpC_seq <| reg_s <| st rfl <| ldb rfl rfl rfl rfl <| bnd h fun x19 e20 h => st rfl <| o_call (a1 (c := (cXCube (cLs cI rfl) (cLs cI rfl))) (tXCube (tLs tK) (tLs tK)) rfl a0) (con_laws_toCube e20) (.inl (so1 (sXCube (sLo sK) (sLo sK)) so0)) <| st rfl <| mvd rfl rfl <| bnd h fun x21 e22 h => st rfl <| o_call (a1 (c := (cLs cI rfl)) (tLs tK) rfl a0) (con_laws_toIntS e22) (.inl (so1 (sLo sK) so0)) <| bnd h fun x23 e24 h => st rfl <| o_call (a1 (c := (cXCube (cLo cI) (cLo cI))) (tXCube (tLo tK) (tLo tK)) rfl (a1 (c := (cLo cI)) (tLo tK) rfl a0)) (con_spec_MarginOf e24) (.inl (so1 (sXCube (sLo sK) (sLo sK)) (so1 sB so0))) <| x_mvt rfl <| x_ext rfl rfl <| x_ext rfl rfl <| x_all (cXCube (cLo cI) (cLo cI)) (⟨([] : List Int), ([] : List Int)⟩ : XCube) rfl <| x_stb (so rfl rfl) rfl (Cd.h_sz _ _) rfl <| x_asg (ss rfl rfl) <| seqN [(1, .d ((cLs cI rfl).enc v1)), (2, .box ((cXCube (cLs cI rfl) (cLs cI rfl)).enc v0)), (6, .box ((cXCube (cLo cI) (cLo cI)).enc x23.1)), (7, .d (cB.enc x23.2))] (by kernel_rfl) <|
    xn <| wpC_seq <| reg_s <| st rfl <| ldb rfl rfl rfl rfl <| bnd h fun x27 e28 h => st rfl <| o_call (a1 (c := (cXCube (cLs cI rfl) (cLs cI rfl))) (tXCube (tLs tK) (tLs tK)) rfl a0) (con_laws_toCube e28) (.inl (so1 (sXCube (sLo sK) (sLo sK)) so0)) <| x_all (cXCube (cLo cI) (cLo cI)) (⟨([] : List Int), ([] : List Int)⟩ : XCube) rfl <| x_stb (so rfl rfl) rfl (Cd.h_sz _ _) rfl <| seqN [(1, .d ((cLs cI rfl).enc v1)), (2, .box ((cXCube (cLs cI rfl) (cLs cI rfl)).enc v0)), (6, .box ((cXCube (cLo cI) (cLo cI)).enc x23.1)), (7, .d (cB.enc x23.2)), (8, .box ((cXCube (cLo cI) (cLo cI)).enc x27))] (by kernel_rfl) <|
    xn <| wpC_seq <| reg_s <| st rfl <| mvd rfl rfl <| bnd h fun x31 e32 h => st rfl <| o_call (a1 (c := (cLs cI rfl)) (tLs tK) rfl a0) (con_laws_toIntS e32) (.inl (so1 (sLo sK) so0)) <| x_asg (so rfl rfl) <| seqN [(1, .d ((cLs cI rfl).enc v1)), (2, .box ((cXCube (cLs cI rfl) (cLs cI rfl)).enc v0)), (6, .box ((cXCube (cLo cI) (cLo cI)).enc x23.1)), (7, .d (cB.enc x23.2)), (8, .box ((cXCube (cLo cI) (cLo cI)).enc x27)), (9, .d ((cLo cI).enc x31))] (by kernel_rfl) <|
    xn <| wpC_seq <| reg_s <| st rfl <| ldbo rfl rfl rfl rfl <| st rfl <| mvo rfl rfl <| bnd h fun x35 e36 h => st rfl <| o_call (a1 (c := (cXCube (cLo cI) (cLo cI))) (tXCube (tLo tK) (tLo tK)) rfl (a1 (c := (cLo cI)) (tLo tK) rfl a0)) (con_impl_MarginOf e36) (.inl (so1 (sXCube (sLo sK) (sLo sK)) (so1 sB so0))) <| x_mvt rfl <| x_ext rfl rfl <| x_ext rfl rfl <| x_all (cXCube (cLo cI) (cLo cI)) (⟨([] : List Int), ([] : List Int)⟩ : XCube) rfl <| x_stb (so rfl rfl) rfl (Cd.h_sz _ _) rfl <| x_asg (ss rfl rfl) <| seqN [(1, .d ((cLs cI rfl).enc v1)), (2, .box ((cXCube (cLs cI rfl) (cLs cI rfl)).enc v0)), (6, .box ((cXCube (cLo cI) (cLo cI)).enc x23.1)), (7, .d (cB.enc x23.2)), (8, .box ((cXCube (cLo cI) (cLo cI)).enc x27)), (9, .d ((cLo cI).enc x31)), (10, .box ((cXCube (cLo cI) (cLo cI)).enc x35.1)), (11, .d (cB.enc x35.2))] (by kernel_rfl) <|
    xn <| wpC_seq <| wpC_kp <| wpC_seq <| reg_s <| st rfl <| ldbo rfl rfl rfl rfl <| st rfl <| ldbo rfl rfl rfl rfl <| bnd h fun x47 e48 h => st rfl <| o_call (a1 (c := (cXCube (cLo cI) (cLo cI))) (tXCube (tLo tK) (tLo tK)) rfl (a1 (c := (cXCube (cLo cI) (cLo cI))) (tXCube (tLo tK) (tLo tK)) rfl a0)) (con_laws_eqCube e48) (.inl (so1 sB so0)) <| st rfl <| o_nt rfl <| st rfl <| mvd rfl rfl <| ite_k h (fun b49 h => gf rfl b49 <| gf rfl b49 <| gf rfl b49 <| st rfl <| pick1 rfl b49 (cd := cB) (v := true) rfl rfl <| seqN [(1, .d ((cLs cI rfl).enc v1)), (2, .box ((cXCube (cLs cI rfl) (cLs cI rfl)).enc v0)), (6, .box ((cXCube (cLo cI) (cLo cI)).enc x23.1)), (7, .d (cB.enc x23.2)), (8, .box ((cXCube (cLo cI) (cLo cI)).enc x27)), (9, .d ((cLo cI).enc x31)), (10, .box ((cXCube (cLo cI) (cLo cI)).enc x35.1)), (11, .d (cB.enc x35.2)), (51, .d (cB.enc true))] (by kernel_rfl) <|
    xn <| cnd1 rfl rfl <| wpC_seq <| reg_s <| x_asg (sc cB false rfl) <| seqN [(4, .d (cB.enc false))] (by kernel_rfl) <|
    xn <| wpC_ret <| rt <| rt <| re <| fin h (r1 (ss rfl rfl) <| r0) rfl)
    (fun b49 h => gt' rfl b49 <| st rfl <| mvd rfl rfl <| gt' rfl b49 <| st rfl <| mvd rfl rfl <| gt' rfl b49 <| st rfl <| eqb1 rfl rfl <| st rfl <| pick0 rfl b49 (cd := cB) (v := (x35.2 != x23.2)) rfl rfl <| seqN [(1, .d ((cLs cI rfl).enc v1)), (2, .box ((cXCube (cLs cI rfl) (cLs cI rfl)).enc v0)), (6, .box ((cXCube (cLo cI) (cLo cI)).enc x23.1)), (7, .d (cB.enc x23.2)), (8, .box ((cXCube (cLo cI) (cLo cI)).enc x27)), (9, .d ((cLo cI).enc x31)), (10, .box ((cXCube (cLo cI) (cLo cI)).enc x35.1)), (11, .d (cB.enc x35.2)), (51, .d (cB.enc (x35.2 != x23.2)))] (by kernel_rfl) <|
    xn <| cnd rfl h (fun b50 h => wpC_seq <| reg_s <| x_asg (sc cB false rfl) <| seqN [(4, .d (cB.enc false))] (by kernel_rfl) <|
    xn <| wpC_ret <| rt <| rt <| re <| fin h (r1 (ss rfl rfl) <| r0) rfl)
    (fun b50 h => wpC_skip <| kpN [(1, .d ((cLs cI rfl).enc v1)), (2, .box ((cXCube (cLs cI rfl) (cLs cI rfl)).enc v0)), (6, .box ((cXCube (cLo cI) (cLo cI)).enc x23.1)), (7, .d (cB.enc x23.2)), (8, .box ((cXCube (cLo cI) (cLo cI)).enc x27)), (9, .d ((cLo cI).enc x31)), (10, .box ((cXCube (cLo cI) (cLo cI)).enc x35.1)), (11, .d (cB.enc x35.2))] (by kernel_rfl) <| xn <| wpC_seq <| wpC_kp <| wpC_seq <| drw_s <| pst rfl <| ldbo rfl rfl rfl rfl ⟨rfl, pst rfl <| ldb rfl rfl rfl rfl ⟨rfl, bndp h fun x64 e65 h => pst rfl <| o_call (a1 (c := (cXCube (cLs cI rfl) (cLs cI rfl))) (tXCube (tLs tK) (tLs tK)) rfl a0) (con_laws_toCube e65) (.inl (so1 (sXCube (sLo sK) (sLo sK)) so0)) ⟨rfl, bndp h fun x66 e67 h => pst rfl <| o_call (a1 (c := (cXCube (cLo cI) (cLo cI))) (tXCube (tLo tK) (tLo tK)) rfl (a1 (c := (cXCube (cLo cI) (cLo cI))) (tXCube (tLo tK) (tLo tK)) rfl a0)) (con_laws_eqCube e67) (.inl (so1 sB so0)) ⟨rfl, pst rfl <| o_nt rfl ⟨rfl, preN <| seqN [(1, .d ((cLs cI rfl).enc v1)), (2, .box ((cXCube (cLs cI rfl) (cLs cI rfl)).enc v0)), (6, .box ((cXCube (cLo cI) (cLo cI)).enc x23.1)), (7, .d (cB.enc x23.2)), (8, .box ((cXCube (cLo cI) (cLo cI)).enc x27)), (9, .d ((cLo cI).enc x31)), (10, .box ((cXCube (cLo cI) (cLo cI)).enc x35.1)), (11, .d (cB.enc x35.2)), (56, .d (cB.enc (!x66)))] (by kernel_rfl) <|
    xn <| cnd rfl h (fun b68 h => wpC_seq <| reg_s <| x_asg (sc cB false rfl) <| seqN [(4, .d (cB.enc false))] (by kernel_rfl) <|
    xn <| wpC_ret <| rt <| rt <| re <| fin h (r1 (ss rfl rfl) <| r0) rfl)
    (fun b68 h => wpC_skip <| kpN [(1, .d ((cLs cI rfl).enc v1)), (2, .box ((cXCube (cLs cI rfl) (cLs cI rfl)).enc v0)), (6, .box ((cXCube (cLo cI) (cLo cI)).enc x23.1)), (7, .d (cB.enc x23.2)), (8, .box ((cXCube (cLo cI) (cLo cI)).enc x27)), (9, .d ((cLo cI).enc x31)), (10, .box ((cXCube (cLo cI) (cLo cI)).enc x35.1)), (11, .d (cB.enc x35.2))] (by kernel_rfl) <| xn <| wpC_seq <| wpC_kp <| wpC_seq <| reg_s <| st rfl <| mvo rfl rfl <| st rfl <| mvd rfl rfl <| bnd h fun x82 e83 h => st rfl <| o_call (a1 (c := (cLs cI rfl)) (tLs tK) rfl a0) (con_laws_toIntS e83) (.inl (so1 (sLo sK) so0)) <| bnd h fun x84 e85 h => st rfl <| o_call (a1 (c := (cLo cI)) (tLo tK) rfl (a1 (c := (cLo cI)) (tLo tK) rfl a0)) (con_laws_eqIntS e85) (.inl (so1 sB so0)) <| st rfl <| o_nt rfl <| seqN [(1, .d ((cLs cI rfl).enc v1)), (2, .box ((cXCube (cLs cI rfl) (cLs cI rfl)).enc v0)), (6, .box ((cXCube (cLo cI) (cLo cI)).enc x23.1)), (7, .d (cB.enc x23.2)), (8, .box ((cXCube (cLo cI) (cLo cI)).enc x27)), (9, .d ((cLo cI).enc x31)), (10, .box ((cXCube (cLo cI) (cLo cI)).enc x35.1)), (11, .d (cB.enc x35.2)), (61, .d (cB.enc (!x84)))] (by kernel_rfl) <|
    xn <| cnd rfl h (fun b86 h => wpC_seq <| reg_s <| x_asg (sc cB false rfl) <| seqN [(4, .d (cB.enc false))] (by kernel_rfl) <|
    xn <| wpC_ret <| rt <| rt <| re <| fin h (r1 (ss rfl rfl) <| r0) rfl)
    (fun b86 h => wpC_skip <| kpN [(1, .d ((cLs cI rfl).enc v1)), (2, .box ((cXCube (cLs cI rfl) (cLs cI rfl)).enc v0)), (6, .box ((cXCube (cLo cI) (cLo cI)).enc x23.1)), (7, .d (cB.enc x23.2)), (8, .box ((cXCube (cLo cI) (cLo cI)).enc x27)), (9, .d ((cLo cI).enc x31)), (10, .box ((cXCube (cLo cI) (cLo cI)).enc x35.1)), (11, .d (cB.enc x35.2))] (by kernel_rfl) <| xn <| wpC_seq <| reg_s <| x_asg (sc cI (1 : Int) rfl) <| seqN [(1, .d ((cLs cI rfl).enc v1)), (2, .box ((cXCube (cLs cI rfl) (cLs cI rfl)).enc v0)), (6, .box ((cXCube (cLo cI) (cLo cI)).enc x23.1)), (7, .d (cB.enc x23.2)), (8, .box ((cXCube (cLo cI) (cLo cI)).enc x27)), (9, .d ((cLo cI).enc x31)), (10, .box ((cXCube (cLo cI) (cLo cI)).enc x35.1)), (11, .d (cB.enc x35.2)), (12, .d (cI.enc (1 : Int)))] (by kernel_rfl) <|
    xn <| wpC_seq <| reg_s <| st rfl <| ldbo rfl rfl rfl rfl <| st rfl <| mvd rfl rfl <| bnd h fun x89 e90 h => x_clr (c := (cXCube (cLo cI) (cLo cI))) (c' := (cXCube (cLo cI) (cLo cI))) ((cXCube (cLo cI) (cLo cI)).enc x89.1) (sXCube (sLo sK) (sLo sK)) rfl (a1 (c := cI) tK rfl a0) rfl Ln.nil (con_laws_markCube e90) rfl rfl (so1 sK so0) <| x_asg (ss rfl rfl) <| seqN [(1, .d ((cLs cI rfl).enc v1)), (2, .box ((cXCube (cLs cI rfl) (cLs cI rfl)).enc v0)), (6, .box ((cXCube (cLo cI) (cLo cI)).enc x23.1)), (7, .d (cB.enc x23.2)), (9, .d ((cLo cI).enc x31)), (10, .box ((cXCube (cLo cI) (cLo cI)).enc x35.1)), (11, .d (cB.enc x35.2)), (12, .d (cI.enc x89.2))] (by kernel_rfl) <|
    xn <| wpC_seq <| reg_s <| st rfl <| mvo rfl rfl <| st rfl <| mvd rfl rfl <| bnd h fun x93 e94 h => x_clr (c := (cLo cI)) (c' := (cLo cI)) ((cLo cI).enc x93.1) (sLo sK) rfl (a1 (c := cI) tK rfl a0) rfl Ln.nil (con_laws_markIntS e94) rfl rfl (so1 sK so0) <| x_asg (ss rfl rfl) <| seqN [(1, .d ((cLs cI rfl).enc v1)), (2, .box ((cXCube (cLs cI rfl) (cLs cI rfl)).enc v0)), (6, .box ((cXCube (cLo cI) (cLo cI)).enc x23.1)), (7, .d (cB.enc x23.2)), (10, .box ((cXCube (cLo cI) (cLo cI)).enc x35.1)), (11, .d (cB.enc x35.2)), (12, .d (cI.enc x93.2))] (by kernel_rfl) <|
    xn <| wpC_seq <| wpC_kp <| wpC_seq <| reg_s <| st rfl <| mvd rfl rfl <| st rfl <| b_lss (k := .i64) rfl rfl <| st rfl <| mvd rfl rfl <| ite_k h (fun b107 h => gf rfl b107 <| gf rfl b107 <| gf rfl b107 <| gf rfl b107 <| st rfl <| pick1 rfl b107 (cd := cB) (v := true) rfl rfl <| st rfl <| mvd rfl rfl <| gf rfl rfl <| gf rfl rfl <| gf rfl rfl <| st rfl <| pick1 rfl rfl (cd := cB) (v := true) rfl rfl <| seqN [(1, .d ((cLs cI rfl).enc v1)), (2, .box ((cXCube (cLs cI rfl) (cLs cI rfl)).enc v0)), (6, .box ((cXCube (cLo cI) (cLo cI)).enc x23.1)), (7, .d (cB.enc x23.2)), (10, .box ((cXCube (cLo cI) (cLo cI)).enc x35.1)), (80, .d (cB.enc true))] (by kernel_rfl) <|
    xn <| cnd1 rfl rfl <| wpC_seq <| reg_s <| x_asg (sc cB false rfl) <| seqN [(4, .d (cB.enc false))] (by kernel_rfl) <|
    xn <| wpC_ret <| rt <| rt <| re <| fin h (r1 (ss rfl rfl) <| r0) rfl)
    (fun b107 h => gt' rfl b107 <| st rfl <| ldbo rfl rfl rfl rfl <| gt' rfl b107 <| st rfl <| ldbo rfl rfl rfl rfl <| gt' rfl b107 <| bnd h fun x108 e109 h => st rfl <| o_call (a1 (c := (cXCube (cLo cI) (cLo cI))) (tXCube (tLo tK) (tLo tK)) rfl (a1 (c := (cXCube (cLo cI) (cLo cI))) (tXCube (tLo tK) (tLo tK)) rfl a0)) (con_laws_eqCube e109) (.inl (so1 sB so0)) <| gt' rfl b107 <| st rfl <| o_nt rfl <| st rfl <| pick0 rfl b107 (cd := cB) (v := (!x108)) rfl rfl <| st rfl <| mvd rfl rfl <| ite_k h (fun b110 h => gf rfl b110 <| gf rfl b110 <| gf rfl b110 <| st rfl <| pick1 rfl b110 (cd := cB) (v := true) rfl rfl <| seqN [(1, .d ((cLs cI rfl).enc v1)), (2, .box ((cXCube (cLs cI rfl) (cLs cI rfl)).enc v0)), (6, .box ((cXCube (cLo cI) (cLo cI)).enc x23.1)), (7, .d (cB.enc x23.2)), (10, .box ((cXCube (cLo cI) (cLo cI)).enc x35.1)), (80, .d (cB.enc true))] (by kernel_rfl) <|
    xn <| cnd1 rfl rfl <| wpC_seq <| reg_s <| x_asg (sc cB false rfl) <| seqN [(4, .d (cB.enc false))] (by kernel_rfl) <|
    xn <| wpC_ret <| rt <| rt <| re <| fin h (r1 (ss rfl rfl) <| r0) rfl)
    (fun b110 h => gt' rfl b110 <| st rfl <| mvd rfl rfl <| gt' rfl b110 <| st rfl <| mvd rfl rfl <| gt' rfl b110 <| st rfl <| eqb1 rfl rfl <| st rfl <| pick0 rfl b110 (cd := cB) (v := (x35.2 != x23.2)) rfl rfl <| seqN [(1, .d ((cLs cI rfl).enc v1)), (2, .box ((cXCube (cLs cI rfl) (cLs cI rfl)).enc v0)), (6, .box ((cXCube (cLo cI) (cLo cI)).enc x23.1)), (7, .d (cB.enc x23.2)), (10, .box ((cXCube (cLo cI) (cLo cI)).enc x35.1)), (80, .d (cB.enc (x35.2 != x23.2)))] (by kernel_rfl) <|
    xn <| cnd0 rfl b50 <| wpC_skip <| kpN [(1, .d ((cLs cI rfl).enc v1)), (2, .box ((cXCube (cLs cI rfl) (cLs cI rfl)).enc v0)), (6, .box ((cXCube (cLo cI) (cLo cI)).enc x23.1)), (7, .d (cB.enc x23.2)), (10, .box ((cXCube (cLo cI) (cLo cI)).enc x35.1))] (by kernel_rfl) <| xn <| wpC_seq <| reg_s <| x_asg (sc cI (1 : Int) rfl) <| seqN [(1, .d ((cLs cI rfl).enc v1)), (2, .box ((cXCube (cLs cI rfl) (cLs cI rfl)).enc v0)), (6, .box ((cXCube (cLo cI) (cLo cI)).enc x23.1)), (7, .d (cB.enc x23.2)), (10, .box ((cXCube (cLo cI) (cLo cI)).enc x35.1)), (13, .d (cI.enc (1 : Int)))] (by kernel_rfl) <|
    xn <| wpC_seq <| reg_s <| st rfl <| ldbo rfl rfl rfl rfl <| st rfl <| mvd rfl rfl <| bnd h fun x113 e114 h => x_clr (c := (cXCube (cLo cI) (cLo cI))) (c' := (cXCube (cLo cI) (cLo cI))) ((cXCube (cLo cI) (cLo cI)).enc x113.1) (sXCube (sLo sK) (sLo sK)) rfl (a1 (c := cI) tK rfl a0) rfl Ln.nil (con_laws_markCube e114) rfl rfl (so1 sK so0) <| x_asg (ss rfl rfl) <| seqN [(1, .d ((cLs cI rfl).enc v1)), (2, .box ((cXCube (cLs cI rfl) (cLs cI rfl)).enc v0)), (6, .box ((cXCube (cLo cI) (cLo cI)).enc x23.1)), (7, .d (cB.enc x23.2)), (10, .box ((cXCube (cLo cI) (cLo cI)).enc x113.1)), (13, .d (cI.enc x113.2))] (by kernel_rfl) <|
    xn <| wpC_seq <| reg_s <| x_asg (sc cI (1 : Int) rfl) <| seqN [(1, .d ((cLs cI rfl).enc v1)), (2, .box ((cXCube (cLs cI rfl) (cLs cI rfl)).enc v0)), (6, .box ((cXCube (cLo cI) (cLo cI)).enc x23.1)), (7, .d (cB.enc x23.2)), (10, .box ((cXCube (cLo cI) (cLo cI)).enc x113.1)), (13, .d (cI.enc x113.2)), (14, .d (cI.enc (1 : Int)))] (by kernel_rfl) <|
    xn <| wpC_seq <| reg_s <| st rfl <| ldbo rfl rfl rfl rfl <| st rfl <| mvd rfl rfl <| bnd h fun x117 e118 h => st rfl <| o_call (a1 (c := (cXCube (cLo cI) (cLo cI))) (tXCube (tLo tK) (tLo tK)) rfl (a1 (c := cI) tK rfl a0)) (con_laws_heldCube e118) (.inl (so1 sK so0)) <| x_asg (ss rfl rfl) <| seqN [(1, .d ((cLs cI rfl).enc v1)), (2, .box ((cXCube (cLs cI rfl) (cLs cI rfl)).enc v0)), (6, .box ((cXCube (cLo cI) (cLo cI)).enc x23.1)), (7, .d (cB.enc x23.2)), (10, .box ((cXCube (cLo cI) (cLo cI)).enc x113.1)), (13, .d (cI.enc x113.2)), (14, .d (cI.enc x117))] (by kernel_rfl) <|
    xn <| wpC_seq <| wpC_kp <| wpC_seq <| reg_s <| st rfl <| mvd rfl rfl <| st rfl <| b_lss (k := .i64) rfl rfl <| seqN [(1, .d ((cLs cI rfl).enc v1)), (2, .box ((cXCube (cLs cI rfl) (cLs cI rfl)).enc v0)), (6, .box ((cXCube (cLo cI) (cLo cI)).enc x23.1)), (7, .d (cB.enc x23.2)), (10, .box ((cXCube (cLo cI) (cLo cI)).enc x113.1)), (13, .d (cI.enc x113.2)), (14, .d (cI.enc x117)), (88, .d (cB.enc (decide (x117 < (0 : Int)))))] (by kernel_rfl) <|
    xn <| cnd rfl h (fun b120 h => wpC_seq <| reg_s <| x_asg (sc cB false rfl) <| seqN [(4, .d (cB.enc false))] (by kernel_rfl) <|
    xn <| wpC_ret <| rt <| rt <| re <| fin h (r1 (ss rfl rfl) <| r0) rfl)
    (fun b120 h => wpC_skip <| kpN [(1, .d ((cLs cI rfl).enc v1)), (2, .box ((cXCube (cLs cI rfl) (cLs cI rfl)).enc v0)), (6, .box ((cXCube (cLo cI) (cLo cI)).enc x23.1)), (7, .d (cB.enc x23.2)), (10, .box ((cXCube (cLo cI) (cLo cI)).enc x113.1)), (13, .d (cI.enc x113.2)), (14, .d (cI.enc x117))] (by kernel_rfl) <| xn <| wpC_seq <| wpC_kp <| wpC_seq <| reg_s <| st rfl <| mvd rfl rfl <| st rfl <| mvd rfl rfl <| st rfl <| b_neq (k := .i64) rfl rfl <| seqN [(1, .d ((cLs cI rfl).enc v1)), (2, .box ((cXCube (cLs cI rfl) (cLs cI rfl)).enc v0)), (6, .box ((cXCube (cLo cI) (cLo cI)).enc x23.1)), (7, .d (cB.enc x23.2)), (10, .box ((cXCube (cLo cI) (cLo cI)).enc x113.1)), (13, .d (cI.enc x113.2)), (91, .d (cB.enc (decide (x117 ≠ x113.2))))] (by kernel_rfl) <|
    xn <| cnd rfl h (fun b122 h => wpC_seq <| reg_s <| x_asg (sc cB false rfl) <| seqN [(4, .d (cB.enc false))] (by kernel_rfl) <|
    xn <| wpC_ret <| rt <| rt <| re <| fin h (r1 (ss rfl rfl) <| r0) rfl)
    (fun b122 h => wpC_skip <| kpN [(1, .d ((cLs cI rfl).enc v1)), (2, .box ((cXCube (cLs cI rfl) (cLs cI rfl)).enc v0)), (6, .box ((cXCube (cLo cI) (cLo cI)).enc x23.1)), (7, .d (cB.enc x23.2)), (10, .box ((cXCube (cLo cI) (cLo cI)).enc x113.1)), (13, .d (cI.enc x113.2))] (by kernel_rfl) <| xn <| wpC_seq <| reg_s <| st rfl <| ldb rfl rfl rfl rfl <| bnd h fun x129 e130 h => st rfl <| o_call (a1 (c := (cXCube (cLs cI rfl) (cLs cI rfl))) (tXCube (tLs tK) (tLs tK)) rfl a0) (con_laws_toCube e130) (.inl (so1 (sXCube (sLo sK) (sLo sK)) so0)) <| st rfl <| mvd rfl rfl <| bnd h fun x131 e132 h => st rfl <| o_call (a1 (c := (cLs cI rfl)) (tLs tK) rfl a0) (con_laws_toIntS e132) (.inl (so1 (sLo sK) so0)) <| bnd h fun x133 e134 h => st rfl <| o_call (a1 (c := (cXCube (cLo cI) (cLo cI))) (tXCube (tLo tK) (tLo tK)) rfl (a1 (c := (cLo cI)) (tLo tK) rfl a0)) (con_impl_MarginOf e134) (.inl (so1 (sXCube (sLo sK) (sLo sK)) (so1 sB so0))) <| x_mvt rfl <| x_ext rfl rfl <| x_ext rfl rfl <| x_all (cXCube (cLo cI) (cLo cI)) (⟨([] : List Int), ([] : List Int)⟩ : XCube) rfl <| x_stb (so rfl rfl) rfl (Cd.h_sz _ _) rfl <| x_asg (ss rfl rfl) <| seqN [(6, .box ((cXCube (cLo cI) (cLo cI)).enc x23.1)), (7, .d (cB.enc x23.2)), (10, .box ((cXCube (cLo cI) (cLo cI)).enc x113.1)), (13, .d (cI.enc x113.2)), (15, .box ((cXCube (cLo cI) (cLo cI)).enc x133.1)), (16, .d (cB.enc x133.2))] (by kernel_rfl) <|
    xn <| wpC_seq <| wpC_kp <| wpC_seq <| reg_s <| st rfl <| ldbo rfl rfl rfl rfl <| st rfl <| ldbo rfl rfl rfl rfl <| bnd h fun x145 e146 h => st rfl <| o_call (a1 (c := (cXCube (cLo cI) (cLo cI))) (tXCube (tLo tK) (tLo tK)) rfl (a1 (c := (cXCube (cLo cI) (cLo cI))) (tXCube (tLo tK) (tLo tK)) rfl a0)) (con_laws_eqCube e146) (.inl (so1 sB so0)) <| st rfl <| o_nt rfl <| st rfl <| mvd rfl rfl <| ite_k h (fun b147 h => gf rfl b147 <| gf rfl b147 <| gf rfl b147 <| st rfl <| pick1 rfl b147 (cd := cB) (v := true) rfl rfl <| seqN [(10, .box ((cXCube (cLo cI) (cLo cI)).enc x113.1)), (13, .d (cI.enc x113.2)), (108, .d (cB.enc true))] (by kernel_rfl) <|
    xn <| cnd1 rfl rfl <| wpC_seq <| reg_s <| x_asg (sc cB false rfl) <| seqN [(4, .d (cB.enc false))] (by kernel_rfl) <|
    xn <| wpC_ret <| rt <| rt <| re <| fin h (r1 (ss rfl rfl) <| r0) rfl)
    (fun b147 h => gt' rfl b147 <| st rfl <| mvd rfl rfl <| gt' rfl b147 <| st rfl <| mvd rfl rfl <| gt' rfl b147 <| st rfl <| eqb1 rfl rfl <| st rfl <| pick0 rfl b147 (cd := cB) (v := (x133.2 != x23.2)) rfl rfl <| seqN [(10, .box ((cXCube (cLo cI) (cLo cI)).enc x113.1)), (13, .d (cI.enc x113.2)), (108, .d (cB.enc (x133.2 != x23.2)))] (by kernel_rfl) <|
    xn <| cnd rfl h (fun b148 h => wpC_seq <| reg_s <| x_asg (sc cB false rfl) <| seqN [(4, .d (cB.enc false))] (by kernel_rfl) <|
    xn <| wpC_ret <| rt <| rt <| re <| fin h (r1 (ss rfl rfl) <| r0) rfl)
    (fun b148 h => wpC_skip <| kpN [(10, .box ((cXCube (cLo cI) (cLo cI)).enc x113.1)), (13, .d (cI.enc x113.2))] (by kernel_rfl) <| xn <| wpC_seq <| reg_s <| x_asg (sc cI (1 : Int) rfl) <| seqN [(10, .box ((cXCube (cLo cI) (cLo cI)).enc x113.1)), (13, .d (cI.enc x113.2)), (14, .d (cI.enc (1 : Int)))] (by kernel_rfl) <|
    xn <| wpC_seq <| reg_s <| st rfl <| ldbo rfl rfl rfl rfl <| st rfl <| mvd rfl rfl <| bnd h fun x151 e152 h => st rfl <| o_call (a1 (c := (cXCube (cLo cI) (cLo cI))) (tXCube (tLo tK) (tLo tK)) rfl (a1 (c := cI) tK rfl a0)) (con_laws_heldCube e152) (.inl (so1 sK so0)) <| x_asg (ss rfl rfl) <| seqN [(13, .d (cI.enc x113.2)), (14, .d (cI.enc x151))] (by kernel_rfl) <|
    xn <| wpC_seq <| wpC_kp <| wpC_seq <| reg_s <| st rfl <| mvd rfl rfl <| st rfl <| b_lss (k := .i64) rfl rfl <| seqN [(13, .d (cI.enc x113.2)), (14, .d (cI.enc x151)), (113, .d (cB.enc (decide (x151 < (0 : Int)))))] (by kernel_rfl) <|
    xn <| cnd rfl h (fun b154 h => wpC_seq <| reg_s <| x_asg (sc cB false rfl) <| seqN [(4, .d (cB.enc false))] (by kernel_rfl) <|
    xn <| wpC_ret <| rt <| rt <| re <| fin h (r1 (ss rfl rfl) <| r0) rfl)
    (fun b154 h => wpC_skip <| kpN [(13, .d (cI.enc x113.2)), (14, .d (cI.enc x151))] (by kernel_rfl) <| xn <| wpC_seq <| wpC_kp <| wpC_seq <| reg_s <| st rfl <| mvd rfl rfl <| st rfl <| mvd rfl rfl <| st rfl <| b_neq (k := .i64) rfl rfl <| seqN [(116, .d (cB.enc (decide (x151 ≠ x113.2))))] (by kernel_rfl) <|
    xn <| cnd rfl h (fun b156 h => wpC_seq <| reg_s <| x_asg (sc cB false rfl) <| seqN [(4, .d (cB.enc false))] (by kernel_rfl) <|
    xn <| wpC_ret <| rt <| rt <| re <| fin h (r1 (ss rfl rfl) <| r0) rfl)
    (fun b156 h => wpC_skip <| kpN [] (by kernel_rfl) <| xn <| wpC_seq <| reg_s <| x_asg (sc cB true rfl) <| seqN [(4, .d (cB.enc true))] (by kernel_rfl) <|
    xn <| wpC_ret <| re <| fin h (r1 (ss rfl rfl) <| r0) rfl))))))))))⟩⟩⟩⟩⟩))))
end AS.W
