/- The program computes the plain functions. No condition. -/
import Derived.Test.YtjikhkfmddflhaaQDonorMendS
import Derived.Test.YtjikhkfmddflhaaProg
import Derived.Test.YtjikhkfmddflhaaQDonorMendL1
set_option maxRecDepth 100000
set_option linter.unusedVariables false
set_option linter.unusedSimpArgs false
namespace AS.W
open Go Go.Proofs
def rs_spec_l1Has (r : Bool) : List D := [cB.enc r]
def m78 : MC := .seq (.reg [⟨some 4, .asg (.c (.bool false)), none⟩] [0, 1])
  (.seq (.kp [] (.seq (.reg [⟨some 7, .mv (.t 0), none⟩,
    ⟨some 8, .len false (.t 7), none⟩,
    ⟨some 9, .mv (.c (.int .i64 0)), none⟩] [0, 1, 7, 8, 9])
  (.blk 0 (.loop (.seq (.reg [⟨some 10, .bin .lss (.t 9) (.t 8), none⟩] [0, 1, 7, 8, 9, 10])
  (.seq (.kp [0, 1, 7, 8, 9] (.cond (.t 10) (.skip) (.exit 0)))
  (.seq (.kp [0, 1, 7, 8, 9] (.blk 1 (.seq (.reg [⟨some 11, .ia 7 (.t 9) 1, none⟩,
    ⟨some 12, .ld 11 1 false, none⟩,
    ⟨some 6, .asg (.t 12), none⟩] [0, 1, 6, 7, 8, 9])
  (.seq (.reg [⟨some 13, .mv (.t 6), none⟩,
    ⟨some 14, .mv (.t 1), none⟩,
    ⟨some 15, .bin .eql (.t 13) (.t 14), none⟩] [0, 1, 7, 8, 9, 15])
  (.cond (.t 15) (.seq (.reg [⟨some 4, .asg (.c (.bool true)), none⟩] [4])
  (.ret)) (.skip))))))
  (.reg [⟨some 16, .bin .add (.t 9) (.c (.int .i64 1)), none⟩,
    ⟨some 9, .mv (.t 16), none⟩] [0, 1, 7, 8, 9]))))))))
  (.seq (.reg [⟨some 4, .asg (.c (.bool false)), none⟩] [4])
  (.ret)))
theorem con_spec_l1Has {v0 : (List Int)} {v1 : Int} {r : Bool} (h : sh_spec_l1Has v0 v1 = some r) : Con Try.prog 78 [(cLs cI rfl).enc v0, cI.enc v1] [] (rs_spec_l1Has r) := by
  delta sh_spec_l1Has at h
  refine top (out := none) (f := Try.f78) (m := m78) (rs := [.t 4]) (by kernel_rfl) rfl (by kernel_rfl) (by kernel_rfl) (by kernel_rfl) (by kernel_rfl) (by kernel_rfl) ?_
  exact
   ini [(0, .d ((cLs cI rfl).enc v0)), (1, .d (cI.enc v1))] rfl <| wpC_seq <| reg_s <| x_asg (sc cB false rfl) <| seqN [(0, .d ((cLs cI rfl).enc v0)), (1, .d (cI.enc v1))] (by kernel_rfl) <|
    xn <| wpC_seq <| wpC_kp <| wpC_seq <| reg_s <| st rfl <| mvd rfl rfl <| stw rfl <| lens rfl fun l16 => st rfl <| mvc cI (0 : Int) rfl <| seqN [(0, .d ((cLs cI rfl).enc v0)), (1, .d (cI.enc v1)), (7, .d ((cLs cI rfl).enc v0)), (8, .d (cI.enc (v0.length : Int))), (9, .d (cI.enc (0 : Int)))] (by kernel_rfl) <|
    xn <| wpC_blk <| lpR (fun (k18 : Nat) (s17 : Unit) => [(0, .d ((cLs cI rfl).enc v0)), (1, .d (cI.enc v1)), (7, .d ((cLs cI rfl).enc v0)), (8, .d (cI.enc (v0.length : Int))), (9, .d (cI.enc (k18 : Int)))]) () rfl h
    (fun G26 s17 h => wpC_seq <| reg_s <| st rfl <| b_lss (k := .i64) rfl rfl <| seqN [(0, .d ((cLs cI rfl).enc v0)), (1, .d (cI.enc v1)), (7, .d ((cLs cI rfl).enc v0)), (8, .d (cI.enc (v0.length : Int))), (9, .d (cI.enc (v0.length : Int))), (10, .d (cB.enc (decide ((v0.length : Int) < (v0.length : Int)))))] (by kernel_rfl) <|
    xn <| wpC_seq <| wpC_kp <| cnd0 rfl (dlf _) <| wpC_exit <| xt <| xt <| xt <| xb <| kpN [] (by kernel_rfl) <| xn <| wpC_seq <| reg_s <| x_asg (sc cB false rfl) <| seqN [(4, .d (cB.enc false))] (by kernel_rfl) <|
    xn <| wpC_ret <| re <| fin h (r1 (ss rfl rfl) <| r0) rfl)
    (fun G26 nx24 k18 s17 x19 hk20 hx21 hn25 h => wpC_seq <| reg_s <| st rfl <| b_lss (k := .i64) rfl rfl <| seqN [(0, .d ((cLs cI rfl).enc v0)), (1, .d (cI.enc v1)), (7, .d ((cLs cI rfl).enc v0)), (8, .d (cI.enc (v0.length : Int))), (9, .d (cI.enc (k18 : Int))), (10, .d (cB.enc (decide ((k18 : Int) < (v0.length : Int)))))] (by kernel_rfl) <|
    xn <| wpC_seq <| wpC_kp <| cnd1 rfl (dlt hk20) <| wpC_skip <| kpN [(0, .d ((cLs cI rfl).enc v0)), (1, .d (cI.enc v1)), (7, .d ((cLs cI rfl).enc v0)), (8, .d (cI.enc (v0.length : Int))), (9, .d (cI.enc (k18 : Int)))] (by kernel_rfl) <| xn <| wpC_seq <| wpC_kp <| wpC_blk <| wpC_seq <| reg_s <| st rfl <| ias rfl rfl (Int.natCast_nonneg _) hx21 rfl <| st rfl <| ldi rfl rfl rfl rfl <| x_asg (ss rfl rfl) <| seqN [(0, .d ((cLs cI rfl).enc v0)), (1, .d (cI.enc v1)), (6, .d (cI.enc x19)), (7, .d ((cLs cI rfl).enc v0)), (8, .d (cI.enc (v0.length : Int))), (9, .d (cI.enc (k18 : Int)))] (by kernel_rfl) <|
    xn <| wpC_seq <| reg_s <| st rfl <| mvd rfl rfl <| st rfl <| mvd rfl rfl <| st rfl <| b_eql (k := .i64) rfl rfl <| seqN [(0, .d ((cLs cI rfl).enc v0)), (1, .d (cI.enc v1)), (7, .d ((cLs cI rfl).enc v0)), (8, .d (cI.enc (v0.length : Int))), (9, .d (cI.enc (k18 : Int))), (15, .d (cB.enc (decide (x19 = v1))))] (by kernel_rfl) <|
    xn <| cnd rfl h (fun b28 h => wpC_seq <| reg_s <| x_asg (sc cB true rfl) <| seqN [(4, .d (cB.enc true))] (by kernel_rfl) <|
    xn <| wpC_ret <| rb <| rt <| rt <| rt <| rb <| rt <| rt <| re <| fin h (r1 (ss rfl rfl) <| r0) rfl)
    (fun b28 h => wpC_skip <| xbb <| kpN [(0, .d ((cLs cI rfl).enc v0)), (1, .d (cI.enc v1)), (7, .d ((cLs cI rfl).enc v0)), (8, .d (cI.enc (v0.length : Int))), (9, .d (cI.enc (k18 : Int)))] (by kernel_rfl) <| xn <| reg_s <| st rfl <| b_inc rfl rfl l16 hk20 <| st rfl <| mvd rfl rfl <| seqN [(0, .d ((cLs cI rfl).enc v0)), (1, .d (cI.enc v1)), (7, .d ((cLs cI rfl).enc v0)), (8, .d (cI.enc (v0.length : Int))), (9, .d (cI.enc ((k18 + 1 : Nat) : Int)))] (by kernel_rfl) <|
    xn <| hn25 () h))

def rs_spec_l1Sign (r : Int) : List D := [cI.enc r]
def m131 : MC := .seq (.reg [⟨some 2, .asg (.c (.int .i64 0)), none⟩] [0])
  (.seq (.kp [] (.blk 0 (.seq (.reg [⟨some 4, .mv (.t 0), none⟩,
    ⟨some 5, .bin .lss (.t 4) (.c (.int .i64 0)), none⟩,
    ⟨some 3, .asg (.t 5), none⟩] [0, 3])
  (.cond (.t 3) (.seq (.reg [⟨some 2, .asg (.c (.int .i64 (-1))), none⟩] [2])
  (.ret)) (.seq (.reg [⟨some 7, .mv (.t 0), none⟩,
    ⟨some 8, .bin .gtr (.t 7) (.c (.int .i64 0)), none⟩,
    ⟨some 6, .asg (.t 8), none⟩] [6])
  (.cond (.t 6) (.seq (.reg [⟨some 2, .asg (.c (.int .i64 1)), none⟩] [2])
  (.ret)) (.skip)))))))
  (.seq (.reg [⟨some 2, .asg (.c (.int .i64 0)), none⟩] [2])
  (.ret)))
theorem con_spec_l1Sign {v0 : Int} {r : Int} (h : sh_spec_l1Sign v0 = some r) : Con Try.prog 131 [cI.enc v0] [] (rs_spec_l1Sign r) := by
  delta sh_spec_l1Sign at h
  refine top (out := none) (f := Try.f131) (m := m131) (rs := [.t 2]) (by kernel_rfl) rfl (by kernel_rfl) (by kernel_rfl) (by kernel_rfl) (by kernel_rfl) (by kernel_rfl) ?_
  exact
   ini [(0, .d (cI.enc v0))] rfl <| wpC_seq <| reg_s <| x_asg (sc cI (0 : Int) rfl) <| seqN [(0, .d (cI.enc v0))] (by kernel_rfl) <|
    xn <| wpC_seq <| wpC_kp <| wpC_blk <| wpC_seq <| reg_s <| st rfl <| mvd rfl rfl <| st rfl <| b_lss (k := .i64) rfl rfl <| x_asg (ss rfl rfl) <| seqN [(0, .d (cI.enc v0)), (3, .d (cB.enc (decide (v0 < (0 : Int)))))] (by kernel_rfl) <|
    xn <| cnd rfl h (fun b3 h => wpC_seq <| reg_s <| x_asg (sc cI (-1 : Int) rfl) <| seqN [(2, .d (cI.enc (-1 : Int)))] (by kernel_rfl) <|
    xn <| wpC_ret <| rb <| rt <| rt <| re <| fin h (r1 (ss rfl rfl) <| r0) rfl)
    (fun b3 h => wpC_seq <| reg_s <| st rfl <| mvd rfl rfl <| st rfl <| b_gtr (k := .i64) rfl rfl <| x_asg (ss rfl rfl) <| seqN [(6, .d (cB.enc (decide ((0 : Int) < v0))))] (by kernel_rfl) <|
    xn <| cnd rfl h (fun b4 h => wpC_seq <| reg_s <| x_asg (sc cI (1 : Int) rfl) <| seqN [(2, .d (cI.enc (1 : Int)))] (by kernel_rfl) <|
    xn <| wpC_ret <| rb <| rt <| rt <| re <| fin h (r1 (ss rfl rfl) <| r0) rfl)
    (fun b4 h => wpC_skip <| xbb <| kpN [] (by kernel_rfl) <| xn <| wpC_seq <| reg_s <| x_asg (sc cI (0 : Int) rfl) <| seqN [(2, .d (cI.enc (0 : Int)))] (by kernel_rfl) <|
    xn <| wpC_ret <| re <| fin h (r1 (ss rfl rfl) <| r0) rfl))

def rs_spec_l1Less (r : Int) : List D := [cI.enc r]
def m79 : MC := .seq (.reg [⟨some 4, .asg (.c (.int .i64 0)), none⟩] [0, 1])
  (.seq (.kp [0, 1] (.seq (.reg [⟨some 5, .asg (.c (.int .i64 0)), none⟩] [0, 1, 5])
  (.blk 0 (.loop (.seq (.kp [0, 1, 5] (.seq (.reg [⟨some 6, .mv (.t 5), none⟩,
    ⟨some 7, .mv (.t 0), none⟩,
    ⟨some 8, .len false (.t 7), none⟩,
    ⟨some 9, .bin .lss (.t 6) (.t 8), none⟩,
    ⟨some 10, .mv (.t 9), none⟩,
    ⟨some 11, .mv (.t 5), some (10, true)⟩,
    ⟨some 12, .mv (.t 1), some (10, true)⟩,
    ⟨some 13, .len false (.t 12), some (10, true)⟩,
    ⟨some 14, .bin .lss (.t 11) (.t 13), some (10, true)⟩,
    ⟨some 15, .pick (.t 10) (.t 14) (.c (.bool false)), none⟩] [0, 1, 5, 15])
  (.cond (.t 15) (.skip) (.exit 0))))
  (.seq (.kp [0, 1, 5] (.blk 1 (.seq (.drw [⟨0, ⟨some 18, .mv (.t 0), none⟩, [19, 20, 21, 22, 23, 24, 25, 26]⟩,
    ⟨1, ⟨some 19, .mv (.t 5), none⟩, [18, 20, 21, 22, 23, 24, 25, 26]⟩,
    ⟨2, ⟨some 20, .ia 18 (.t 19) 1, none⟩, [21, 22, 23, 24, 25, 26]⟩,
    ⟨3, ⟨some 21, .ld 20 1 false, none⟩, [22, 23, 24, 25, 26]⟩,
    ⟨4, ⟨some 22, .mv (.t 1), none⟩, [18, 19, 20, 21, 23, 24, 25, 26]⟩,
    ⟨5, ⟨some 23, .mv (.t 5), none⟩, [18, 19, 20, 21, 22, 24, 25, 26]⟩,
    ⟨6, ⟨some 24, .ia 22 (.t 23) 1, none⟩, [18, 19, 20, 21, 25, 26]⟩,
    ⟨7, ⟨some 25, .ld 24 1 false, none⟩, [18, 19, 20, 21, 26]⟩,
    ⟨8, ⟨some 26, .bin .neq (.t 21) (.t 25), none⟩, []⟩]
    [] [0, 1, 5, 26])
  (.cond (.t 26) (.seq (.kp [] (.seq (.drw [⟨0, ⟨some 27, .mv (.t 0), none⟩, [28, 29, 30, 31, 32, 33, 34, 35]⟩,
    ⟨1, ⟨some 28, .mv (.t 5), none⟩, [27, 29, 30, 31, 32, 33, 34, 35]⟩,
    ⟨2, ⟨some 29, .ia 27 (.t 28) 1, none⟩, [30, 31, 32, 33, 34, 35]⟩,
    ⟨3, ⟨some 30, .ld 29 1 false, none⟩, [31, 32, 33, 34, 35]⟩,
    ⟨4, ⟨some 31, .mv (.t 1), none⟩, [27, 28, 29, 30, 32, 33, 34, 35]⟩,
    ⟨5, ⟨some 32, .mv (.t 5), none⟩, [27, 28, 29, 30, 31, 33, 34, 35]⟩,
    ⟨6, ⟨some 33, .ia 31 (.t 32) 1, none⟩, [27, 28, 29, 30, 34, 35]⟩,
    ⟨7, ⟨some 34, .ld 33 1 false, none⟩, [27, 28, 29, 30, 35]⟩,
    ⟨8, ⟨some 35, .bin .lss (.t 30) (.t 34), none⟩, []⟩]
    [] [35])
  (.cond (.t 35) (.seq (.reg [⟨some 4, .asg (.c (.int .i64 (-1))), none⟩] [4])
  (.ret)) (.skip))))
  (.seq (.reg [⟨some 4, .asg (.c (.int .i64 1)), none⟩] [4])
  (.ret))) (.skip)))))
  (.reg [⟨some 16, .mv (.t 5), none⟩,
    ⟨some 17, .bin .add (.t 16) (.c (.int .i64 1)), none⟩,
    ⟨some 5, .asg (.t 17), none⟩] [0, 1, 5])))))))
  (.seq (.reg [⟨some 36, .mv (.t 0), none⟩,
    ⟨some 37, .len false (.t 36), none⟩,
    ⟨some 38, .mv (.t 1), none⟩,
    ⟨some 39, .len false (.t 38), none⟩,
    ⟨some 40, .bin .sub (.t 37) (.t 39), none⟩,
    ⟨some 41, .call 131 [(.t 40)], none⟩,
    ⟨some 4, .asg (.t 41), none⟩] [4])
  (.ret)))
theorem con_spec_l1Less {v0 : (List Int)} {v1 : (List Int)} {r : Int} (h : sh_spec_l1Less v0 v1 = some r) : Con Try.prog 79 [(cLs cI rfl).enc v0, (cLs cI rfl).enc v1] [] (rs_spec_l1Less r) := by
  delta sh_spec_l1Less at h
  refine top (out := none) (f := Try.f79) (m := m79) (rs := [.t 4]) (by kernel_rfl) rfl (by kernel_rfl) (by kernel_rfl) (by kernel_rfl) (by kernel_rfl) (by kernel_rfl) ?_
  exact
   ini [(0, .d ((cLs cI rfl).enc v0)), (1, .d ((cLs cI rfl).enc v1))] rfl <| wpC_seq <| reg_s <| x_asg (sc cI (0 : Int) rfl) <| seqN [(0, .d ((cLs cI rfl).enc v0)), (1, .d ((cLs cI rfl).enc v1))] (by kernel_rfl) <|
    xn <| sqj (fun (s144 : Unit) => [(0, .d ((cLs cI rfl).enc v0)), (1, .d ((cLs cI rfl).enc v1))]) h (fun s144 h => wpC_seq <| reg_s <| st rfl <| mvd rfl rfl <| stw rfl <| lens rfl fun l152 => st rfl <| mvd rfl rfl <| stw rfl <| lens rfl fun l153 => ckI_k h fun i154 h => st rfl <| b_sub (k := .i64) rfl rfl i154 <| bnd h fun x155 e156 h => st rfl <| o_call (a1 (c := cI) tK rfl a0) (con_spec_l1Sign e156) (.inl (so1 sK so0)) <| x_asg (ss rfl rfl) <| seqN [(4, .d (cI.enc x155))] (by kernel_rfl) <|
    xn <| wpC_ret <| re <| fin h (r1 (ss rfl rfl) <| r0) rfl)
    fun m146 h => wpC_kp <| wpC_seq <| reg_s <| x_asg (sc cI (0 : Int) rfl) <| seqN [(0, .d ((cLs cI rfl).enc v0)), (1, .d ((cLs cI rfl).enc v1)), (5, .d (cI.enc (0 : Int)))] (by kernel_rfl) <|
    xn <| wpC_blk <| lpF (fun (s157 : Int) => [(0, .d ((cLs cI rfl).enc v0)), (1, .d ((cLs cI rfl).enc v1)), (5, .d (cI.enc s157))]) (0 : Int) rfl h
    fun G254 nx252 s157 hn253 h => wpC_seq <| wpC_kp <| wpC_seq <| reg_s <| st rfl <| mvd rfl rfl <| st rfl <| mvd rfl rfl <| stw rfl <| lens rfl fun l265 => st rfl <| b_lss (k := .i64) rfl rfl <| st rfl <| mvd rfl rfl <| ite_k h (fun b266 h => gt' rfl b266 <| st rfl <| mvd rfl rfl <| gt' rfl b266 <| st rfl <| mvd rfl rfl <| gt' rfl b266 <| stw rfl <| lens rfl fun l267 => gt' rfl b266 <| st rfl <| b_lss (k := .i64) rfl rfl <| st rfl <| pick1 rfl b266 (cd := cB) (v := (decide (s157 < (v1.length : Int)))) rfl rfl <| seqN [(0, .d ((cLs cI rfl).enc v0)), (1, .d ((cLs cI rfl).enc v1)), (5, .d (cI.enc s157)), (15, .d (cB.enc (decide (s157 < (v1.length : Int)))))] (by kernel_rfl) <|
    xn <| cnd rfl h (fun b268 h => wpC_skip <| kpN [(0, .d ((cLs cI rfl).enc v0)), (1, .d ((cLs cI rfl).enc v1)), (5, .d (cI.enc s157))] (by kernel_rfl) <| xn <| wpC_seq <| wpC_kp <| wpC_blk <| wpC_seq <| drw_s <| pst rfl <| mvd rfl rfl ⟨rfl, pst rfl <| mvd rfl rfl ⟨rfl, getO_kp h fun x290 i291 g292 h => pst rfl <| ias rfl rfl i291 g292 rfl ⟨rfl, pst rfl <| ldi rfl rfl rfl rfl ⟨rfl, pst rfl <| mvd rfl rfl ⟨rfl, pst rfl <| mvd rfl rfl ⟨rfl, getO_kp h fun x293 i294 g295 h => pst rfl <| ias rfl rfl i294 g295 rfl ⟨rfl, pst rfl <| ldi rfl rfl rfl rfl ⟨rfl, pst rfl <| b_neq (k := .i64) rfl rfl ⟨rfl, preN <| seqN [(0, .d ((cLs cI rfl).enc v0)), (1, .d ((cLs cI rfl).enc v1)), (5, .d (cI.enc s157)), (26, .d (cB.enc (decide (x290 ≠ x293))))] (by kernel_rfl) <|
    xn <| cnd rfl h (fun b296 h => wpC_seq <| wpC_kp <| wpC_seq <| drw_s <| pst rfl <| mvd rfl rfl ⟨rfl, pst rfl <| mvd rfl rfl ⟨rfl, pst rfl <| ias rfl rfl i291 g292 rfl ⟨rfl, pst rfl <| ldi rfl rfl rfl rfl ⟨rfl, pst rfl <| mvd rfl rfl ⟨rfl, pst rfl <| mvd rfl rfl ⟨rfl, pst rfl <| ias rfl rfl i294 g295 rfl ⟨rfl, pst rfl <| ldi rfl rfl rfl rfl ⟨rfl, pst rfl <| b_lss (k := .i64) rfl rfl ⟨rfl, preN <| seqN [(35, .d (cB.enc (decide (x290 < x293))))] (by kernel_rfl) <|
    xn <| cnd rfl h (fun b298 h => wpC_seq <| reg_s <| x_asg (sc cI (-1 : Int) rfl) <| seqN [(4, .d (cI.enc (-1 : Int)))] (by kernel_rfl) <|
    xn <| wpC_ret <| rt <| rt <| rb <| rt <| rt <| rt <| rb <| rt <| rt <| re <| fin h (r1 (ss rfl rfl) <| r0) rfl)
    (fun b298 h => wpC_skip <| kpN [] (by kernel_rfl) <| xn <| wpC_seq <| reg_s <| x_asg (sc cI (1 : Int) rfl) <| seqN [(4, .d (cI.enc (1 : Int)))] (by kernel_rfl) <|
    xn <| wpC_ret <| rb <| rt <| rt <| rt <| rb <| rt <| rt <| re <| fin h (r1 (ss rfl rfl) <| r0) rfl)⟩⟩⟩⟩⟩⟩⟩⟩⟩)
    (fun b296 h => wpC_skip <| xbb <| kpN [(0, .d ((cLs cI rfl).enc v0)), (1, .d ((cLs cI rfl).enc v1)), (5, .d (cI.enc s157))] (by kernel_rfl) <| xn <| reg_s <| st rfl <| mvd rfl rfl <| ckI_k h fun i299 h => st rfl <| b_add (k := .i64) rfl rfl i299 <| x_asg (ss rfl rfl) <| seqN [(0, .d ((cLs cI rfl).enc v0)), (1, .d ((cLs cI rfl).enc v1)), (5, .d (cI.enc (s157 + (1 : Int))))] (by kernel_rfl) <|
    xn <| hn253 (s157 + (1 : Int)) h)⟩⟩⟩⟩⟩⟩⟩⟩⟩)
    (fun b268 h => wpC_exit <| xt <| xt <| xt <| xb <| kpN [(0, .d ((cLs cI rfl).enc v0)), (1, .d ((cLs cI rfl).enc v1))] (by kernel_rfl) <| m146 () h))
    (fun b266 h => gf rfl b266 <| gf rfl b266 <| gf rfl b266 <| gf rfl b266 <| st rfl <| pick0 rfl b266 (cd := cB) (v := false) rfl rfl <| seqN [(0, .d ((cLs cI rfl).enc v0)), (1, .d ((cLs cI rfl).enc v1)), (5, .d (cI.enc s157)), (15, .d (cB.enc false))] (by kernel_rfl) <|
    xn <| cnd0 rfl rfl <| wpC_exit <| xt <| xt <| xt <| xb <| kpN [(0, .d ((cLs cI rfl).enc v0)), (1, .d ((cLs cI rfl).enc v1))] (by kernel_rfl) <| m146 () h)

def rs_impl_membersOf (r : (List Int)) : List D := [(cLo cI).enc r]
def m132 : MC := .seq (.reg [⟨some 2, .asg (.c (.slice true [])), none⟩] [0])
  (.seq (.reg [⟨some 3, .asg (.c (.slice true [])), none⟩] [0, 3])
  (.seq (.kp [3] (.seq (.reg [⟨some 4, .asg (.c (.int .i64 0)), none⟩] [0, 3, 4])
  (.blk 0 (.loop (.seq (.kp [0, 3, 4] (.seq (.reg [⟨some 5, .mv (.t 0), none⟩,
    ⟨some 6, .mv (.t 4), none⟩,
    ⟨some 7, .bin .shr (.t 5) (.t 6), none⟩,
    ⟨some 8, .bin .neq (.t 7) (.c (.int .i64 0)), none⟩] [0, 3, 4, 8])
  (.cond (.t 8) (.skip) (.exit 0))))
  (.seq (.kp [0, 3, 4] (.blk 1 (.seq (.reg [⟨some 11, .mv (.t 0), none⟩,
    ⟨some 12, .mv (.t 4), none⟩,
    ⟨some 13, .bin .shr (.t 11) (.t 12), none⟩,
    ⟨some 14, .bin .and (.t 13) (.c (.int .i64 1)), none⟩,
    ⟨some 15, .bin .eql (.t 14) (.c (.int .i64 1)), none⟩] [0, 3, 4, 15])
  (.cond (.t 15) (.reg [⟨some 16, .mv (.t 3), none⟩,
    ⟨some 17, .mv (.t 4), none⟩,
    ⟨some 18, .bsl [(.t 17)] 1, none⟩,
    ⟨some 19, .app (.t 16) (.t 18) 1, none⟩,
    ⟨some 3, .asg (.t 19), none⟩] [0, 3, 4]) (.skip)))))
  (.reg [⟨some 9, .mv (.t 4), none⟩,
    ⟨some 10, .bin .add (.t 9) (.c (.int .i64 1)), none⟩,
    ⟨some 4, .asg (.t 10), none⟩] [0, 3, 4])))))))
  (.seq (.reg [⟨some 20, .mv (.t 3), none⟩,
    ⟨some 2, .asg (.t 20), none⟩] [2])
  (.ret))))
theorem con_impl_membersOf {v0 : Int} {r : (List Int)} (h : sh_impl_membersOf v0 = some r) : Con Try.prog 132 [cI.enc v0] [] (rs_impl_membersOf r) := by
  delta sh_impl_membersOf at h
  refine top (out := none) (f := Try.f132) (m := m132) (rs := [.t 2]) (by kernel_rfl) rfl (by kernel_rfl) (by kernel_rfl) (by kernel_rfl) (by kernel_rfl) (by kernel_rfl) ?_
  exact
   ini [(0, .d (cI.enc v0))] rfl <| wpC_seq <| reg_s <| x_asg (sc (cLo cI) ([] : List Int) rfl) <| seqN [(0, .d (cI.enc v0))] (by kernel_rfl) <|
    xn <| wpC_seq <| reg_s <| x_asg (sc (cLo cI) ([] : List Int) rfl) <| seqN [(0, .d (cI.enc v0)), (3, .d ((cLo cI).enc ([] : List Int)))] (by kernel_rfl) <|
    xn <| wpC_seq <| wpC_kp <| wpC_seq <| reg_s <| x_asg (sc cI (0 : Int) rfl) <| seqN [(0, .d (cI.enc v0)), (3, .d ((cLo cI).enc ([] : List Int))), (4, .d (cI.enc (0 : Int)))] (by kernel_rfl) <|
    xn <| wpC_blk <| lpF (fun (s105 : ((List Int) × Int)) => [(0, .d (cI.enc v0)), (3, .d ((cLo cI).enc s105.1)), (4, .d (cI.enc s105.2))]) (([] : List Int), (0 : Int)) rfl h
    fun G176 nx174 s105 hn175 h => wpC_seq <| wpC_kp <| wpC_seq <| reg_s <| st rfl <| mvd rfl rfl <| st rfl <| mvd rfl rfl <| ck_k h fun i181 h => st rfl <| b_shr (k := .i64) (k' := .i64) rfl rfl i181 rfl <| st rfl <| b_neq (k := .i64) rfl rfl <| seqN [(0, .d (cI.enc v0)), (3, .d ((cLo cI).enc s105.1)), (4, .d (cI.enc s105.2)), (8, .d (cB.enc (decide ((v0 / 2 ^ (s105.2).toNat) ≠ (0 : Int)))))] (by kernel_rfl) <|
    xn <| cnd rfl h (fun b182 h => wpC_skip <| kpN [(0, .d (cI.enc v0)), (3, .d ((cLo cI).enc s105.1)), (4, .d (cI.enc s105.2))] (by kernel_rfl) <| xn <| wpC_seq <| wpC_kp <| wpC_blk <| wpC_seq <| reg_s <| st rfl <| mvd rfl rfl <| st rfl <| mvd rfl rfl <| ck_k h fun i200 h => st rfl <| b_shr (k := .i64) (k' := .i64) rfl rfl i200 rfl <| ck_k h fun i201 h => ckK_k h fun i202 h => ck_k h fun i203 h => ckK_k h fun i204 h => st rfl <| b_and (k := .i64) rfl rfl ⟨i201, i202⟩ ⟨i203, i204⟩ <| st rfl <| b_eql (k := .i64) rfl rfl <| seqN [(0, .d (cI.enc v0)), (3, .d ((cLo cI).enc s105.1)), (4, .d (cI.enc s105.2)), (15, .d (cB.enc (decide ((((v0 / 2 ^ (s105.2).toNat).toNat &&& (1 : Int).toNat : Nat) : Int) = (1 : Int)))))] (by kernel_rfl) <|
    xn <| cnd rfl h (fun b205 h => reg_s <| st rfl <| mvo rfl rfl <| st rfl <| mvd rfl rfl <| x_bsl cI [s105.2] (t1 (ss rfl rfl) rfl t0) rfl rfl <| lnO_k h fun l206 h => x_app (sr rfl rfl) (to rfl rfl) l206 rfl <| x_asg (so rfl rfl) <| seqN [(0, .d (cI.enc v0)), (3, .d ((cLo cI).enc (s105.1 ++ [s105.2]))), (4, .d (cI.enc s105.2))] (by kernel_rfl) <|
    xbb <| kpN [(0, .d (cI.enc v0)), (3, .d ((cLo cI).enc (s105.1 ++ [s105.2]))), (4, .d (cI.enc s105.2))] (by kernel_rfl) <| xn <| reg_s <| st rfl <| mvd rfl rfl <| ckI_k h fun i207 h => st rfl <| b_add (k := .i64) rfl rfl i207 <| x_asg (ss rfl rfl) <| seqN [(0, .d (cI.enc v0)), (3, .d ((cLo cI).enc (s105.1 ++ [s105.2]))), (4, .d (cI.enc (s105.2 + (1 : Int))))] (by kernel_rfl) <|
    xn <| hn175 ((s105.1 ++ [s105.2]), (s105.2 + (1 : Int))) h)
    (fun b205 h => wpC_skip <| xbb <| kpN [(0, .d (cI.enc v0)), (3, .d ((cLo cI).enc s105.1)), (4, .d (cI.enc s105.2))] (by kernel_rfl) <| xn <| reg_s <| st rfl <| mvd rfl rfl <| ckI_k h fun i208 h => st rfl <| b_add (k := .i64) rfl rfl i208 <| x_asg (ss rfl rfl) <| seqN [(0, .d (cI.enc v0)), (3, .d ((cLo cI).enc s105.1)), (4, .d (cI.enc (s105.2 + (1 : Int))))] (by kernel_rfl) <|
    xn <| hn175 (s105.1, (s105.2 + (1 : Int))) h))
    (fun b182 h => wpC_exit <| xt <| xt <| xt <| xb <| kpN [(3, .d ((cLo cI).enc s105.1))] (by kernel_rfl) <| xn <| wpC_seq <| reg_s <| st rfl <| mvo rfl rfl <| x_asg (sr rfl rfl) <| seqN [(2, .d ((cLo cI).enc s105.1))] (by kernel_rfl) <|
    xn <| wpC_ret <| re <| fin h (r1 (so rfl rfl) <| r0) rfl)

def rs_cmp_isNaN_int (r : Bool) : List D := [cB.enc r]
def m163 : MC := .seq (.reg [⟨some 2, .asg (.c (.bool false)), none⟩] [0])
  (.seq (.reg [⟨some 3, .mv (.t 0), none⟩,
    ⟨some 4, .mv (.t 0), none⟩,
    ⟨some 5, .bin .neq (.t 3) (.t 4), none⟩,
    ⟨some 2, .asg (.t 5), none⟩] [2])
  (.ret))
theorem con_cmp_isNaN_int {v0 : Int} {r : Bool} (h : sh_cmp_isNaN_int v0 = some r) : Con Try.prog 163 [cI.enc v0] [] (rs_cmp_isNaN_int r) := by
  delta sh_cmp_isNaN_int at h
  refine top (out := none) (f := Try.f163) (m := m163) (rs := [.t 2]) (by kernel_rfl) rfl (by kernel_rfl) (by kernel_rfl) (by kernel_rfl) (by kernel_rfl) (by kernel_rfl) ?_
  exact
   ini [(0, .d (cI.enc v0))] rfl <| wpC_seq <| reg_s <| x_asg (sc cB false rfl) <| seqN [(0, .d (cI.enc v0))] (by kernel_rfl) <|
    xn <| wpC_seq <| reg_s <| st rfl <| mvd rfl rfl <| st rfl <| mvd rfl rfl <| st rfl <| b_neq (k := .i64) rfl rfl <| x_asg (ss rfl rfl) <| seqN [(2, .d (cB.enc (decide (v0 ≠ v0))))] (by kernel_rfl) <|
    xn <| wpC_ret <| re <| fin h (r1 (ss rfl rfl) <| r0) rfl

def rs_cmp_Compare_int (r : Int) : List D := [cI.enc r]
def m134 : MC := .seq (.reg [⟨some 4, .asg (.c (.int .i64 0)), none⟩] [0, 1])
  (.seq (.reg [⟨some 7, .mv (.t 0), none⟩,
    ⟨some 8, .call 163 [(.t 7)], none⟩,
    ⟨some 5, .asg (.t 8), none⟩] [0, 1, 5])
  (.seq (.reg [⟨some 9, .mv (.t 1), none⟩,
    ⟨some 10, .call 163 [(.t 9)], none⟩,
    ⟨some 6, .asg (.t 10), none⟩] [0, 1, 5, 6])
  (.seq (.kp [0, 1, 6] (.seq (.reg [⟨some 11, .mv (.t 5), none⟩] [0, 1, 6, 11])
  (.cond (.t 11) (.seq (.kp [] (.seq (.reg [⟨some 12, .mv (.t 6), none⟩] [12])
  (.cond (.t 12) (.seq (.reg [⟨some 4, .asg (.c (.int .i64 0)), none⟩] [4])
  (.ret)) (.skip))))
  (.seq (.reg [⟨some 4, .asg (.c (.int .i64 (-1))), none⟩] [4])
  (.ret))) (.skip))))
  (.seq (.kp [0, 1] (.seq (.reg [⟨some 13, .mv (.t 6), none⟩] [0, 1, 13])
  (.cond (.t 13) (.seq (.reg [⟨some 4, .asg (.c (.int .i64 1)), none⟩] [4])
  (.ret)) (.skip))))
  (.seq (.kp [0, 1] (.seq (.reg [⟨some 14, .mv (.t 0), none⟩,
    ⟨some 15, .mv (.t 1), none⟩,
    ⟨some 16, .bin .lss (.t 14) (.t 15), none⟩] [0, 1, 16])
  (.cond (.t 16) (.seq (.reg [⟨some 4, .asg (.c (.int .i64 (-1))), none⟩] [4])
  (.ret)) (.skip))))
  (.seq (.kp [] (.seq (.reg [⟨some 17, .mv (.t 0), none⟩,
    ⟨some 18, .mv (.t 1), none⟩,
    ⟨some 19, .bin .gtr (.t 17) (.t 18), none⟩] [19])
  (.cond (.t 19) (.seq (.reg [⟨some 4, .asg (.c (.int .i64 1)), none⟩] [4])
  (.ret)) (.skip))))
  (.seq (.reg [⟨some 4, .asg (.c (.int .i64 0)), none⟩] [4])
  (.ret))))))))
theorem con_cmp_Compare_int {v0 : Int} {v1 : Int} {r : Int} (h : sh_cmp_Compare_int v0 v1 = some r) : Con Try.prog 134 [cI.enc v0, cI.enc v1] [] (rs_cmp_Compare_int r) := by
  delta sh_cmp_Compare_int at h
  refine top (out := none) (f := Try.f134) (m := m134) (rs := [.t 4]) (by kernel_rfl) rfl (by kernel_rfl) (by kernel_rfl) (by kernel_rfl) (by kernel_rfl) (by kernel_rfl) ?_
  exact
   ini [(0, .d (cI.enc v0)), (1, .d (cI.enc v1))] rfl <| wpC_seq <| reg_s <| x_asg (sc cI (0 : Int) rfl) <| seqN [(0, .d (cI.enc v0)), (1, .d (cI.enc v1))] (by kernel_rfl) <|
    xn <| wpC_seq <| reg_s <| st rfl <| mvd rfl rfl <| bnd h fun x3 e4 h => st rfl <| o_call (a1 (c := cI) tK rfl a0) (con_cmp_isNaN_int e4) (.inl (so1 sB so0)) <| x_asg (ss rfl rfl) <| seqN [(0, .d (cI.enc v0)), (1, .d (cI.enc v1)), (5, .d (cB.enc x3))] (by kernel_rfl) <|
    xn <| wpC_seq <| reg_s <| st rfl <| mvd rfl rfl <| bnd h fun x7 e8 h => st rfl <| o_call (a1 (c := cI) tK rfl a0) (con_cmp_isNaN_int e8) (.inl (so1 sB so0)) <| x_asg (ss rfl rfl) <| seqN [(0, .d (cI.enc v0)), (1, .d (cI.enc v1)), (5, .d (cB.enc x3)), (6, .d (cB.enc x7))] (by kernel_rfl) <|
    xn <| wpC_seq <| wpC_kp <| wpC_seq <| reg_s <| st rfl <| mvd rfl rfl <| seqN [(0, .d (cI.enc v0)), (1, .d (cI.enc v1)), (6, .d (cB.enc x7)), (11, .d (cB.enc x3))] (by kernel_rfl) <|
    xn <| cnd rfl h (fun b12 h => wpC_seq <| wpC_kp <| wpC_seq <| reg_s <| st rfl <| mvd rfl rfl <| seqN [(12, .d (cB.enc x7))] (by kernel_rfl) <|
    xn <| cnd rfl h (fun b14 h => wpC_seq <| reg_s <| x_asg (sc cI (0 : Int) rfl) <| seqN [(4, .d (cI.enc (0 : Int)))] (by kernel_rfl) <|
    xn <| wpC_ret <| rt <| rt <| rt <| rt <| re <| fin h (r1 (ss rfl rfl) <| r0) rfl)
    (fun b14 h => wpC_skip <| kpN [] (by kernel_rfl) <| xn <| wpC_seq <| reg_s <| x_asg (sc cI (-1 : Int) rfl) <| seqN [(4, .d (cI.enc (-1 : Int)))] (by kernel_rfl) <|
    xn <| wpC_ret <| rt <| rt <| re <| fin h (r1 (ss rfl rfl) <| r0) rfl))
    (fun b12 h => wpC_skip <| kpN [(0, .d (cI.enc v0)), (1, .d (cI.enc v1)), (6, .d (cB.enc x7))] (by kernel_rfl) <| xn <| wpC_seq <| wpC_kp <| wpC_seq <| reg_s <| st rfl <| mvd rfl rfl <| seqN [(0, .d (cI.enc v0)), (1, .d (cI.enc v1)), (13, .d (cB.enc x7))] (by kernel_rfl) <|
    xn <| cnd rfl h (fun b16 h => wpC_seq <| reg_s <| x_asg (sc cI (1 : Int) rfl) <| seqN [(4, .d (cI.enc (1 : Int)))] (by kernel_rfl) <|
    xn <| wpC_ret <| rt <| rt <| re <| fin h (r1 (ss rfl rfl) <| r0) rfl)
    (fun b16 h => wpC_skip <| kpN [(0, .d (cI.enc v0)), (1, .d (cI.enc v1))] (by kernel_rfl) <| xn <| wpC_seq <| wpC_kp <| wpC_seq <| reg_s <| st rfl <| mvd rfl rfl <| st rfl <| mvd rfl rfl <| st rfl <| b_lss (k := .i64) rfl rfl <| seqN [(0, .d (cI.enc v0)), (1, .d (cI.enc v1)), (16, .d (cB.enc (decide (v0 < v1))))] (by kernel_rfl) <|
    xn <| cnd rfl h (fun b18 h => wpC_seq <| reg_s <| x_asg (sc cI (-1 : Int) rfl) <| seqN [(4, .d (cI.enc (-1 : Int)))] (by kernel_rfl) <|
    xn <| wpC_ret <| rt <| rt <| re <| fin h (r1 (ss rfl rfl) <| r0) rfl)
    (fun b18 h => wpC_skip <| kpN [(0, .d (cI.enc v0)), (1, .d (cI.enc v1))] (by kernel_rfl) <| xn <| wpC_seq <| wpC_kp <| wpC_seq <| reg_s <| st rfl <| mvd rfl rfl <| st rfl <| mvd rfl rfl <| st rfl <| b_gtr (k := .i64) rfl rfl <| seqN [(19, .d (cB.enc (decide (v1 < v0))))] (by kernel_rfl) <|
    xn <| cnd rfl h (fun b20 h => wpC_seq <| reg_s <| x_asg (sc cI (1 : Int) rfl) <| seqN [(4, .d (cI.enc (1 : Int)))] (by kernel_rfl) <|
    xn <| wpC_ret <| rt <| rt <| re <| fin h (r1 (ss rfl rfl) <| r0) rfl)
    (fun b20 h => wpC_skip <| kpN [] (by kernel_rfl) <| xn <| wpC_seq <| reg_s <| x_asg (sc cI (0 : Int) rfl) <| seqN [(4, .d (cI.enc (0 : Int)))] (by kernel_rfl) <|
    xn <| wpC_ret <| re <| fin h (r1 (ss rfl rfl) <| r0) rfl))))

def rs_slices_Compare_int (r : Int) : List D := [cI.enc r]
def m135 : MC := .seq (.reg [⟨some 4, .asg (.c (.int .i64 0)), none⟩] [0, 1])
  (.seq (.kp [0, 1] (.seq (.reg [⟨some 9, .mv (.t 0), none⟩,
    ⟨some 10, .len false (.t 9), none⟩,
    ⟨some 11, .mv (.c (.int .i64 0)), none⟩] [0, 1, 9, 10, 11])
  (.blk 0 (.loop (.seq (.reg [⟨some 12, .bin .lss (.t 11) (.t 10), none⟩] [0, 1, 9, 10, 11, 12])
  (.seq (.kp [0, 1, 9, 10, 11] (.cond (.t 12) (.skip) (.exit 0)))
  (.seq (.kp [0, 1, 9, 10, 11] (.blk 1 (.seq (.reg [⟨some 13, .mv (.t 11), none⟩,
    ⟨some 14, .ia 9 (.t 11) 1, none⟩,
    ⟨some 15, .ld 14 1 false, none⟩,
    ⟨some 5, .asg (.t 13), none⟩,
    ⟨some 6, .asg (.t 15), none⟩] [0, 1, 5, 6, 9, 10, 11])
  (.seq (.kp [0, 1, 5, 6, 9, 10, 11] (.seq (.reg [⟨some 16, .mv (.t 5), none⟩,
    ⟨some 17, .mv (.t 1), none⟩,
    ⟨some 18, .len false (.t 17), none⟩,
    ⟨some 19, .bin .geq (.t 16) (.t 18), none⟩] [0, 1, 5, 6, 9, 10, 11, 19])
  (.cond (.t 19) (.seq (.reg [⟨some 4, .asg (.c (.int .i64 1)), none⟩] [4])
  (.ret)) (.skip))))
  (.seq (.reg [⟨some 20, .mv (.t 1), none⟩,
    ⟨some 21, .mv (.t 5), none⟩,
    ⟨some 22, .ia 20 (.t 21) 1, none⟩,
    ⟨some 23, .ld 22 1 false, none⟩,
    ⟨some 7, .asg (.t 23), none⟩] [0, 1, 6, 7, 9, 10, 11])
  (.seq (.reg [⟨some 24, .mv (.t 6), none⟩,
    ⟨some 25, .mv (.t 7), none⟩,
    ⟨some 26, .call 134 [(.t 24), (.t 25)], none⟩,
    ⟨some 8, .asg (.t 26), none⟩] [0, 1, 8, 9, 10, 11])
  (.seq (.reg [⟨some 27, .mv (.t 8), none⟩,
    ⟨some 28, .bin .neq (.t 27) (.c (.int .i64 0)), none⟩] [0, 1, 8, 9, 10, 11, 28])
  (.cond (.t 28) (.seq (.reg [⟨some 29, .mv (.t 8), none⟩,
    ⟨some 4, .asg (.t 29), none⟩] [4])
  (.ret)) (.skip)))))))))
  (.reg [⟨some 30, .bin .add (.t 11) (.c (.int .i64 1)), none⟩,
    ⟨some 11, .mv (.t 30), none⟩] [0, 1, 9, 10, 11]))))))))
  (.seq (.kp [] (.seq (.reg [⟨some 31, .mv (.t 0), none⟩,
    ⟨some 32, .len false (.t 31), none⟩,
    ⟨some 33, .mv (.t 1), none⟩,
    ⟨some 34, .len false (.t 33), none⟩,
    ⟨some 35, .bin .lss (.t 32) (.t 34), none⟩] [35])
  (.cond (.t 35) (.seq (.reg [⟨some 4, .asg (.c (.int .i64 (-1))), none⟩] [4])
  (.ret)) (.skip))))
  (.seq (.reg [⟨some 4, .asg (.c (.int .i64 0)), none⟩] [4])
  (.ret))))
theorem con_slices_Compare_int {v0 : (List Int)} {v1 : (List Int)} {r : Int} (h : sh_slices_Compare_int v0 v1 = some r) : Con Try.prog 135 [(cLs cI rfl).enc v0, (cLs cI rfl).enc v1] [] (rs_slices_Compare_int r) := by
  delta sh_slices_Compare_int at h
  refine top (out := none) (f := Try.f135) (m := m135) (rs := [.t 4]) (by kernel_rfl) rfl (by kernel_rfl) (by kernel_rfl) (by kernel_rfl) (by kernel_rfl) (by kernel_rfl) ?_
  exact
   ini [(0, .d ((cLs cI rfl).enc v0)), (1, .d ((cLs cI rfl).enc v1))] rfl <| wpC_seq <| reg_s <| x_asg (sc cI (0 : Int) rfl) <| seqN [(0, .d ((cLs cI rfl).enc v0)), (1, .d ((cLs cI rfl).enc v1))] (by kernel_rfl) <|
    xn <| wpC_seq <| wpC_kp <| wpC_seq <| reg_s <| st rfl <| mvd rfl rfl <| stw rfl <| lens rfl fun l80 => st rfl <| mvc cI (0 : Int) rfl <| seqN [(0, .d ((cLs cI rfl).enc v0)), (1, .d ((cLs cI rfl).enc v1)), (9, .d ((cLs cI rfl).enc v0)), (10, .d (cI.enc (v0.length : Int))), (11, .d (cI.enc (0 : Int)))] (by kernel_rfl) <|
    xn <| wpC_blk <| lpR (fun (k82 : Nat) (s81 : Unit) => [(0, .d ((cLs cI rfl).enc v0)), (1, .d ((cLs cI rfl).enc v1)), (9, .d ((cLs cI rfl).enc v0)), (10, .d (cI.enc (v0.length : Int))), (11, .d (cI.enc (k82 : Int)))]) () rfl h
    (fun G122 s81 h => wpC_seq <| reg_s <| st rfl <| b_lss (k := .i64) rfl rfl <| seqN [(0, .d ((cLs cI rfl).enc v0)), (1, .d ((cLs cI rfl).enc v1)), (9, .d ((cLs cI rfl).enc v0)), (10, .d (cI.enc (v0.length : Int))), (11, .d (cI.enc (v0.length : Int))), (12, .d (cB.enc (decide ((v0.length : Int) < (v0.length : Int)))))] (by kernel_rfl) <|
    xn <| wpC_seq <| wpC_kp <| cnd0 rfl (dlf _) <| wpC_exit <| xt <| xt <| xt <| xb <| kpN [(0, .d ((cLs cI rfl).enc v0)), (1, .d ((cLs cI rfl).enc v1))] (by kernel_rfl) <| xn <| wpC_seq <| wpC_kp <| wpC_seq <| reg_s <| st rfl <| mvd rfl rfl <| stw rfl <| lens rfl fun l130 => st rfl <| mvd rfl rfl <| stw rfl <| lens rfl fun l131 => st rfl <| b_lss (k := .i64) rfl rfl <| seqN [(35, .d (cB.enc (decide ((v0.length : Int) < (v1.length : Int)))))] (by kernel_rfl) <|
    xn <| cnd rfl h (fun b132 h => wpC_seq <| reg_s <| x_asg (sc cI (-1 : Int) rfl) <| seqN [(4, .d (cI.enc (-1 : Int)))] (by kernel_rfl) <|
    xn <| wpC_ret <| rt <| rt <| re <| fin h (r1 (ss rfl rfl) <| r0) rfl)
    (fun b132 h => wpC_skip <| kpN [] (by kernel_rfl) <| xn <| wpC_seq <| reg_s <| x_asg (sc cI (0 : Int) rfl) <| seqN [(4, .d (cI.enc (0 : Int)))] (by kernel_rfl) <|
    xn <| wpC_ret <| re <| fin h (r1 (ss rfl rfl) <| r0) rfl))
    (fun G122 nx120 k82 s81 x83 hk84 hx85 hn121 h => wpC_seq <| reg_s <| st rfl <| b_lss (k := .i64) rfl rfl <| seqN [(0, .d ((cLs cI rfl).enc v0)), (1, .d ((cLs cI rfl).enc v1)), (9, .d ((cLs cI rfl).enc v0)), (10, .d (cI.enc (v0.length : Int))), (11, .d (cI.enc (k82 : Int))), (12, .d (cB.enc (decide ((k82 : Int) < (v0.length : Int)))))] (by kernel_rfl) <|
    xn <| wpC_seq <| wpC_kp <| cnd1 rfl (dlt hk84) <| wpC_skip <| kpN [(0, .d ((cLs cI rfl).enc v0)), (1, .d ((cLs cI rfl).enc v1)), (9, .d ((cLs cI rfl).enc v0)), (10, .d (cI.enc (v0.length : Int))), (11, .d (cI.enc (k82 : Int)))] (by kernel_rfl) <| xn <| wpC_seq <| wpC_kp <| wpC_blk <| wpC_seq <| reg_s <| st rfl <| mvd rfl rfl <| st rfl <| ias rfl rfl (Int.natCast_nonneg _) hx85 rfl <| st rfl <| ldi rfl rfl rfl rfl <| x_asg (ss rfl rfl) <| x_asg (ss rfl rfl) <| seqN [(0, .d ((cLs cI rfl).enc v0)), (1, .d ((cLs cI rfl).enc v1)), (5, .d (cI.enc (k82 : Int))), (6, .d (cI.enc x83)), (9, .d ((cLs cI rfl).enc v0)), (10, .d (cI.enc (v0.length : Int))), (11, .d (cI.enc (k82 : Int)))] (by kernel_rfl) <|
    xn <| wpC_seq <| wpC_kp <| wpC_seq <| reg_s <| st rfl <| mvd rfl rfl <| st rfl <| mvd rfl rfl <| stw rfl <| lens rfl fun l154 => st rfl <| b_geq (k := .i64) rfl rfl <| seqN [(0, .d ((cLs cI rfl).enc v0)), (1, .d ((cLs cI rfl).enc v1)), (5, .d (cI.enc (k82 : Int))), (6, .d (cI.enc x83)), (9, .d ((cLs cI rfl).enc v0)), (10, .d (cI.enc (v0.length : Int))), (11, .d (cI.enc (k82 : Int))), (19, .d (cB.enc (decide ((v1.length : Int) ≤ (k82 : Int)))))] (by kernel_rfl) <|
    xn <| cnd rfl h (fun b155 h => wpC_seq <| reg_s <| x_asg (sc cI (1 : Int) rfl) <| seqN [(4, .d (cI.enc (1 : Int)))] (by kernel_rfl) <|
    xn <| wpC_ret <| rt <| rt <| rb <| rt <| rt <| rt <| rb <| rt <| rt <| re <| fin h (r1 (ss rfl rfl) <| r0) rfl)
    (fun b155 h => wpC_skip <| kpN [(0, .d ((cLs cI rfl).enc v0)), (1, .d ((cLs cI rfl).enc v1)), (5, .d (cI.enc (k82 : Int))), (6, .d (cI.enc x83)), (9, .d ((cLs cI rfl).enc v0)), (10, .d (cI.enc (v0.length : Int))), (11, .d (cI.enc (k82 : Int)))] (by kernel_rfl) <| xn <| wpC_seq <| reg_s <| st rfl <| mvd rfl rfl <| st rfl <| mvd rfl rfl <| getO_k h fun x159 i160 g161 h => st rfl <| ias rfl rfl i160 g161 rfl <| st rfl <| ldi rfl rfl rfl rfl <| x_asg (ss rfl rfl) <| seqN [(0, .d ((cLs cI rfl).enc v0)), (1, .d ((cLs cI rfl).enc v1)), (6, .d (cI.enc x83)), (7, .d (cI.enc x159)), (9, .d ((cLs cI rfl).enc v0)), (10, .d (cI.enc (v0.length : Int))), (11, .d (cI.enc (k82 : Int)))] (by kernel_rfl) <|
    xn <| wpC_seq <| reg_s <| st rfl <| mvd rfl rfl <| st rfl <| mvd rfl rfl <| bnd h fun x164 e165 h => st rfl <| o_call (a1 (c := cI) tK rfl (a1 (c := cI) tK rfl a0)) (con_cmp_Compare_int e165) (.inl (so1 sK so0)) <| x_asg (ss rfl rfl) <| seqN [(0, .d ((cLs cI rfl).enc v0)), (1, .d ((cLs cI rfl).enc v1)), (8, .d (cI.enc x164)), (9, .d ((cLs cI rfl).enc v0)), (10, .d (cI.enc (v0.length : Int))), (11, .d (cI.enc (k82 : Int)))] (by kernel_rfl) <|
    xn <| wpC_seq <| reg_s <| st rfl <| mvd rfl rfl <| st rfl <| b_neq (k := .i64) rfl rfl <| seqN [(0, .d ((cLs cI rfl).enc v0)), (1, .d ((cLs cI rfl).enc v1)), (8, .d (cI.enc x164)), (9, .d ((cLs cI rfl).enc v0)), (10, .d (cI.enc (v0.length : Int))), (11, .d (cI.enc (k82 : Int))), (28, .d (cB.enc (decide (x164 ≠ (0 : Int)))))] (by kernel_rfl) <|
    xn <| cnd rfl h (fun b166 h => wpC_seq <| reg_s <| st rfl <| mvd rfl rfl <| x_asg (ss rfl rfl) <| seqN [(4, .d (cI.enc x164))] (by kernel_rfl) <|
    xn <| wpC_ret <| rb <| rt <| rt <| rt <| rb <| rt <| rt <| re <| fin h (r1 (ss rfl rfl) <| r0) rfl)
    (fun b166 h => wpC_skip <| xbb <| kpN [(0, .d ((cLs cI rfl).enc v0)), (1, .d ((cLs cI rfl).enc v1)), (9, .d ((cLs cI rfl).enc v0)), (10, .d (cI.enc (v0.length : Int))), (11, .d (cI.enc (k82 : Int)))] (by kernel_rfl) <| xn <| reg_s <| st rfl <| b_inc rfl rfl l80 hk84 <| st rfl <| mvd rfl rfl <| seqN [(0, .d ((cLs cI rfl).enc v0)), (1, .d ((cLs cI rfl).enc v1)), (9, .d ((cLs cI rfl).enc v0)), (10, .d (cI.enc (v0.length : Int))), (11, .d (cI.enc ((k82 + 1 : Nat) : Int)))] (by kernel_rfl) <|
    xn <| hn121 () h)))

def rs_cmp_Or_int (r : Int) : List D := [cI.enc r]
def m133 : MC := .seq (.reg [⟨some 2, .asg (.c (.int .i64 0)), none⟩] [0])
  (.seq (.reg [⟨some 3, .asg (.c (.int .i64 0)), none⟩] [0, 3])
  (.seq (.kp [3] (.seq (.reg [⟨some 6, .mv (.t 0), none⟩,
    ⟨some 7, .len false (.t 6), none⟩,
    ⟨some 8, .mv (.c (.int .i64 0)), none⟩] [0, 3, 6, 7, 8])
  (.blk 0 (.loop (.seq (.reg [⟨some 9, .bin .lss (.t 8) (.t 7), none⟩] [0, 3, 6, 7, 8, 9])
  (.seq (.kp [0, 3, 6, 7, 8] (.cond (.t 9) (.skip) (.exit 0)))
  (.seq (.kp [0, 3, 6, 7, 8] (.blk 1 (.seq (.reg [⟨some 10, .ia 6 (.t 8) 1, none⟩,
    ⟨some 11, .ld 10 1 false, none⟩,
    ⟨some 5, .asg (.t 11), none⟩] [0, 3, 5, 6, 7, 8])
  (.seq (.reg [⟨some 12, .mv (.t 5), none⟩,
    ⟨some 13, .mv (.t 3), none⟩,
    ⟨some 14, .bin .neq (.t 12) (.t 13), none⟩] [0, 3, 5, 6, 7, 8, 14])
  (.cond (.t 14) (.seq (.reg [⟨some 15, .mv (.t 5), none⟩,
    ⟨some 2, .asg (.t 15), none⟩] [2])
  (.ret)) (.skip))))))
  (.reg [⟨some 16, .bin .add (.t 8) (.c (.int .i64 1)), none⟩,
    ⟨some 8, .mv (.t 16), none⟩] [0, 3, 6, 7, 8]))))))))
  (.seq (.reg [⟨some 17, .mv (.t 3), none⟩,
    ⟨some 2, .asg (.t 17), none⟩] [2])
  (.ret))))
theorem con_cmp_Or_int {v0 : (List Int)} {r : Int} (h : sh_cmp_Or_int v0 = some r) : Con Try.prog 133 [(cLs cI rfl).enc v0] [] (rs_cmp_Or_int r) := by
  delta sh_cmp_Or_int at h
  refine top (out := none) (f := Try.f133) (m := m133) (rs := [.t 2]) (by kernel_rfl) rfl (by kernel_rfl) (by kernel_rfl) (by kernel_rfl) (by kernel_rfl) (by kernel_rfl) ?_
  exact
   ini [(0, .d ((cLs cI rfl).enc v0))] rfl <| wpC_seq <| reg_s <| x_asg (sc cI (0 : Int) rfl) <| seqN [(0, .d ((cLs cI rfl).enc v0))] (by kernel_rfl) <|
    xn <| wpC_seq <| reg_s <| x_asg (sc cI (0 : Int) rfl) <| seqN [(0, .d ((cLs cI rfl).enc v0)), (3, .d (cI.enc (0 : Int)))] (by kernel_rfl) <|
    xn <| wpC_seq <| wpC_kp <| wpC_seq <| reg_s <| st rfl <| mvd rfl rfl <| stw rfl <| lens rfl fun l16 => st rfl <| mvc cI (0 : Int) rfl <| seqN [(0, .d ((cLs cI rfl).enc v0)), (3, .d (cI.enc (0 : Int))), (6, .d ((cLs cI rfl).enc v0)), (7, .d (cI.enc (v0.length : Int))), (8, .d (cI.enc (0 : Int)))] (by kernel_rfl) <|
    xn <| wpC_blk <| lpR (fun (k18 : Nat) (s17 : Unit) => [(0, .d ((cLs cI rfl).enc v0)), (3, .d (cI.enc (0 : Int))), (6, .d ((cLs cI rfl).enc v0)), (7, .d (cI.enc (v0.length : Int))), (8, .d (cI.enc (k18 : Int)))]) () rfl h
    (fun G26 s17 h => wpC_seq <| reg_s <| st rfl <| b_lss (k := .i64) rfl rfl <| seqN [(0, .d ((cLs cI rfl).enc v0)), (3, .d (cI.enc (0 : Int))), (6, .d ((cLs cI rfl).enc v0)), (7, .d (cI.enc (v0.length : Int))), (8, .d (cI.enc (v0.length : Int))), (9, .d (cB.enc (decide ((v0.length : Int) < (v0.length : Int)))))] (by kernel_rfl) <|
    xn <| wpC_seq <| wpC_kp <| cnd0 rfl (dlf _) <| wpC_exit <| xt <| xt <| xt <| xb <| kpN [(3, .d (cI.enc (0 : Int)))] (by kernel_rfl) <| xn <| wpC_seq <| reg_s <| st rfl <| mvd rfl rfl <| x_asg (ss rfl rfl) <| seqN [(2, .d (cI.enc (0 : Int)))] (by kernel_rfl) <|
    xn <| wpC_ret <| re <| fin h (r1 (ss rfl rfl) <| r0) rfl)
    (fun G26 nx24 k18 s17 x19 hk20 hx21 hn25 h => wpC_seq <| reg_s <| st rfl <| b_lss (k := .i64) rfl rfl <| seqN [(0, .d ((cLs cI rfl).enc v0)), (3, .d (cI.enc (0 : Int))), (6, .d ((cLs cI rfl).enc v0)), (7, .d (cI.enc (v0.length : Int))), (8, .d (cI.enc (k18 : Int))), (9, .d (cB.enc (decide ((k18 : Int) < (v0.length : Int)))))] (by kernel_rfl) <|
    xn <| wpC_seq <| wpC_kp <| cnd1 rfl (dlt hk20) <| wpC_skip <| kpN [(0, .d ((cLs cI rfl).enc v0)), (3, .d (cI.enc (0 : Int))), (6, .d ((cLs cI rfl).enc v0)), (7, .d (cI.enc (v0.length : Int))), (8, .d (cI.enc (k18 : Int)))] (by kernel_rfl) <| xn <| wpC_seq <| wpC_kp <| wpC_blk <| wpC_seq <| reg_s <| st rfl <| ias rfl rfl (Int.natCast_nonneg _) hx21 rfl <| st rfl <| ldi rfl rfl rfl rfl <| x_asg (ss rfl rfl) <| seqN [(0, .d ((cLs cI rfl).enc v0)), (3, .d (cI.enc (0 : Int))), (5, .d (cI.enc x19)), (6, .d ((cLs cI rfl).enc v0)), (7, .d (cI.enc (v0.length : Int))), (8, .d (cI.enc (k18 : Int)))] (by kernel_rfl) <|
    xn <| wpC_seq <| reg_s <| st rfl <| mvd rfl rfl <| st rfl <| mvd rfl rfl <| st rfl <| b_neq (k := .i64) rfl rfl <| seqN [(0, .d ((cLs cI rfl).enc v0)), (3, .d (cI.enc (0 : Int))), (5, .d (cI.enc x19)), (6, .d ((cLs cI rfl).enc v0)), (7, .d (cI.enc (v0.length : Int))), (8, .d (cI.enc (k18 : Int))), (14, .d (cB.enc (decide (x19 ≠ (0 : Int)))))] (by kernel_rfl) <|
    xn <| cnd rfl h (fun b28 h => wpC_seq <| reg_s <| st rfl <| mvd rfl rfl <| x_asg (ss rfl rfl) <| seqN [(2, .d (cI.enc x19))] (by kernel_rfl) <|
    xn <| wpC_ret <| rb <| rt <| rt <| rt <| rb <| rt <| rt <| re <| fin h (r1 (ss rfl rfl) <| r0) rfl)
    (fun b28 h => wpC_skip <| xbb <| kpN [(0, .d ((cLs cI rfl).enc v0)), (3, .d (cI.enc (0 : Int))), (6, .d ((cLs cI rfl).enc v0)), (7, .d (cI.enc (v0.length : Int))), (8, .d (cI.enc (k18 : Int)))] (by kernel_rfl) <| xn <| reg_s <| st rfl <| b_inc rfl rfl l16 hk20 <| st rfl <| mvd rfl rfl <| seqN [(0, .d ((cLs cI rfl).enc v0)), (3, .d (cI.enc (0 : Int))), (6, .d ((cLs cI rfl).enc v0)), (7, .d (cI.enc (v0.length : Int))), (8, .d (cI.enc ((k18 + 1 : Nat) : Int)))] (by kernel_rfl) <|
    xn <| hn25 () h))

def rs_impl_otherVars (r : (List Int)) : List D := [(cLo cI).enc r]
def m94 : MC := .seq (.reg [⟨some 4, .asg (.c (.slice true [])), none⟩] [0, 1])
  (.seq (.reg [⟨some 5, .asg (.c (.slice true [])), none⟩] [0, 1, 5])
  (.seq (.kp [5] (.seq (.reg [⟨some 7, .mv (.t 0), none⟩,
    ⟨some 8, .len false (.t 7), none⟩,
    ⟨some 9, .mv (.c (.int .i64 0)), none⟩] [1, 5, 8, 9])
  (.blk 0 (.loop (.seq (.reg [⟨some 10, .bin .lss (.t 9) (.t 8), none⟩] [1, 5, 8, 9, 10])
  (.seq (.kp [1, 5, 8, 9] (.cond (.t 10) (.skip) (.exit 0)))
  (.seq (.kp [1, 5, 8, 9] (.blk 1 (.seq (.reg [⟨some 11, .mv (.t 9), none⟩,
    ⟨some 6, .asg (.t 11), none⟩] [1, 5, 6, 8, 9])
  (.seq (.reg [⟨some 12, .mv (.t 1), none⟩,
    ⟨some 13, .mv (.t 6), none⟩,
    ⟨some 14, .call 143 [(.t 12), (.t 13)], none⟩,
    ⟨some 15, .nt (.t 14), none⟩] [1, 5, 6, 8, 9, 15])
  (.cond (.t 15) (.reg [⟨some 16, .mv (.t 5), none⟩,
    ⟨some 17, .mv (.t 6), none⟩,
    ⟨some 18, .bsl [(.t 17)] 1, none⟩,
    ⟨some 19, .app (.t 16) (.t 18) 1, none⟩,
    ⟨some 5, .asg (.t 19), none⟩] [1, 5, 8, 9]) (.skip))))))
  (.reg [⟨some 20, .bin .add (.t 9) (.c (.int .i64 1)), none⟩,
    ⟨some 9, .mv (.t 20), none⟩] [1, 5, 8, 9]))))))))
  (.seq (.reg [⟨some 21, .mv (.t 5), none⟩,
    ⟨some 4, .asg (.t 21), none⟩] [4])
  (.ret))))
theorem con_impl_otherVars {v0 : (List XVariable)} {v1 : (List Int)} {r : (List Int)} (h : sh_impl_otherVars v0 v1 = some r) : Con Try.prog 94 [(cLs (cXVariable cS cI) rfl).enc v0, (cLs cI rfl).enc v1] [] (rs_impl_otherVars r) := by
  delta sh_impl_otherVars at h
  refine top (out := none) (f := Try.f94) (m := m94) (rs := [.t 4]) (by kernel_rfl) rfl (by kernel_rfl) (by kernel_rfl) (by kernel_rfl) (by kernel_rfl) (by kernel_rfl) ?_
  exact
   ini [(0, .d ((cLs (cXVariable cS cI) rfl).enc v0)), (1, .d ((cLs cI rfl).enc v1))] rfl <| wpC_seq <| reg_s <| x_asg (sc (cLo cI) ([] : List Int) rfl) <| seqN [(0, .d ((cLs (cXVariable cS cI) rfl).enc v0)), (1, .d ((cLs cI rfl).enc v1))] (by kernel_rfl) <|
    xn <| wpC_seq <| reg_s <| x_asg (sc (cLo cI) ([] : List Int) rfl) <| seqN [(0, .d ((cLs (cXVariable cS cI) rfl).enc v0)), (1, .d ((cLs cI rfl).enc v1)), (5, .d ((cLo cI).enc ([] : List Int)))] (by kernel_rfl) <|
    xn <| wpC_seq <| wpC_kp <| wpC_seq <| reg_s <| st rfl <| mvd rfl rfl <| stw rfl <| lens rfl fun l48 => st rfl <| mvc cI (0 : Int) rfl <| seqN [(1, .d ((cLs cI rfl).enc v1)), (5, .d ((cLo cI).enc ([] : List Int))), (8, .d (cI.enc (v0.length : Int))), (9, .d (cI.enc (0 : Int)))] (by kernel_rfl) <|
    xn <| wpC_blk <| lpR (fun (k50 : Nat) (s49 : (List Int)) => [(1, .d ((cLs cI rfl).enc v1)), (5, .d ((cLo cI).enc s49)), (8, .d (cI.enc (v0.length : Int))), (9, .d (cI.enc (k50 : Int)))]) ([] : List Int) rfl h
    (fun G80 s49 h => wpC_seq <| reg_s <| st rfl <| b_lss (k := .i64) rfl rfl <| seqN [(1, .d ((cLs cI rfl).enc v1)), (5, .d ((cLo cI).enc s49)), (8, .d (cI.enc (v0.length : Int))), (9, .d (cI.enc (v0.length : Int))), (10, .d (cB.enc (decide ((v0.length : Int) < (v0.length : Int)))))] (by kernel_rfl) <|
    xn <| wpC_seq <| wpC_kp <| cnd0 rfl (dlf _) <| wpC_exit <| xt <| xt <| xt <| xb <| kpN [(5, .d ((cLo cI).enc s49))] (by kernel_rfl) <| xn <| wpC_seq <| reg_s <| st rfl <| mvo rfl rfl <| x_asg (sr rfl rfl) <| seqN [(4, .d ((cLo cI).enc s49))] (by kernel_rfl) <|
    xn <| wpC_ret <| re <| fin h (r1 (so rfl rfl) <| r0) rfl)
    (fun G80 nx78 k50 s49 x51 hk52 hx53 hn79 h => wpC_seq <| reg_s <| st rfl <| b_lss (k := .i64) rfl rfl <| seqN [(1, .d ((cLs cI rfl).enc v1)), (5, .d ((cLo cI).enc s49)), (8, .d (cI.enc (v0.length : Int))), (9, .d (cI.enc (k50 : Int))), (10, .d (cB.enc (decide ((k50 : Int) < (v0.length : Int)))))] (by kernel_rfl) <|
    xn <| wpC_seq <| wpC_kp <| cnd1 rfl (dlt hk52) <| wpC_skip <| kpN [(1, .d ((cLs cI rfl).enc v1)), (5, .d ((cLo cI).enc s49)), (8, .d (cI.enc (v0.length : Int))), (9, .d (cI.enc (k50 : Int)))] (by kernel_rfl) <| xn <| wpC_seq <| wpC_kp <| wpC_blk <| wpC_seq <| reg_s <| st rfl <| mvd rfl rfl <| x_asg (ss rfl rfl) <| seqN [(1, .d ((cLs cI rfl).enc v1)), (5, .d ((cLo cI).enc s49)), (6, .d (cI.enc (k50 : Int))), (8, .d (cI.enc (v0.length : Int))), (9, .d (cI.enc (k50 : Int)))] (by kernel_rfl) <|
    xn <| wpC_seq <| reg_s <| st rfl <| mvd rfl rfl <| st rfl <| mvd rfl rfl <| bnd h fun x89 e90 h => st rfl <| o_call (a1 (c := (cLs cI rfl)) (tLs tK) rfl (a1 (c := cI) tK rfl a0)) (con_slices_Contains_int e90) (.inl (so1 sB so0)) <| st rfl <| o_nt rfl <| seqN [(1, .d ((cLs cI rfl).enc v1)), (5, .d ((cLo cI).enc s49)), (6, .d (cI.enc (k50 : Int))), (8, .d (cI.enc (v0.length : Int))), (9, .d (cI.enc (k50 : Int))), (15, .d (cB.enc (!x89)))] (by kernel_rfl) <|
    xn <| cnd rfl h (fun b91 h => reg_s <| st rfl <| mvo rfl rfl <| st rfl <| mvd rfl rfl <| x_bsl cI [(k50 : Int)] (t1 (ss rfl rfl) rfl t0) rfl rfl <| lnO_k h fun l92 h => x_app (sr rfl rfl) (to rfl rfl) l92 rfl <| x_asg (so rfl rfl) <| seqN [(1, .d ((cLs cI rfl).enc v1)), (5, .d ((cLo cI).enc (s49 ++ [(k50 : Int)]))), (8, .d (cI.enc (v0.length : Int))), (9, .d (cI.enc (k50 : Int)))] (by kernel_rfl) <|
    xbb <| kpN [(1, .d ((cLs cI rfl).enc v1)), (5, .d ((cLo cI).enc (s49 ++ [(k50 : Int)]))), (8, .d (cI.enc (v0.length : Int))), (9, .d (cI.enc (k50 : Int)))] (by kernel_rfl) <| xn <| reg_s <| st rfl <| b_inc rfl rfl l48 hk52 <| st rfl <| mvd rfl rfl <| seqN [(1, .d ((cLs cI rfl).enc v1)), (5, .d ((cLo cI).enc (s49 ++ [(k50 : Int)]))), (8, .d (cI.enc (v0.length : Int))), (9, .d (cI.enc ((k50 + 1 : Nat) : Int)))] (by kernel_rfl) <|
    xn <| hn79 (s49 ++ [(k50 : Int)]) h)
    (fun b91 h => wpC_skip <| xbb <| kpN [(1, .d ((cLs cI rfl).enc v1)), (5, .d ((cLo cI).enc s49)), (8, .d (cI.enc (v0.length : Int))), (9, .d (cI.enc (k50 : Int)))] (by kernel_rfl) <| xn <| reg_s <| st rfl <| b_inc rfl rfl l48 hk52 <| st rfl <| mvd rfl rfl <| seqN [(1, .d ((cLs cI rfl).enc v1)), (5, .d ((cLo cI).enc s49)), (8, .d (cI.enc (v0.length : Int))), (9, .d (cI.enc ((k50 + 1 : Nat) : Int)))] (by kernel_rfl) <|
    xn <| hn79 s49 h))

def rs_spec_iWeights (r : Bool) : List D := [cB.enc r]
def m97 : MC := .seq (.reg [⟨some 4, .asg (.c (.bool false)), none⟩] [0, 1])
  (.seq (.reg [⟨some 5, .mv (.t 1), none⟩,
    ⟨some 6, .len false (.t 5), none⟩,
    ⟨some 7, .mv (.t 0), none⟩,
    ⟨some 8, .len false (.t 7), none⟩,
    ⟨some 9, .bin .eql (.t 6) (.t 8), none⟩,
    ⟨some 10, .mv (.t 9), none⟩,
    ⟨some 11, .mv (.t 1), some (10, true)⟩,
    ⟨some 12, .call 144 [(.t 11), (.c (.int .i64 1)), (.c (.int .i64 100))], some (10, true)⟩,
    ⟨some 13, .pick (.t 10) (.t 12) (.c (.bool false)), none⟩,
    ⟨some 4, .asg (.t 13), none⟩] [4])
  (.ret))
theorem con_spec_iWeights {v0 : (List XVariable)} {v1 : (List Int)} {r : Bool} (h : sh_spec_iWeights v0 v1 = some r) : Con Try.prog 97 [(cLs (cXVariable cS cI) rfl).enc v0, (cLs cI rfl).enc v1] [] (rs_spec_iWeights r) := by
  delta sh_spec_iWeights at h
  refine top (out := none) (f := Try.f97) (m := m97) (rs := [.t 4]) (by kernel_rfl) rfl (by kernel_rfl) (by kernel_rfl) (by kernel_rfl) (by kernel_rfl) (by kernel_rfl) ?_
  exact
   ini [(0, .d ((cLs (cXVariable cS cI) rfl).enc v0)), (1, .d ((cLs cI rfl).enc v1))] rfl <| wpC_seq <| reg_s <| x_asg (sc cB false rfl) <| seqN [(0, .d ((cLs (cXVariable cS cI) rfl).enc v0)), (1, .d ((cLs cI rfl).enc v1))] (by kernel_rfl) <|
    xn <| wpC_seq <| reg_s <| st rfl <| mvd rfl rfl <| stw rfl <| lens rfl fun l6 => st rfl <| mvd rfl rfl <| stw rfl <| lens rfl fun l7 => st rfl <| b_eql (k := .i64) rfl rfl <| st rfl <| mvd rfl rfl <| ite_k h (fun b8 h => gt' rfl b8 <| st rfl <| mvd rfl rfl <| gt' rfl b8 <| bnd h fun x9 e10 h => st rfl <| o_call (a1 (c := (cLs cI rfl)) (tLs tK) rfl (a1 (c := cI) tK rfl (a1 (c := cI) tK rfl a0))) (con_spec_l1All e10) (.inl (so1 sB so0)) <| st rfl <| pick1 rfl b8 (cd := cB) (v := x9) rfl rfl <| x_asg (ss rfl rfl) <| seqN [(4, .d (cB.enc x9))] (by kernel_rfl) <|
    xn <| wpC_ret <| re <| fin h (r1 (ss rfl rfl) <| r0) rfl)
    (fun b8 h => gf rfl b8 <| gf rfl b8 <| st rfl <| pick0 rfl b8 (cd := cB) (v := false) rfl rfl <| x_asg (ss rfl rfl) <| seqN [(4, .d (cB.enc false))] (by kernel_rfl) <|
    xn <| wpC_ret <| re <| fin h (r1 (ss rfl rfl) <| r0) rfl)

def rs_spec_iInput (r : Bool) : List D := [cB.enc r]
def m82 : MC := .seq (.reg [⟨some 8, .asg (.c (.bool false)), none⟩] [0, 1, 2, 3])
  (.seq (.reg [⟨some 9, .mv (.t 0), none⟩,
    ⟨some 10, .mv (.t 1), none⟩,
    ⟨some 11, .call 96 [(.t 9), (.t 10)], none⟩,
    ⟨some 12, .mv (.t 11), none⟩,
    ⟨some 13, .mv (.t 0), some (12, true)⟩,
    ⟨some 14, .mv (.t 2), some (12, true)⟩,
    ⟨some 15, .call 97 [(.t 13), (.t 14)], some (12, true)⟩,
    ⟨some 16, .pick (.t 12) (.t 15) (.c (.bool false)), none⟩,
    ⟨some 17, .mv (.t 16), none⟩,
    ⟨some 18, .mv (.t 0), some (17, true)⟩,
    ⟨some 19, .mv (.t 3), some (17, true)⟩,
    ⟨some 20, .call 89 [(.t 18), (.t 19)], some (17, true)⟩,
    ⟨some 21, .pick (.t 17) (.t 20) (.c (.bool false)), none⟩,
    ⟨some 8, .asg (.t 21), none⟩] [8])
  (.ret))
theorem con_spec_iInput {v0 : (List XVariable)} {v1 : (List XEdit)} {v2 : (List Int)} {v3 : (List Int)} {r : Bool} (h : sh_spec_iInput v0 v1 v2 v3 = some r) : Con Try.prog 82 [(cLs (cXVariable cS cI) rfl).enc v0, (cLs (cXEdit (cLs cI rfl)) rfl).enc v1, (cLs cI rfl).enc v2, (cLs cI rfl).enc v3] [] (rs_spec_iInput r) := by
  delta sh_spec_iInput at h
  refine top (out := none) (f := Try.f82) (m := m82) (rs := [.t 8]) (by kernel_rfl) rfl (by kernel_rfl) (by kernel_rfl) (by kernel_rfl) (by kernel_rfl) (by kernel_rfl) ?_
  exact
   ini [(0, .d ((cLs (cXVariable cS cI) rfl).enc v0)), (1, .d ((cLs (cXEdit (cLs cI rfl)) rfl).enc v1)), (2, .d ((cLs cI rfl).enc v2)), (3, .d ((cLs cI rfl).enc v3))] rfl <| wpC_seq <| reg_s <| x_asg (sc cB false rfl) <| seqN [(0, .d ((cLs (cXVariable cS cI) rfl).enc v0)), (1, .d ((cLs (cXEdit (cLs cI rfl)) rfl).enc v1)), (2, .d ((cLs cI rfl).enc v2)), (3, .d ((cLs cI rfl).enc v3))] (by kernel_rfl) <|
    xn <| wpC_seq <| reg_s <| st rfl <| mvd rfl rfl <| st rfl <| mvd rfl rfl <| bnd h fun x9 e10 h => st rfl <| o_call (a1 (c := (cLs (cXVariable cS cI) rfl)) (tLs (tXVariable tS tK)) rfl (a1 (c := (cLs (cXEdit (cLs cI rfl)) rfl)) (tLs (tXEdit (tLs tK))) rfl a0)) (con_spec_eSmall e10) (.inl (so1 sB so0)) <| st rfl <| mvd rfl rfl <| ite_k h (fun b11 h => gt' rfl b11 <| st rfl <| mvd rfl rfl <| gt' rfl b11 <| st rfl <| mvd rfl rfl <| gt' rfl b11 <| bnd h fun x12 e13 h => st rfl <| o_call (a1 (c := (cLs (cXVariable cS cI) rfl)) (tLs (tXVariable tS tK)) rfl (a1 (c := (cLs cI rfl)) (tLs tK) rfl a0)) (con_spec_iWeights e13) (.inl (so1 sB so0)) <| st rfl <| pick1 rfl b11 (cd := cB) (v := x12) rfl rfl <| st rfl <| mvd rfl rfl <| ite_k h (fun b14 h => gt' rfl b14 <| st rfl <| mvd rfl rfl <| gt' rfl b14 <| st rfl <| mvd rfl rfl <| gt' rfl b14 <| bnd h fun x15 e16 h => st rfl <| o_call (a1 (c := (cLs (cXVariable cS cI) rfl)) (tLs (tXVariable tS tK)) rfl (a1 (c := (cLs cI rfl)) (tLs tK) rfl a0)) (con_spec_sFits e16) (.inl (so1 sB so0)) <| st rfl <| pick1 rfl b14 (cd := cB) (v := x15) rfl rfl <| x_asg (ss rfl rfl) <| seqN [(8, .d (cB.enc x15))] (by kernel_rfl) <|
    xn <| wpC_ret <| re <| fin h (r1 (ss rfl rfl) <| r0) rfl)
    (fun b14 h => gf rfl b14 <| gf rfl b14 <| gf rfl b14 <| st rfl <| pick0 rfl b14 (cd := cB) (v := false) rfl rfl <| x_asg (ss rfl rfl) <| seqN [(8, .d (cB.enc false))] (by kernel_rfl) <|
    xn <| wpC_ret <| re <| fin h (r1 (ss rfl rfl) <| r0) rfl))
    (fun b11 h => gf rfl b11 <| gf rfl b11 <| gf rfl b11 <| st rfl <| pick0 rfl b11 (cd := cB) (v := false) rfl rfl <| st rfl <| mvd rfl rfl <| gf rfl rfl <| gf rfl rfl <| gf rfl rfl <| st rfl <| pick0 rfl rfl (cd := cB) (v := false) rfl rfl <| x_asg (ss rfl rfl) <| seqN [(8, .d (cB.enc false))] (by kernel_rfl) <|
    xn <| wpC_ret <| re <| fin h (r1 (ss rfl rfl) <| r0) rfl)

def rs_spec_iBits (r : (List Int)) : List D := [(cLo cI).enc r]
def m136 : MC := .seq (.reg [⟨some 2, .asg (.c (.slice true [])), none⟩] [0])
  (.seq (.reg [⟨some 3, .asg (.c (.slice true [])), none⟩] [0, 3])
  (.seq (.kp [3] (.seq (.reg [⟨some 4, .asg (.c (.int .i64 0)), none⟩] [0, 3, 4])
  (.blk 0 (.loop (.seq (.kp [0, 3, 4] (.seq (.reg [⟨some 5, .mv (.t 0), none⟩,
    ⟨some 6, .mv (.t 4), none⟩,
    ⟨some 7, .cvi .u64 (.t 6), none⟩,
    ⟨some 8, .bin .shr (.t 5) (.t 7), none⟩,
    ⟨some 9, .bin .gtr (.t 8) (.c (.int .i64 0)), none⟩] [0, 3, 4, 9])
  (.cond (.t 9) (.skip) (.exit 0))))
  (.seq (.kp [0, 3, 4] (.blk 1 (.seq (.reg [⟨some 12, .mv (.t 0), none⟩,
    ⟨some 13, .mv (.t 4), none⟩,
    ⟨some 14, .cvi .u64 (.t 13), none⟩,
    ⟨some 15, .bin .shr (.t 12) (.t 14), none⟩,
    ⟨some 16, .bin .and (.t 15) (.c (.int .i64 1)), none⟩,
    ⟨some 17, .bin .eql (.t 16) (.c (.int .i64 1)), none⟩] [0, 3, 4, 17])
  (.cond (.t 17) (.reg [⟨some 18, .mv (.t 3), none⟩,
    ⟨some 19, .mv (.t 4), none⟩,
    ⟨some 20, .bsl [(.t 19)] 1, none⟩,
    ⟨some 21, .app (.t 18) (.t 20) 1, none⟩,
    ⟨some 3, .asg (.t 21), none⟩] [0, 3, 4]) (.skip)))))
  (.reg [⟨some 10, .mv (.t 4), none⟩,
    ⟨some 11, .bin .add (.t 10) (.c (.int .i64 1)), none⟩,
    ⟨some 4, .asg (.t 11), none⟩] [0, 3, 4])))))))
  (.seq (.reg [⟨some 22, .mv (.t 3), none⟩,
    ⟨some 2, .asg (.t 22), none⟩] [2])
  (.ret))))
theorem con_spec_iBits {v0 : Int} {r : (List Int)} (h : sh_spec_iBits v0 = some r) : Con Try.prog 136 [cI.enc v0] [] (rs_spec_iBits r) := by
  delta sh_spec_iBits at h
  refine top (out := none) (f := Try.f136) (m := m136) (rs := [.t 2]) (by kernel_rfl) rfl (by kernel_rfl) (by kernel_rfl) (by kernel_rfl) (by kernel_rfl) (by kernel_rfl) ?_
  exact
   ini [(0, .d (cI.enc v0))] rfl <| wpC_seq <| reg_s <| x_asg (sc (cLo cI) ([] : List Int) rfl) <| seqN [(0, .d (cI.enc v0))] (by kernel_rfl) <|
    xn <| wpC_seq <| reg_s <| x_asg (sc (cLo cI) ([] : List Int) rfl) <| seqN [(0, .d (cI.enc v0)), (3, .d ((cLo cI).enc ([] : List Int)))] (by kernel_rfl) <|
    xn <| wpC_seq <| wpC_kp <| wpC_seq <| reg_s <| x_asg (sc cI (0 : Int) rfl) <| seqN [(0, .d (cI.enc v0)), (3, .d ((cLo cI).enc ([] : List Int))), (4, .d (cI.enc (0 : Int)))] (by kernel_rfl) <|
    xn <| wpC_blk <| lpF (fun (s129 : ((List Int) × Int)) => [(0, .d (cI.enc v0)), (3, .d ((cLo cI).enc s129.1)), (4, .d (cI.enc s129.2))]) (([] : List Int), (0 : Int)) rfl h
    fun G216 nx214 s129 hn215 h => wpC_seq <| wpC_kp <| wpC_seq <| reg_s <| st rfl <| mvd rfl rfl <| st rfl <| mvd rfl rfl <| ckK_k h fun i224 h => st rfl <| o_cvi (k := .i64) (k' := .u64) rfl i224 <| ck_k h fun i225 h => st rfl <| b_shr (k := .i64) (k' := .u64) rfl rfl i225 rfl <| st rfl <| b_gtr (k := .i64) rfl rfl <| seqN [(0, .d (cI.enc v0)), (3, .d ((cLo cI).enc s129.1)), (4, .d (cI.enc s129.2)), (9, .d (cB.enc (decide ((0 : Int) < (v0 / 2 ^ (s129.2).toNat)))))] (by kernel_rfl) <|
    xn <| cnd rfl h (fun b226 h => wpC_skip <| kpN [(0, .d (cI.enc v0)), (3, .d ((cLo cI).enc s129.1)), (4, .d (cI.enc s129.2))] (by kernel_rfl) <| xn <| wpC_seq <| wpC_kp <| wpC_blk <| wpC_seq <| reg_s <| st rfl <| mvd rfl rfl <| st rfl <| mvd rfl rfl <| ckK_k h fun i247 h => st rfl <| o_cvi (k := .i64) (k' := .u64) rfl i247 <| ck_k h fun i248 h => st rfl <| b_shr (k := .i64) (k' := .u64) rfl rfl i248 rfl <| ck_k h fun i249 h => ckK_k h fun i250 h => ck_k h fun i251 h => ckK_k h fun i252 h => st rfl <| b_and (k := .i64) rfl rfl ⟨i249, i250⟩ ⟨i251, i252⟩ <| st rfl <| b_eql (k := .i64) rfl rfl <| seqN [(0, .d (cI.enc v0)), (3, .d ((cLo cI).enc s129.1)), (4, .d (cI.enc s129.2)), (17, .d (cB.enc (decide ((((v0 / 2 ^ (s129.2).toNat).toNat &&& (1 : Int).toNat : Nat) : Int) = (1 : Int)))))] (by kernel_rfl) <|
    xn <| cnd rfl h (fun b253 h => reg_s <| st rfl <| mvo rfl rfl <| st rfl <| mvd rfl rfl <| x_bsl cI [s129.2] (t1 (ss rfl rfl) rfl t0) rfl rfl <| lnO_k h fun l254 h => x_app (sr rfl rfl) (to rfl rfl) l254 rfl <| x_asg (so rfl rfl) <| seqN [(0, .d (cI.enc v0)), (3, .d ((cLo cI).enc (s129.1 ++ [s129.2]))), (4, .d (cI.enc s129.2))] (by kernel_rfl) <|
    xbb <| kpN [(0, .d (cI.enc v0)), (3, .d ((cLo cI).enc (s129.1 ++ [s129.2]))), (4, .d (cI.enc s129.2))] (by kernel_rfl) <| xn <| reg_s <| st rfl <| mvd rfl rfl <| ckI_k h fun i255 h => st rfl <| b_add (k := .i64) rfl rfl i255 <| x_asg (ss rfl rfl) <| seqN [(0, .d (cI.enc v0)), (3, .d ((cLo cI).enc (s129.1 ++ [s129.2]))), (4, .d (cI.enc (s129.2 + (1 : Int))))] (by kernel_rfl) <|
    xn <| hn215 ((s129.1 ++ [s129.2]), (s129.2 + (1 : Int))) h)
    (fun b253 h => wpC_skip <| xbb <| kpN [(0, .d (cI.enc v0)), (3, .d ((cLo cI).enc s129.1)), (4, .d (cI.enc s129.2))] (by kernel_rfl) <| xn <| reg_s <| st rfl <| mvd rfl rfl <| ckI_k h fun i256 h => st rfl <| b_add (k := .i64) rfl rfl i256 <| x_asg (ss rfl rfl) <| seqN [(0, .d (cI.enc v0)), (3, .d ((cLo cI).enc s129.1)), (4, .d (cI.enc (s129.2 + (1 : Int))))] (by kernel_rfl) <|
    xn <| hn215 (s129.1, (s129.2 + (1 : Int))) h))
    (fun b226 h => wpC_exit <| xt <| xt <| xt <| xb <| kpN [(3, .d ((cLo cI).enc s129.1))] (by kernel_rfl) <| xn <| wpC_seq <| reg_s <| st rfl <| mvo rfl rfl <| x_asg (sr rfl rfl) <| seqN [(2, .d ((cLo cI).enc s129.1))] (by kernel_rfl) <|
    xn <| wpC_ret <| re <| fin h (r1 (so rfl rfl) <| r0) rfl)

def rs_spec_iSum (r : Int) : List D := [cI.enc r]
def m137 : MC := .seq (.reg [⟨some 4, .asg (.c (.int .i64 0)), none⟩] [0, 1])
  (.seq (.reg [⟨some 5, .asg (.c (.int .i64 0)), none⟩] [0, 1, 5])
  (.seq (.kp [5] (.seq (.reg [⟨some 8, .mv (.t 1), none⟩,
    ⟨some 9, .len false (.t 8), none⟩,
    ⟨some 10, .mv (.c (.int .i64 0)), none⟩] [0, 1, 5, 8, 9, 10])
  (.blk 0 (.loop (.seq (.reg [⟨some 11, .bin .lss (.t 10) (.t 9), none⟩] [0, 1, 5, 8, 9, 10, 11])
  (.seq (.kp [0, 1, 5, 8, 9, 10] (.cond (.t 11) (.skip) (.exit 0)))
  (.seq (.kp [0, 1, 5, 8, 9, 10] (.blk 1 (.seq (.reg [⟨some 12, .ia 8 (.t 10) 1, none⟩,
    ⟨some 13, .ld 12 1 false, none⟩,
    ⟨some 7, .asg (.t 13), none⟩] [0, 1, 5, 7, 8, 9, 10])
  (.reg [⟨some 14, .mv (.t 5), none⟩,
    ⟨some 15, .mv (.t 0), none⟩,
    ⟨some 16, .mv (.t 7), none⟩,
    ⟨some 17, .ia 15 (.t 16) 1, none⟩,
    ⟨some 18, .ld 17 1 false, none⟩,
    ⟨some 19, .bin .add (.t 14) (.t 18), none⟩,
    ⟨some 5, .asg (.t 19), none⟩] [0, 1, 5, 8, 9, 10]))))
  (.reg [⟨some 20, .bin .add (.t 10) (.c (.int .i64 1)), none⟩,
    ⟨some 10, .mv (.t 20), none⟩] [0, 1, 5, 8, 9, 10]))))))))
  (.seq (.reg [⟨some 21, .mv (.t 5), none⟩,
    ⟨some 4, .asg (.t 21), none⟩] [4])
  (.ret))))
theorem con_spec_iSum {v0 : (List Int)} {v1 : (List Int)} {r : Int} (h : sh_spec_iSum v0 v1 = some r) : Con Try.prog 137 [(cLs cI rfl).enc v0, (cLs cI rfl).enc v1] [] (rs_spec_iSum r) := by
  delta sh_spec_iSum at h
  refine top (out := none) (f := Try.f137) (m := m137) (rs := [.t 4]) (by kernel_rfl) rfl (by kernel_rfl) (by kernel_rfl) (by kernel_rfl) (by kernel_rfl) (by kernel_rfl) ?_
  exact
   ini [(0, .d ((cLs cI rfl).enc v0)), (1, .d ((cLs cI rfl).enc v1))] rfl <| wpC_seq <| reg_s <| x_asg (sc cI (0 : Int) rfl) <| seqN [(0, .d ((cLs cI rfl).enc v0)), (1, .d ((cLs cI rfl).enc v1))] (by kernel_rfl) <|
    xn <| wpC_seq <| reg_s <| x_asg (sc cI (0 : Int) rfl) <| seqN [(0, .d ((cLs cI rfl).enc v0)), (1, .d ((cLs cI rfl).enc v1)), (5, .d (cI.enc (0 : Int)))] (by kernel_rfl) <|
    xn <| wpC_seq <| wpC_kp <| wpC_seq <| reg_s <| st rfl <| mvd rfl rfl <| stw rfl <| lens rfl fun l36 => st rfl <| mvc cI (0 : Int) rfl <| seqN [(0, .d ((cLs cI rfl).enc v0)), (1, .d ((cLs cI rfl).enc v1)), (5, .d (cI.enc (0 : Int))), (8, .d ((cLs cI rfl).enc v1)), (9, .d (cI.enc (v1.length : Int))), (10, .d (cI.enc (0 : Int)))] (by kernel_rfl) <|
    xn <| wpC_blk <| lpR (fun (k38 : Nat) (s37 : Int) => [(0, .d ((cLs cI rfl).enc v0)), (1, .d ((cLs cI rfl).enc v1)), (5, .d (cI.enc s37)), (8, .d ((cLs cI rfl).enc v1)), (9, .d (cI.enc (v1.length : Int))), (10, .d (cI.enc (k38 : Int)))]) (0 : Int) rfl h
    (fun G60 s37 h => wpC_seq <| reg_s <| st rfl <| b_lss (k := .i64) rfl rfl <| seqN [(0, .d ((cLs cI rfl).enc v0)), (1, .d ((cLs cI rfl).enc v1)), (5, .d (cI.enc s37)), (8, .d ((cLs cI rfl).enc v1)), (9, .d (cI.enc (v1.length : Int))), (10, .d (cI.enc (v1.length : Int))), (11, .d (cB.enc (decide ((v1.length : Int) < (v1.length : Int)))))] (by kernel_rfl) <|
    xn <| wpC_seq <| wpC_kp <| cnd0 rfl (dlf _) <| wpC_exit <| xt <| xt <| xt <| xb <| kpN [(5, .d (cI.enc s37))] (by kernel_rfl) <| xn <| wpC_seq <| reg_s <| st rfl <| mvd rfl rfl <| x_asg (ss rfl rfl) <| seqN [(4, .d (cI.enc s37))] (by kernel_rfl) <|
    xn <| wpC_ret <| re <| fin h (r1 (ss rfl rfl) <| r0) rfl)
    (fun G60 nx58 k38 s37 x39 hk40 hx41 hn59 h => wpC_seq <| reg_s <| st rfl <| b_lss (k := .i64) rfl rfl <| seqN [(0, .d ((cLs cI rfl).enc v0)), (1, .d ((cLs cI rfl).enc v1)), (5, .d (cI.enc s37)), (8, .d ((cLs cI rfl).enc v1)), (9, .d (cI.enc (v1.length : Int))), (10, .d (cI.enc (k38 : Int))), (11, .d (cB.enc (decide ((k38 : Int) < (v1.length : Int)))))] (by kernel_rfl) <|
    xn <| wpC_seq <| wpC_kp <| cnd1 rfl (dlt hk40) <| wpC_skip <| kpN [(0, .d ((cLs cI rfl).enc v0)), (1, .d ((cLs cI rfl).enc v1)), (5, .d (cI.enc s37)), (8, .d ((cLs cI rfl).enc v1)), (9, .d (cI.enc (v1.length : Int))), (10, .d (cI.enc (k38 : Int)))] (by kernel_rfl) <| xn <| wpC_seq <| wpC_kp <| wpC_blk <| wpC_seq <| reg_s <| st rfl <| ias rfl rfl (Int.natCast_nonneg _) hx41 rfl <| st rfl <| ldi rfl rfl rfl rfl <| x_asg (ss rfl rfl) <| seqN [(0, .d ((cLs cI rfl).enc v0)), (1, .d ((cLs cI rfl).enc v1)), (5, .d (cI.enc s37)), (7, .d (cI.enc x39)), (8, .d ((cLs cI rfl).enc v1)), (9, .d (cI.enc (v1.length : Int))), (10, .d (cI.enc (k38 : Int)))] (by kernel_rfl) <|
    xn <| reg_s <| st rfl <| mvd rfl rfl <| st rfl <| mvd rfl rfl <| st rfl <| mvd rfl rfl <| getO_k h fun x65 i66 g67 h => st rfl <| ias rfl rfl i66 g67 rfl <| st rfl <| ldi rfl rfl rfl rfl <| ckI_k h fun i68 h => st rfl <| b_add (k := .i64) rfl rfl i68 <| x_asg (ss rfl rfl) <| seqN [(0, .d ((cLs cI rfl).enc v0)), (1, .d ((cLs cI rfl).enc v1)), (5, .d (cI.enc (s37 + x65))), (8, .d ((cLs cI rfl).enc v1)), (9, .d (cI.enc (v1.length : Int))), (10, .d (cI.enc (k38 : Int)))] (by kernel_rfl) <|
    xbb <| kpN [(0, .d ((cLs cI rfl).enc v0)), (1, .d ((cLs cI rfl).enc v1)), (5, .d (cI.enc (s37 + x65))), (8, .d ((cLs cI rfl).enc v1)), (9, .d (cI.enc (v1.length : Int))), (10, .d (cI.enc (k38 : Int)))] (by kernel_rfl) <| xn <| reg_s <| st rfl <| b_inc rfl rfl l36 hk40 <| st rfl <| mvd rfl rfl <| seqN [(0, .d ((cLs cI rfl).enc v0)), (1, .d ((cLs cI rfl).enc v1)), (5, .d (cI.enc (s37 + x65))), (8, .d ((cLs cI rfl).enc v1)), (9, .d (cI.enc (v1.length : Int))), (10, .d (cI.enc ((k38 + 1 : Nat) : Int)))] (by kernel_rfl) <|
    xn <| hn59 (s37 + x65) h)

def rs_spec_iOthers (r : (List Int)) : List D := [(cLo cI).enc r]
def m138 : MC := .seq (.reg [⟨some 4, .asg (.c (.slice true [])), none⟩] [0, 1])
  (.seq (.reg [⟨some 5, .asg (.c (.slice true [])), none⟩] [0, 1, 5])
  (.seq (.kp [5] (.seq (.reg [⟨some 7, .mv (.t 0), none⟩,
    ⟨some 8, .len false (.t 7), none⟩,
    ⟨some 9, .mv (.c (.int .i64 0)), none⟩] [1, 5, 8, 9])
  (.blk 0 (.loop (.seq (.reg [⟨some 10, .bin .lss (.t 9) (.t 8), none⟩] [1, 5, 8, 9, 10])
  (.seq (.kp [1, 5, 8, 9] (.cond (.t 10) (.skip) (.exit 0)))
  (.seq (.kp [1, 5, 8, 9] (.blk 1 (.seq (.reg [⟨some 11, .mv (.t 9), none⟩,
    ⟨some 6, .asg (.t 11), none⟩] [1, 5, 6, 8, 9])
  (.seq (.reg [⟨some 12, .mv (.t 1), none⟩,
    ⟨some 13, .mv (.t 6), none⟩,
    ⟨some 14, .call 78 [(.t 12), (.t 13)], none⟩,
    ⟨some 15, .nt (.t 14), none⟩] [1, 5, 6, 8, 9, 15])
  (.cond (.t 15) (.reg [⟨some 16, .mv (.t 5), none⟩,
    ⟨some 17, .mv (.t 6), none⟩,
    ⟨some 18, .bsl [(.t 17)] 1, none⟩,
    ⟨some 19, .app (.t 16) (.t 18) 1, none⟩,
    ⟨some 5, .asg (.t 19), none⟩] [1, 5, 8, 9]) (.skip))))))
  (.reg [⟨some 20, .bin .add (.t 9) (.c (.int .i64 1)), none⟩,
    ⟨some 9, .mv (.t 20), none⟩] [1, 5, 8, 9]))))))))
  (.seq (.reg [⟨some 21, .mv (.t 5), none⟩,
    ⟨some 4, .asg (.t 21), none⟩] [4])
  (.ret))))
theorem con_spec_iOthers {v0 : (List XVariable)} {v1 : (List Int)} {r : (List Int)} (h : sh_spec_iOthers v0 v1 = some r) : Con Try.prog 138 [(cLs (cXVariable cS cI) rfl).enc v0, (cLs cI rfl).enc v1] [] (rs_spec_iOthers r) := by
  delta sh_spec_iOthers at h
  refine top (out := none) (f := Try.f138) (m := m138) (rs := [.t 4]) (by kernel_rfl) rfl (by kernel_rfl) (by kernel_rfl) (by kernel_rfl) (by kernel_rfl) (by kernel_rfl) ?_
  exact
   ini [(0, .d ((cLs (cXVariable cS cI) rfl).enc v0)), (1, .d ((cLs cI rfl).enc v1))] rfl <| wpC_seq <| reg_s <| x_asg (sc (cLo cI) ([] : List Int) rfl) <| seqN [(0, .d ((cLs (cXVariable cS cI) rfl).enc v0)), (1, .d ((cLs cI rfl).enc v1))] (by kernel_rfl) <|
    xn <| wpC_seq <| reg_s <| x_asg (sc (cLo cI) ([] : List Int) rfl) <| seqN [(0, .d ((cLs (cXVariable cS cI) rfl).enc v0)), (1, .d ((cLs cI rfl).enc v1)), (5, .d ((cLo cI).enc ([] : List Int)))] (by kernel_rfl) <|
    xn <| wpC_seq <| wpC_kp <| wpC_seq <| reg_s <| st rfl <| mvd rfl rfl <| stw rfl <| lens rfl fun l48 => st rfl <| mvc cI (0 : Int) rfl <| seqN [(1, .d ((cLs cI rfl).enc v1)), (5, .d ((cLo cI).enc ([] : List Int))), (8, .d (cI.enc (v0.length : Int))), (9, .d (cI.enc (0 : Int)))] (by kernel_rfl) <|
    xn <| wpC_blk <| lpR (fun (k50 : Nat) (s49 : (List Int)) => [(1, .d ((cLs cI rfl).enc v1)), (5, .d ((cLo cI).enc s49)), (8, .d (cI.enc (v0.length : Int))), (9, .d (cI.enc (k50 : Int)))]) ([] : List Int) rfl h
    (fun G80 s49 h => wpC_seq <| reg_s <| st rfl <| b_lss (k := .i64) rfl rfl <| seqN [(1, .d ((cLs cI rfl).enc v1)), (5, .d ((cLo cI).enc s49)), (8, .d (cI.enc (v0.length : Int))), (9, .d (cI.enc (v0.length : Int))), (10, .d (cB.enc (decide ((v0.length : Int) < (v0.length : Int)))))] (by kernel_rfl) <|
    xn <| wpC_seq <| wpC_kp <| cnd0 rfl (dlf _) <| wpC_exit <| xt <| xt <| xt <| xb <| kpN [(5, .d ((cLo cI).enc s49))] (by kernel_rfl) <| xn <| wpC_seq <| reg_s <| st rfl <| mvo rfl rfl <| x_asg (sr rfl rfl) <| seqN [(4, .d ((cLo cI).enc s49))] (by kernel_rfl) <|
    xn <| wpC_ret <| re <| fin h (r1 (so rfl rfl) <| r0) rfl)
    (fun G80 nx78 k50 s49 x51 hk52 hx53 hn79 h => wpC_seq <| reg_s <| st rfl <| b_lss (k := .i64) rfl rfl <| seqN [(1, .d ((cLs cI rfl).enc v1)), (5, .d ((cLo cI).enc s49)), (8, .d (cI.enc (v0.length : Int))), (9, .d (cI.enc (k50 : Int))), (10, .d (cB.enc (decide ((k50 : Int) < (v0.length : Int)))))] (by kernel_rfl) <|
    xn <| wpC_seq <| wpC_kp <| cnd1 rfl (dlt hk52) <| wpC_skip <| kpN [(1, .d ((cLs cI rfl).enc v1)), (5, .d ((cLo cI).enc s49)), (8, .d (cI.enc (v0.length : Int))), (9, .d (cI.enc (k50 : Int)))] (by kernel_rfl) <| xn <| wpC_seq <| wpC_kp <| wpC_blk <| wpC_seq <| reg_s <| st rfl <| mvd rfl rfl <| x_asg (ss rfl rfl) <| seqN [(1, .d ((cLs cI rfl).enc v1)), (5, .d ((cLo cI).enc s49)), (6, .d (cI.enc (k50 : Int))), (8, .d (cI.enc (v0.length : Int))), (9, .d (cI.enc (k50 : Int)))] (by kernel_rfl) <|
    xn <| wpC_seq <| reg_s <| st rfl <| mvd rfl rfl <| st rfl <| mvd rfl rfl <| bnd h fun x89 e90 h => st rfl <| o_call (a1 (c := (cLs cI rfl)) (tLs tK) rfl (a1 (c := cI) tK rfl a0)) (con_spec_l1Has e90) (.inl (so1 sB so0)) <| st rfl <| o_nt rfl <| seqN [(1, .d ((cLs cI rfl).enc v1)), (5, .d ((cLo cI).enc s49)), (6, .d (cI.enc (k50 : Int))), (8, .d (cI.enc (v0.length : Int))), (9, .d (cI.enc (k50 : Int))), (15, .d (cB.enc (!x89)))] (by kernel_rfl) <|
    xn <| cnd rfl h (fun b91 h => reg_s <| st rfl <| mvo rfl rfl <| st rfl <| mvd rfl rfl <| x_bsl cI [(k50 : Int)] (t1 (ss rfl rfl) rfl t0) rfl rfl <| lnO_k h fun l92 h => x_app (sr rfl rfl) (to rfl rfl) l92 rfl <| x_asg (so rfl rfl) <| seqN [(1, .d ((cLs cI rfl).enc v1)), (5, .d ((cLo cI).enc (s49 ++ [(k50 : Int)]))), (8, .d (cI.enc (v0.length : Int))), (9, .d (cI.enc (k50 : Int)))] (by kernel_rfl) <|
    xbb <| kpN [(1, .d ((cLs cI rfl).enc v1)), (5, .d ((cLo cI).enc (s49 ++ [(k50 : Int)]))), (8, .d (cI.enc (v0.length : Int))), (9, .d (cI.enc (k50 : Int)))] (by kernel_rfl) <| xn <| reg_s <| st rfl <| b_inc rfl rfl l48 hk52 <| st rfl <| mvd rfl rfl <| seqN [(1, .d ((cLs cI rfl).enc v1)), (5, .d ((cLo cI).enc (s49 ++ [(k50 : Int)]))), (8, .d (cI.enc (v0.length : Int))), (9, .d (cI.enc ((k50 + 1 : Nat) : Int)))] (by kernel_rfl) <|
    xn <| hn79 (s49 ++ [(k50 : Int)]) h)
    (fun b91 h => wpC_skip <| xbb <| kpN [(1, .d ((cLs cI rfl).enc v1)), (5, .d ((cLo cI).enc s49)), (8, .d (cI.enc (v0.length : Int))), (9, .d (cI.enc (k50 : Int)))] (by kernel_rfl) <| xn <| reg_s <| st rfl <| b_inc rfl rfl l48 hk52 <| st rfl <| mvd rfl rfl <| seqN [(1, .d ((cLs cI rfl).enc v1)), (5, .d ((cLo cI).enc s49)), (8, .d (cI.enc (v0.length : Int))), (9, .d (cI.enc ((k50 + 1 : Nat) : Int)))] (by kernel_rfl) <|
    xn <| hn79 s49 h))

def rs_spec_iCheapest (r : ((List Int) × Int × Bool)) : List D := [(cLo cI).enc r.1, cI.enc r.2.1, cB.enc r.2.2]
def m83 : MC := .seq (.reg [⟨some 8, .asg (.c (.slice true [])), none⟩,
    ⟨some 9, .asg (.c (.int .i64 0)), none⟩,
    ⟨some 10, .asg (.c (.bool false)), none⟩] [0, 1, 2, 3])
  (.seq (.reg [⟨some 11, .asg (.c (.slice true [])), none⟩] [0, 1, 2, 3, 11])
  (.seq (.reg [⟨some 12, .asg (.c (.int .i64 0)), none⟩,
    ⟨some 13, .asg (.c (.bool false)), none⟩] [0, 1, 2, 3, 11, 12, 13])
  (.seq (.kp [11, 12, 13] (.seq (.reg [⟨some 14, .asg (.c (.int .i64 0)), none⟩] [0, 1, 2, 3, 11, 12, 13, 14])
  (.blk 0 (.loop (.seq (.kp [0, 1, 2, 3, 11, 12, 13, 14] (.seq (.reg [⟨some 19, .mv (.t 14), none⟩,
    ⟨some 20, .mv (.t 0), none⟩,
    ⟨some 21, .len false (.t 20), none⟩,
    ⟨some 22, .cvi .u64 (.t 21), none⟩,
    ⟨some 23, .bin .shl (.c (.int .i64 1)) (.t 22), none⟩,
    ⟨some 24, .bin .lss (.t 19) (.t 23), none⟩] [0, 1, 2, 3, 11, 12, 13, 14, 24])
  (.cond (.t 24) (.skip) (.exit 0))))
  (.seq (.kp [0, 1, 2, 3, 11, 12, 13, 14] (.blk 1 (.seq (.reg [⟨some 27, .mv (.t 14), none⟩,
    ⟨some 28, .call 136 [(.t 27)], none⟩,
    ⟨some 15, .asg (.t 28), none⟩] [0, 1, 2, 3, 11, 12, 13, 14, 15])
  (.seq (.reg [⟨some 29, .mv (.t 2), none⟩,
    ⟨some 30, .mv (.t 15), none⟩,
    ⟨some 31, .call 137 [(.t 29), (.t 30)], none⟩,
    ⟨some 16, .asg (.t 31), none⟩] [0, 1, 2, 3, 11, 12, 13, 14, 15, 16])
  (.seq (.kp [0, 1, 2, 3, 11, 12, 13, 14, 15, 16] (.seq (.reg [⟨some 32, .mv (.t 13), none⟩,
    ⟨some 33, .mv (.t 32), none⟩,
    ⟨some 34, .mv (.t 16), some (33, true)⟩,
    ⟨some 35, .mv (.t 12), some (33, true)⟩,
    ⟨some 36, .bin .gtr (.t 34) (.t 35), some (33, true)⟩,
    ⟨some 37, .mv (.t 36), some (33, true)⟩,
    ⟨some 38, .mv (.t 16), some (37, false)⟩,
    ⟨some 39, .mv (.t 12), some (37, false)⟩,
    ⟨some 40, .bin .eql (.t 38) (.t 39), some (37, false)⟩,
    ⟨some 41, .mv (.t 40), some (37, false)⟩,
    ⟨some 42, .mv (.t 15), some (41, true)⟩,
    ⟨some 43, .len false (.t 42), some (41, true)⟩,
    ⟨some 44, .mv (.t 11), some (41, true)⟩,
    ⟨some 45, .len false (.t 44), some (41, true)⟩,
    ⟨some 46, .bin .gtr (.t 43) (.t 45), some (41, true)⟩,
    ⟨some 47, .mv (.t 46), some (41, true)⟩,
    ⟨some 48, .mv (.t 15), some (47, false)⟩,
    ⟨some 49, .len false (.t 48), some (47, false)⟩,
    ⟨some 50, .mv (.t 11), some (47, false)⟩,
    ⟨some 51, .len false (.t 50), some (47, false)⟩,
    ⟨some 52, .bin .eql (.t 49) (.t 51), some (47, false)⟩,
    ⟨some 53, .mv (.t 52), some (47, false)⟩,
    ⟨some 54, .mv (.t 15), some (53, true)⟩,
    ⟨some 55, .mv (.t 11), some (53, true)⟩,
    ⟨some 56, .call 79 [(.t 54), (.t 55)], some (53, true)⟩,
    ⟨some 57, .bin .geq (.t 56) (.c (.int .i64 0)), some (53, true)⟩,
    ⟨some 58, .pick (.t 53) (.t 57) (.c (.bool false)), some (47, false)⟩,
    ⟨some 59, .pick (.t 47) (.c (.bool true)) (.t 58), some (41, true)⟩,
    ⟨some 60, .pick (.t 41) (.t 59) (.c (.bool false)), some (37, false)⟩,
    ⟨some 61, .pick (.t 37) (.c (.bool true)) (.t 60), some (33, true)⟩,
    ⟨some 62, .pick (.t 33) (.t 61) (.c (.bool false)), none⟩] [0, 1, 2, 3, 11, 12, 13, 14, 15, 16, 62])
  (.cond (.t 62) (.exit 1) (.skip))))
  (.seq (.reg [⟨some 64, .mv (.t 0), none⟩,
    ⟨some 65, .mv (.t 1), none⟩,
    ⟨some 66, .mv (.t 0), none⟩,
    ⟨some 67, .mv (.t 15), none⟩,
    ⟨some 68, .call 138 [(.t 66), (.t 67)], none⟩,
    ⟨some 69, .mv (.t 3), none⟩,
    ⟨some 70, .call 72 [(.t 64), (.t 65), (.t 68), (.t 69)], none⟩,
    ⟨some 63, .mvt 70, none⟩,
    ⟨some 71, .ext 63 0, none⟩,
    ⟨some 72, .ext 63 1, none⟩,
    ⟨some 17, .asg (.t 71), none⟩,
    ⟨some 18, .asg (.t 72), none⟩] [0, 1, 2, 3, 11, 12, 13, 14, 15, 16, 18])
  (.seq (.reg [⟨some 73, .mv (.t 18), none⟩] [0, 1, 2, 3, 11, 12, 13, 14, 15, 16, 73])
  (.cond (.t 73) (.seq (.reg [⟨some 74, .mv (.t 15), none⟩,
    ⟨some 11, .asg (.t 74), none⟩] [0, 1, 2, 3, 11, 14, 16])
  (.seq (.reg [⟨some 75, .mv (.t 16), none⟩,
    ⟨some 12, .asg (.t 75), none⟩] [0, 1, 2, 3, 11, 12, 14])
  (.reg [⟨some 13, .asg (.c (.bool true)), none⟩] [0, 1, 2, 3, 11, 12, 13, 14]))) (.skip)))))))))
  (.reg [⟨some 25, .mv (.t 14), none⟩,
    ⟨some 26, .bin .add (.t 25) (.c (.int .i64 1)), none⟩,
    ⟨some 14, .asg (.t 26), none⟩] [0, 1, 2, 3, 11, 12, 13, 14])))))))
  (.seq (.reg [⟨some 76, .mv (.t 11), none⟩,
    ⟨some 77, .mv (.t 12), none⟩,
    ⟨some 78, .mv (.t 13), none⟩,
    ⟨some 8, .asg (.t 76), none⟩,
    ⟨some 9, .asg (.t 77), none⟩,
    ⟨some 10, .asg (.t 78), none⟩] [8, 9, 10])
  (.ret)))))
theorem con_spec_iCheapest {v0 : (List XVariable)} {v1 : (List XEdit)} {v2 : (List Int)} {v3 : (List Int)} {r : ((List Int) × Int × Bool)} (h : sh_spec_iCheapest v0 v1 v2 v3 = some r) : Con Try.prog 83 [(cLs (cXVariable cS cI) rfl).enc v0, (cLs (cXEdit (cLs cI rfl)) rfl).enc v1, (cLs cI rfl).enc v2, (cLs cI rfl).enc v3] [] (rs_spec_iCheapest r) := by
  delta sh_spec_iCheapest at h
  refine top (out := none) (f := Try.f83) (m := m83) (rs := [.t 8, .t 9, .t 10]) (by kernel_rfl) rfl (by kernel_rfl) (by kernel_rfl) (by kernel_rfl) (by kernel_rfl) (by kernel_rfl) ?_
  exact
   ini [(0, .d ((cLs (cXVariable cS cI) rfl).enc v0)), (1, .d ((cLs (cXEdit (cLs cI rfl)) rfl).enc v1)), (2, .d ((cLs cI rfl).enc v2)), (3, .d ((cLs cI rfl).enc v3))] rfl <| wpC_seq <| reg_s <| x_asg (sc (cLo cI) ([] : List Int) rfl) <| x_asg (sc cI (0 : Int) rfl) <| x_asg (sc cB false rfl) <| seqN [(0, .d ((cLs (cXVariable cS cI) rfl).enc v0)), (1, .d ((cLs (cXEdit (cLs cI rfl)) rfl).enc v1)), (2, .d ((cLs cI rfl).enc v2)), (3, .d ((cLs cI rfl).enc v3))] (by kernel_rfl) <|
    xn <| wpC_seq <| reg_s <| x_asg (sc (cLo cI) ([] : List Int) rfl) <| seqN [(0, .d ((cLs (cXVariable cS cI) rfl).enc v0)), (1, .d ((cLs (cXEdit (cLs cI rfl)) rfl).enc v1)), (2, .d ((cLs cI rfl).enc v2)), (3, .d ((cLs cI rfl).enc v3)), (11, .d ((cLo cI).enc ([] : List Int)))] (by kernel_rfl) <|
    xn <| wpC_seq <| reg_s <| x_asg (sc cI (0 : Int) rfl) <| x_asg (sc cB false rfl) <| seqN [(0, .d ((cLs (cXVariable cS cI) rfl).enc v0)), (1, .d ((cLs (cXEdit (cLs cI rfl)) rfl).enc v1)), (2, .d ((cLs cI rfl).enc v2)), (3, .d ((cLs cI rfl).enc v3)), (11, .d ((cLo cI).enc ([] : List Int))), (12, .d (cI.enc (0 : Int))), (13, .d (cB.enc false))] (by kernel_rfl) <|
    xn <| wpC_seq <| wpC_kp <| wpC_seq <| reg_s <| x_asg (sc cI (0 : Int) rfl) <| seqN [(0, .d ((cLs (cXVariable cS cI) rfl).enc v0)), (1, .d ((cLs (cXEdit (cLs cI rfl)) rfl).enc v1)), (2, .d ((cLs cI rfl).enc v2)), (3, .d ((cLs cI rfl).enc v3)), (11, .d ((cLo cI).enc ([] : List Int))), (12, .d (cI.enc (0 : Int))), (13, .d (cB.enc false)), (14, .d (cI.enc (0 : Int)))] (by kernel_rfl) <|
    xn <| wpC_blk <| lpF (fun (s373 : ((List Int) × Int × Bool × Int)) => [(0, .d ((cLs (cXVariable cS cI) rfl).enc v0)), (1, .d ((cLs (cXEdit (cLs cI rfl)) rfl).enc v1)), (2, .d ((cLs cI rfl).enc v2)), (3, .d ((cLs cI rfl).enc v3)), (11, .d ((cLo cI).enc s373.1)), (12, .d (cI.enc s373.2.1)), (13, .d (cB.enc s373.2.2.1)), (14, .d (cI.enc s373.2.2.2))]) (([] : List Int), (0 : Int), false, (0 : Int)) rfl h
    fun G589 nx587 s373 hn588 h => wpC_seq <| wpC_kp <| wpC_seq <| reg_s <| st rfl <| mvd rfl rfl <| st rfl <| mvd rfl rfl <| stw rfl <| lens rfl fun l603 => ckK_k h fun i604 h => st rfl <| o_cvi (k := .i64) (k' := .u64) rfl i604 <| ck_k h fun i605 h => ckI_k h fun i606 h => st rfl <| b_shl (k := .i64) (k' := .u64) rfl rfl i605 rfl i606 <| st rfl <| b_lss (k := .i64) rfl rfl <| seqN [(0, .d ((cLs (cXVariable cS cI) rfl).enc v0)), (1, .d ((cLs (cXEdit (cLs cI rfl)) rfl).enc v1)), (2, .d ((cLs cI rfl).enc v2)), (3, .d ((cLs cI rfl).enc v3)), (11, .d ((cLo cI).enc s373.1)), (12, .d (cI.enc s373.2.1)), (13, .d (cB.enc s373.2.2.1)), (14, .d (cI.enc s373.2.2.2)), (24, .d (cB.enc (decide (s373.2.2.2 < ((1 : Int) * 2 ^ ((v0.length : Int)).toNat)))))] (by kernel_rfl) <|
    xn <| cnd rfl h (fun b607 h => wpC_skip <| kpN [(0, .d ((cLs (cXVariable cS cI) rfl).enc v0)), (1, .d ((cLs (cXEdit (cLs cI rfl)) rfl).enc v1)), (2, .d ((cLs cI rfl).enc v2)), (3, .d ((cLs cI rfl).enc v3)), (11, .d ((cLo cI).enc s373.1)), (12, .d (cI.enc s373.2.1)), (13, .d (cB.enc s373.2.2.1)), (14, .d (cI.enc s373.2.2.2))] (by kernel_rfl) <| xn <| wpC_seq <| wpC_kp <| wpC_blk <| wpC_seq <| reg_s <| st rfl <| mvd rfl rfl <| bnd h fun x677 e678 h => st rfl <| o_call (a1 (c := cI) tK rfl a0) (con_spec_iBits e678) (.inl (so1 (sLo sK) so0)) <| x_asg (so rfl rfl) <| seqN [(0, .d ((cLs (cXVariable cS cI) rfl).enc v0)), (1, .d ((cLs (cXEdit (cLs cI rfl)) rfl).enc v1)), (2, .d ((cLs cI rfl).enc v2)), (3, .d ((cLs cI rfl).enc v3)), (11, .d ((cLo cI).enc s373.1)), (12, .d (cI.enc s373.2.1)), (13, .d (cB.enc s373.2.2.1)), (14, .d (cI.enc s373.2.2.2)), (15, .d ((cLo cI).enc x677))] (by kernel_rfl) <|
    xn <| wpC_seq <| reg_s <| st rfl <| mvd rfl rfl <| st rfl <| mvo rfl rfl <| bnd h fun x681 e682 h => st rfl <| o_call (a1 (c := (cLs cI rfl)) (tLs tK) rfl (a1 (c := (cLo cI)) (tLo tK) rfl a0)) (con_spec_iSum e682) (.inl (so1 sK so0)) <| x_asg (ss rfl rfl) <| seqN [(0, .d ((cLs (cXVariable cS cI) rfl).enc v0)), (1, .d ((cLs (cXEdit (cLs cI rfl)) rfl).enc v1)), (2, .d ((cLs cI rfl).enc v2)), (3, .d ((cLs cI rfl).enc v3)), (11, .d ((cLo cI).enc s373.1)), (12, .d (cI.enc s373.2.1)), (13, .d (cB.enc s373.2.2.1)), (14, .d (cI.enc s373.2.2.2)), (15, .d ((cLo cI).enc x677)), (16, .d (cI.enc x681))] (by kernel_rfl) <|
    xn <| wpC_seq <| wpC_kp <| wpC_seq <| jw (fun (s719 : Bool) => [(0, .d ((cLs (cXVariable cS cI) rfl).enc v0)), (1, .d ((cLs (cXEdit (cLs cI rfl)) rfl).enc v1)), (2, .d ((cLs cI rfl).enc v2)), (3, .d ((cLs cI rfl).enc v3)), (11, .d ((cLo cI).enc s373.1)), (12, .d (cI.enc s373.2.1)), (13, .d (cB.enc s373.2.2.1)), (14, .d (cI.enc s373.2.2.2)), (15, .d ((cLo cI).enc x677)), (16, .d (cI.enc x681)), (62, .d (cB.enc s719))]) h (fun s719 h => xn <| cnd rfl h (fun b721 h => wpC_exit <| xt <| xt <| xb <| kpN [(0, .d ((cLs (cXVariable cS cI) rfl).enc v0)), (1, .d ((cLs (cXEdit (cLs cI rfl)) rfl).enc v1)), (2, .d ((cLs cI rfl).enc v2)), (3, .d ((cLs cI rfl).enc v3)), (11, .d ((cLo cI).enc s373.1)), (12, .d (cI.enc s373.2.1)), (13, .d (cB.enc s373.2.2.1)), (14, .d (cI.enc s373.2.2.2))] (by kernel_rfl) <| xn <| reg_s <| st rfl <| mvd rfl rfl <| ckI_k h fun i722 h => st rfl <| b_add (k := .i64) rfl rfl i722 <| x_asg (ss rfl rfl) <| seqN [(0, .d ((cLs (cXVariable cS cI) rfl).enc v0)), (1, .d ((cLs (cXEdit (cLs cI rfl)) rfl).enc v1)), (2, .d ((cLs cI rfl).enc v2)), (3, .d ((cLs cI rfl).enc v3)), (11, .d ((cLo cI).enc s373.1)), (12, .d (cI.enc s373.2.1)), (13, .d (cB.enc s373.2.2.1)), (14, .d (cI.enc (s373.2.2.2 + (1 : Int))))] (by kernel_rfl) <|
    xn <| hn588 (s373.1, s373.2.1, s373.2.2.1, (s373.2.2.2 + (1 : Int))) h)
    (fun b721 h => wpC_skip <| kpN [(0, .d ((cLs (cXVariable cS cI) rfl).enc v0)), (1, .d ((cLs (cXEdit (cLs cI rfl)) rfl).enc v1)), (2, .d ((cLs cI rfl).enc v2)), (3, .d ((cLs cI rfl).enc v3)), (11, .d ((cLo cI).enc s373.1)), (12, .d (cI.enc s373.2.1)), (13, .d (cB.enc s373.2.2.1)), (14, .d (cI.enc s373.2.2.2)), (15, .d ((cLo cI).enc x677)), (16, .d (cI.enc x681))] (by kernel_rfl) <| xn <| wpC_seq <| reg_s <| st rfl <| mvd rfl rfl <| st rfl <| mvd rfl rfl <| st rfl <| mvd rfl rfl <| st rfl <| mvo rfl rfl <| bnd h fun x727 e728 h => st rfl <| o_call (a1 (c := (cLs (cXVariable cS cI) rfl)) (tLs (tXVariable tS tK)) rfl (a1 (c := (cLo cI)) (tLo tK) rfl a0)) (con_spec_iOthers e728) (.inl (so1 (sLo sK) so0)) <| st rfl <| mvd rfl rfl <| bnd h fun x729 e730 h => st rfl <| o_call (a1 (c := (cLs (cXVariable cS cI) rfl)) (tLs (tXVariable tS tK)) rfl (a1 (c := (cLs (cXEdit (cLs cI rfl)) rfl)) (tLs (tXEdit (tLs tK))) rfl (a1 (c := (cLo cI)) (tLo tK) rfl (a1 (c := (cLs cI rfl)) (tLs tK) rfl a0)))) (con_spec_eComplete e730) (.inl (so1 (sLo sK) (so1 sB so0))) <| x_mvt rfl <| x_ext rfl rfl <| x_ext rfl rfl <| x_asg (so rfl rfl) <| x_asg (ss rfl rfl) <| seqN [(0, .d ((cLs (cXVariable cS cI) rfl).enc v0)), (1, .d ((cLs (cXEdit (cLs cI rfl)) rfl).enc v1)), (2, .d ((cLs cI rfl).enc v2)), (3, .d ((cLs cI rfl).enc v3)), (11, .d ((cLo cI).enc s373.1)), (12, .d (cI.enc s373.2.1)), (13, .d (cB.enc s373.2.2.1)), (14, .d (cI.enc s373.2.2.2)), (15, .d ((cLo cI).enc x677)), (16, .d (cI.enc x681)), (18, .d (cB.enc x729.2))] (by kernel_rfl) <|
    xn <| wpC_seq <| reg_s <| st rfl <| mvd rfl rfl <| seqN [(0, .d ((cLs (cXVariable cS cI) rfl).enc v0)), (1, .d ((cLs (cXEdit (cLs cI rfl)) rfl).enc v1)), (2, .d ((cLs cI rfl).enc v2)), (3, .d ((cLs cI rfl).enc v3)), (11, .d ((cLo cI).enc s373.1)), (12, .d (cI.enc s373.2.1)), (13, .d (cB.enc s373.2.2.1)), (14, .d (cI.enc s373.2.2.2)), (15, .d ((cLo cI).enc x677)), (16, .d (cI.enc x681)), (73, .d (cB.enc x729.2))] (by kernel_rfl) <|
    xn <| cnd rfl h (fun b731 h => wpC_seq <| reg_s <| st rfl <| mvo rfl rfl <| x_asg (sr rfl rfl) <| seqN [(0, .d ((cLs (cXVariable cS cI) rfl).enc v0)), (1, .d ((cLs (cXEdit (cLs cI rfl)) rfl).enc v1)), (2, .d ((cLs cI rfl).enc v2)), (3, .d ((cLs cI rfl).enc v3)), (11, .d ((cLo cI).enc x677)), (14, .d (cI.enc s373.2.2.2)), (16, .d (cI.enc x681))] (by kernel_rfl) <|
    xn <| wpC_seq <| reg_s <| st rfl <| mvd rfl rfl <| x_asg (ss rfl rfl) <| seqN [(0, .d ((cLs (cXVariable cS cI) rfl).enc v0)), (1, .d ((cLs (cXEdit (cLs cI rfl)) rfl).enc v1)), (2, .d ((cLs cI rfl).enc v2)), (3, .d ((cLs cI rfl).enc v3)), (11, .d ((cLo cI).enc x677)), (12, .d (cI.enc x681)), (14, .d (cI.enc s373.2.2.2))] (by kernel_rfl) <|
    xn <| reg_s <| x_asg (sc cB true rfl) <| seqN [(0, .d ((cLs (cXVariable cS cI) rfl).enc v0)), (1, .d ((cLs (cXEdit (cLs cI rfl)) rfl).enc v1)), (2, .d ((cLs cI rfl).enc v2)), (3, .d ((cLs cI rfl).enc v3)), (11, .d ((cLo cI).enc x677)), (12, .d (cI.enc x681)), (13, .d (cB.enc true)), (14, .d (cI.enc s373.2.2.2))] (by kernel_rfl) <|
    xbb <| kpN [(0, .d ((cLs (cXVariable cS cI) rfl).enc v0)), (1, .d ((cLs (cXEdit (cLs cI rfl)) rfl).enc v1)), (2, .d ((cLs cI rfl).enc v2)), (3, .d ((cLs cI rfl).enc v3)), (11, .d ((cLo cI).enc x677)), (12, .d (cI.enc x681)), (13, .d (cB.enc true)), (14, .d (cI.enc s373.2.2.2))] (by kernel_rfl) <| xn <| reg_s <| st rfl <| mvd rfl rfl <| ckI_k h fun i732 h => st rfl <| b_add (k := .i64) rfl rfl i732 <| x_asg (ss rfl rfl) <| seqN [(0, .d ((cLs (cXVariable cS cI) rfl).enc v0)), (1, .d ((cLs (cXEdit (cLs cI rfl)) rfl).enc v1)), (2, .d ((cLs cI rfl).enc v2)), (3, .d ((cLs cI rfl).enc v3)), (11, .d ((cLo cI).enc x677)), (12, .d (cI.enc x681)), (13, .d (cB.enc true)), (14, .d (cI.enc (s373.2.2.2 + (1 : Int))))] (by kernel_rfl) <|
    xn <| hn588 (x677, x681, true, (s373.2.2.2 + (1 : Int))) h)
    (fun b731 h => wpC_skip <| xbb <| kpN [(0, .d ((cLs (cXVariable cS cI) rfl).enc v0)), (1, .d ((cLs (cXEdit (cLs cI rfl)) rfl).enc v1)), (2, .d ((cLs cI rfl).enc v2)), (3, .d ((cLs cI rfl).enc v3)), (11, .d ((cLo cI).enc s373.1)), (12, .d (cI.enc s373.2.1)), (13, .d (cB.enc s373.2.2.1)), (14, .d (cI.enc s373.2.2.2))] (by kernel_rfl) <| xn <| reg_s <| st rfl <| mvd rfl rfl <| ckI_k h fun i733 h => st rfl <| b_add (k := .i64) rfl rfl i733 <| x_asg (ss rfl rfl) <| seqN [(0, .d ((cLs (cXVariable cS cI) rfl).enc v0)), (1, .d ((cLs (cXEdit (cLs cI rfl)) rfl).enc v1)), (2, .d ((cLs cI rfl).enc v2)), (3, .d ((cLs cI rfl).enc v3)), (11, .d ((cLo cI).enc s373.1)), (12, .d (cI.enc s373.2.1)), (13, .d (cB.enc s373.2.2.1)), (14, .d (cI.enc (s373.2.2.2 + (1 : Int))))] (by kernel_rfl) <|
    xn <| hn588 (s373.1, s373.2.1, s373.2.2.1, (s373.2.2.2 + (1 : Int))) h)))
    fun s719' q720 h => reg_s <| st rfl <| mvd rfl rfl <| st rfl <| mvd rfl rfl <| ite_k h (fun b734 h => gt' rfl b734 <| st rfl <| mvd rfl rfl <| gt' rfl b734 <| st rfl <| mvd rfl rfl <| gt' rfl b734 <| st rfl <| b_gtr (k := .i64) rfl rfl <| gt' rfl b734 <| st rfl <| mvd rfl rfl <| ite_k h (fun b735 h => gf rfl b735 <| gf rfl b735 <| gf rfl b735 <| gf rfl b735 <| gu rfl <| gu rfl <| gu rfl <| gu rfl <| gu rfl <| gu rfl <| gu rfl <| gu rfl <| gu rfl <| gu rfl <| gu rfl <| gu rfl <| gu rfl <| gu rfl <| gu rfl <| gu rfl <| gu rfl <| gu rfl <| gf rfl b735 <| gt' rfl b734 <| st rfl <| pick1 rfl b735 (cd := cB) (v := true) rfl rfl <| st rfl <| pick1 rfl b734 (cd := cB) (v := true) rfl rfl <| seqN [(0, .d ((cLs (cXVariable cS cI) rfl).enc v0)), (1, .d ((cLs (cXEdit (cLs cI rfl)) rfl).enc v1)), (2, .d ((cLs cI rfl).enc v2)), (3, .d ((cLs cI rfl).enc v3)), (11, .d ((cLo cI).enc s373.1)), (12, .d (cI.enc s373.2.1)), (13, .d (cB.enc s373.2.2.1)), (14, .d (cI.enc s373.2.2.2)), (15, .d ((cLo cI).enc x677)), (16, .d (cI.enc x681)), (62, .d (cB.enc true))] (by kernel_rfl) <|
    lfn (S := (fun (s719 : Bool) => [(0, .d ((cLs (cXVariable cS cI) rfl).enc v0)), (1, .d ((cLs (cXEdit (cLs cI rfl)) rfl).enc v1)), (2, .d ((cLs cI rfl).enc v2)), (3, .d ((cLs cI rfl).enc v3)), (11, .d ((cLo cI).enc s373.1)), (12, .d (cI.enc s373.2.1)), (13, .d (cB.enc s373.2.2.1)), (14, .d (cI.enc s373.2.2.2)), (15, .d ((cLo cI).enc x677)), (16, .d (cI.enc x681)), (62, .d (cB.enc s719))])) h q720 rfl)
    (fun b735 h => gt' rfl b735 <| st rfl <| mvd rfl rfl <| gt' rfl b735 <| st rfl <| mvd rfl rfl <| gt' rfl b735 <| st rfl <| b_eql (k := .i64) rfl rfl <| gt' rfl b735 <| st rfl <| mvd rfl rfl <| ite_k h (fun b736 h => gt' rfl b736 <| st rfl <| mvo rfl rfl <| gt' rfl b736 <| stw rfl <| leno rfl fun l737 => gt' rfl b736 <| st rfl <| mvo rfl rfl <| gt' rfl b736 <| stw rfl <| leno rfl fun l738 => gt' rfl b736 <| st rfl <| b_gtr (k := .i64) rfl rfl <| gt' rfl b736 <| st rfl <| mvd rfl rfl <| ite_k h (fun b739 h => gf rfl b739 <| gf rfl b739 <| gf rfl b739 <| gf rfl b739 <| gf rfl b739 <| gf rfl b739 <| gu rfl <| gu rfl <| gu rfl <| gu rfl <| gf rfl b739 <| gt' rfl b736 <| st rfl <| pick1 rfl b739 (cd := cB) (v := true) rfl rfl <| gt' rfl b735 <| st rfl <| pick1 rfl b736 (cd := cB) (v := true) rfl rfl <| gt' rfl b734 <| st rfl <| pick0 rfl b735 (cd := cB) (v := true) rfl rfl <| st rfl <| pick1 rfl b734 (cd := cB) (v := true) rfl rfl <| seqN [(0, .d ((cLs (cXVariable cS cI) rfl).enc v0)), (1, .d ((cLs (cXEdit (cLs cI rfl)) rfl).enc v1)), (2, .d ((cLs cI rfl).enc v2)), (3, .d ((cLs cI rfl).enc v3)), (11, .d ((cLo cI).enc s373.1)), (12, .d (cI.enc s373.2.1)), (13, .d (cB.enc s373.2.2.1)), (14, .d (cI.enc s373.2.2.2)), (15, .d ((cLo cI).enc x677)), (16, .d (cI.enc x681)), (62, .d (cB.enc true))] (by kernel_rfl) <|
    lfn (S := (fun (s719 : Bool) => [(0, .d ((cLs (cXVariable cS cI) rfl).enc v0)), (1, .d ((cLs (cXEdit (cLs cI rfl)) rfl).enc v1)), (2, .d ((cLs cI rfl).enc v2)), (3, .d ((cLs cI rfl).enc v3)), (11, .d ((cLo cI).enc s373.1)), (12, .d (cI.enc s373.2.1)), (13, .d (cB.enc s373.2.2.1)), (14, .d (cI.enc s373.2.2.2)), (15, .d ((cLo cI).enc x677)), (16, .d (cI.enc x681)), (62, .d (cB.enc s719))])) h q720 rfl)
    (fun b739 h => gt' rfl b739 <| st rfl <| mvo rfl rfl <| gt' rfl b739 <| stw rfl <| leno rfl fun l740 => gt' rfl b739 <| st rfl <| mvo rfl rfl <| gt' rfl b739 <| stw rfl <| leno rfl fun l741 => gt' rfl b739 <| st rfl <| b_eql (k := .i64) rfl rfl <| gt' rfl b739 <| st rfl <| mvd rfl rfl <| ite_k h (fun b742 h => gt' rfl b742 <| st rfl <| mvo rfl rfl <| gt' rfl b742 <| st rfl <| mvo rfl rfl <| gt' rfl b742 <| bnd h fun x743 e744 h => st rfl <| o_call (a1 (c := (cLo cI)) (tLo tK) rfl (a1 (c := (cLo cI)) (tLo tK) rfl a0)) (con_spec_l1Less e744) (.inl (so1 sK so0)) <| gt' rfl b742 <| st rfl <| b_geq (k := .i64) rfl rfl <| gt' rfl b739 <| st rfl <| pick1 rfl b742 (cd := cB) (v := (decide ((0 : Int) ≤ x743))) rfl rfl <| gt' rfl b736 <| st rfl <| pick0 rfl b739 (cd := cB) (v := (decide ((0 : Int) ≤ x743))) rfl rfl <| gt' rfl b735 <| st rfl <| pick1 rfl b736 (cd := cB) (v := (decide ((0 : Int) ≤ x743))) rfl rfl <| gt' rfl b734 <| st rfl <| pick0 rfl b735 (cd := cB) (v := (decide ((0 : Int) ≤ x743))) rfl rfl <| st rfl <| pick1 rfl b734 (cd := cB) (v := (decide ((0 : Int) ≤ x743))) rfl rfl <| seqN [(0, .d ((cLs (cXVariable cS cI) rfl).enc v0)), (1, .d ((cLs (cXEdit (cLs cI rfl)) rfl).enc v1)), (2, .d ((cLs cI rfl).enc v2)), (3, .d ((cLs cI rfl).enc v3)), (11, .d ((cLo cI).enc s373.1)), (12, .d (cI.enc s373.2.1)), (13, .d (cB.enc s373.2.2.1)), (14, .d (cI.enc s373.2.2.2)), (15, .d ((cLo cI).enc x677)), (16, .d (cI.enc x681)), (62, .d (cB.enc (decide ((0 : Int) ≤ x743))))] (by kernel_rfl) <|
    lfn (S := (fun (s719 : Bool) => [(0, .d ((cLs (cXVariable cS cI) rfl).enc v0)), (1, .d ((cLs (cXEdit (cLs cI rfl)) rfl).enc v1)), (2, .d ((cLs cI rfl).enc v2)), (3, .d ((cLs cI rfl).enc v3)), (11, .d ((cLo cI).enc s373.1)), (12, .d (cI.enc s373.2.1)), (13, .d (cB.enc s373.2.2.1)), (14, .d (cI.enc s373.2.2.2)), (15, .d ((cLo cI).enc x677)), (16, .d (cI.enc x681)), (62, .d (cB.enc s719))])) h q720 rfl)
    (fun b742 h => gf rfl b742 <| gf rfl b742 <| gf rfl b742 <| gf rfl b742 <| gt' rfl b739 <| st rfl <| pick0 rfl b742 (cd := cB) (v := false) rfl rfl <| gt' rfl b736 <| st rfl <| pick0 rfl b739 (cd := cB) (v := false) rfl rfl <| gt' rfl b735 <| st rfl <| pick1 rfl b736 (cd := cB) (v := false) rfl rfl <| gt' rfl b734 <| st rfl <| pick0 rfl b735 (cd := cB) (v := false) rfl rfl <| st rfl <| pick1 rfl b734 (cd := cB) (v := false) rfl rfl <| seqN [(0, .d ((cLs (cXVariable cS cI) rfl).enc v0)), (1, .d ((cLs (cXEdit (cLs cI rfl)) rfl).enc v1)), (2, .d ((cLs cI rfl).enc v2)), (3, .d ((cLs cI rfl).enc v3)), (11, .d ((cLo cI).enc s373.1)), (12, .d (cI.enc s373.2.1)), (13, .d (cB.enc s373.2.2.1)), (14, .d (cI.enc s373.2.2.2)), (15, .d ((cLo cI).enc x677)), (16, .d (cI.enc x681)), (62, .d (cB.enc false))] (by kernel_rfl) <|
    lfn (S := (fun (s719 : Bool) => [(0, .d ((cLs (cXVariable cS cI) rfl).enc v0)), (1, .d ((cLs (cXEdit (cLs cI rfl)) rfl).enc v1)), (2, .d ((cLs cI rfl).enc v2)), (3, .d ((cLs cI rfl).enc v3)), (11, .d ((cLo cI).enc s373.1)), (12, .d (cI.enc s373.2.1)), (13, .d (cB.enc s373.2.2.1)), (14, .d (cI.enc s373.2.2.2)), (15, .d ((cLo cI).enc x677)), (16, .d (cI.enc x681)), (62, .d (cB.enc s719))])) h q720 rfl)))
    (fun b736 h => gf rfl b736 <| gf rfl b736 <| gf rfl b736 <| gf rfl b736 <| gf rfl b736 <| gf rfl b736 <| gu rfl <| gu rfl <| gu rfl <| gu rfl <| gu rfl <| gu rfl <| gu rfl <| gu rfl <| gu rfl <| gu rfl <| gu rfl <| gf rfl b736 <| gt' rfl b735 <| st rfl <| pick0 rfl b736 (cd := cB) (v := false) rfl rfl <| gt' rfl b734 <| st rfl <| pick0 rfl b735 (cd := cB) (v := false) rfl rfl <| st rfl <| pick1 rfl b734 (cd := cB) (v := false) rfl rfl <| seqN [(0, .d ((cLs (cXVariable cS cI) rfl).enc v0)), (1, .d ((cLs (cXEdit (cLs cI rfl)) rfl).enc v1)), (2, .d ((cLs cI rfl).enc v2)), (3, .d ((cLs cI rfl).enc v3)), (11, .d ((cLo cI).enc s373.1)), (12, .d (cI.enc s373.2.1)), (13, .d (cB.enc s373.2.2.1)), (14, .d (cI.enc s373.2.2.2)), (15, .d ((cLo cI).enc x677)), (16, .d (cI.enc x681)), (62, .d (cB.enc false))] (by kernel_rfl) <|
    lfn (S := (fun (s719 : Bool) => [(0, .d ((cLs (cXVariable cS cI) rfl).enc v0)), (1, .d ((cLs (cXEdit (cLs cI rfl)) rfl).enc v1)), (2, .d ((cLs cI rfl).enc v2)), (3, .d ((cLs cI rfl).enc v3)), (11, .d ((cLo cI).enc s373.1)), (12, .d (cI.enc s373.2.1)), (13, .d (cB.enc s373.2.2.1)), (14, .d (cI.enc s373.2.2.2)), (15, .d ((cLo cI).enc x677)), (16, .d (cI.enc x681)), (62, .d (cB.enc s719))])) h q720 rfl)))
    (fun b734 h => gf rfl b734 <| gf rfl b734 <| gf rfl b734 <| gf rfl b734 <| gu rfl <| gu rfl <| gu rfl <| gu rfl <| gu rfl <| gu rfl <| gu rfl <| gu rfl <| gu rfl <| gu rfl <| gu rfl <| gu rfl <| gu rfl <| gu rfl <| gu rfl <| gu rfl <| gu rfl <| gu rfl <| gu rfl <| gu rfl <| gu rfl <| gu rfl <| gu rfl <| gf rfl b734 <| st rfl <| pick0 rfl b734 (cd := cB) (v := false) rfl rfl <| seqN [(0, .d ((cLs (cXVariable cS cI) rfl).enc v0)), (1, .d ((cLs (cXEdit (cLs cI rfl)) rfl).enc v1)), (2, .d ((cLs cI rfl).enc v2)), (3, .d ((cLs cI rfl).enc v3)), (11, .d ((cLo cI).enc s373.1)), (12, .d (cI.enc s373.2.1)), (13, .d (cB.enc s373.2.2.1)), (14, .d (cI.enc s373.2.2.2)), (15, .d ((cLo cI).enc x677)), (16, .d (cI.enc x681)), (62, .d (cB.enc false))] (by kernel_rfl) <|
    lfn (S := (fun (s719 : Bool) => [(0, .d ((cLs (cXVariable cS cI) rfl).enc v0)), (1, .d ((cLs (cXEdit (cLs cI rfl)) rfl).enc v1)), (2, .d ((cLs cI rfl).enc v2)), (3, .d ((cLs cI rfl).enc v3)), (11, .d ((cLo cI).enc s373.1)), (12, .d (cI.enc s373.2.1)), (13, .d (cB.enc s373.2.2.1)), (14, .d (cI.enc s373.2.2.2)), (15, .d ((cLo cI).enc x677)), (16, .d (cI.enc x681)), (62, .d (cB.enc s719))])) h q720 rfl))
    (fun b607 h => wpC_exit <| xt <| xt <| xt <| xb <| kpN [(11, .d ((cLo cI).enc s373.1)), (12, .d (cI.enc s373.2.1)), (13, .d (cB.enc s373.2.2.1))] (by kernel_rfl) <| xn <| wpC_seq <| reg_s <| st rfl <| mvo rfl rfl <| st rfl <| mvd rfl rfl <| st rfl <| mvd rfl rfl <| x_asg (sr rfl rfl) <| x_asg (ss rfl rfl) <| x_asg (ss rfl rfl) <| seqN [(8, .d ((cLo cI).enc s373.1)), (9, .d (cI.enc s373.2.1)), (10, .d (cB.enc s373.2.2.1))] (by kernel_rfl) <|
    xn <| wpC_ret <| re <| fin h (r1 (so rfl rfl) <| r1 (ss rfl rfl) <| r1 (ss rfl rfl) <| r0) rfl)

def rs_impl_areWeights (r : Bool) : List D := [cB.enc r]
def m139 : MC := .seq (.reg [⟨some 4, .asg (.c (.bool false)), none⟩] [0, 1])
  (.seq (.kp [1] (.seq (.reg [⟨some 7, .mv (.t 1), none⟩,
    ⟨some 8, .len false (.t 7), none⟩,
    ⟨some 9, .mv (.t 0), none⟩,
    ⟨some 10, .len false (.t 9), none⟩,
    ⟨some 11, .bin .neq (.t 8) (.t 10), none⟩] [1, 11])
  (.cond (.t 11) (.seq (.reg [⟨some 4, .asg (.c (.bool false)), none⟩] [4])
  (.ret)) (.skip))))
  (.seq (.kp [] (.seq (.reg [⟨some 12, .mv (.t 1), none⟩,
    ⟨some 13, .len false (.t 12), none⟩,
    ⟨some 14, .mv (.c (.int .i64 0)), none⟩] [1, 12, 13, 14])
  (.blk 0 (.loop (.seq (.reg [⟨some 15, .bin .lss (.t 14) (.t 13), none⟩] [1, 12, 13, 14, 15])
  (.seq (.kp [1, 12, 13, 14] (.cond (.t 15) (.skip) (.exit 0)))
  (.seq (.kp [1, 12, 13, 14] (.blk 1 (.seq (.reg [⟨some 16, .ia 12 (.t 14) 1, none⟩,
    ⟨some 17, .ld 16 1 false, none⟩,
    ⟨some 6, .asg (.t 17), none⟩] [1, 6, 12, 13, 14])
  (.seq (.reg [⟨some 18, .mv (.t 6), none⟩,
    ⟨some 19, .bin .lss (.t 18) (.c (.int .i64 1)), none⟩,
    ⟨some 20, .mv (.t 19), none⟩,
    ⟨some 21, .mv (.t 6), some (20, false)⟩,
    ⟨some 22, .bin .gtr (.t 21) (.c (.int .i64 100)), some (20, false)⟩,
    ⟨some 23, .pick (.t 20) (.c (.bool true)) (.t 22), none⟩] [1, 12, 13, 14, 23])
  (.cond (.t 23) (.seq (.reg [⟨some 4, .asg (.c (.bool false)), none⟩] [4])
  (.ret)) (.skip))))))
  (.reg [⟨some 24, .bin .add (.t 14) (.c (.int .i64 1)), none⟩,
    ⟨some 14, .mv (.t 24), none⟩] [1, 12, 13, 14]))))))))
  (.seq (.reg [⟨some 4, .asg (.c (.bool true)), none⟩] [4])
  (.ret))))
theorem con_impl_areWeights {v0 : (List XVariable)} {v1 : (List Int)} {r : Bool} (h : sh_impl_areWeights v0 v1 = some r) : Con Try.prog 139 [(cLs (cXVariable cS cI) rfl).enc v0, (cLs cI rfl).enc v1] [] (rs_impl_areWeights r) := by
  delta sh_impl_areWeights at h
  refine top (out := none) (f := Try.f139) (m := m139) (rs := [.t 4]) (by kernel_rfl) rfl (by kernel_rfl) (by kernel_rfl) (by kernel_rfl) (by kernel_rfl) (by kernel_rfl) ?_
  exact
   ini [(0, .d ((cLs (cXVariable cS cI) rfl).enc v0)), (1, .d ((cLs cI rfl).enc v1))] rfl <| wpC_seq <| reg_s <| x_asg (sc cB false rfl) <| seqN [(0, .d ((cLs (cXVariable cS cI) rfl).enc v0)), (1, .d ((cLs cI rfl).enc v1))] (by kernel_rfl) <|
    xn <| wpC_seq <| wpC_kp <| wpC_seq <| reg_s <| st rfl <| mvd rfl rfl <| stw rfl <| lens rfl fun l8 => st rfl <| mvd rfl rfl <| stw rfl <| lens rfl fun l9 => st rfl <| b_neq (k := .i64) rfl rfl <| seqN [(1, .d ((cLs cI rfl).enc v1)), (11, .d (cB.enc (decide ((v1.length : Int) ≠ (v0.length : Int)))))] (by kernel_rfl) <|
    xn <| cnd rfl h (fun b10 h => wpC_seq <| reg_s <| x_asg (sc cB false rfl) <| seqN [(4, .d (cB.enc false))] (by kernel_rfl) <|
    xn <| wpC_ret <| rt <| rt <| re <| fin h (r1 (ss rfl rfl) <| r0) rfl)
    (fun b10 h => wpC_skip <| kpN [(1, .d ((cLs cI rfl).enc v1))] (by kernel_rfl) <| xn <| wpC_seq <| wpC_kp <| wpC_seq <| reg_s <| st rfl <| mvd rfl rfl <| stw rfl <| lens rfl fun l34 => st rfl <| mvc cI (0 : Int) rfl <| seqN [(1, .d ((cLs cI rfl).enc v1)), (12, .d ((cLs cI rfl).enc v1)), (13, .d (cI.enc (v1.length : Int))), (14, .d (cI.enc (0 : Int)))] (by kernel_rfl) <|
    xn <| wpC_blk <| lpR (fun (k36 : Nat) (s35 : Unit) => [(1, .d ((cLs cI rfl).enc v1)), (12, .d ((cLs cI rfl).enc v1)), (13, .d (cI.enc (v1.length : Int))), (14, .d (cI.enc (k36 : Int)))]) () rfl h
    (fun G48 s35 h => wpC_seq <| reg_s <| st rfl <| b_lss (k := .i64) rfl rfl <| seqN [(1, .d ((cLs cI rfl).enc v1)), (12, .d ((cLs cI rfl).enc v1)), (13, .d (cI.enc (v1.length : Int))), (14, .d (cI.enc (v1.length : Int))), (15, .d (cB.enc (decide ((v1.length : Int) < (v1.length : Int)))))] (by kernel_rfl) <|
    xn <| wpC_seq <| wpC_kp <| cnd0 rfl (dlf _) <| wpC_exit <| xt <| xt <| xt <| xb <| kpN [] (by kernel_rfl) <| xn <| wpC_seq <| reg_s <| x_asg (sc cB true rfl) <| seqN [(4, .d (cB.enc true))] (by kernel_rfl) <|
    xn <| wpC_ret <| re <| fin h (r1 (ss rfl rfl) <| r0) rfl)
    (fun G48 nx46 k36 s35 x37 hk38 hx39 hn47 h => wpC_seq <| reg_s <| st rfl <| b_lss (k := .i64) rfl rfl <| seqN [(1, .d ((cLs cI rfl).enc v1)), (12, .d ((cLs cI rfl).enc v1)), (13, .d (cI.enc (v1.length : Int))), (14, .d (cI.enc (k36 : Int))), (15, .d (cB.enc (decide ((k36 : Int) < (v1.length : Int)))))] (by kernel_rfl) <|
    xn <| wpC_seq <| wpC_kp <| cnd1 rfl (dlt hk38) <| wpC_skip <| kpN [(1, .d ((cLs cI rfl).enc v1)), (12, .d ((cLs cI rfl).enc v1)), (13, .d (cI.enc (v1.length : Int))), (14, .d (cI.enc (k36 : Int)))] (by kernel_rfl) <| xn <| wpC_seq <| wpC_kp <| wpC_blk <| wpC_seq <| reg_s <| st rfl <| ias rfl rfl (Int.natCast_nonneg _) hx39 rfl <| st rfl <| ldi rfl rfl rfl rfl <| x_asg (ss rfl rfl) <| seqN [(1, .d ((cLs cI rfl).enc v1)), (6, .d (cI.enc x37)), (12, .d ((cLs cI rfl).enc v1)), (13, .d (cI.enc (v1.length : Int))), (14, .d (cI.enc (k36 : Int)))] (by kernel_rfl) <|
    xn <| wpC_seq <| reg_s <| st rfl <| mvd rfl rfl <| st rfl <| b_lss (k := .i64) rfl rfl <| st rfl <| mvd rfl rfl <| ite_k h (fun b53 h => gf rfl b53 <| gf rfl b53 <| st rfl <| pick1 rfl b53 (cd := cB) (v := true) rfl rfl <| seqN [(1, .d ((cLs cI rfl).enc v1)), (12, .d ((cLs cI rfl).enc v1)), (13, .d (cI.enc (v1.length : Int))), (14, .d (cI.enc (k36 : Int))), (23, .d (cB.enc true))] (by kernel_rfl) <|
    xn <| cnd1 rfl rfl <| wpC_seq <| reg_s <| x_asg (sc cB false rfl) <| seqN [(4, .d (cB.enc false))] (by kernel_rfl) <|
    xn <| wpC_ret <| rb <| rt <| rt <| rt <| rb <| rt <| rt <| re <| fin h (r1 (ss rfl rfl) <| r0) rfl)
    (fun b53 h => gt' rfl b53 <| st rfl <| mvd rfl rfl <| gt' rfl b53 <| st rfl <| b_gtr (k := .i64) rfl rfl <| st rfl <| pick0 rfl b53 (cd := cB) (v := (decide ((100 : Int) < x37))) rfl rfl <| seqN [(1, .d ((cLs cI rfl).enc v1)), (12, .d ((cLs cI rfl).enc v1)), (13, .d (cI.enc (v1.length : Int))), (14, .d (cI.enc (k36 : Int))), (23, .d (cB.enc (decide ((100 : Int) < x37))))] (by kernel_rfl) <|
    xn <| cnd rfl h (fun b54 h => wpC_seq <| reg_s <| x_asg (sc cB false rfl) <| seqN [(4, .d (cB.enc false))] (by kernel_rfl) <|
    xn <| wpC_ret <| rb <| rt <| rt <| rt <| rb <| rt <| rt <| re <| fin h (r1 (ss rfl rfl) <| r0) rfl)
    (fun b54 h => wpC_skip <| xbb <| kpN [(1, .d ((cLs cI rfl).enc v1)), (12, .d ((cLs cI rfl).enc v1)), (13, .d (cI.enc (v1.length : Int))), (14, .d (cI.enc (k36 : Int)))] (by kernel_rfl) <| xn <| reg_s <| st rfl <| b_inc rfl rfl l34 hk38 <| st rfl <| mvd rfl rfl <| seqN [(1, .d ((cLs cI rfl).enc v1)), (12, .d ((cLs cI rfl).enc v1)), (13, .d (cI.enc (v1.length : Int))), (14, .d (cI.enc ((k36 + 1 : Nat) : Int)))] (by kernel_rfl) <|
    xn <| hn47 () h))))

def rs_impl_isMendable (r : Bool) : List D := [cB.enc r]
def m84 : MC := .seq (.reg [⟨some 6, .asg (.c (.bool false)), none⟩] [0, 1, 2])
  (.seq (.reg [⟨some 7, .mv (.t 0), none⟩,
    ⟨some 8, .call 73 [(.t 7)], none⟩,
    ⟨some 9, .mv (.t 8), none⟩,
    ⟨some 10, .mv (.t 0), some (9, true)⟩,
    ⟨some 11, .mv (.t 1), some (9, true)⟩,
    ⟨some 12, .call 64 [(.t 10), (.t 11)], some (9, true)⟩,
    ⟨some 13, .pick (.t 9) (.t 12) (.c (.bool false)), none⟩,
    ⟨some 14, .mv (.t 13), none⟩,
    ⟨some 15, .mv (.t 0), some (14, true)⟩,
    ⟨some 16, .mv (.t 2), some (14, true)⟩,
    ⟨some 17, .call 139 [(.t 15), (.t 16)], some (14, true)⟩,
    ⟨some 18, .pick (.t 14) (.t 17) (.c (.bool false)), none⟩,
    ⟨some 6, .asg (.t 18), none⟩] [6])
  (.ret))
theorem con_impl_isMendable {v0 : (List XVariable)} {v1 : (List XEdit)} {v2 : (List Int)} {r : Bool} (h : sh_impl_isMendable v0 v1 v2 = some r) : Con Try.prog 84 [(cLs (cXVariable cS cI) rfl).enc v0, (cLs (cXEdit (cLs cI rfl)) rfl).enc v1, (cLs cI rfl).enc v2] [] (rs_impl_isMendable r) := by
  delta sh_impl_isMendable at h
  refine top (out := none) (f := Try.f84) (m := m84) (rs := [.t 6]) (by kernel_rfl) rfl (by kernel_rfl) (by kernel_rfl) (by kernel_rfl) (by kernel_rfl) (by kernel_rfl) ?_
  exact
   ini [(0, .d ((cLs (cXVariable cS cI) rfl).enc v0)), (1, .d ((cLs (cXEdit (cLs cI rfl)) rfl).enc v1)), (2, .d ((cLs cI rfl).enc v2))] rfl <| wpC_seq <| reg_s <| x_asg (sc cB false rfl) <| seqN [(0, .d ((cLs (cXVariable cS cI) rfl).enc v0)), (1, .d ((cLs (cXEdit (cLs cI rfl)) rfl).enc v1)), (2, .d ((cLs cI rfl).enc v2))] (by kernel_rfl) <|
    xn <| wpC_seq <| reg_s <| st rfl <| mvd rfl rfl <| bnd h fun x9 e10 h => st rfl <| o_call (a1 (c := (cLs (cXVariable cS cI) rfl)) (tLs (tXVariable tS tK)) rfl a0) (con_impl_isSmall e10) (.inl (so1 sB so0)) <| st rfl <| mvd rfl rfl <| ite_k h (fun b11 h => gt' rfl b11 <| st rfl <| mvd rfl rfl <| gt' rfl b11 <| st rfl <| mvd rfl rfl <| gt' rfl b11 <| bnd h fun x12 e13 h => st rfl <| o_call (a1 (c := (cLs (cXVariable cS cI) rfl)) (tLs (tXVariable tS tK)) rfl (a1 (c := (cLs (cXEdit (cLs cI rfl)) rfl)) (tLs (tXEdit (tLs tK))) rfl a0)) (con_impl_areEdits e13) (.inl (so1 sB so0)) <| st rfl <| pick1 rfl b11 (cd := cB) (v := x12) rfl rfl <| st rfl <| mvd rfl rfl <| ite_k h (fun b14 h => gt' rfl b14 <| st rfl <| mvd rfl rfl <| gt' rfl b14 <| st rfl <| mvd rfl rfl <| gt' rfl b14 <| bnd h fun x15 e16 h => st rfl <| o_call (a1 (c := (cLs (cXVariable cS cI) rfl)) (tLs (tXVariable tS tK)) rfl (a1 (c := (cLs cI rfl)) (tLs tK) rfl a0)) (con_impl_areWeights e16) (.inl (so1 sB so0)) <| st rfl <| pick1 rfl b14 (cd := cB) (v := x15) rfl rfl <| x_asg (ss rfl rfl) <| seqN [(6, .d (cB.enc x15))] (by kernel_rfl) <|
    xn <| wpC_ret <| re <| fin h (r1 (ss rfl rfl) <| r0) rfl)
    (fun b14 h => gf rfl b14 <| gf rfl b14 <| gf rfl b14 <| st rfl <| pick0 rfl b14 (cd := cB) (v := false) rfl rfl <| x_asg (ss rfl rfl) <| seqN [(6, .d (cB.enc false))] (by kernel_rfl) <|
    xn <| wpC_ret <| re <| fin h (r1 (ss rfl rfl) <| r0) rfl))
    (fun b11 h => gf rfl b11 <| gf rfl b11 <| gf rfl b11 <| st rfl <| pick0 rfl b11 (cd := cB) (v := false) rfl rfl <| st rfl <| mvd rfl rfl <| gf rfl rfl <| gf rfl rfl <| gf rfl rfl <| st rfl <| pick0 rfl rfl (cd := cB) (v := false) rfl rfl <| x_asg (ss rfl rfl) <| seqN [(6, .d (cB.enc false))] (by kernel_rfl) <|
    xn <| wpC_ret <| re <| fin h (r1 (ss rfl rfl) <| r0) rfl)

def rs_impl_weightOf (r : Int) : List D := [cI.enc r]
def m86 : MC := .seq (.reg [⟨some 4, .asg (.c (.int .i64 0)), none⟩] [0, 1])
  (.seq (.reg [⟨some 5, .asg (.c (.int .i64 0)), none⟩] [0, 1, 5])
  (.seq (.kp [5] (.seq (.reg [⟨some 8, .mv (.t 1), none⟩,
    ⟨some 9, .len false (.t 8), none⟩,
    ⟨some 10, .mv (.c (.int .i64 0)), none⟩] [0, 1, 5, 8, 9, 10])
  (.blk 0 (.loop (.seq (.reg [⟨some 11, .bin .lss (.t 10) (.t 9), none⟩] [0, 1, 5, 8, 9, 10, 11])
  (.seq (.kp [0, 1, 5, 8, 9, 10] (.cond (.t 11) (.skip) (.exit 0)))
  (.seq (.kp [0, 1, 5, 8, 9, 10] (.blk 1 (.seq (.reg [⟨some 12, .ia 8 (.t 10) 1, none⟩,
    ⟨some 13, .ld 12 1 false, none⟩,
    ⟨some 7, .asg (.t 13), none⟩] [0, 1, 5, 7, 8, 9, 10])
  (.reg [⟨some 14, .mv (.t 5), none⟩,
    ⟨some 15, .mv (.t 0), none⟩,
    ⟨some 16, .mv (.t 7), none⟩,
    ⟨some 17, .ia 15 (.t 16) 1, none⟩,
    ⟨some 18, .ld 17 1 false, none⟩,
    ⟨some 19, .bin .add (.t 14) (.t 18), none⟩,
    ⟨some 5, .asg (.t 19), none⟩] [0, 1, 5, 8, 9, 10]))))
  (.reg [⟨some 20, .bin .add (.t 10) (.c (.int .i64 1)), none⟩,
    ⟨some 10, .mv (.t 20), none⟩] [0, 1, 5, 8, 9, 10]))))))))
  (.seq (.reg [⟨some 21, .mv (.t 5), none⟩,
    ⟨some 4, .asg (.t 21), none⟩] [4])
  (.ret))))
theorem con_impl_weightOf {v0 : (List Int)} {v1 : (List Int)} {r : Int} (h : sh_impl_weightOf v0 v1 = some r) : Con Try.prog 86 [(cLs cI rfl).enc v0, (cLs cI rfl).enc v1] [] (rs_impl_weightOf r) := by
  delta sh_impl_weightOf at h
  refine top (out := none) (f := Try.f86) (m := m86) (rs := [.t 4]) (by kernel_rfl) rfl (by kernel_rfl) (by kernel_rfl) (by kernel_rfl) (by kernel_rfl) (by kernel_rfl) ?_
  exact
   ini [(0, .d ((cLs cI rfl).enc v0)), (1, .d ((cLs cI rfl).enc v1))] rfl <| wpC_seq <| reg_s <| x_asg (sc cI (0 : Int) rfl) <| seqN [(0, .d ((cLs cI rfl).enc v0)), (1, .d ((cLs cI rfl).enc v1))] (by kernel_rfl) <|
    xn <| wpC_seq <| reg_s <| x_asg (sc cI (0 : Int) rfl) <| seqN [(0, .d ((cLs cI rfl).enc v0)), (1, .d ((cLs cI rfl).enc v1)), (5, .d (cI.enc (0 : Int)))] (by kernel_rfl) <|
    xn <| wpC_seq <| wpC_kp <| wpC_seq <| reg_s <| st rfl <| mvd rfl rfl <| stw rfl <| lens rfl fun l36 => st rfl <| mvc cI (0 : Int) rfl <| seqN [(0, .d ((cLs cI rfl).enc v0)), (1, .d ((cLs cI rfl).enc v1)), (5, .d (cI.enc (0 : Int))), (8, .d ((cLs cI rfl).enc v1)), (9, .d (cI.enc (v1.length : Int))), (10, .d (cI.enc (0 : Int)))] (by kernel_rfl) <|
    xn <| wpC_blk <| lpR (fun (k38 : Nat) (s37 : Int) => [(0, .d ((cLs cI rfl).enc v0)), (1, .d ((cLs cI rfl).enc v1)), (5, .d (cI.enc s37)), (8, .d ((cLs cI rfl).enc v1)), (9, .d (cI.enc (v1.length : Int))), (10, .d (cI.enc (k38 : Int)))]) (0 : Int) rfl h
    (fun G60 s37 h => wpC_seq <| reg_s <| st rfl <| b_lss (k := .i64) rfl rfl <| seqN [(0, .d ((cLs cI rfl).enc v0)), (1, .d ((cLs cI rfl).enc v1)), (5, .d (cI.enc s37)), (8, .d ((cLs cI rfl).enc v1)), (9, .d (cI.enc (v1.length : Int))), (10, .d (cI.enc (v1.length : Int))), (11, .d (cB.enc (decide ((v1.length : Int) < (v1.length : Int)))))] (by kernel_rfl) <|
    xn <| wpC_seq <| wpC_kp <| cnd0 rfl (dlf _) <| wpC_exit <| xt <| xt <| xt <| xb <| kpN [(5, .d (cI.enc s37))] (by kernel_rfl) <| xn <| wpC_seq <| reg_s <| st rfl <| mvd rfl rfl <| x_asg (ss rfl rfl) <| seqN [(4, .d (cI.enc s37))] (by kernel_rfl) <|
    xn <| wpC_ret <| re <| fin h (r1 (ss rfl rfl) <| r0) rfl)
    (fun G60 nx58 k38 s37 x39 hk40 hx41 hn59 h => wpC_seq <| reg_s <| st rfl <| b_lss (k := .i64) rfl rfl <| seqN [(0, .d ((cLs cI rfl).enc v0)), (1, .d ((cLs cI rfl).enc v1)), (5, .d (cI.enc s37)), (8, .d ((cLs cI rfl).enc v1)), (9, .d (cI.enc (v1.length : Int))), (10, .d (cI.enc (k38 : Int))), (11, .d (cB.enc (decide ((k38 : Int) < (v1.length : Int)))))] (by kernel_rfl) <|
    xn <| wpC_seq <| wpC_kp <| cnd1 rfl (dlt hk40) <| wpC_skip <| kpN [(0, .d ((cLs cI rfl).enc v0)), (1, .d ((cLs cI rfl).enc v1)), (5, .d (cI.enc s37)), (8, .d ((cLs cI rfl).enc v1)), (9, .d (cI.enc (v1.length : Int))), (10, .d (cI.enc (k38 : Int)))] (by kernel_rfl) <| xn <| wpC_seq <| wpC_kp <| wpC_blk <| wpC_seq <| reg_s <| st rfl <| ias rfl rfl (Int.natCast_nonneg _) hx41 rfl <| st rfl <| ldi rfl rfl rfl rfl <| x_asg (ss rfl rfl) <| seqN [(0, .d ((cLs cI rfl).enc v0)), (1, .d ((cLs cI rfl).enc v1)), (5, .d (cI.enc s37)), (7, .d (cI.enc x39)), (8, .d ((cLs cI rfl).enc v1)), (9, .d (cI.enc (v1.length : Int))), (10, .d (cI.enc (k38 : Int)))] (by kernel_rfl) <|
    xn <| reg_s <| st rfl <| mvd rfl rfl <| st rfl <| mvd rfl rfl <| st rfl <| mvd rfl rfl <| getO_k h fun x65 i66 g67 h => st rfl <| ias rfl rfl i66 g67 rfl <| st rfl <| ldi rfl rfl rfl rfl <| ckI_k h fun i68 h => st rfl <| b_add (k := .i64) rfl rfl i68 <| x_asg (ss rfl rfl) <| seqN [(0, .d ((cLs cI rfl).enc v0)), (1, .d ((cLs cI rfl).enc v1)), (5, .d (cI.enc (s37 + x65))), (8, .d ((cLs cI rfl).enc v1)), (9, .d (cI.enc (v1.length : Int))), (10, .d (cI.enc (k38 : Int)))] (by kernel_rfl) <|
    xbb <| kpN [(0, .d ((cLs cI rfl).enc v0)), (1, .d ((cLs cI rfl).enc v1)), (5, .d (cI.enc (s37 + x65))), (8, .d ((cLs cI rfl).enc v1)), (9, .d (cI.enc (v1.length : Int))), (10, .d (cI.enc (k38 : Int)))] (by kernel_rfl) <| xn <| reg_s <| st rfl <| b_inc rfl rfl l36 hk40 <| st rfl <| mvd rfl rfl <| seqN [(0, .d ((cLs cI rfl).enc v0)), (1, .d ((cLs cI rfl).enc v1)), (5, .d (cI.enc (s37 + x65))), (8, .d ((cLs cI rfl).enc v1)), (9, .d (cI.enc (v1.length : Int))), (10, .d (cI.enc ((k38 + 1 : Nat) : Int)))] (by kernel_rfl) <|
    xn <| hn59 (s37 + x65) h)

def rs_impl_cheapestChange_1 (r : Int) : List D := [cI.enc r]
def m140 : MC := .seq (.reg [⟨some 3, .asg (.c (.int .i64 0)), none⟩] [0, 1])
  (.seq (.reg [⟨some 4, .ld 1 1 false, none⟩,
    ⟨some 5, .mv (.t 0), none⟩,
    ⟨some 6, .call 86 [(.t 4), (.t 5)], none⟩,
    ⟨some 3, .asg (.t 6), none⟩] [3])
  (.ret))
theorem con_impl_cheapestChange_1 {v0 : (List Int)} {v1 : (List Int)} {r : Int} (h : sh_impl_cheapestChange_1 v0 v1 = some r) : Con Try.prog 140 [(cLs cI rfl).enc v0, (cP false (cLs cI rfl)).enc v1] [] (rs_impl_cheapestChange_1 r) := by
  delta sh_impl_cheapestChange_1 at h
  refine top (out := none) (f := Try.f140) (m := m140) (rs := [.t 3]) (by kernel_rfl) rfl (by kernel_rfl) (by kernel_rfl) (by kernel_rfl) (by kernel_rfl) (by kernel_rfl) ?_
  exact
   ini [(0, .d ((cLs cI rfl).enc v0)), (1, .ima ((cLs cI rfl).enc v1))] rfl <| wpC_seq <| reg_s <| x_asg (sc cI (0 : Int) rfl) <| seqN [(0, .d ((cLs cI rfl).enc v0)), (1, .ima ((cLs cI rfl).enc v1))] (by kernel_rfl) <|
    xn <| wpC_seq <| reg_s <| st rfl <| ldi rfl rfl rfl rfl <| st rfl <| mvd rfl rfl <| bnd h fun x3 e4 h => st rfl <| o_call (a1 (c := (cLs cI rfl)) (tLs tK) rfl (a1 (c := (cLs cI rfl)) (tLs tK) rfl a0)) (con_impl_weightOf e4) (.inl (so1 sK so0)) <| x_asg (ss rfl rfl) <| seqN [(3, .d (cI.enc x3))] (by kernel_rfl) <|
    xn <| wpC_ret <| re <| fin h (r1 (ss rfl rfl) <| r0) rfl

def rs_impl_leastCover_impl_cheapestChange_1 (r : ((List Int) × Bool)) : List D := [(cLo cI).enc r.1, cB.enc r.2]
def m80_140 : MC := .seq (.reg [⟨some 8, .asg (.c (.slice true [])), none⟩,
    ⟨some 9, .asg (.c (.bool false)), none⟩] [0, 1, 2, 3])
  (.seq (.reg [⟨some 10, .asg (.c (.slice true [])), none⟩] [0, 1, 2, 3, 10])
  (.seq (.reg [⟨some 11, .asg (.c (.bool false)), none⟩] [0, 1, 2, 3, 10, 11])
  (.seq (.kp [10, 11] (.seq (.reg [⟨some 14, .mv (.t 0), none⟩,
    ⟨some 15, .len false (.t 14), none⟩,
    ⟨some 16, .bin .shl (.c (.int .i64 1)) (.t 15), none⟩,
    ⟨some 17, .mv (.c (.int .i64 0)), none⟩] [0, 1, 2, 3, 10, 11, 16, 17])
  (.blk 0 (.loop (.seq (.reg [⟨some 18, .bin .lss (.t 17) (.t 16), none⟩] [0, 1, 2, 3, 10, 11, 16, 17, 18])
  (.seq (.kp [0, 1, 2, 3, 10, 11, 16, 17] (.cond (.t 18) (.skip) (.exit 0)))
  (.seq (.kp [0, 1, 2, 3, 10, 11, 16, 17] (.blk 1 (.seq (.reg [⟨some 19, .mv (.t 17), none⟩,
    ⟨some 12, .asg (.t 19), none⟩] [0, 1, 2, 3, 10, 11, 12, 16, 17])
  (.seq (.reg [⟨some 20, .mv (.t 12), none⟩,
    ⟨some 21, .call 132 [(.t 20)], none⟩,
    ⟨some 13, .asg (.t 21), none⟩] [0, 1, 2, 3, 10, 11, 13, 16, 17])
  (.seq (.kp [0, 1, 2, 3, 10, 11, 13, 16, 17] (.seq (.reg [⟨some 22, .mv (.t 11), none⟩,
    ⟨some 23, .mv (.t 22), none⟩,
    ⟨some 24, .mv (.t 3), some (23, true)⟩,
    ⟨some 25, .mv (.t 13), some (23, true)⟩,
    ⟨some 26, .callf 24 [(false, (.t 25))], some (23, true)⟩,
    ⟨some 27, .mv (.t 3), some (23, true)⟩,
    ⟨some 28, .mv (.t 10), some (23, true)⟩,
    ⟨some 29, .callf 27 [(false, (.t 28))], some (23, true)⟩,
    ⟨some 30, .call 134 [(.t 26), (.t 29)], some (23, true)⟩,
    ⟨some 31, .mv (.t 13), some (23, true)⟩,
    ⟨some 32, .len false (.t 31), some (23, true)⟩,
    ⟨some 33, .mv (.t 10), some (23, true)⟩,
    ⟨some 34, .len false (.t 33), some (23, true)⟩,
    ⟨some 35, .call 134 [(.t 32), (.t 34)], some (23, true)⟩,
    ⟨some 36, .mv (.t 13), some (23, true)⟩,
    ⟨some 37, .mv (.t 10), some (23, true)⟩,
    ⟨some 38, .call 135 [(.t 36), (.t 37)], some (23, true)⟩,
    ⟨some 39, .bsl [(.t 30), (.t 35), (.t 38)] 1, some (23, true)⟩,
    ⟨some 40, .call 133 [(.t 39)], some (23, true)⟩,
    ⟨some 41, .bin .geq (.t 40) (.c (.int .i64 0)), some (23, true)⟩,
    ⟨some 42, .pick (.t 23) (.t 41) (.c (.bool false)), none⟩] [0, 1, 2, 3, 10, 11, 13, 16, 17, 42])
  (.cond (.t 42) (.exit 1) (.skip))))
  (.seq (.reg [⟨some 43, .mv (.t 0), none⟩,
    ⟨some 44, .mv (.t 1), none⟩,
    ⟨some 45, .mv (.t 0), none⟩,
    ⟨some 46, .mv (.t 13), none⟩,
    ⟨some 47, .call 94 [(.t 45), (.t 46)], none⟩,
    ⟨some 48, .mv (.t 2), none⟩,
    ⟨some 49, .call 76 [(.t 43), (.t 44), (.t 47), (.t 48)], none⟩,
    ⟨some 50, .eqn true (.t 49), none⟩] [0, 1, 2, 3, 10, 11, 13, 16, 17, 50])
  (.cond (.t 50) (.reg [⟨some 51, .mv (.t 13), none⟩,
    ⟨some 10, .asg (.t 51), none⟩,
    ⟨some 11, .asg (.c (.bool true)), none⟩] [0, 1, 2, 3, 10, 11, 16, 17]) (.skip))))))))
  (.reg [⟨some 52, .bin .add (.t 17) (.c (.int .i64 1)), none⟩,
    ⟨some 17, .mv (.t 52), none⟩] [0, 1, 2, 3, 10, 11, 16, 17]))))))))
  (.seq (.reg [⟨some 53, .mv (.t 10), none⟩,
    ⟨some 54, .mv (.t 11), none⟩,
    ⟨some 8, .asg (.t 53), none⟩,
    ⟨some 9, .asg (.t 54), none⟩] [8, 9])
  (.ret)))))
theorem con_impl_leastCover_impl_cheapestChange_1 {v0 : (List XVariable)} {v1 : (List XEdit)} {v2 : (List Int)} {v3 : (List Int)} {r : ((List Int) × Bool)} (h : sh_impl_leastCover_impl_cheapestChange_1 v0 v1 v2 v3 = some r) : Con Try.prog 80 [(cLs (cXVariable cS cI) rfl).enc v0, (cLs (cXEdit (cLs cI rfl)) rfl).enc v1, (cLs cI rfl).enc v2, (cFn 140 (fun (v : (List Int)) => [.ptr false ((cLs cI rfl).enc v)]) true (fun _ => (im1 rfl im0))).enc v3] [] (rs_impl_leastCover_impl_cheapestChange_1 r) := by
  delta sh_impl_leastCover_impl_cheapestChange_1 at h
  refine top (out := none) (f := Try.f80) (m := m80_140) (rs := [.t 8, .t 9]) (by kernel_rfl) rfl (by kernel_rfl) (by kernel_rfl) (by kernel_rfl) (by kernel_rfl) (by kernel_rfl) ?_
  exact
   ini [(0, .d ((cLs (cXVariable cS cI) rfl).enc v0)), (1, .d ((cLs (cXEdit (cLs cI rfl)) rfl).enc v1)), (2, .d ((cLs cI rfl).enc v2)), (3, .d ((cFn 140 (fun (v : (List Int)) => [.ptr false ((cLs cI rfl).enc v)]) true (fun _ => (im1 rfl im0))).enc v3))] rfl <| wpC_seq <| reg_s <| x_asg (sc (cLo cI) ([] : List Int) rfl) <| x_asg (sc cB false rfl) <| seqN [(0, .d ((cLs (cXVariable cS cI) rfl).enc v0)), (1, .d ((cLs (cXEdit (cLs cI rfl)) rfl).enc v1)), (2, .d ((cLs cI rfl).enc v2)), (3, .d ((cFn 140 (fun (v : (List Int)) => [.ptr false ((cLs cI rfl).enc v)]) true (fun _ => (im1 rfl im0))).enc v3))] (by kernel_rfl) <|
    xn <| wpC_seq <| reg_s <| x_asg (sc (cLo cI) ([] : List Int) rfl) <| seqN [(0, .d ((cLs (cXVariable cS cI) rfl).enc v0)), (1, .d ((cLs (cXEdit (cLs cI rfl)) rfl).enc v1)), (2, .d ((cLs cI rfl).enc v2)), (3, .d ((cFn 140 (fun (v : (List Int)) => [.ptr false ((cLs cI rfl).enc v)]) true (fun _ => (im1 rfl im0))).enc v3)), (10, .d ((cLo cI).enc ([] : List Int)))] (by kernel_rfl) <|
    xn <| wpC_seq <| reg_s <| x_asg (sc cB false rfl) <| seqN [(0, .d ((cLs (cXVariable cS cI) rfl).enc v0)), (1, .d ((cLs (cXEdit (cLs cI rfl)) rfl).enc v1)), (2, .d ((cLs cI rfl).enc v2)), (3, .d ((cFn 140 (fun (v : (List Int)) => [.ptr false ((cLs cI rfl).enc v)]) true (fun _ => (im1 rfl im0))).enc v3)), (10, .d ((cLo cI).enc ([] : List Int))), (11, .d (cB.enc false))] (by kernel_rfl) <|
    xn <| wpC_seq <| wpC_kp <| wpC_seq <| reg_s <| st rfl <| mvd rfl rfl <| stw rfl <| lens rfl fun l382 => ck_k h fun i383 h => ckI_k h fun i384 h => st rfl <| b_shl (k := .i64) (k' := .i64) rfl rfl i383 rfl i384 <| st rfl <| mvc cI (0 : Int) rfl <| seqN [(0, .d ((cLs (cXVariable cS cI) rfl).enc v0)), (1, .d ((cLs (cXEdit (cLs cI rfl)) rfl).enc v1)), (2, .d ((cLs cI rfl).enc v2)), (3, .d ((cFn 140 (fun (v : (List Int)) => [.ptr false ((cLs cI rfl).enc v)]) true (fun _ => (im1 rfl im0))).enc v3)), (10, .d ((cLo cI).enc ([] : List Int))), (11, .d (cB.enc false)), (16, .d (cI.enc ((1 : Int) * 2 ^ ((v0.length : Int)).toNat))), (17, .d (cI.enc (0 : Int)))] (by kernel_rfl) <|
    xn <| wpC_blk <| lpF (fun (s385 : ((List Int) × Bool × Int)) => [(0, .d ((cLs (cXVariable cS cI) rfl).enc v0)), (1, .d ((cLs (cXEdit (cLs cI rfl)) rfl).enc v1)), (2, .d ((cLs cI rfl).enc v2)), (3, .d ((cFn 140 (fun (v : (List Int)) => [.ptr false ((cLs cI rfl).enc v)]) true (fun _ => (im1 rfl im0))).enc v3)), (10, .d ((cLo cI).enc s385.1)), (11, .d (cB.enc s385.2.1)), (16, .d (cI.enc ((1 : Int) * 2 ^ ((v0.length : Int)).toNat))), (17, .d (cI.enc s385.2.2))]) (([] : List Int), false, (0 : Int)) rfl h
    fun G591 nx589 s385 hn590 h => wpC_seq <| reg_s <| st rfl <| b_lss (k := .i64) rfl rfl <| seqN [(0, .d ((cLs (cXVariable cS cI) rfl).enc v0)), (1, .d ((cLs (cXEdit (cLs cI rfl)) rfl).enc v1)), (2, .d ((cLs cI rfl).enc v2)), (3, .d ((cFn 140 (fun (v : (List Int)) => [.ptr false ((cLs cI rfl).enc v)]) true (fun _ => (im1 rfl im0))).enc v3)), (10, .d ((cLo cI).enc s385.1)), (11, .d (cB.enc s385.2.1)), (16, .d (cI.enc ((1 : Int) * 2 ^ ((v0.length : Int)).toNat))), (17, .d (cI.enc s385.2.2)), (18, .d (cB.enc (decide (s385.2.2 < ((1 : Int) * 2 ^ ((v0.length : Int)).toNat)))))] (by kernel_rfl) <|
    xn <| wpC_seq <| wpC_kp <| cnd rfl h (fun b593 h => wpC_skip <| kpN [(0, .d ((cLs (cXVariable cS cI) rfl).enc v0)), (1, .d ((cLs (cXEdit (cLs cI rfl)) rfl).enc v1)), (2, .d ((cLs cI rfl).enc v2)), (3, .d ((cFn 140 (fun (v : (List Int)) => [.ptr false ((cLs cI rfl).enc v)]) true (fun _ => (im1 rfl im0))).enc v3)), (10, .d ((cLo cI).enc s385.1)), (11, .d (cB.enc s385.2.1)), (16, .d (cI.enc ((1 : Int) * 2 ^ ((v0.length : Int)).toNat))), (17, .d (cI.enc s385.2.2))] (by kernel_rfl) <| xn <| wpC_seq <| wpC_kp <| wpC_blk <| wpC_seq <| reg_s <| st rfl <| mvd rfl rfl <| x_asg (ss rfl rfl) <| seqN [(0, .d ((cLs (cXVariable cS cI) rfl).enc v0)), (1, .d ((cLs (cXEdit (cLs cI rfl)) rfl).enc v1)), (2, .d ((cLs cI rfl).enc v2)), (3, .d ((cFn 140 (fun (v : (List Int)) => [.ptr false ((cLs cI rfl).enc v)]) true (fun _ => (im1 rfl im0))).enc v3)), (10, .d ((cLo cI).enc s385.1)), (11, .d (cB.enc s385.2.1)), (12, .d (cI.enc s385.2.2)), (16, .d (cI.enc ((1 : Int) * 2 ^ ((v0.length : Int)).toNat))), (17, .d (cI.enc s385.2.2))] (by kernel_rfl) <|
    xn <| wpC_seq <| reg_s <| st rfl <| mvd rfl rfl <| bnd h fun x676 e677 h => st rfl <| o_call (a1 (c := cI) tK rfl a0) (con_impl_membersOf e677) (.inl (so1 (sLo sK) so0)) <| x_asg (so rfl rfl) <| seqN [(0, .d ((cLs (cXVariable cS cI) rfl).enc v0)), (1, .d ((cLs (cXEdit (cLs cI rfl)) rfl).enc v1)), (2, .d ((cLs cI rfl).enc v2)), (3, .d ((cFn 140 (fun (v : (List Int)) => [.ptr false ((cLs cI rfl).enc v)]) true (fun _ => (im1 rfl im0))).enc v3)), (10, .d ((cLo cI).enc s385.1)), (11, .d (cB.enc s385.2.1)), (13, .d ((cLo cI).enc x676)), (16, .d (cI.enc ((1 : Int) * 2 ^ ((v0.length : Int)).toNat))), (17, .d (cI.enc s385.2.2))] (by kernel_rfl) <|
    xn <| sqj (fun (s709 : Unit) => [(0, .d ((cLs (cXVariable cS cI) rfl).enc v0)), (1, .d ((cLs (cXEdit (cLs cI rfl)) rfl).enc v1)), (2, .d ((cLs cI rfl).enc v2)), (3, .d ((cFn 140 (fun (v : (List Int)) => [.ptr false ((cLs cI rfl).enc v)]) true (fun _ => (im1 rfl im0))).enc v3)), (10, .d ((cLo cI).enc s385.1)), (11, .d (cB.enc s385.2.1)), (13, .d ((cLo cI).enc x676)), (16, .d (cI.enc ((1 : Int) * 2 ^ ((v0.length : Int)).toNat))), (17, .d (cI.enc s385.2.2))]) h (fun s709 h => wpC_seq <| reg_s <| st rfl <| mvd rfl rfl <| st rfl <| mvd rfl rfl <| st rfl <| mvd rfl rfl <| st rfl <| mvo rfl rfl <| bnd h fun x717 e718 h => st rfl <| o_call (a1 (c := (cLs (cXVariable cS cI) rfl)) (tLs (tXVariable tS tK)) rfl (a1 (c := (cLo cI)) (tLo tK) rfl a0)) (con_impl_otherVars e718) (.inl (so1 (sLo sK) so0)) <| st rfl <| mvd rfl rfl <| bnd h fun x719 e720 h => st rfl <| o_call (a1 (c := (cLs (cXVariable cS cI) rfl)) (tLs (tXVariable tS tK)) rfl (a1 (c := (cLs (cXEdit (cLs cI rfl)) rfl)) (tLs (tXEdit (tLs tK))) rfl (a1 (c := (cLo cI)) (tLo tK) rfl (a1 (c := (cLs cI rfl)) (tLs tK) rfl a0)))) (con_impl_completionOf e720) (.inl (so1 (sNo sK) so0)) <| ck_k h fun i721 h => st rfl <| eqN true rfl i721 <| seqN [(0, .d ((cLs (cXVariable cS cI) rfl).enc v0)), (1, .d ((cLs (cXEdit (cLs cI rfl)) rfl).enc v1)), (2, .d ((cLs cI rfl).enc v2)), (3, .d ((cFn 140 (fun (v : (List Int)) => [.ptr false ((cLs cI rfl).enc v)]) true (fun _ => (im1 rfl im0))).enc v3)), (10, .d ((cLo cI).enc s385.1)), (11, .d (cB.enc s385.2.1)), (13, .d ((cLo cI).enc x676)), (16, .d (cI.enc ((1 : Int) * 2 ^ ((v0.length : Int)).toNat))), (17, .d (cI.enc s385.2.2)), (50, .d (cB.enc (x719.isSome)))] (by kernel_rfl) <|
    xn <| cnd rfl h (fun b722 h => reg_s <| st rfl <| mvo rfl rfl <| x_asg (sr rfl rfl) <| x_asg (sc cB true rfl) <| seqN [(0, .d ((cLs (cXVariable cS cI) rfl).enc v0)), (1, .d ((cLs (cXEdit (cLs cI rfl)) rfl).enc v1)), (2, .d ((cLs cI rfl).enc v2)), (3, .d ((cFn 140 (fun (v : (List Int)) => [.ptr false ((cLs cI rfl).enc v)]) true (fun _ => (im1 rfl im0))).enc v3)), (10, .d ((cLo cI).enc x676)), (11, .d (cB.enc true)), (16, .d (cI.enc ((1 : Int) * 2 ^ ((v0.length : Int)).toNat))), (17, .d (cI.enc s385.2.2))] (by kernel_rfl) <|
    xbb <| kpN [(0, .d ((cLs (cXVariable cS cI) rfl).enc v0)), (1, .d ((cLs (cXEdit (cLs cI rfl)) rfl).enc v1)), (2, .d ((cLs cI rfl).enc v2)), (3, .d ((cFn 140 (fun (v : (List Int)) => [.ptr false ((cLs cI rfl).enc v)]) true (fun _ => (im1 rfl im0))).enc v3)), (10, .d ((cLo cI).enc x676)), (11, .d (cB.enc true)), (16, .d (cI.enc ((1 : Int) * 2 ^ ((v0.length : Int)).toNat))), (17, .d (cI.enc s385.2.2))] (by kernel_rfl) <| xn <| reg_s <| ckI_k h fun i723 h => st rfl <| b_add (k := .i64) rfl rfl i723 <| st rfl <| mvd rfl rfl <| seqN [(0, .d ((cLs (cXVariable cS cI) rfl).enc v0)), (1, .d ((cLs (cXEdit (cLs cI rfl)) rfl).enc v1)), (2, .d ((cLs cI rfl).enc v2)), (3, .d ((cFn 140 (fun (v : (List Int)) => [.ptr false ((cLs cI rfl).enc v)]) true (fun _ => (im1 rfl im0))).enc v3)), (10, .d ((cLo cI).enc x676)), (11, .d (cB.enc true)), (16, .d (cI.enc ((1 : Int) * 2 ^ ((v0.length : Int)).toNat))), (17, .d (cI.enc (s385.2.2 + (1 : Int))))] (by kernel_rfl) <|
    xn <| hn590 (x676, true, (s385.2.2 + (1 : Int))) h)
    (fun b722 h => wpC_skip <| xbb <| kpN [(0, .d ((cLs (cXVariable cS cI) rfl).enc v0)), (1, .d ((cLs (cXEdit (cLs cI rfl)) rfl).enc v1)), (2, .d ((cLs cI rfl).enc v2)), (3, .d ((cFn 140 (fun (v : (List Int)) => [.ptr false ((cLs cI rfl).enc v)]) true (fun _ => (im1 rfl im0))).enc v3)), (10, .d ((cLo cI).enc s385.1)), (11, .d (cB.enc s385.2.1)), (16, .d (cI.enc ((1 : Int) * 2 ^ ((v0.length : Int)).toNat))), (17, .d (cI.enc s385.2.2))] (by kernel_rfl) <| xn <| reg_s <| ckI_k h fun i724 h => st rfl <| b_add (k := .i64) rfl rfl i724 <| st rfl <| mvd rfl rfl <| seqN [(0, .d ((cLs (cXVariable cS cI) rfl).enc v0)), (1, .d ((cLs (cXEdit (cLs cI rfl)) rfl).enc v1)), (2, .d ((cLs cI rfl).enc v2)), (3, .d ((cFn 140 (fun (v : (List Int)) => [.ptr false ((cLs cI rfl).enc v)]) true (fun _ => (im1 rfl im0))).enc v3)), (10, .d ((cLo cI).enc s385.1)), (11, .d (cB.enc s385.2.1)), (16, .d (cI.enc ((1 : Int) * 2 ^ ((v0.length : Int)).toNat))), (17, .d (cI.enc (s385.2.2 + (1 : Int))))] (by kernel_rfl) <|
    xn <| hn590 (s385.1, s385.2.1, (s385.2.2 + (1 : Int))) h))
    fun m711 h => wpC_kp <| wpC_seq <| reg_s <| st rfl <| mvd rfl rfl <| st rfl <| mvd rfl rfl <| ite_k h (fun b740 h => gt' rfl b740 <| st rfl <| mvd rfl rfl <| gt' rfl b740 <| st rfl <| mvo rfl rfl <| gt' rfl b740 <| bnd h fun x741 e742 h => x_cf (cFn 140 (fun (v : (List Int)) => [.ptr false ((cLs cI rfl).enc v)]) true (fun _ => (im1 rfl im0))) v3 (fad rfl rfl) k0 (m2 (tLo tK) rfl m0) rfl (con_impl_cheapestChange_1 e742) (cls rfl cl0) (so1 sK so0) <| gt' rfl b740 <| st rfl <| mvd rfl rfl <| gt' rfl b740 <| st rfl <| mvo rfl rfl <| gt' rfl b740 <| bnd h fun x743 e744 h => x_cf (cFn 140 (fun (v : (List Int)) => [.ptr false ((cLs cI rfl).enc v)]) true (fun _ => (im1 rfl im0))) v3 (fad rfl rfl) k0 (m2 (tLo tK) rfl m0) rfl (con_impl_cheapestChange_1 e744) (cls rfl cl0) (so1 sK so0) <| gt' rfl b740 <| bnd h fun x745 e746 h => st rfl <| o_call (a1 (c := cI) tK rfl (a1 (c := cI) tK rfl a0)) (con_cmp_Compare_int e746) (.inl (so1 sK so0)) <| gt' rfl b740 <| st rfl <| mvo rfl rfl <| gt' rfl b740 <| stw rfl <| leno rfl fun l747 => gt' rfl b740 <| st rfl <| mvo rfl rfl <| gt' rfl b740 <| stw rfl <| leno rfl fun l748 => gt' rfl b740 <| bnd h fun x749 e750 h => st rfl <| o_call (a1 (c := cI) tK rfl (a1 (c := cI) tK rfl a0)) (con_cmp_Compare_int e750) (.inl (so1 sK so0)) <| gt' rfl b740 <| st rfl <| mvo rfl rfl <| gt' rfl b740 <| st rfl <| mvo rfl rfl <| gt' rfl b740 <| bnd h fun x751 e752 h => st rfl <| o_call (a1 (c := (cLo cI)) (tLo tK) rfl (a1 (c := (cLo cI)) (tLo tK) rfl a0)) (con_slices_Compare_int e752) (.inl (so1 sK so0)) <| gt' rfl b740 <| x_bsl cI [x745, x749, x751] (t1 (ss rfl rfl) rfl (t1 (ss rfl rfl) rfl (t1 (ss rfl rfl) rfl t0))) rfl rfl <| gt' rfl b740 <| bnd h fun x753 e754 h => st rfl <| o_call (a1 (c := (cLo cI)) (tLo tK) rfl a0) (con_cmp_Or_int e754) (.inl (so1 sK so0)) <| gt' rfl b740 <| st rfl <| b_geq (k := .i64) rfl rfl <| st rfl <| pick1 rfl b740 (cd := cB) (v := (decide ((0 : Int) ≤ x753))) rfl rfl <| seqN [(0, .d ((cLs (cXVariable cS cI) rfl).enc v0)), (1, .d ((cLs (cXEdit (cLs cI rfl)) rfl).enc v1)), (2, .d ((cLs cI rfl).enc v2)), (3, .d ((cFn 140 (fun (v : (List Int)) => [.ptr false ((cLs cI rfl).enc v)]) true (fun _ => (im1 rfl im0))).enc v3)), (10, .d ((cLo cI).enc s385.1)), (11, .d (cB.enc s385.2.1)), (13, .d ((cLo cI).enc x676)), (16, .d (cI.enc ((1 : Int) * 2 ^ ((v0.length : Int)).toNat))), (17, .d (cI.enc s385.2.2)), (42, .d (cB.enc (decide ((0 : Int) ≤ x753))))] (by kernel_rfl) <|
    xn <| cnd rfl h (fun b755 h => wpC_exit <| xt <| xt <| xb <| kpN [(0, .d ((cLs (cXVariable cS cI) rfl).enc v0)), (1, .d ((cLs (cXEdit (cLs cI rfl)) rfl).enc v1)), (2, .d ((cLs cI rfl).enc v2)), (3, .d ((cFn 140 (fun (v : (List Int)) => [.ptr false ((cLs cI rfl).enc v)]) true (fun _ => (im1 rfl im0))).enc v3)), (10, .d ((cLo cI).enc s385.1)), (11, .d (cB.enc s385.2.1)), (16, .d (cI.enc ((1 : Int) * 2 ^ ((v0.length : Int)).toNat))), (17, .d (cI.enc s385.2.2))] (by kernel_rfl) <| xn <| reg_s <| ckI_k h fun i756 h => st rfl <| b_add (k := .i64) rfl rfl i756 <| st rfl <| mvd rfl rfl <| seqN [(0, .d ((cLs (cXVariable cS cI) rfl).enc v0)), (1, .d ((cLs (cXEdit (cLs cI rfl)) rfl).enc v1)), (2, .d ((cLs cI rfl).enc v2)), (3, .d ((cFn 140 (fun (v : (List Int)) => [.ptr false ((cLs cI rfl).enc v)]) true (fun _ => (im1 rfl im0))).enc v3)), (10, .d ((cLo cI).enc s385.1)), (11, .d (cB.enc s385.2.1)), (16, .d (cI.enc ((1 : Int) * 2 ^ ((v0.length : Int)).toNat))), (17, .d (cI.enc (s385.2.2 + (1 : Int))))] (by kernel_rfl) <|
    xn <| hn590 (s385.1, s385.2.1, (s385.2.2 + (1 : Int))) h)
    (fun b755 h => wpC_skip <| kpN [(0, .d ((cLs (cXVariable cS cI) rfl).enc v0)), (1, .d ((cLs (cXEdit (cLs cI rfl)) rfl).enc v1)), (2, .d ((cLs cI rfl).enc v2)), (3, .d ((cFn 140 (fun (v : (List Int)) => [.ptr false ((cLs cI rfl).enc v)]) true (fun _ => (im1 rfl im0))).enc v3)), (10, .d ((cLo cI).enc s385.1)), (11, .d (cB.enc s385.2.1)), (13, .d ((cLo cI).enc x676)), (16, .d (cI.enc ((1 : Int) * 2 ^ ((v0.length : Int)).toNat))), (17, .d (cI.enc s385.2.2))] (by kernel_rfl) <| m711 () h))
    (fun b740 h => gf rfl b740 <| gf rfl b740 <| gf rfl b740 <| gf rfl b740 <| gf rfl b740 <| gf rfl b740 <| gf rfl b740 <| gf rfl b740 <| gf rfl b740 <| gf rfl b740 <| gf rfl b740 <| gf rfl b740 <| gf rfl b740 <| gf rfl b740 <| gf rfl b740 <| gf rfl b740 <| gf rfl b740 <| gf rfl b740 <| st rfl <| pick0 rfl b740 (cd := cB) (v := false) rfl rfl <| seqN [(0, .d ((cLs (cXVariable cS cI) rfl).enc v0)), (1, .d ((cLs (cXEdit (cLs cI rfl)) rfl).enc v1)), (2, .d ((cLs cI rfl).enc v2)), (3, .d ((cFn 140 (fun (v : (List Int)) => [.ptr false ((cLs cI rfl).enc v)]) true (fun _ => (im1 rfl im0))).enc v3)), (10, .d ((cLo cI).enc s385.1)), (11, .d (cB.enc s385.2.1)), (13, .d ((cLo cI).enc x676)), (16, .d (cI.enc ((1 : Int) * 2 ^ ((v0.length : Int)).toNat))), (17, .d (cI.enc s385.2.2)), (42, .d (cB.enc false))] (by kernel_rfl) <|
    xn <| cnd0 rfl rfl <| wpC_skip <| kpN [(0, .d ((cLs (cXVariable cS cI) rfl).enc v0)), (1, .d ((cLs (cXEdit (cLs cI rfl)) rfl).enc v1)), (2, .d ((cLs cI rfl).enc v2)), (3, .d ((cFn 140 (fun (v : (List Int)) => [.ptr false ((cLs cI rfl).enc v)]) true (fun _ => (im1 rfl im0))).enc v3)), (10, .d ((cLo cI).enc s385.1)), (11, .d (cB.enc s385.2.1)), (13, .d ((cLo cI).enc x676)), (16, .d (cI.enc ((1 : Int) * 2 ^ ((v0.length : Int)).toNat))), (17, .d (cI.enc s385.2.2))] (by kernel_rfl) <| m711 () h))
    (fun b593 h => wpC_exit <| xt <| xt <| xt <| xb <| kpN [(10, .d ((cLo cI).enc s385.1)), (11, .d (cB.enc s385.2.1))] (by kernel_rfl) <| xn <| wpC_seq <| reg_s <| st rfl <| mvo rfl rfl <| st rfl <| mvd rfl rfl <| x_asg (sr rfl rfl) <| x_asg (ss rfl rfl) <| seqN [(8, .d ((cLo cI).enc s385.1)), (9, .d (cB.enc s385.2.1))] (by kernel_rfl) <|
    xn <| wpC_ret <| re <| fin h (r1 (so rfl rfl) <| r1 (ss rfl rfl) <| r0) rfl)

def rs_impl_cheapestChange (r : ((List Int) × Bool)) : List D := [(cLo cI).enc r.1, cB.enc r.2]
def m85 : MC := .seq (.reg [⟨some 6, .box (.t 2), none⟩,
    ⟨some 8, .asg (.c (.slice true [])), none⟩,
    ⟨some 9, .asg (.c (.bool false)), none⟩] [0, 1, 3, 6])
  (.fzb 6 (.seq (.reg [⟨some 10, .mv (.t 0), none⟩,
    ⟨some 11, .mv (.t 1), none⟩,
    ⟨some 12, .mv (.t 3), none⟩,
    ⟨some 13, .mkf 140 [(false, 6)], none⟩,
    ⟨some 14, .call 80 [(.t 10), (.t 11), (.t 12), (.t 13)], none⟩,
    ⟨some 15, .ext 14 0, none⟩,
    ⟨some 16, .ext 14 1, none⟩,
    ⟨some 8, .asg (.t 15), none⟩,
    ⟨some 9, .asg (.t 16), none⟩] [8, 9])
  (.ret)))
theorem con_impl_cheapestChange {v0 : (List XVariable)} {v1 : (List XEdit)} {v2 : (List Int)} {v3 : (List Int)} {r : ((List Int) × Bool)} (h : sh_impl_cheapestChange v0 v1 v2 v3 = some r) : Con Try.prog 85 [(cLs (cXVariable cS cI) rfl).enc v0, (cLs (cXEdit (cLs cI rfl)) rfl).enc v1, (cLs cI rfl).enc v2, (cLs cI rfl).enc v3] [] (rs_impl_cheapestChange r) := by
  delta sh_impl_cheapestChange at h
  refine top (out := none) (f := Try.f85) (m := m85) (rs := [.t 8, .t 9]) (by kernel_rfl) rfl (by kernel_rfl) (by kernel_rfl) (by kernel_rfl) (by kernel_rfl) (by kernel_rfl) ?_
  exact
   ini [(0, .d ((cLs (cXVariable cS cI) rfl).enc v0)), (1, .d ((cLs (cXEdit (cLs cI rfl)) rfl).enc v1)), (2, .d ((cLs cI rfl).enc v2)), (3, .d ((cLs cI rfl).enc v3))] rfl <| wpC_seq <| reg_s <| x_box (ss rfl rfl) <| x_asg (sc (cLo cI) ([] : List Int) rfl) <| x_asg (sc cB false rfl) <| seqN [(0, .d ((cLs (cXVariable cS cI) rfl).enc v0)), (1, .d ((cLs (cXEdit (cLs cI rfl)) rfl).enc v1)), (3, .d ((cLs cI rfl).enc v3)), (6, .box ((cLs cI rfl).enc v2))] (by kernel_rfl) <|
    xn <| fzb_s (tLs tK) rfl <| wpC_seq <| reg_s <| st rfl <| mvd rfl rfl <| st rfl <| mvd rfl rfl <| st rfl <| mvd rfl rfl <| x_mkf (cFn 140 (fun (v : (List Int)) => [.ptr false ((cLs cI rfl).enc v)]) true (fun _ => (im1 rfl im0))) v2 (cpi rfl cp0) rfl rfl <| bnd h fun x3 e4 h => st rfl <| o_call (a1 (c := (cLs (cXVariable cS cI) rfl)) (tLs (tXVariable tS tK)) rfl (a1 (c := (cLs (cXEdit (cLs cI rfl)) rfl)) (tLs (tXEdit (tLs tK))) rfl (a1 (c := (cLs cI rfl)) (tLs tK) rfl (a1 (c := (cFn 140 (fun (v : (List Int)) => [.ptr false ((cLs cI rfl).enc v)]) true (fun _ => (im1 rfl im0)))) (tFn (fun _ => (ti1 (tLs tK) ti0))) rfl a0)))) (con_impl_leastCover_impl_cheapestChange_1 e4) (.inl (so1 (sLo sK) (so1 sB so0))) <| x_ext rfl rfl <| x_ext rfl rfl <| x_asg (so rfl rfl) <| x_asg (ss rfl rfl) <| seqN [(8, .d ((cLo cI).enc x3.1)), (9, .d (cB.enc x3.2))] (by kernel_rfl) <|
    xn <| wpC_ret <| re <| fin h (r1 (so rfl rfl) <| r1 (ss rfl rfl) <| r0) rfl

def rs_spec_iMend (r : ((List Int) × Bool)) : List D := [(cLo cI).enc r.1, cB.enc r.2]
def m87 : MC := .seq (.reg [⟨some 8, .asg (.c (.slice true [])), none⟩,
    ⟨some 9, .asg (.c (.bool false)), none⟩] [0, 1, 2, 3])
  (.seq (.reg [⟨some 14, .mv (.t 0), none⟩,
    ⟨some 15, .mv (.t 1), none⟩,
    ⟨some 16, .mv (.t 2), none⟩,
    ⟨some 17, .mv (.t 3), none⟩,
    ⟨some 18, .call 83 [(.t 14), (.t 15), (.t 16), (.t 17)], none⟩,
    ⟨some 13, .mvt 18, none⟩,
    ⟨some 19, .ext 13 0, none⟩,
    ⟨some 20, .ext 13 1, none⟩,
    ⟨some 21, .ext 13 2, none⟩,
    ⟨some 10, .asg (.t 19), none⟩,
    ⟨some 11, .asg (.t 20), none⟩,
    ⟨some 12, .asg (.t 21), none⟩] [0, 1, 3, 10, 12])
  (.seq (.kp [0, 1, 3, 10] (.seq (.reg [⟨some 22, .mv (.t 12), none⟩,
    ⟨some 23, .nt (.t 22), none⟩] [0, 1, 3, 10, 23])
  (.cond (.t 23) (.seq (.reg [⟨some 8, .asg (.c (.slice true [])), none⟩,
    ⟨some 9, .asg (.c (.bool false)), none⟩] [8, 9])
  (.ret)) (.skip))))
  (.seq (.reg [⟨some 24, .mv (.t 0), none⟩,
    ⟨some 25, .mv (.t 1), none⟩,
    ⟨some 26, .mv (.t 0), none⟩,
    ⟨some 27, .mv (.t 10), none⟩,
    ⟨some 28, .call 138 [(.t 26), (.t 27)], none⟩,
    ⟨some 29, .mv (.t 3), none⟩,
    ⟨some 30, .call 72 [(.t 24), (.t 25), (.t 28), (.t 29)], none⟩,
    ⟨some 31, .ext 30 0, none⟩,
    ⟨some 32, .ext 30 1, none⟩,
    ⟨some 8, .asg (.t 31), none⟩,
    ⟨some 9, .asg (.t 32), none⟩] [8, 9])
  (.ret))))
theorem con_spec_iMend {v0 : (List XVariable)} {v1 : (List XEdit)} {v2 : (List Int)} {v3 : (List Int)} {r : ((List Int) × Bool)} (h : sh_spec_iMend v0 v1 v2 v3 = some r) : Con Try.prog 87 [(cLs (cXVariable cS cI) rfl).enc v0, (cLs (cXEdit (cLs cI rfl)) rfl).enc v1, (cLs cI rfl).enc v2, (cLs cI rfl).enc v3] [] (rs_spec_iMend r) := by
  delta sh_spec_iMend at h
  refine top (out := none) (f := Try.f87) (m := m87) (rs := [.t 8, .t 9]) (by kernel_rfl) rfl (by kernel_rfl) (by kernel_rfl) (by kernel_rfl) (by kernel_rfl) (by kernel_rfl) ?_
  exact
   ini [(0, .d ((cLs (cXVariable cS cI) rfl).enc v0)), (1, .d ((cLs (cXEdit (cLs cI rfl)) rfl).enc v1)), (2, .d ((cLs cI rfl).enc v2)), (3, .d ((cLs cI rfl).enc v3))] rfl <| wpC_seq <| reg_s <| x_asg (sc (cLo cI) ([] : List Int) rfl) <| x_asg (sc cB false rfl) <| seqN [(0, .d ((cLs (cXVariable cS cI) rfl).enc v0)), (1, .d ((cLs (cXEdit (cLs cI rfl)) rfl).enc v1)), (2, .d ((cLs cI rfl).enc v2)), (3, .d ((cLs cI rfl).enc v3))] (by kernel_rfl) <|
    xn <| wpC_seq <| reg_s <| st rfl <| mvd rfl rfl <| st rfl <| mvd rfl rfl <| st rfl <| mvd rfl rfl <| st rfl <| mvd rfl rfl <| bnd h fun x3 e4 h => st rfl <| o_call (a1 (c := (cLs (cXVariable cS cI) rfl)) (tLs (tXVariable tS tK)) rfl (a1 (c := (cLs (cXEdit (cLs cI rfl)) rfl)) (tLs (tXEdit (tLs tK))) rfl (a1 (c := (cLs cI rfl)) (tLs tK) rfl (a1 (c := (cLs cI rfl)) (tLs tK) rfl a0)))) (con_spec_iCheapest e4) (.inl (so1 (sLo sK) (so1 sK (so1 sB so0)))) <| x_mvt rfl <| x_ext rfl rfl <| x_ext rfl rfl <| x_ext rfl rfl <| x_asg (so rfl rfl) <| x_asg (ss rfl rfl) <| x_asg (ss rfl rfl) <| seqN [(0, .d ((cLs (cXVariable cS cI) rfl).enc v0)), (1, .d ((cLs (cXEdit (cLs cI rfl)) rfl).enc v1)), (3, .d ((cLs cI rfl).enc v3)), (10, .d ((cLo cI).enc x3.1)), (12, .d (cB.enc x3.2.2))] (by kernel_rfl) <|
    xn <| wpC_seq <| wpC_kp <| wpC_seq <| reg_s <| st rfl <| mvd rfl rfl <| st rfl <| o_nt rfl <| seqN [(0, .d ((cLs (cXVariable cS cI) rfl).enc v0)), (1, .d ((cLs (cXEdit (cLs cI rfl)) rfl).enc v1)), (3, .d ((cLs cI rfl).enc v3)), (10, .d ((cLo cI).enc x3.1)), (23, .d (cB.enc (!x3.2.2)))] (by kernel_rfl) <|
    xn <| cnd rfl h (fun b6 h => wpC_seq <| reg_s <| x_asg (sc (cLo cI) ([] : List Int) rfl) <| x_asg (sc cB false rfl) <| seqN [(8, .d ((cLo cI).enc ([] : List Int))), (9, .d (cB.enc false))] (by kernel_rfl) <|
    xn <| wpC_ret <| rt <| rt <| re <| fin h (r1 (so rfl rfl) <| r1 (ss rfl rfl) <| r0) rfl)
    (fun b6 h => wpC_skip <| kpN [(0, .d ((cLs (cXVariable cS cI) rfl).enc v0)), (1, .d ((cLs (cXEdit (cLs cI rfl)) rfl).enc v1)), (3, .d ((cLs cI rfl).enc v3)), (10, .d ((cLo cI).enc x3.1))] (by kernel_rfl) <| xn <| wpC_seq <| reg_s <| st rfl <| mvd rfl rfl <| st rfl <| mvd rfl rfl <| st rfl <| mvd rfl rfl <| st rfl <| mvo rfl rfl <| bnd h fun x11 e12 h => st rfl <| o_call (a1 (c := (cLs (cXVariable cS cI) rfl)) (tLs (tXVariable tS tK)) rfl (a1 (c := (cLo cI)) (tLo tK) rfl a0)) (con_spec_iOthers e12) (.inl (so1 (sLo sK) so0)) <| st rfl <| mvd rfl rfl <| bnd h fun x13 e14 h => st rfl <| o_call (a1 (c := (cLs (cXVariable cS cI) rfl)) (tLs (tXVariable tS tK)) rfl (a1 (c := (cLs (cXEdit (cLs cI rfl)) rfl)) (tLs (tXEdit (tLs tK))) rfl (a1 (c := (cLo cI)) (tLo tK) rfl (a1 (c := (cLs cI rfl)) (tLs tK) rfl a0)))) (con_spec_eComplete e14) (.inl (so1 (sLo sK) (so1 sB so0))) <| x_ext rfl rfl <| x_ext rfl rfl <| x_asg (so rfl rfl) <| x_asg (ss rfl rfl) <| seqN [(8, .d ((cLo cI).enc x13.1)), (9, .d (cB.enc x13.2))] (by kernel_rfl) <|
    xn <| wpC_ret <| re <| fin h (r1 (so rfl rfl) <| r1 (ss rfl rfl) <| r0) rfl)

end AS.W
