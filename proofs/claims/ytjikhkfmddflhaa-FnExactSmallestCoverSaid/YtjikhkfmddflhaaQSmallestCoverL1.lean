/- The program computes the plain functions. No condition. -/
import Derived.Test.YtjikhkfmddflhaaQSmallestCoverS
import Derived.Test.YtjikhkfmddflhaaProg
import Derived.Test.YtjikhkfmddflhaaQSmallestCoverL0
set_option maxRecDepth 100000
set_option linter.unusedVariables false
set_option linter.unusedSimpArgs false
namespace AS.W
open Go Go.Proofs
def rs_impl_IsSchema (r : Bool) : List D := [cB.enc r]
def m63 : MC := .seq (.reg [⟨some 2, .asg (.c (.bool false)), none⟩] [0])
  (.seq (.kp [0] (.seq (.reg [⟨some 7, .mv (.t 0), none⟩,
    ⟨some 8, .len false (.t 7), none⟩,
    ⟨some 9, .bin .lss (.t 8) (.c (.int .i64 1)), none⟩,
    ⟨some 10, .mv (.t 9), none⟩,
    ⟨some 11, .mv (.t 0), some (10, false)⟩,
    ⟨some 12, .len false (.t 11), some (10, false)⟩,
    ⟨some 13, .bin .gtr (.t 12) (.c (.int .i64 6)), some (10, false)⟩,
    ⟨some 14, .pick (.t 10) (.c (.bool true)) (.t 13), none⟩] [0, 14])
  (.cond (.t 14) (.seq (.reg [⟨some 2, .asg (.c (.bool false)), none⟩] [2])
  (.ret)) (.skip))))
  (.seq (.kp [] (.seq (.reg [⟨some 15, .mv (.t 0), none⟩,
    ⟨some 16, .len false (.t 15), none⟩,
    ⟨some 17, .mv (.c (.int .i64 0)), none⟩] [0, 15, 16, 17])
  (.blk 0 (.loop (.seq (.reg [⟨some 18, .bin .lss (.t 17) (.t 16), none⟩] [0, 15, 16, 17, 18])
  (.seq (.kp [0, 15, 16, 17] (.cond (.t 18) (.skip) (.exit 0)))
  (.seq (.kp [0, 15, 16, 17] (.blk 1 (.seq (.reg [⟨some 19, .mv (.t 17), none⟩,
    ⟨some 20, .ia 15 (.t 17) 2, none⟩,
    ⟨some 21, .ld 20 2 true, none⟩,
    ⟨some 4, .alloc (.agg [.str [], .int .i64 0]), none⟩,
    ⟨some 3, .asg (.t 19), none⟩,
    ⟨none, .st 4 (.t 21) 2, none⟩] [0, 3, 4, 15, 16, 17])
  (.seq (.kp [0, 3, 4, 15, 16, 17] (.seq (.reg [⟨some 22, .fa 4 0 0, none⟩,
    ⟨some 23, .ld 22 1 false, none⟩,
    ⟨some 24, .call 126 [(.t 23)], none⟩,
    ⟨some 25, .nt (.t 24), none⟩,
    ⟨some 26, .mv (.t 25), none⟩,
    ⟨some 27, .fa 4 1 1, some (26, false)⟩,
    ⟨some 28, .ld 27 1 false, some (26, false)⟩,
    ⟨some 29, .bin .lss (.t 28) (.c (.int .i64 2)), some (26, false)⟩,
    ⟨some 30, .pick (.t 26) (.c (.bool true)) (.t 29), none⟩,
    ⟨some 31, .mv (.t 30), none⟩,
    ⟨some 32, .fa 4 1 1, some (31, false)⟩,
    ⟨some 33, .ld 32 1 false, some (31, false)⟩,
    ⟨some 34, .bin .gtr (.t 33) (.c (.int .i64 8)), some (31, false)⟩,
    ⟨some 35, .pick (.t 31) (.c (.bool true)) (.t 34), none⟩] [0, 3, 4, 15, 16, 17, 35])
  (.cond (.t 35) (.seq (.reg [⟨some 2, .asg (.c (.bool false)), none⟩] [2])
  (.ret)) (.skip))))
  (.seq (.reg [⟨some 36, .mv (.t 0), none⟩,
    ⟨some 37, .mv (.t 3), none⟩,
    ⟨some 38, .sl (.t 36) none (some (.t 37)) 2, none⟩,
    ⟨some 39, .len false (.t 38), none⟩,
    ⟨some 40, .mv (.c (.int .i64 0)), none⟩] [0, 4, 15, 16, 17, 38, 39, 40])
  (.blk 2 (.loop (.seq (.reg [⟨some 41, .bin .lss (.t 40) (.t 39), none⟩] [0, 4, 15, 16, 17, 38, 39, 40, 41])
  (.seq (.kp [0, 4, 15, 16, 17, 38, 39, 40] (.cond (.t 41) (.skip) (.exit 2)))
  (.seq (.kp [0, 4, 15, 16, 17, 38, 39, 40] (.blk 3 (.seq (.reg [⟨some 42, .ia 38 (.t 40) 2, none⟩,
    ⟨some 43, .ld 42 2 true, none⟩,
    ⟨some 6, .alloc (.agg [.str [], .int .i64 0]), none⟩,
    ⟨none, .st 6 (.t 43) 2, none⟩] [0, 4, 6, 15, 16, 17, 38, 39, 40])
  (.seq (.reg [⟨some 44, .fa 6 0 0, none⟩,
    ⟨some 45, .ld 44 1 false, none⟩,
    ⟨some 46, .fa 4 0 0, none⟩,
    ⟨some 47, .ld 46 1 false, none⟩,
    ⟨some 48, .bin .eql (.t 45) (.t 47), none⟩] [0, 4, 15, 16, 17, 38, 39, 40, 48])
  (.cond (.t 48) (.seq (.reg [⟨some 2, .asg (.c (.bool false)), none⟩] [2])
  (.ret)) (.skip))))))
  (.reg [⟨some 49, .bin .add (.t 40) (.c (.int .i64 1)), none⟩,
    ⟨some 40, .mv (.t 49), none⟩] [0, 4, 15, 16, 17, 38, 39, 40])))))))))))
  (.reg [⟨some 50, .bin .add (.t 17) (.c (.int .i64 1)), none⟩,
    ⟨some 17, .mv (.t 50), none⟩] [0, 15, 16, 17]))))))))
  (.seq (.reg [⟨some 2, .asg (.c (.bool true)), none⟩] [2])
  (.ret))))
theorem con_impl_IsSchema {v0 : (List XVariable)} {r : Bool} (h : sh_impl_IsSchema v0 = some r) : Con Try.prog 63 [(cLs (cXVariable cS cI) rfl).enc v0] [] (rs_impl_IsSchema r) := by
  delta sh_impl_IsSchema at h
  refine top (out := none) (f := Try.f63) (m := m63) (rs := [.t 2]) (by kernel_rfl) rfl (by kernel_rfl) (by kernel_rfl) (by kernel_rfl) (by kernel_rfl) (by kernel_rfl) ?_
  exact
   ini [(0, .d ((cLs (cXVariable cS cI) rfl).enc v0))] rfl <| wpC_seq <| reg_s <| x_asg (sc cB false rfl) <| seqN [(0, .d ((cLs (cXVariable cS cI) rfl).enc v0))] (by kernel_rfl) <|
    xn <| wpC_seq <| wpC_kp <| wpC_seq <| reg_s <| st rfl <| mvd rfl rfl <| stw rfl <| lens rfl fun l11 => st rfl <| b_lss (k := .i64) rfl rfl <| st rfl <| mvd rfl rfl <| ite_k h (fun b12 h => gf rfl b12 <| gf rfl b12 <| gf rfl b12 <| st rfl <| pick1 rfl b12 (cd := cB) (v := true) rfl rfl <| seqN [(0, .d ((cLs (cXVariable cS cI) rfl).enc v0)), (14, .d (cB.enc true))] (by kernel_rfl) <|
    xn <| cnd1 rfl rfl <| wpC_seq <| reg_s <| x_asg (sc cB false rfl) <| seqN [(2, .d (cB.enc false))] (by kernel_rfl) <|
    xn <| wpC_ret <| rt <| rt <| re <| fin h (r1 (ss rfl rfl) <| r0) rfl)
    (fun b12 h => gt' rfl b12 <| st rfl <| mvd rfl rfl <| gt' rfl b12 <| stw rfl <| lens rfl fun l13 => gt' rfl b12 <| st rfl <| b_gtr (k := .i64) rfl rfl <| st rfl <| pick0 rfl b12 (cd := cB) (v := (decide ((6 : Int) < (v0.length : Int)))) rfl rfl <| seqN [(0, .d ((cLs (cXVariable cS cI) rfl).enc v0)), (14, .d (cB.enc (decide ((6 : Int) < (v0.length : Int)))))] (by kernel_rfl) <|
    xn <| cnd rfl h (fun b14 h => wpC_seq <| reg_s <| x_asg (sc cB false rfl) <| seqN [(2, .d (cB.enc false))] (by kernel_rfl) <|
    xn <| wpC_ret <| rt <| rt <| re <| fin h (r1 (ss rfl rfl) <| r0) rfl)
    (fun b14 h => wpC_skip <| kpN [(0, .d ((cLs (cXVariable cS cI) rfl).enc v0))] (by kernel_rfl) <| xn <| wpC_seq <| wpC_kp <| wpC_seq <| reg_s <| st rfl <| mvd rfl rfl <| stw rfl <| lens rfl fun l162 => st rfl <| mvc cI (0 : Int) rfl <| seqN [(0, .d ((cLs (cXVariable cS cI) rfl).enc v0)), (15, .d ((cLs (cXVariable cS cI) rfl).enc v0)), (16, .d (cI.enc (v0.length : Int))), (17, .d (cI.enc (0 : Int)))] (by kernel_rfl) <|
    xn <| wpC_blk <| lpR (fun (k164 : Nat) (s163 : Unit) => [(0, .d ((cLs (cXVariable cS cI) rfl).enc v0)), (15, .d ((cLs (cXVariable cS cI) rfl).enc v0)), (16, .d (cI.enc (v0.length : Int))), (17, .d (cI.enc (k164 : Int)))]) () rfl h
    (fun G238 s163 h => wpC_seq <| reg_s <| st rfl <| b_lss (k := .i64) rfl rfl <| seqN [(0, .d ((cLs (cXVariable cS cI) rfl).enc v0)), (15, .d ((cLs (cXVariable cS cI) rfl).enc v0)), (16, .d (cI.enc (v0.length : Int))), (17, .d (cI.enc (v0.length : Int))), (18, .d (cB.enc (decide ((v0.length : Int) < (v0.length : Int)))))] (by kernel_rfl) <|
    xn <| wpC_seq <| wpC_kp <| cnd0 rfl (dlf _) <| wpC_exit <| xt <| xt <| xt <| xb <| kpN [] (by kernel_rfl) <| xn <| wpC_seq <| reg_s <| x_asg (sc cB true rfl) <| seqN [(2, .d (cB.enc true))] (by kernel_rfl) <|
    xn <| wpC_ret <| re <| fin h (r1 (ss rfl rfl) <| r0) rfl)
    (fun G238 nx236 k164 s163 x165 hk166 hx167 hn237 h => wpC_seq <| reg_s <| st rfl <| b_lss (k := .i64) rfl rfl <| seqN [(0, .d ((cLs (cXVariable cS cI) rfl).enc v0)), (15, .d ((cLs (cXVariable cS cI) rfl).enc v0)), (16, .d (cI.enc (v0.length : Int))), (17, .d (cI.enc (k164 : Int))), (18, .d (cB.enc (decide ((k164 : Int) < (v0.length : Int)))))] (by kernel_rfl) <|
    xn <| wpC_seq <| wpC_kp <| cnd1 rfl (dlt hk166) <| wpC_skip <| kpN [(0, .d ((cLs (cXVariable cS cI) rfl).enc v0)), (15, .d ((cLs (cXVariable cS cI) rfl).enc v0)), (16, .d (cI.enc (v0.length : Int))), (17, .d (cI.enc (k164 : Int)))] (by kernel_rfl) <| xn <| wpC_seq <| wpC_kp <| wpC_blk <| wpC_seq <| reg_s <| st rfl <| mvd rfl rfl <| st rfl <| ias rfl rfl (Int.natCast_nonneg _) hx167 rfl <| st rfl <| ldi rfl rfl rfl rfl <| x_all (cXVariable cS cI) (⟨([] : List UInt8), (0 : Int)⟩ : XVariable) rfl <| x_asg (ss rfl rfl) <| x_stb (ss rfl rfl) rfl (Cd.h_sz _ _) rfl <| seqN [(0, .d ((cLs (cXVariable cS cI) rfl).enc v0)), (3, .d (cI.enc (k164 : Int))), (4, .box ((cXVariable cS cI).enc x165)), (15, .d ((cLs (cXVariable cS cI) rfl).enc v0)), (16, .d (cI.enc (v0.length : Int))), (17, .d (cI.enc (k164 : Int)))] (by kernel_rfl) <|
    xn <| wpC_seq <| wpC_kp <| wpC_seq <| reg_s <| st rfl <| fab rfl rfl rfl rfl <| st rfl <| lda rfl rfl rfl rfl rfl rfl <| bnd h fun x286 e287 h => st rfl <| o_call (a1 (c := cS) tS rfl a0) (con_impl_isWord e287) (.inl (so1 sB so0)) <| st rfl <| o_nt rfl <| st rfl <| mvd rfl rfl <| ite_k h (fun b288 h => gf rfl b288 <| gf rfl b288 <| gf rfl b288 <| st rfl <| pick1 rfl b288 (cd := cB) (v := true) rfl rfl <| st rfl <| mvd rfl rfl <| gf rfl rfl <| gf rfl rfl <| gf rfl rfl <| st rfl <| pick1 rfl rfl (cd := cB) (v := true) rfl rfl <| seqN [(0, .d ((cLs (cXVariable cS cI) rfl).enc v0)), (3, .d (cI.enc (k164 : Int))), (4, .box ((cXVariable cS cI).enc x165)), (15, .d ((cLs (cXVariable cS cI) rfl).enc v0)), (16, .d (cI.enc (v0.length : Int))), (17, .d (cI.enc (k164 : Int))), (35, .d (cB.enc true))] (by kernel_rfl) <|
    xn <| cnd1 rfl rfl <| wpC_seq <| reg_s <| x_asg (sc cB false rfl) <| seqN [(2, .d (cB.enc false))] (by kernel_rfl) <|
    xn <| wpC_ret <| rt <| rt <| rb <| rt <| rt <| rt <| rb <| rt <| rt <| re <| fin h (r1 (ss rfl rfl) <| r0) rfl)
    (fun b288 h => gt' rfl b288 <| st rfl <| fab rfl rfl rfl rfl <| gt' rfl b288 <| st rfl <| lda rfl rfl rfl rfl rfl rfl <| gt' rfl b288 <| st rfl <| b_lss (k := .i64) rfl rfl <| st rfl <| pick0 rfl b288 (cd := cB) (v := (decide (x165.Levels < (2 : Int)))) rfl rfl <| st rfl <| mvd rfl rfl <| ite_k h (fun b289 h => gf rfl b289 <| gf rfl b289 <| gf rfl b289 <| st rfl <| pick1 rfl b289 (cd := cB) (v := true) rfl rfl <| seqN [(0, .d ((cLs (cXVariable cS cI) rfl).enc v0)), (3, .d (cI.enc (k164 : Int))), (4, .box ((cXVariable cS cI).enc x165)), (15, .d ((cLs (cXVariable cS cI) rfl).enc v0)), (16, .d (cI.enc (v0.length : Int))), (17, .d (cI.enc (k164 : Int))), (35, .d (cB.enc true))] (by kernel_rfl) <|
    xn <| cnd1 rfl rfl <| wpC_seq <| reg_s <| x_asg (sc cB false rfl) <| seqN [(2, .d (cB.enc false))] (by kernel_rfl) <|
    xn <| wpC_ret <| rt <| rt <| rb <| rt <| rt <| rt <| rb <| rt <| rt <| re <| fin h (r1 (ss rfl rfl) <| r0) rfl)
    (fun b289 h => gt' rfl b289 <| st rfl <| fab rfl rfl rfl rfl <| gt' rfl b289 <| st rfl <| lda rfl rfl rfl rfl rfl rfl <| gt' rfl b289 <| st rfl <| b_gtr (k := .i64) rfl rfl <| st rfl <| pick0 rfl b289 (cd := cB) (v := (decide ((8 : Int) < x165.Levels))) rfl rfl <| seqN [(0, .d ((cLs (cXVariable cS cI) rfl).enc v0)), (3, .d (cI.enc (k164 : Int))), (4, .box ((cXVariable cS cI).enc x165)), (15, .d ((cLs (cXVariable cS cI) rfl).enc v0)), (16, .d (cI.enc (v0.length : Int))), (17, .d (cI.enc (k164 : Int))), (35, .d (cB.enc (decide ((8 : Int) < x165.Levels))))] (by kernel_rfl) <|
    xn <| cnd rfl h (fun b290 h => wpC_seq <| reg_s <| x_asg (sc cB false rfl) <| seqN [(2, .d (cB.enc false))] (by kernel_rfl) <|
    xn <| wpC_ret <| rt <| rt <| rb <| rt <| rt <| rt <| rb <| rt <| rt <| re <| fin h (r1 (ss rfl rfl) <| r0) rfl)
    (fun b290 h => wpC_skip <| kpN [(0, .d ((cLs (cXVariable cS cI) rfl).enc v0)), (3, .d (cI.enc (k164 : Int))), (4, .box ((cXVariable cS cI).enc x165)), (15, .d ((cLs (cXVariable cS cI) rfl).enc v0)), (16, .d (cI.enc (v0.length : Int))), (17, .d (cI.enc (k164 : Int)))] (by kernel_rfl) <| xn <| wpC_seq <| reg_s <| st rfl <| mvd rfl rfl <| st rfl <| mvd rfl rfl <| ck_k h fun i293 h => st rfl <| o_sl rfl rfl lo0 (hi1 (k := .i64) rfl i293.1) i293.2 <| stw rfl <| lens rfl fun l294 => st rfl <| mvc cI (0 : Int) rfl <| seqN [(0, .d ((cLs (cXVariable cS cI) rfl).enc v0)), (4, .box ((cXVariable cS cI).enc x165)), (15, .d ((cLs (cXVariable cS cI) rfl).enc v0)), (16, .d (cI.enc (v0.length : Int))), (17, .d (cI.enc (k164 : Int))), (38, .d ((cLs (cXVariable cS cI) rfl).enc ((v0.take ((k164 : Int)).toNat).drop 0))), (39, .d (cI.enc (((v0.take ((k164 : Int)).toNat).drop 0).length : Int))), (40, .d (cI.enc (0 : Int)))] (by kernel_rfl) <|
    xn <| wpC_blk <| lpR (fun (k296 : Nat) (s295 : Unit) => [(0, .d ((cLs (cXVariable cS cI) rfl).enc v0)), (4, .box ((cXVariable cS cI).enc x165)), (15, .d ((cLs (cXVariable cS cI) rfl).enc v0)), (16, .d (cI.enc (v0.length : Int))), (17, .d (cI.enc (k164 : Int))), (38, .d ((cLs (cXVariable cS cI) rfl).enc ((v0.take ((k164 : Int)).toNat).drop 0))), (39, .d (cI.enc (((v0.take ((k164 : Int)).toNat).drop 0).length : Int))), (40, .d (cI.enc (k296 : Int)))]) () rfl h
    (fun G304 s295 h => wpC_seq <| reg_s <| st rfl <| b_lss (k := .i64) rfl rfl <| seqN [(0, .d ((cLs (cXVariable cS cI) rfl).enc v0)), (4, .box ((cXVariable cS cI).enc x165)), (15, .d ((cLs (cXVariable cS cI) rfl).enc v0)), (16, .d (cI.enc (v0.length : Int))), (17, .d (cI.enc (k164 : Int))), (38, .d ((cLs (cXVariable cS cI) rfl).enc ((v0.take ((k164 : Int)).toNat).drop 0))), (39, .d (cI.enc (((v0.take ((k164 : Int)).toNat).drop 0).length : Int))), (40, .d (cI.enc (((v0.take ((k164 : Int)).toNat).drop 0).length : Int))), (41, .d (cB.enc (decide ((((v0.take ((k164 : Int)).toNat).drop 0).length : Int) < (((v0.take ((k164 : Int)).toNat).drop 0).length : Int)))))] (by kernel_rfl) <|
    xn <| wpC_seq <| wpC_kp <| cnd0 rfl (dlf _) <| wpC_exit <| xt <| xt <| xt <| xb <| xbb <| kpN [(0, .d ((cLs (cXVariable cS cI) rfl).enc v0)), (15, .d ((cLs (cXVariable cS cI) rfl).enc v0)), (16, .d (cI.enc (v0.length : Int))), (17, .d (cI.enc (k164 : Int)))] (by kernel_rfl) <| xn <| reg_s <| st rfl <| b_inc rfl rfl l162 hk166 <| st rfl <| mvd rfl rfl <| seqN [(0, .d ((cLs (cXVariable cS cI) rfl).enc v0)), (15, .d ((cLs (cXVariable cS cI) rfl).enc v0)), (16, .d (cI.enc (v0.length : Int))), (17, .d (cI.enc ((k164 + 1 : Nat) : Int)))] (by kernel_rfl) <|
    xn <| hn237 () h)
    (fun G304 nx302 k296 s295 x297 hk298 hx299 hn303 h => wpC_seq <| reg_s <| st rfl <| b_lss (k := .i64) rfl rfl <| seqN [(0, .d ((cLs (cXVariable cS cI) rfl).enc v0)), (4, .box ((cXVariable cS cI).enc x165)), (15, .d ((cLs (cXVariable cS cI) rfl).enc v0)), (16, .d (cI.enc (v0.length : Int))), (17, .d (cI.enc (k164 : Int))), (38, .d ((cLs (cXVariable cS cI) rfl).enc ((v0.take ((k164 : Int)).toNat).drop 0))), (39, .d (cI.enc (((v0.take ((k164 : Int)).toNat).drop 0).length : Int))), (40, .d (cI.enc (k296 : Int))), (41, .d (cB.enc (decide ((k296 : Int) < (((v0.take ((k164 : Int)).toNat).drop 0).length : Int)))))] (by kernel_rfl) <|
    xn <| wpC_seq <| wpC_kp <| cnd1 rfl (dlt hk298) <| wpC_skip <| kpN [(0, .d ((cLs (cXVariable cS cI) rfl).enc v0)), (4, .box ((cXVariable cS cI).enc x165)), (15, .d ((cLs (cXVariable cS cI) rfl).enc v0)), (16, .d (cI.enc (v0.length : Int))), (17, .d (cI.enc (k164 : Int))), (38, .d ((cLs (cXVariable cS cI) rfl).enc ((v0.take ((k164 : Int)).toNat).drop 0))), (39, .d (cI.enc (((v0.take ((k164 : Int)).toNat).drop 0).length : Int))), (40, .d (cI.enc (k296 : Int)))] (by kernel_rfl) <| xn <| wpC_seq <| wpC_kp <| wpC_blk <| wpC_seq <| reg_s <| st rfl <| ias rfl rfl (Int.natCast_nonneg _) hx299 rfl <| st rfl <| ldi rfl rfl rfl rfl <| x_all (cXVariable cS cI) (⟨([] : List UInt8), (0 : Int)⟩ : XVariable) rfl <| x_stb (ss rfl rfl) rfl (Cd.h_sz _ _) rfl <| seqN [(0, .d ((cLs (cXVariable cS cI) rfl).enc v0)), (4, .box ((cXVariable cS cI).enc x165)), (6, .box ((cXVariable cS cI).enc x297)), (15, .d ((cLs (cXVariable cS cI) rfl).enc v0)), (16, .d (cI.enc (v0.length : Int))), (17, .d (cI.enc (k164 : Int))), (38, .d ((cLs (cXVariable cS cI) rfl).enc ((v0.take ((k164 : Int)).toNat).drop 0))), (39, .d (cI.enc (((v0.take ((k164 : Int)).toNat).drop 0).length : Int))), (40, .d (cI.enc (k296 : Int)))] (by kernel_rfl) <|
    xn <| wpC_seq <| reg_s <| st rfl <| fab rfl rfl rfl rfl <| st rfl <| lda rfl rfl rfl rfl rfl rfl <| st rfl <| fab rfl rfl rfl rfl <| st rfl <| lda rfl rfl rfl rfl rfl rfl <| st rfl <| b_seq rfl rfl <| seqN [(0, .d ((cLs (cXVariable cS cI) rfl).enc v0)), (4, .box ((cXVariable cS cI).enc x165)), (15, .d ((cLs (cXVariable cS cI) rfl).enc v0)), (16, .d (cI.enc (v0.length : Int))), (17, .d (cI.enc (k164 : Int))), (38, .d ((cLs (cXVariable cS cI) rfl).enc ((v0.take ((k164 : Int)).toNat).drop 0))), (39, .d (cI.enc (((v0.take ((k164 : Int)).toNat).drop 0).length : Int))), (40, .d (cI.enc (k296 : Int))), (48, .d (cB.enc (decide (x297.Name = x165.Name))))] (by kernel_rfl) <|
    xn <| cnd rfl h (fun b306 h => wpC_seq <| reg_s <| x_asg (sc cB false rfl) <| seqN [(2, .d (cB.enc false))] (by kernel_rfl) <|
    xn <| wpC_ret <| rb <| rt <| rt <| rt <| rb <| rb <| rt <| rt <| rt <| rb <| rt <| rt <| re <| fin h (r1 (ss rfl rfl) <| r0) rfl)
    (fun b306 h => wpC_skip <| xbb <| kpN [(0, .d ((cLs (cXVariable cS cI) rfl).enc v0)), (4, .box ((cXVariable cS cI).enc x165)), (15, .d ((cLs (cXVariable cS cI) rfl).enc v0)), (16, .d (cI.enc (v0.length : Int))), (17, .d (cI.enc (k164 : Int))), (38, .d ((cLs (cXVariable cS cI) rfl).enc ((v0.take ((k164 : Int)).toNat).drop 0))), (39, .d (cI.enc (((v0.take ((k164 : Int)).toNat).drop 0).length : Int))), (40, .d (cI.enc (k296 : Int)))] (by kernel_rfl) <| xn <| reg_s <| st rfl <| b_inc rfl rfl l294 hk298 <| st rfl <| mvd rfl rfl <| seqN [(0, .d ((cLs (cXVariable cS cI) rfl).enc v0)), (4, .box ((cXVariable cS cI).enc x165)), (15, .d ((cLs (cXVariable cS cI) rfl).enc v0)), (16, .d (cI.enc (v0.length : Int))), (17, .d (cI.enc (k164 : Int))), (38, .d ((cLs (cXVariable cS cI) rfl).enc ((v0.take ((k164 : Int)).toNat).drop 0))), (39, .d (cI.enc (((v0.take ((k164 : Int)).toNat).drop 0).length : Int))), (40, .d (cI.enc ((k296 + 1 : Nat) : Int)))] (by kernel_rfl) <|
    xn <| hn303 () h))))))))

def rs_impl_fullSet (r : Int) : List D := [cI.enc r]
def m162 : MC := .seq (.reg [⟨some 1, .box (.t 0), none⟩,
    ⟨some 2, .asg (.c (.int .i64 0)), none⟩] [1])
  (.seq (.reg [⟨some 3, .fa 1 1 1, none⟩,
    ⟨some 4, .ld 3 1 false, none⟩,
    ⟨some 5, .bin .shl (.c (.int .i64 1)) (.t 4), none⟩,
    ⟨some 6, .bin .sub (.t 5) (.c (.int .i64 1)), none⟩,
    ⟨some 2, .asg (.t 6), none⟩] [2])
  (.ret))
theorem con_impl_fullSet {v0 : XVariable} {r : Int} (h : sh_impl_fullSet v0 = some r) : Con Try.prog 162 [(cXVariable cS cI).enc v0] [] (rs_impl_fullSet r) := by
  delta sh_impl_fullSet at h
  refine top (out := none) (f := Try.f162) (m := m162) (rs := [.t 2]) (by kernel_rfl) rfl (by kernel_rfl) (by kernel_rfl) (by kernel_rfl) (by kernel_rfl) (by kernel_rfl) ?_
  exact
   ini [(0, .d ((cXVariable cS cI).enc v0))] rfl <| wpC_seq <| reg_s <| x_box (ss rfl rfl) <| x_asg (sc cI (0 : Int) rfl) <| seqN [(1, .box ((cXVariable cS cI).enc v0))] (by kernel_rfl) <|
    xn <| wpC_seq <| reg_s <| st rfl <| fab rfl rfl rfl rfl <| st rfl <| lda rfl rfl rfl rfl rfl rfl <| ck_k h fun i4 h => ckI_k h fun i5 h => st rfl <| b_shl (k := .i64) (k' := .i64) rfl rfl i4 rfl i5 <| ckI_k h fun i6 h => st rfl <| b_sub (k := .i64) rfl rfl i6 <| x_asg (ss rfl rfl) <| seqN [(2, .d (cI.enc (((1 : Int) * 2 ^ (v0.Levels).toNat) - (1 : Int))))] (by kernel_rfl) <|
    xn <| wpC_ret <| re <| fin h (r1 (ss rfl rfl) <| r0) rfl

def rs_impl_isEdit (r : Bool) : List D := [cB.enc r]
def m127 : MC := .seq (.reg [⟨some 3, .box (.t 1), none⟩,
    ⟨some 4, .asg (.c (.bool false)), none⟩] [0, 3])
  (.seq (.kp [0, 3] (.seq (.reg [⟨some 7, .fa 3 0 0, none⟩,
    ⟨some 8, .ld 7 1 false, none⟩,
    ⟨some 9, .len false (.t 8), none⟩,
    ⟨some 10, .mv (.t 0), none⟩,
    ⟨some 11, .len false (.t 10), none⟩,
    ⟨some 12, .bin .neq (.t 9) (.t 11), none⟩] [0, 3, 12])
  (.cond (.t 12) (.seq (.reg [⟨some 4, .asg (.c (.bool false)), none⟩] [4])
  (.ret)) (.skip))))
  (.seq (.kp [] (.seq (.reg [⟨some 13, .fa 3 0 0, none⟩,
    ⟨some 14, .ld 13 1 false, none⟩,
    ⟨some 15, .len false (.t 14), none⟩,
    ⟨some 16, .mv (.c (.int .i64 0)), none⟩] [0, 3, 13, 14, 15, 16])
  (.blk 0 (.loop (.seq (.reg [⟨some 17, .bin .lss (.t 16) (.t 15), none⟩] [0, 3, 13, 14, 15, 16, 17])
  (.seq (.kp [0, 3, 13, 14, 15, 16] (.cond (.t 17) (.skip) (.exit 0)))
  (.seq (.kp [0, 3, 13, 14, 15, 16] (.blk 1 (.seq (.reg [⟨some 18, .mv (.t 16), none⟩,
    ⟨some 19, .ia 14 (.t 16) 1, none⟩,
    ⟨some 20, .ld 19 1 false, none⟩,
    ⟨some 5, .asg (.t 18), none⟩,
    ⟨some 6, .asg (.t 20), none⟩] [0, 3, 5, 6, 13, 14, 15, 16])
  (.seq (.reg [⟨some 21, .mv (.t 6), none⟩,
    ⟨some 22, .bin .lss (.t 21) (.c (.int .i64 1)), none⟩,
    ⟨some 23, .mv (.t 22), none⟩,
    ⟨some 24, .mv (.t 6), some (23, false)⟩,
    ⟨some 25, .mv (.t 0), some (23, false)⟩,
    ⟨some 26, .mv (.t 5), some (23, false)⟩,
    ⟨some 27, .ia 25 (.t 26) 2, some (23, false)⟩,
    ⟨some 28, .ld 27 2 true, some (23, false)⟩,
    ⟨some 29, .call 162 [(.t 28)], some (23, false)⟩,
    ⟨some 30, .bin .gtr (.t 24) (.t 29), some (23, false)⟩,
    ⟨some 31, .pick (.t 23) (.c (.bool true)) (.t 30), none⟩] [0, 3, 13, 14, 15, 16, 31])
  (.cond (.t 31) (.seq (.reg [⟨some 4, .asg (.c (.bool false)), none⟩] [4])
  (.ret)) (.skip))))))
  (.reg [⟨some 32, .bin .add (.t 16) (.c (.int .i64 1)), none⟩,
    ⟨some 16, .mv (.t 32), none⟩] [0, 3, 13, 14, 15, 16]))))))))
  (.seq (.reg [⟨some 4, .asg (.c (.bool true)), none⟩] [4])
  (.ret))))
theorem con_impl_isEdit {v0 : (List XVariable)} {v1 : XEdit} {r : Bool} (h : sh_impl_isEdit v0 v1 = some r) : Con Try.prog 127 [(cLs (cXVariable cS cI) rfl).enc v0, (cXEdit (cLs cI rfl)).enc v1] [] (rs_impl_isEdit r) := by
  delta sh_impl_isEdit at h
  refine top (out := none) (f := Try.f127) (m := m127) (rs := [.t 4]) (by kernel_rfl) rfl (by kernel_rfl) (by kernel_rfl) (by kernel_rfl) (by kernel_rfl) (by kernel_rfl) ?_
  exact
   ini [(0, .d ((cLs (cXVariable cS cI) rfl).enc v0)), (1, .d ((cXEdit (cLs cI rfl)).enc v1))] rfl <| wpC_seq <| reg_s <| x_box (ss rfl rfl) <| x_asg (sc cB false rfl) <| seqN [(0, .d ((cLs (cXVariable cS cI) rfl).enc v0)), (3, .box ((cXEdit (cLs cI rfl)).enc v1))] (by kernel_rfl) <|
    xn <| wpC_seq <| wpC_kp <| wpC_seq <| reg_s <| st rfl <| fab rfl rfl rfl rfl <| st rfl <| lda rfl rfl rfl rfl rfl rfl <| stw rfl <| lens rfl fun l8 => st rfl <| mvd rfl rfl <| stw rfl <| lens rfl fun l9 => st rfl <| b_neq (k := .i64) rfl rfl <| seqN [(0, .d ((cLs (cXVariable cS cI) rfl).enc v0)), (3, .box ((cXEdit (cLs cI rfl)).enc v1)), (12, .d (cB.enc (decide ((v1.Sets.length : Int) ≠ (v0.length : Int)))))] (by kernel_rfl) <|
    xn <| cnd rfl h (fun b10 h => wpC_seq <| reg_s <| x_asg (sc cB false rfl) <| seqN [(4, .d (cB.enc false))] (by kernel_rfl) <|
    xn <| wpC_ret <| rt <| rt <| re <| fin h (r1 (ss rfl rfl) <| r0) rfl)
    (fun b10 h => wpC_skip <| kpN [(0, .d ((cLs (cXVariable cS cI) rfl).enc v0)), (3, .box ((cXEdit (cLs cI rfl)).enc v1))] (by kernel_rfl) <| xn <| wpC_seq <| wpC_kp <| wpC_seq <| reg_s <| st rfl <| fab rfl rfl rfl rfl <| st rfl <| lda rfl rfl rfl rfl rfl rfl <| stw rfl <| lens rfl fun l74 => st rfl <| mvc cI (0 : Int) rfl <| seqN [(0, .d ((cLs (cXVariable cS cI) rfl).enc v0)), (3, .box ((cXEdit (cLs cI rfl)).enc v1)), (13, .adr 3 [.fld 0]), (14, .d ((cLs cI rfl).enc v1.Sets)), (15, .d (cI.enc (v1.Sets.length : Int))), (16, .d (cI.enc (0 : Int)))] (by kernel_rfl) <|
    xn <| wpC_blk <| lpR (fun (k76 : Nat) (s75 : Unit) => [(0, .d ((cLs (cXVariable cS cI) rfl).enc v0)), (3, .box ((cXEdit (cLs cI rfl)).enc v1)), (13, .adr 3 [.fld 0]), (14, .d ((cLs cI rfl).enc v1.Sets)), (15, .d (cI.enc (v1.Sets.length : Int))), (16, .d (cI.enc (k76 : Int)))]) () rfl h
    (fun G108 s75 h => wpC_seq <| reg_s <| st rfl <| b_lss (k := .i64) rfl rfl <| seqN [(0, .d ((cLs (cXVariable cS cI) rfl).enc v0)), (3, .box ((cXEdit (cLs cI rfl)).enc v1)), (13, .adr 3 [.fld 0]), (14, .d ((cLs cI rfl).enc v1.Sets)), (15, .d (cI.enc (v1.Sets.length : Int))), (16, .d (cI.enc (v1.Sets.length : Int))), (17, .d (cB.enc (decide ((v1.Sets.length : Int) < (v1.Sets.length : Int)))))] (by kernel_rfl) <|
    xn <| wpC_seq <| wpC_kp <| cnd0 rfl (dlf _) <| wpC_exit <| xt <| xt <| xt <| xb <| kpN [] (by kernel_rfl) <| xn <| wpC_seq <| reg_s <| x_asg (sc cB true rfl) <| seqN [(4, .d (cB.enc true))] (by kernel_rfl) <|
    xn <| wpC_ret <| re <| fin h (r1 (ss rfl rfl) <| r0) rfl)
    (fun G108 nx106 k76 s75 x77 hk78 hx79 hn107 h => wpC_seq <| reg_s <| st rfl <| b_lss (k := .i64) rfl rfl <| seqN [(0, .d ((cLs (cXVariable cS cI) rfl).enc v0)), (3, .box ((cXEdit (cLs cI rfl)).enc v1)), (13, .adr 3 [.fld 0]), (14, .d ((cLs cI rfl).enc v1.Sets)), (15, .d (cI.enc (v1.Sets.length : Int))), (16, .d (cI.enc (k76 : Int))), (17, .d (cB.enc (decide ((k76 : Int) < (v1.Sets.length : Int)))))] (by kernel_rfl) <|
    xn <| wpC_seq <| wpC_kp <| cnd1 rfl (dlt hk78) <| wpC_skip <| kpN [(0, .d ((cLs (cXVariable cS cI) rfl).enc v0)), (3, .box ((cXEdit (cLs cI rfl)).enc v1)), (13, .adr 3 [.fld 0]), (14, .d ((cLs cI rfl).enc v1.Sets)), (15, .d (cI.enc (v1.Sets.length : Int))), (16, .d (cI.enc (k76 : Int)))] (by kernel_rfl) <| xn <| wpC_seq <| wpC_kp <| wpC_blk <| wpC_seq <| reg_s <| st rfl <| mvd rfl rfl <| st rfl <| ias rfl rfl (Int.natCast_nonneg _) hx79 rfl <| st rfl <| ldi rfl rfl rfl rfl <| x_asg (ss rfl rfl) <| x_asg (ss rfl rfl) <| seqN [(0, .d ((cLs (cXVariable cS cI) rfl).enc v0)), (3, .box ((cXEdit (cLs cI rfl)).enc v1)), (5, .d (cI.enc (k76 : Int))), (6, .d (cI.enc x77)), (13, .adr 3 [.fld 0]), (14, .d ((cLs cI rfl).enc v1.Sets)), (15, .d (cI.enc (v1.Sets.length : Int))), (16, .d (cI.enc (k76 : Int)))] (by kernel_rfl) <|
    xn <| wpC_seq <| reg_s <| st rfl <| mvd rfl rfl <| st rfl <| b_lss (k := .i64) rfl rfl <| st rfl <| mvd rfl rfl <| ite_k h (fun b128 h => gf rfl b128 <| gf rfl b128 <| gf rfl b128 <| gf rfl b128 <| gf rfl b128 <| gf rfl b128 <| gf rfl b128 <| st rfl <| pick1 rfl b128 (cd := cB) (v := true) rfl rfl <| seqN [(0, .d ((cLs (cXVariable cS cI) rfl).enc v0)), (3, .box ((cXEdit (cLs cI rfl)).enc v1)), (13, .adr 3 [.fld 0]), (14, .d ((cLs cI rfl).enc v1.Sets)), (15, .d (cI.enc (v1.Sets.length : Int))), (16, .d (cI.enc (k76 : Int))), (31, .d (cB.enc true))] (by kernel_rfl) <|
    xn <| cnd1 rfl rfl <| wpC_seq <| reg_s <| x_asg (sc cB false rfl) <| seqN [(4, .d (cB.enc false))] (by kernel_rfl) <|
    xn <| wpC_ret <| rb <| rt <| rt <| rt <| rb <| rt <| rt <| re <| fin h (r1 (ss rfl rfl) <| r0) rfl)
    (fun b128 h => gt' rfl b128 <| st rfl <| mvd rfl rfl <| gt' rfl b128 <| st rfl <| mvd rfl rfl <| gt' rfl b128 <| st rfl <| mvd rfl rfl <| gt' rfl b128 <| getO_k h fun x129 i130 g131 h => st rfl <| ias rfl rfl i130 g131 rfl <| gt' rfl b128 <| st rfl <| ldi rfl rfl rfl rfl <| gt' rfl b128 <| bnd h fun x132 e133 h => st rfl <| o_call (a1 (c := (cXVariable cS cI)) (tXVariable tS tK) rfl a0) (con_impl_fullSet e133) (.inl (so1 sK so0)) <| gt' rfl b128 <| st rfl <| b_gtr (k := .i64) rfl rfl <| st rfl <| pick0 rfl b128 (cd := cB) (v := (decide (x132 < x77))) rfl rfl <| seqN [(0, .d ((cLs (cXVariable cS cI) rfl).enc v0)), (3, .box ((cXEdit (cLs cI rfl)).enc v1)), (13, .adr 3 [.fld 0]), (14, .d ((cLs cI rfl).enc v1.Sets)), (15, .d (cI.enc (v1.Sets.length : Int))), (16, .d (cI.enc (k76 : Int))), (31, .d (cB.enc (decide (x132 < x77))))] (by kernel_rfl) <|
    xn <| cnd rfl h (fun b134 h => wpC_seq <| reg_s <| x_asg (sc cB false rfl) <| seqN [(4, .d (cB.enc false))] (by kernel_rfl) <|
    xn <| wpC_ret <| rb <| rt <| rt <| rt <| rb <| rt <| rt <| re <| fin h (r1 (ss rfl rfl) <| r0) rfl)
    (fun b134 h => wpC_skip <| xbb <| kpN [(0, .d ((cLs (cXVariable cS cI) rfl).enc v0)), (3, .box ((cXEdit (cLs cI rfl)).enc v1)), (13, .adr 3 [.fld 0]), (14, .d ((cLs cI rfl).enc v1.Sets)), (15, .d (cI.enc (v1.Sets.length : Int))), (16, .d (cI.enc (k76 : Int)))] (by kernel_rfl) <| xn <| reg_s <| st rfl <| b_inc rfl rfl l74 hk78 <| st rfl <| mvd rfl rfl <| seqN [(0, .d ((cLs (cXVariable cS cI) rfl).enc v0)), (3, .box ((cXEdit (cLs cI rfl)).enc v1)), (13, .adr 3 [.fld 0]), (14, .d ((cLs cI rfl).enc v1.Sets)), (15, .d (cI.enc (v1.Sets.length : Int))), (16, .d (cI.enc ((k76 + 1 : Nat) : Int)))] (by kernel_rfl) <|
    xn <| hn107 () h))))
def rs_impl_areEdits (r : Bool) : List D := [cB.enc r]
def m64 : MC := .seq (.reg [⟨some 4, .asg (.c (.bool false)), none⟩] [0, 1])
  (.seq (.kp [0, 1] (.seq (.reg [⟨some 7, .mv (.t 1), none⟩,
    ⟨some 8, .len false (.t 7), none⟩,
    ⟨some 9, .bin .gtr (.t 8) (.c (.int .i64 40)), none⟩] [0, 1, 9])
  (.cond (.t 9) (.seq (.reg [⟨some 4, .asg (.c (.bool false)), none⟩] [4])
  (.ret)) (.skip))))
  (.seq (.kp [] (.seq (.reg [⟨some 10, .mv (.t 1), none⟩,
    ⟨some 11, .len false (.t 10), none⟩,
    ⟨some 12, .mv (.c (.int .i64 0)), none⟩] [0, 1, 10, 11, 12])
  (.blk 0 (.loop (.seq (.reg [⟨some 13, .bin .lss (.t 12) (.t 11), none⟩] [0, 1, 10, 11, 12, 13])
  (.seq (.kp [0, 1, 10, 11, 12] (.cond (.t 13) (.skip) (.exit 0)))
  (.seq (.kp [0, 1, 10, 11, 12] (.blk 1 (.seq (.reg [⟨some 14, .ia 10 (.t 12) 1, none⟩,
    ⟨some 15, .ld 14 1 true, none⟩,
    ⟨some 6, .alloc (.agg [.slice true []]), none⟩,
    ⟨none, .st 6 (.t 15) 1, none⟩] [0, 1, 6, 10, 11, 12])
  (.seq (.reg [⟨some 16, .mv (.t 0), none⟩,
    ⟨some 17, .ld 6 1 true, none⟩,
    ⟨some 18, .call 127 [(.t 16), (.t 17)], none⟩,
    ⟨some 19, .nt (.t 18), none⟩] [0, 1, 10, 11, 12, 19])
  (.cond (.t 19) (.seq (.reg [⟨some 4, .asg (.c (.bool false)), none⟩] [4])
  (.ret)) (.skip))))))
  (.reg [⟨some 20, .bin .add (.t 12) (.c (.int .i64 1)), none⟩,
    ⟨some 12, .mv (.t 20), none⟩] [0, 1, 10, 11, 12]))))))))
  (.seq (.reg [⟨some 4, .asg (.c (.bool true)), none⟩] [4])
  (.ret))))
theorem con_impl_areEdits {v0 : (List XVariable)} {v1 : (List XEdit)} {r : Bool} (h : sh_impl_areEdits v0 v1 = some r) : Con Try.prog 64 [(cLs (cXVariable cS cI) rfl).enc v0, (cLs (cXEdit (cLs cI rfl)) rfl).enc v1] [] (rs_impl_areEdits r) := by
  delta sh_impl_areEdits at h
  refine top (out := none) (f := Try.f64) (m := m64) (rs := [.t 4]) (by kernel_rfl) rfl (by kernel_rfl) (by kernel_rfl) (by kernel_rfl) (by kernel_rfl) (by kernel_rfl) ?_
  exact
   ini [(0, .d ((cLs (cXVariable cS cI) rfl).enc v0)), (1, .d ((cLs (cXEdit (cLs cI rfl)) rfl).enc v1))] rfl <| wpC_seq <| reg_s <| x_asg (sc cB false rfl) <| seqN [(0, .d ((cLs (cXVariable cS cI) rfl).enc v0)), (1, .d ((cLs (cXEdit (cLs cI rfl)) rfl).enc v1))] (by kernel_rfl) <|
    xn <| wpC_seq <| wpC_kp <| wpC_seq <| reg_s <| st rfl <| mvd rfl rfl <| stw rfl <| lens rfl fun l5 => st rfl <| b_gtr (k := .i64) rfl rfl <| seqN [(0, .d ((cLs (cXVariable cS cI) rfl).enc v0)), (1, .d ((cLs (cXEdit (cLs cI rfl)) rfl).enc v1)), (9, .d (cB.enc (decide ((40 : Int) < (v1.length : Int)))))] (by kernel_rfl) <|
    xn <| cnd rfl h (fun b6 h => wpC_seq <| reg_s <| x_asg (sc cB false rfl) <| seqN [(4, .d (cB.enc false))] (by kernel_rfl) <|
    xn <| wpC_ret <| rt <| rt <| re <| fin h (r1 (ss rfl rfl) <| r0) rfl)
    (fun b6 h => wpC_skip <| kpN [(0, .d ((cLs (cXVariable cS cI) rfl).enc v0)), (1, .d ((cLs (cXEdit (cLs cI rfl)) rfl).enc v1))] (by kernel_rfl) <| xn <| wpC_seq <| wpC_kp <| wpC_seq <| reg_s <| st rfl <| mvd rfl rfl <| stw rfl <| lens rfl fun l38 => st rfl <| mvc cI (0 : Int) rfl <| seqN [(0, .d ((cLs (cXVariable cS cI) rfl).enc v0)), (1, .d ((cLs (cXEdit (cLs cI rfl)) rfl).enc v1)), (10, .d ((cLs (cXEdit (cLs cI rfl)) rfl).enc v1)), (11, .d (cI.enc (v1.length : Int))), (12, .d (cI.enc (0 : Int)))] (by kernel_rfl) <|
    xn <| wpC_blk <| lpR (fun (k40 : Nat) (s39 : Unit) => [(0, .d ((cLs (cXVariable cS cI) rfl).enc v0)), (1, .d ((cLs (cXEdit (cLs cI rfl)) rfl).enc v1)), (10, .d ((cLs (cXEdit (cLs cI rfl)) rfl).enc v1)), (11, .d (cI.enc (v1.length : Int))), (12, .d (cI.enc (k40 : Int)))]) () rfl h
    (fun G56 s39 h => wpC_seq <| reg_s <| st rfl <| b_lss (k := .i64) rfl rfl <| seqN [(0, .d ((cLs (cXVariable cS cI) rfl).enc v0)), (1, .d ((cLs (cXEdit (cLs cI rfl)) rfl).enc v1)), (10, .d ((cLs (cXEdit (cLs cI rfl)) rfl).enc v1)), (11, .d (cI.enc (v1.length : Int))), (12, .d (cI.enc (v1.length : Int))), (13, .d (cB.enc (decide ((v1.length : Int) < (v1.length : Int)))))] (by kernel_rfl) <|
    xn <| wpC_seq <| wpC_kp <| cnd0 rfl (dlf _) <| wpC_exit <| xt <| xt <| xt <| xb <| kpN [] (by kernel_rfl) <| xn <| wpC_seq <| reg_s <| x_asg (sc cB true rfl) <| seqN [(4, .d (cB.enc true))] (by kernel_rfl) <|
    xn <| wpC_ret <| re <| fin h (r1 (ss rfl rfl) <| r0) rfl)
    (fun G56 nx54 k40 s39 x41 hk42 hx43 hn55 h => wpC_seq <| reg_s <| st rfl <| b_lss (k := .i64) rfl rfl <| seqN [(0, .d ((cLs (cXVariable cS cI) rfl).enc v0)), (1, .d ((cLs (cXEdit (cLs cI rfl)) rfl).enc v1)), (10, .d ((cLs (cXEdit (cLs cI rfl)) rfl).enc v1)), (11, .d (cI.enc (v1.length : Int))), (12, .d (cI.enc (k40 : Int))), (13, .d (cB.enc (decide ((k40 : Int) < (v1.length : Int)))))] (by kernel_rfl) <|
    xn <| wpC_seq <| wpC_kp <| cnd1 rfl (dlt hk42) <| wpC_skip <| kpN [(0, .d ((cLs (cXVariable cS cI) rfl).enc v0)), (1, .d ((cLs (cXEdit (cLs cI rfl)) rfl).enc v1)), (10, .d ((cLs (cXEdit (cLs cI rfl)) rfl).enc v1)), (11, .d (cI.enc (v1.length : Int))), (12, .d (cI.enc (k40 : Int)))] (by kernel_rfl) <| xn <| wpC_seq <| wpC_kp <| wpC_blk <| wpC_seq <| reg_s <| st rfl <| ias rfl rfl (Int.natCast_nonneg _) hx43 rfl <| st rfl <| ldi rfl rfl rfl rfl <| x_all (cXEdit (cLo cI)) (⟨([] : List Int)⟩ : XEdit) rfl <| x_stb (ss rfl rfl) rfl (Cd.h_sz _ _) rfl <| seqN [(0, .d ((cLs (cXVariable cS cI) rfl).enc v0)), (1, .d ((cLs (cXEdit (cLs cI rfl)) rfl).enc v1)), (6, .box ((cXEdit (cLs cI rfl)).enc x41)), (10, .d ((cLs (cXEdit (cLs cI rfl)) rfl).enc v1)), (11, .d (cI.enc (v1.length : Int))), (12, .d (cI.enc (k40 : Int)))] (by kernel_rfl) <|
    xn <| wpC_seq <| reg_s <| st rfl <| mvd rfl rfl <| st rfl <| ldb rfl rfl rfl rfl <| bnd h fun x64 e65 h => st rfl <| o_call (a1 (c := (cLs (cXVariable cS cI) rfl)) (tLs (tXVariable tS tK)) rfl (a1 (c := (cXEdit (cLs cI rfl))) (tXEdit (tLs tK)) rfl a0)) (con_impl_isEdit e65) (.inl (so1 sB so0)) <| st rfl <| o_nt rfl <| seqN [(0, .d ((cLs (cXVariable cS cI) rfl).enc v0)), (1, .d ((cLs (cXEdit (cLs cI rfl)) rfl).enc v1)), (10, .d ((cLs (cXEdit (cLs cI rfl)) rfl).enc v1)), (11, .d (cI.enc (v1.length : Int))), (12, .d (cI.enc (k40 : Int))), (19, .d (cB.enc (!x64)))] (by kernel_rfl) <|
    xn <| cnd rfl h (fun b66 h => wpC_seq <| reg_s <| x_asg (sc cB false rfl) <| seqN [(4, .d (cB.enc false))] (by kernel_rfl) <|
    xn <| wpC_ret <| rb <| rt <| rt <| rt <| rb <| rt <| rt <| re <| fin h (r1 (ss rfl rfl) <| r0) rfl)
    (fun b66 h => wpC_skip <| xbb <| kpN [(0, .d ((cLs (cXVariable cS cI) rfl).enc v0)), (1, .d ((cLs (cXEdit (cLs cI rfl)) rfl).enc v1)), (10, .d ((cLs (cXEdit (cLs cI rfl)) rfl).enc v1)), (11, .d (cI.enc (v1.length : Int))), (12, .d (cI.enc (k40 : Int)))] (by kernel_rfl) <| xn <| reg_s <| st rfl <| b_inc rfl rfl l38 hk42 <| st rfl <| mvd rfl rfl <| seqN [(0, .d ((cLs (cXVariable cS cI) rfl).enc v0)), (1, .d ((cLs (cXEdit (cLs cI rfl)) rfl).enc v1)), (10, .d ((cLs (cXEdit (cLs cI rfl)) rfl).enc v1)), (11, .d (cI.enc (v1.length : Int))), (12, .d (cI.enc ((k40 + 1 : Nat) : Int)))] (by kernel_rfl) <|
    xn <| hn55 () h)))

def rs_impl_combinations (r : Int) : List D := [cI.enc r]
def m65 : MC := .seq (.reg [⟨some 2, .asg (.c (.int .i64 0)), none⟩] [0])
  (.seq (.reg [⟨some 3, .asg (.c (.int .i64 1)), none⟩] [0, 3])
  (.seq (.kp [3] (.seq (.reg [⟨some 6, .mv (.t 0), none⟩,
    ⟨some 7, .len false (.t 6), none⟩,
    ⟨some 8, .mv (.c (.int .i64 0)), none⟩] [0, 3, 6, 7, 8])
  (.blk 0 (.loop (.seq (.reg [⟨some 9, .bin .lss (.t 8) (.t 7), none⟩] [0, 3, 6, 7, 8, 9])
  (.seq (.kp [0, 3, 6, 7, 8] (.cond (.t 9) (.skip) (.exit 0)))
  (.seq (.kp [0, 3, 6, 7, 8] (.blk 1 (.seq (.reg [⟨some 10, .ia 6 (.t 8) 2, none⟩,
    ⟨some 11, .ld 10 2 true, none⟩,
    ⟨some 5, .alloc (.agg [.str [], .int .i64 0]), none⟩,
    ⟨none, .st 5 (.t 11) 2, none⟩] [0, 3, 5, 6, 7, 8])
  (.reg [⟨some 12, .mv (.t 3), none⟩,
    ⟨some 13, .fa 5 1 1, none⟩,
    ⟨some 14, .ld 13 1 false, none⟩,
    ⟨some 15, .bin .mul (.t 12) (.t 14), none⟩,
    ⟨some 3, .asg (.t 15), none⟩] [0, 3, 6, 7, 8]))))
  (.reg [⟨some 16, .bin .add (.t 8) (.c (.int .i64 1)), none⟩,
    ⟨some 8, .mv (.t 16), none⟩] [0, 3, 6, 7, 8]))))))))
  (.seq (.reg [⟨some 17, .mv (.t 3), none⟩,
    ⟨some 2, .asg (.t 17), none⟩] [2])
  (.ret))))
theorem con_impl_combinations {v0 : (List XVariable)} {r : Int} (h : sh_impl_combinations v0 = some r) : Con Try.prog 65 [(cLs (cXVariable cS cI) rfl).enc v0] [] (rs_impl_combinations r) := by
  delta sh_impl_combinations at h
  refine top (out := none) (f := Try.f65) (m := m65) (rs := [.t 2]) (by kernel_rfl) rfl (by kernel_rfl) (by kernel_rfl) (by kernel_rfl) (by kernel_rfl) (by kernel_rfl) ?_
  exact
   ini [(0, .d ((cLs (cXVariable cS cI) rfl).enc v0))] rfl <| wpC_seq <| reg_s <| x_asg (sc cI (0 : Int) rfl) <| seqN [(0, .d ((cLs (cXVariable cS cI) rfl).enc v0))] (by kernel_rfl) <|
    xn <| wpC_seq <| reg_s <| x_asg (sc cI (1 : Int) rfl) <| seqN [(0, .d ((cLs (cXVariable cS cI) rfl).enc v0)), (3, .d (cI.enc (1 : Int)))] (by kernel_rfl) <|
    xn <| wpC_seq <| wpC_kp <| wpC_seq <| reg_s <| st rfl <| mvd rfl rfl <| stw rfl <| lens rfl fun l18 => st rfl <| mvc cI (0 : Int) rfl <| seqN [(0, .d ((cLs (cXVariable cS cI) rfl).enc v0)), (3, .d (cI.enc (1 : Int))), (6, .d ((cLs (cXVariable cS cI) rfl).enc v0)), (7, .d (cI.enc (v0.length : Int))), (8, .d (cI.enc (0 : Int)))] (by kernel_rfl) <|
    xn <| wpC_blk <| lpR (fun (k20 : Nat) (s19 : Int) => [(0, .d ((cLs (cXVariable cS cI) rfl).enc v0)), (3, .d (cI.enc s19)), (6, .d ((cLs (cXVariable cS cI) rfl).enc v0)), (7, .d (cI.enc (v0.length : Int))), (8, .d (cI.enc (k20 : Int)))]) (1 : Int) rfl h
    (fun G30 s19 h => wpC_seq <| reg_s <| st rfl <| b_lss (k := .i64) rfl rfl <| seqN [(0, .d ((cLs (cXVariable cS cI) rfl).enc v0)), (3, .d (cI.enc s19)), (6, .d ((cLs (cXVariable cS cI) rfl).enc v0)), (7, .d (cI.enc (v0.length : Int))), (8, .d (cI.enc (v0.length : Int))), (9, .d (cB.enc (decide ((v0.length : Int) < (v0.length : Int)))))] (by kernel_rfl) <|
    xn <| wpC_seq <| wpC_kp <| cnd0 rfl (dlf _) <| wpC_exit <| xt <| xt <| xt <| xb <| kpN [(3, .d (cI.enc s19))] (by kernel_rfl) <| xn <| wpC_seq <| reg_s <| st rfl <| mvd rfl rfl <| x_asg (ss rfl rfl) <| seqN [(2, .d (cI.enc s19))] (by kernel_rfl) <|
    xn <| wpC_ret <| re <| fin h (r1 (ss rfl rfl) <| r0) rfl)
    (fun G30 nx28 k20 s19 x21 hk22 hx23 hn29 h => wpC_seq <| reg_s <| st rfl <| b_lss (k := .i64) rfl rfl <| seqN [(0, .d ((cLs (cXVariable cS cI) rfl).enc v0)), (3, .d (cI.enc s19)), (6, .d ((cLs (cXVariable cS cI) rfl).enc v0)), (7, .d (cI.enc (v0.length : Int))), (8, .d (cI.enc (k20 : Int))), (9, .d (cB.enc (decide ((k20 : Int) < (v0.length : Int)))))] (by kernel_rfl) <|
    xn <| wpC_seq <| wpC_kp <| cnd1 rfl (dlt hk22) <| wpC_skip <| kpN [(0, .d ((cLs (cXVariable cS cI) rfl).enc v0)), (3, .d (cI.enc s19)), (6, .d ((cLs (cXVariable cS cI) rfl).enc v0)), (7, .d (cI.enc (v0.length : Int))), (8, .d (cI.enc (k20 : Int)))] (by kernel_rfl) <| xn <| wpC_seq <| wpC_kp <| wpC_blk <| wpC_seq <| reg_s <| st rfl <| ias rfl rfl (Int.natCast_nonneg _) hx23 rfl <| st rfl <| ldi rfl rfl rfl rfl <| x_all (cXVariable cS cI) (⟨([] : List UInt8), (0 : Int)⟩ : XVariable) rfl <| x_stb (ss rfl rfl) rfl (Cd.h_sz _ _) rfl <| seqN [(0, .d ((cLs (cXVariable cS cI) rfl).enc v0)), (3, .d (cI.enc s19)), (5, .box ((cXVariable cS cI).enc x21)), (6, .d ((cLs (cXVariable cS cI) rfl).enc v0)), (7, .d (cI.enc (v0.length : Int))), (8, .d (cI.enc (k20 : Int)))] (by kernel_rfl) <|
    xn <| reg_s <| st rfl <| mvd rfl rfl <| st rfl <| fab rfl rfl rfl rfl <| st rfl <| lda rfl rfl rfl rfl rfl rfl <| ckI_k h fun i32 h => st rfl <| b_mul (k := .i64) rfl rfl i32 <| x_asg (ss rfl rfl) <| seqN [(0, .d ((cLs (cXVariable cS cI) rfl).enc v0)), (3, .d (cI.enc (s19 * x21.Levels))), (6, .d ((cLs (cXVariable cS cI) rfl).enc v0)), (7, .d (cI.enc (v0.length : Int))), (8, .d (cI.enc (k20 : Int)))] (by kernel_rfl) <|
    xbb <| kpN [(0, .d ((cLs (cXVariable cS cI) rfl).enc v0)), (3, .d (cI.enc (s19 * x21.Levels))), (6, .d ((cLs (cXVariable cS cI) rfl).enc v0)), (7, .d (cI.enc (v0.length : Int))), (8, .d (cI.enc (k20 : Int)))] (by kernel_rfl) <| xn <| reg_s <| st rfl <| b_inc rfl rfl l18 hk22 <| st rfl <| mvd rfl rfl <| seqN [(0, .d ((cLs (cXVariable cS cI) rfl).enc v0)), (3, .d (cI.enc (s19 * x21.Levels))), (6, .d ((cLs (cXVariable cS cI) rfl).enc v0)), (7, .d (cI.enc (v0.length : Int))), (8, .d (cI.enc ((k20 + 1 : Nat) : Int)))] (by kernel_rfl) <|
    xn <| hn29 (s19 * x21.Levels) h)

def rs_impl_valuesAt (r : (List Int)) : List D := [(cLo cI).enc r]
def m128 : MC := .seq (.reg [⟨some 4, .asg (.c (.slice true [])), none⟩] [0, 1])
  (.seq (.reg [⟨some 7, .mv (.t 0), none⟩,
    ⟨some 8, .len false (.t 7), none⟩,
    ⟨some 9, .mk (.int .i64 0) (.t 8), none⟩,
    ⟨some 5, .asg (.t 9), none⟩] [0, 1, 5])
  (.seq (.kp [5] (.seq (.reg [⟨some 10, .mv (.t 0), none⟩,
    ⟨some 11, .len false (.t 10), none⟩,
    ⟨some 12, .bin .sub (.t 11) (.c (.int .i64 1)), none⟩,
    ⟨some 6, .asg (.t 12), none⟩] [0, 1, 5, 6])
  (.blk 0 (.loop (.seq (.kp [0, 1, 5, 6] (.seq (.reg [⟨some 13, .mv (.t 6), none⟩,
    ⟨some 14, .bin .geq (.t 13) (.c (.int .i64 0)), none⟩] [0, 1, 5, 6, 14])
  (.cond (.t 14) (.skip) (.exit 0))))
  (.seq (.kp [0, 1, 5, 6] (.blk 1 (.seq (.reg [⟨some 17, .mv (.t 5), none⟩,
    ⟨some 18, .mv (.t 6), none⟩,
    ⟨some 19, .mv (.t 1), none⟩,
    ⟨some 20, .mv (.t 0), none⟩,
    ⟨some 21, .mv (.t 6), none⟩,
    ⟨some 22, .ia 20 (.t 21) 2, none⟩,
    ⟨some 23, .fa 22 1 1, none⟩,
    ⟨some 24, .ld 23 1 false, none⟩,
    ⟨some 25, .bin .rem (.t 19) (.t 24), none⟩,
    ⟨some 26, .ia 17 (.t 18) 1, none⟩,
    ⟨none, .st 26 (.t 25) 1, none⟩] [0, 1, 5, 6])
  (.reg [⟨some 27, .mv (.t 1), none⟩,
    ⟨some 28, .mv (.t 0), none⟩,
    ⟨some 29, .mv (.t 6), none⟩,
    ⟨some 30, .ia 28 (.t 29) 2, none⟩,
    ⟨some 31, .fa 30 1 1, none⟩,
    ⟨some 32, .ld 31 1 false, none⟩,
    ⟨some 33, .bin .quo (.t 27) (.t 32), none⟩,
    ⟨some 1, .asg (.t 33), none⟩] [0, 1, 5, 6]))))
  (.reg [⟨some 15, .mv (.t 6), none⟩,
    ⟨some 16, .bin .sub (.t 15) (.c (.int .i64 1)), none⟩,
    ⟨some 6, .asg (.t 16), none⟩] [0, 1, 5, 6])))))))
  (.seq (.reg [⟨some 34, .mv (.t 5), none⟩,
    ⟨some 4, .asg (.t 34), none⟩] [4])
  (.ret))))
theorem con_impl_valuesAt {v0 : (List XVariable)} {v1 : Int} {r : (List Int)} (h : sh_impl_valuesAt v0 v1 = some r) : Con Try.prog 128 [(cLs (cXVariable cS cI) rfl).enc v0, cI.enc v1] [] (rs_impl_valuesAt r) := by
  delta sh_impl_valuesAt at h
  refine top (out := none) (f := Try.f128) (m := m128) (rs := [.t 4]) (by kernel_rfl) rfl (by kernel_rfl) (by kernel_rfl) (by kernel_rfl) (by kernel_rfl) (by kernel_rfl) ?_
  exact
   ini [(0, .d ((cLs (cXVariable cS cI) rfl).enc v0)), (1, .d (cI.enc v1))] rfl <| wpC_seq <| reg_s <| x_asg (sc (cLo cI) ([] : List Int) rfl) <| seqN [(0, .d ((cLs (cXVariable cS cI) rfl).enc v0)), (1, .d (cI.enc v1))] (by kernel_rfl) <|
    xn <| wpC_seq <| reg_s <| st rfl <| mvd rfl rfl <| stw rfl <| lens rfl fun l4 => mkO_k h fun i5 l6 h => st rfl <| o_mk (c := cI) (a0 := (0 : Int)) rfl (k := .i64) rfl i5 l6 <| x_asg (so rfl rfl) <| seqN [(0, .d ((cLs (cXVariable cS cI) rfl).enc v0)), (1, .d (cI.enc v1)), (5, .d ((cLo cI).enc (List.replicate ((v0.length : Int)).toNat (0 : Int))))] (by kernel_rfl) <|
    xn <| wpC_seq <| wpC_kp <| wpC_seq <| reg_s <| st rfl <| mvd rfl rfl <| stw rfl <| lens rfl fun l126 => ckI_k h fun i127 h => st rfl <| b_sub (k := .i64) rfl rfl i127 <| x_asg (ss rfl rfl) <| seqN [(0, .d ((cLs (cXVariable cS cI) rfl).enc v0)), (1, .d (cI.enc v1)), (5, .d ((cLo cI).enc (List.replicate ((v0.length : Int)).toNat (0 : Int)))), (6, .d (cI.enc ((v0.length : Int) - (1 : Int))))] (by kernel_rfl) <|
    xn <| wpC_blk <| lpF (fun (s128 : (Int × (List Int) × Int)) => [(0, .d ((cLs (cXVariable cS cI) rfl).enc v0)), (1, .d (cI.enc s128.1)), (5, .d ((cLo cI).enc s128.2.1)), (6, .d (cI.enc s128.2.2))]) (v1, (List.replicate ((v0.length : Int)).toNat (0 : Int)), ((v0.length : Int) - (1 : Int))) rfl h
    fun G205 nx203 s128 hn204 h => wpC_seq <| wpC_kp <| wpC_seq <| reg_s <| st rfl <| mvd rfl rfl <| st rfl <| b_geq (k := .i64) rfl rfl <| seqN [(0, .d ((cLs (cXVariable cS cI) rfl).enc v0)), (1, .d (cI.enc s128.1)), (5, .d ((cLo cI).enc s128.2.1)), (6, .d (cI.enc s128.2.2)), (14, .d (cB.enc (decide ((0 : Int) ≤ s128.2.2))))] (by kernel_rfl) <|
    xn <| cnd rfl h (fun b207 h => wpC_skip <| kpN [(0, .d ((cLs (cXVariable cS cI) rfl).enc v0)), (1, .d (cI.enc s128.1)), (5, .d ((cLo cI).enc s128.2.1)), (6, .d (cI.enc s128.2.2))] (by kernel_rfl) <| xn <| wpC_seq <| wpC_kp <| wpC_blk <| wpC_seq <| reg_s <| st rfl <| mvo rfl rfl <| st rfl <| mvd rfl rfl <| st rfl <| mvd rfl rfl <| st rfl <| mvd rfl rfl <| st rfl <| mvd rfl rfl <| getO_k h fun x231 i232 g233 h => st rfl <| ias rfl rfl i232 g233 rfl <| st rfl <| fai rfl rfl rfl rfl <| st rfl <| ldi rfl rfl rfl rfl <| ck_k h fun i234 h => st rfl <| b_rem (k := .i64) rfl rfl i234 <| getO_k h fun x235 i236 g237 h => st rfl <| iar rfl rfl rfl rfl i236 g237 rfl <| x_sta ((cLo cI).enc (s128.2.1.set (s128.2.2).toNat (s128.1.tmod x231.Levels))) (ss rfl rfl) rfl rfl (Ln.idx g237 Ln.nil) (Cd.h_sz cI _) rfl <| seqN [(0, .d ((cLs (cXVariable cS cI) rfl).enc v0)), (1, .d (cI.enc s128.1)), (5, .d ((cLo cI).enc (s128.2.1.set (s128.2.2).toNat (s128.1.tmod x231.Levels)))), (6, .d (cI.enc s128.2.2))] (by kernel_rfl) <|
    xn <| reg_s <| st rfl <| mvd rfl rfl <| st rfl <| mvd rfl rfl <| st rfl <| mvd rfl rfl <| st rfl <| ias rfl rfl i232 g233 rfl <| st rfl <| fai rfl rfl rfl rfl <| st rfl <| ldi rfl rfl rfl rfl <| ck_k h fun i238 h => ckI_k h fun i239 h => st rfl <| b_quo (k := .i64) rfl rfl i238 i239 <| x_asg (ss rfl rfl) <| seqN [(0, .d ((cLs (cXVariable cS cI) rfl).enc v0)), (1, .d (cI.enc (s128.1.tdiv x231.Levels))), (5, .d ((cLo cI).enc (s128.2.1.set (s128.2.2).toNat (s128.1.tmod x231.Levels)))), (6, .d (cI.enc s128.2.2))] (by kernel_rfl) <|
    xbb <| kpN [(0, .d ((cLs (cXVariable cS cI) rfl).enc v0)), (1, .d (cI.enc (s128.1.tdiv x231.Levels))), (5, .d ((cLo cI).enc (s128.2.1.set (s128.2.2).toNat (s128.1.tmod x231.Levels)))), (6, .d (cI.enc s128.2.2))] (by kernel_rfl) <| xn <| reg_s <| st rfl <| mvd rfl rfl <| ckI_k h fun i240 h => st rfl <| b_sub (k := .i64) rfl rfl i240 <| x_asg (ss rfl rfl) <| seqN [(0, .d ((cLs (cXVariable cS cI) rfl).enc v0)), (1, .d (cI.enc (s128.1.tdiv x231.Levels))), (5, .d ((cLo cI).enc (s128.2.1.set (s128.2.2).toNat (s128.1.tmod x231.Levels)))), (6, .d (cI.enc (s128.2.2 - (1 : Int))))] (by kernel_rfl) <|
    xn <| hn204 ((s128.1.tdiv x231.Levels), (s128.2.1.set (s128.2.2).toNat (s128.1.tmod x231.Levels)), (s128.2.2 - (1 : Int))) h)
    (fun b207 h => wpC_exit <| xt <| xt <| xt <| xb <| kpN [(5, .d ((cLo cI).enc s128.2.1))] (by kernel_rfl) <| xn <| wpC_seq <| reg_s <| st rfl <| mvo rfl rfl <| x_asg (sr rfl rfl) <| seqN [(4, .d ((cLo cI).enc s128.2.1))] (by kernel_rfl) <|
    xn <| wpC_ret <| re <| fin h (r1 (so rfl rfl) <| r0) rfl)

def rs_impl_fails (r : Bool) : List D := [cB.enc r]
def m142 : MC := .seq (.reg [⟨some 2, .box (.t 0), none⟩,
    ⟨some 4, .asg (.c (.bool false)), none⟩] [1, 2])
  (.seq (.kp [] (.seq (.reg [⟨some 7, .mv (.t 1), none⟩,
    ⟨some 8, .len false (.t 7), none⟩,
    ⟨some 9, .mv (.c (.int .i64 0)), none⟩] [1, 2, 7, 8, 9])
  (.blk 0 (.loop (.seq (.reg [⟨some 10, .bin .lss (.t 9) (.t 8), none⟩] [1, 2, 7, 8, 9, 10])
  (.seq (.kp [1, 2, 7, 8, 9] (.cond (.t 10) (.skip) (.exit 0)))
  (.seq (.kp [1, 2, 7, 8, 9] (.blk 1 (.seq (.reg [⟨some 11, .mv (.t 9), none⟩,
    ⟨some 12, .ia 7 (.t 9) 1, none⟩,
    ⟨some 13, .ld 12 1 false, none⟩,
    ⟨some 5, .asg (.t 11), none⟩,
    ⟨some 6, .asg (.t 13), none⟩] [1, 2, 5, 6, 7, 8, 9])
  (.seq (.reg [⟨some 14, .fa 2 0 0, none⟩,
    ⟨some 15, .ld 14 1 false, none⟩,
    ⟨some 16, .mv (.t 5), none⟩,
    ⟨some 17, .ia 15 (.t 16) 1, none⟩,
    ⟨some 18, .ld 17 1 false, none⟩,
    ⟨some 19, .mv (.t 6), none⟩,
    ⟨some 20, .bin .shr (.t 18) (.t 19), none⟩,
    ⟨some 21, .bin .and (.t 20) (.c (.int .i64 1)), none⟩,
    ⟨some 22, .bin .eql (.t 21) (.c (.int .i64 0)), none⟩] [1, 2, 7, 8, 9, 22])
  (.cond (.t 22) (.seq (.reg [⟨some 4, .asg (.c (.bool false)), none⟩] [4])
  (.ret)) (.skip))))))
  (.reg [⟨some 23, .bin .add (.t 9) (.c (.int .i64 1)), none⟩,
    ⟨some 9, .mv (.t 23), none⟩] [1, 2, 7, 8, 9]))))))))
  (.seq (.reg [⟨some 4, .asg (.c (.bool true)), none⟩] [4])
  (.ret)))
theorem con_impl_fails {v0 : XEdit} {v1 : (List Int)} {r : Bool} (h : sh_impl_fails v0 v1 = some r) : Con Try.prog 142 [(cXEdit (cLs cI rfl)).enc v0, (cLs cI rfl).enc v1] [] (rs_impl_fails r) := by
  delta sh_impl_fails at h
  refine top (out := none) (f := Try.f142) (m := m142) (rs := [.t 4]) (by kernel_rfl) rfl (by kernel_rfl) (by kernel_rfl) (by kernel_rfl) (by kernel_rfl) (by kernel_rfl) ?_
  exact
   ini [(0, .d ((cXEdit (cLs cI rfl)).enc v0)), (1, .d ((cLs cI rfl).enc v1))] rfl <| wpC_seq <| reg_s <| x_box (ss rfl rfl) <| x_asg (sc cB false rfl) <| seqN [(1, .d ((cLs cI rfl).enc v1)), (2, .box ((cXEdit (cLs cI rfl)).enc v0))] (by kernel_rfl) <|
    xn <| wpC_seq <| wpC_kp <| wpC_seq <| reg_s <| st rfl <| mvd rfl rfl <| stw rfl <| lens rfl fun l80 => st rfl <| mvc cI (0 : Int) rfl <| seqN [(1, .d ((cLs cI rfl).enc v1)), (2, .box ((cXEdit (cLs cI rfl)).enc v0)), (7, .d ((cLs cI rfl).enc v1)), (8, .d (cI.enc (v1.length : Int))), (9, .d (cI.enc (0 : Int)))] (by kernel_rfl) <|
    xn <| wpC_blk <| lpR (fun (k82 : Nat) (s81 : Unit) => [(1, .d ((cLs cI rfl).enc v1)), (2, .box ((cXEdit (cLs cI rfl)).enc v0)), (7, .d ((cLs cI rfl).enc v1)), (8, .d (cI.enc (v1.length : Int))), (9, .d (cI.enc (k82 : Int)))]) () rfl h
    (fun G122 s81 h => wpC_seq <| reg_s <| st rfl <| b_lss (k := .i64) rfl rfl <| seqN [(1, .d ((cLs cI rfl).enc v1)), (2, .box ((cXEdit (cLs cI rfl)).enc v0)), (7, .d ((cLs cI rfl).enc v1)), (8, .d (cI.enc (v1.length : Int))), (9, .d (cI.enc (v1.length : Int))), (10, .d (cB.enc (decide ((v1.length : Int) < (v1.length : Int)))))] (by kernel_rfl) <|
    xn <| wpC_seq <| wpC_kp <| cnd0 rfl (dlf _) <| wpC_exit <| xt <| xt <| xt <| xb <| kpN [] (by kernel_rfl) <| xn <| wpC_seq <| reg_s <| x_asg (sc cB true rfl) <| seqN [(4, .d (cB.enc true))] (by kernel_rfl) <|
    xn <| wpC_ret <| re <| fin h (r1 (ss rfl rfl) <| r0) rfl)
    (fun G122 nx120 k82 s81 x83 hk84 hx85 hn121 h => wpC_seq <| reg_s <| st rfl <| b_lss (k := .i64) rfl rfl <| seqN [(1, .d ((cLs cI rfl).enc v1)), (2, .box ((cXEdit (cLs cI rfl)).enc v0)), (7, .d ((cLs cI rfl).enc v1)), (8, .d (cI.enc (v1.length : Int))), (9, .d (cI.enc (k82 : Int))), (10, .d (cB.enc (decide ((k82 : Int) < (v1.length : Int)))))] (by kernel_rfl) <|
    xn <| wpC_seq <| wpC_kp <| cnd1 rfl (dlt hk84) <| wpC_skip <| kpN [(1, .d ((cLs cI rfl).enc v1)), (2, .box ((cXEdit (cLs cI rfl)).enc v0)), (7, .d ((cLs cI rfl).enc v1)), (8, .d (cI.enc (v1.length : Int))), (9, .d (cI.enc (k82 : Int)))] (by kernel_rfl) <| xn <| wpC_seq <| wpC_kp <| wpC_blk <| wpC_seq <| reg_s <| st rfl <| mvd rfl rfl <| st rfl <| ias rfl rfl (Int.natCast_nonneg _) hx85 rfl <| st rfl <| ldi rfl rfl rfl rfl <| x_asg (ss rfl rfl) <| x_asg (ss rfl rfl) <| seqN [(1, .d ((cLs cI rfl).enc v1)), (2, .box ((cXEdit (cLs cI rfl)).enc v0)), (5, .d (cI.enc (k82 : Int))), (6, .d (cI.enc x83)), (7, .d ((cLs cI rfl).enc v1)), (8, .d (cI.enc (v1.length : Int))), (9, .d (cI.enc (k82 : Int)))] (by kernel_rfl) <|
    xn <| wpC_seq <| reg_s <| st rfl <| fab rfl rfl rfl rfl <| st rfl <| lda rfl rfl rfl rfl rfl rfl <| st rfl <| mvd rfl rfl <| getO_k h fun x148 i149 g150 h => st rfl <| ias rfl rfl i149 g150 rfl <| st rfl <| ldi rfl rfl rfl rfl <| st rfl <| mvd rfl rfl <| ck_k h fun i151 h => st rfl <| b_shr (k := .i64) (k' := .i64) rfl rfl i151 rfl <| ck_k h fun i152 h => ckK_k h fun i153 h => ck_k h fun i154 h => ckK_k h fun i155 h => st rfl <| b_and (k := .i64) rfl rfl ⟨i152, i153⟩ ⟨i154, i155⟩ <| st rfl <| b_eql (k := .i64) rfl rfl <| seqN [(1, .d ((cLs cI rfl).enc v1)), (2, .box ((cXEdit (cLs cI rfl)).enc v0)), (7, .d ((cLs cI rfl).enc v1)), (8, .d (cI.enc (v1.length : Int))), (9, .d (cI.enc (k82 : Int))), (22, .d (cB.enc (decide ((((x148 / 2 ^ (x83).toNat).toNat &&& (1 : Int).toNat : Nat) : Int) = (0 : Int)))))] (by kernel_rfl) <|
    xn <| cnd rfl h (fun b156 h => wpC_seq <| reg_s <| x_asg (sc cB false rfl) <| seqN [(4, .d (cB.enc false))] (by kernel_rfl) <|
    xn <| wpC_ret <| rb <| rt <| rt <| rt <| rb <| rt <| rt <| re <| fin h (r1 (ss rfl rfl) <| r0) rfl)
    (fun b156 h => wpC_skip <| xbb <| kpN [(1, .d ((cLs cI rfl).enc v1)), (2, .box ((cXEdit (cLs cI rfl)).enc v0)), (7, .d ((cLs cI rfl).enc v1)), (8, .d (cI.enc (v1.length : Int))), (9, .d (cI.enc (k82 : Int)))] (by kernel_rfl) <| xn <| reg_s <| st rfl <| b_inc rfl rfl l80 hk84 <| st rfl <| mvd rfl rfl <| seqN [(1, .d ((cLs cI rfl).enc v1)), (2, .box ((cXEdit (cLs cI rfl)).enc v0)), (7, .d ((cLs cI rfl).enc v1)), (8, .d (cI.enc (v1.length : Int))), (9, .d (cI.enc ((k82 + 1 : Nat) : Int)))] (by kernel_rfl) <|
    xn <| hn121 () h))

def rs_impl_failsOne (r : Bool) : List D := [cB.enc r]
def m93 : MC := .seq (.reg [⟨some 4, .asg (.c (.bool false)), none⟩] [0, 1])
  (.seq (.kp [] (.seq (.reg [⟨some 7, .mv (.t 0), none⟩,
    ⟨some 8, .len false (.t 7), none⟩,
    ⟨some 9, .mv (.c (.int .i64 0)), none⟩] [0, 1, 7, 8, 9])
  (.blk 0 (.loop (.seq (.reg [⟨some 10, .bin .lss (.t 9) (.t 8), none⟩] [0, 1, 7, 8, 9, 10])
  (.seq (.kp [0, 1, 7, 8, 9] (.cond (.t 10) (.skip) (.exit 0)))
  (.seq (.kp [0, 1, 7, 8, 9] (.blk 1 (.seq (.reg [⟨some 11, .ia 7 (.t 9) 1, none⟩,
    ⟨some 12, .ld 11 1 true, none⟩,
    ⟨some 6, .alloc (.agg [.slice true []]), none⟩,
    ⟨none, .st 6 (.t 12) 1, none⟩] [0, 1, 6, 7, 8, 9])
  (.seq (.reg [⟨some 13, .ld 6 1 true, none⟩,
    ⟨some 14, .mv (.t 1), none⟩,
    ⟨some 15, .call 142 [(.t 13), (.t 14)], none⟩] [0, 1, 7, 8, 9, 15])
  (.cond (.t 15) (.seq (.reg [⟨some 4, .asg (.c (.bool true)), none⟩] [4])
  (.ret)) (.skip))))))
  (.reg [⟨some 16, .bin .add (.t 9) (.c (.int .i64 1)), none⟩,
    ⟨some 9, .mv (.t 16), none⟩] [0, 1, 7, 8, 9]))))))))
  (.seq (.reg [⟨some 4, .asg (.c (.bool false)), none⟩] [4])
  (.ret)))
theorem con_impl_failsOne {v0 : (List XEdit)} {v1 : (List Int)} {r : Bool} (h : sh_impl_failsOne v0 v1 = some r) : Con Try.prog 93 [(cLs (cXEdit (cLs cI rfl)) rfl).enc v0, (cLs cI rfl).enc v1] [] (rs_impl_failsOne r) := by
  delta sh_impl_failsOne at h
  refine top (out := none) (f := Try.f93) (m := m93) (rs := [.t 4]) (by kernel_rfl) rfl (by kernel_rfl) (by kernel_rfl) (by kernel_rfl) (by kernel_rfl) (by kernel_rfl) ?_
  exact
   ini [(0, .d ((cLs (cXEdit (cLs cI rfl)) rfl).enc v0)), (1, .d ((cLs cI rfl).enc v1))] rfl <| wpC_seq <| reg_s <| x_asg (sc cB false rfl) <| seqN [(0, .d ((cLs (cXEdit (cLs cI rfl)) rfl).enc v0)), (1, .d ((cLs cI rfl).enc v1))] (by kernel_rfl) <|
    xn <| wpC_seq <| wpC_kp <| wpC_seq <| reg_s <| st rfl <| mvd rfl rfl <| stw rfl <| lens rfl fun l32 => st rfl <| mvc cI (0 : Int) rfl <| seqN [(0, .d ((cLs (cXEdit (cLs cI rfl)) rfl).enc v0)), (1, .d ((cLs cI rfl).enc v1)), (7, .d ((cLs (cXEdit (cLs cI rfl)) rfl).enc v0)), (8, .d (cI.enc (v0.length : Int))), (9, .d (cI.enc (0 : Int)))] (by kernel_rfl) <|
    xn <| wpC_blk <| lpR (fun (k34 : Nat) (s33 : Unit) => [(0, .d ((cLs (cXEdit (cLs cI rfl)) rfl).enc v0)), (1, .d ((cLs cI rfl).enc v1)), (7, .d ((cLs (cXEdit (cLs cI rfl)) rfl).enc v0)), (8, .d (cI.enc (v0.length : Int))), (9, .d (cI.enc (k34 : Int)))]) () rfl h
    (fun G50 s33 h => wpC_seq <| reg_s <| st rfl <| b_lss (k := .i64) rfl rfl <| seqN [(0, .d ((cLs (cXEdit (cLs cI rfl)) rfl).enc v0)), (1, .d ((cLs cI rfl).enc v1)), (7, .d ((cLs (cXEdit (cLs cI rfl)) rfl).enc v0)), (8, .d (cI.enc (v0.length : Int))), (9, .d (cI.enc (v0.length : Int))), (10, .d (cB.enc (decide ((v0.length : Int) < (v0.length : Int)))))] (by kernel_rfl) <|
    xn <| wpC_seq <| wpC_kp <| cnd0 rfl (dlf _) <| wpC_exit <| xt <| xt <| xt <| xb <| kpN [] (by kernel_rfl) <| xn <| wpC_seq <| reg_s <| x_asg (sc cB false rfl) <| seqN [(4, .d (cB.enc false))] (by kernel_rfl) <|
    xn <| wpC_ret <| re <| fin h (r1 (ss rfl rfl) <| r0) rfl)
    (fun G50 nx48 k34 s33 x35 hk36 hx37 hn49 h => wpC_seq <| reg_s <| st rfl <| b_lss (k := .i64) rfl rfl <| seqN [(0, .d ((cLs (cXEdit (cLs cI rfl)) rfl).enc v0)), (1, .d ((cLs cI rfl).enc v1)), (7, .d ((cLs (cXEdit (cLs cI rfl)) rfl).enc v0)), (8, .d (cI.enc (v0.length : Int))), (9, .d (cI.enc (k34 : Int))), (10, .d (cB.enc (decide ((k34 : Int) < (v0.length : Int)))))] (by kernel_rfl) <|
    xn <| wpC_seq <| wpC_kp <| cnd1 rfl (dlt hk36) <| wpC_skip <| kpN [(0, .d ((cLs (cXEdit (cLs cI rfl)) rfl).enc v0)), (1, .d ((cLs cI rfl).enc v1)), (7, .d ((cLs (cXEdit (cLs cI rfl)) rfl).enc v0)), (8, .d (cI.enc (v0.length : Int))), (9, .d (cI.enc (k34 : Int)))] (by kernel_rfl) <| xn <| wpC_seq <| wpC_kp <| wpC_blk <| wpC_seq <| reg_s <| st rfl <| ias rfl rfl (Int.natCast_nonneg _) hx37 rfl <| st rfl <| ldi rfl rfl rfl rfl <| x_all (cXEdit (cLo cI)) (⟨([] : List Int)⟩ : XEdit) rfl <| x_stb (ss rfl rfl) rfl (Cd.h_sz _ _) rfl <| seqN [(0, .d ((cLs (cXEdit (cLs cI rfl)) rfl).enc v0)), (1, .d ((cLs cI rfl).enc v1)), (6, .box ((cXEdit (cLs cI rfl)).enc x35)), (7, .d ((cLs (cXEdit (cLs cI rfl)) rfl).enc v0)), (8, .d (cI.enc (v0.length : Int))), (9, .d (cI.enc (k34 : Int)))] (by kernel_rfl) <|
    xn <| wpC_seq <| reg_s <| st rfl <| ldb rfl rfl rfl rfl <| st rfl <| mvd rfl rfl <| bnd h fun x58 e59 h => st rfl <| o_call (a1 (c := (cXEdit (cLs cI rfl))) (tXEdit (tLs tK)) rfl (a1 (c := (cLs cI rfl)) (tLs tK) rfl a0)) (con_impl_fails e59) (.inl (so1 sB so0)) <| seqN [(0, .d ((cLs (cXEdit (cLs cI rfl)) rfl).enc v0)), (1, .d ((cLs cI rfl).enc v1)), (7, .d ((cLs (cXEdit (cLs cI rfl)) rfl).enc v0)), (8, .d (cI.enc (v0.length : Int))), (9, .d (cI.enc (k34 : Int))), (15, .d (cB.enc x58))] (by kernel_rfl) <|
    xn <| cnd rfl h (fun b60 h => wpC_seq <| reg_s <| x_asg (sc cB true rfl) <| seqN [(4, .d (cB.enc true))] (by kernel_rfl) <|
    xn <| wpC_ret <| rb <| rt <| rt <| rt <| rb <| rt <| rt <| re <| fin h (r1 (ss rfl rfl) <| r0) rfl)
    (fun b60 h => wpC_skip <| xbb <| kpN [(0, .d ((cLs (cXEdit (cLs cI rfl)) rfl).enc v0)), (1, .d ((cLs cI rfl).enc v1)), (7, .d ((cLs (cXEdit (cLs cI rfl)) rfl).enc v0)), (8, .d (cI.enc (v0.length : Int))), (9, .d (cI.enc (k34 : Int)))] (by kernel_rfl) <| xn <| reg_s <| st rfl <| b_inc rfl rfl l32 hk36 <| st rfl <| mvd rfl rfl <| seqN [(0, .d ((cLs (cXEdit (cLs cI rfl)) rfl).enc v0)), (1, .d ((cLs cI rfl).enc v1)), (7, .d ((cLs (cXEdit (cLs cI rfl)) rfl).enc v0)), (8, .d (cI.enc (v0.length : Int))), (9, .d (cI.enc ((k34 + 1 : Nat) : Int)))] (by kernel_rfl) <|
    xn <| hn49 () h))

def rs_laws_eqVariable (r : Bool) : List D := [cB.enc r]
def m68 : MC := .seq (.reg [⟨some 2, .box (.t 0), none⟩,
    ⟨some 3, .box (.t 1), none⟩,
    ⟨some 4, .asg (.c (.bool false)), none⟩] [2, 3])
  (.seq (.kp [2, 3] (.seq (.reg [⟨some 5, .fa 2 0 0, none⟩,
    ⟨some 6, .ld 5 1 false, none⟩,
    ⟨some 7, .fa 3 0 0, none⟩,
    ⟨some 8, .ld 7 1 false, none⟩,
    ⟨some 9, .bin .neq (.t 6) (.t 8), none⟩] [2, 3, 9])
  (.cond (.t 9) (.seq (.reg [⟨some 4, .asg (.c (.bool false)), none⟩] [4])
  (.ret)) (.skip))))
  (.seq (.kp [] (.seq (.reg [⟨some 10, .fa 2 1 1, none⟩,
    ⟨some 11, .ld 10 1 false, none⟩,
    ⟨some 12, .fa 3 1 1, none⟩,
    ⟨some 13, .ld 12 1 false, none⟩,
    ⟨some 14, .bin .neq (.t 11) (.t 13), none⟩] [14])
  (.cond (.t 14) (.seq (.reg [⟨some 4, .asg (.c (.bool false)), none⟩] [4])
  (.ret)) (.skip))))
  (.seq (.reg [⟨some 4, .asg (.c (.bool true)), none⟩] [4])
  (.ret))))
theorem con_laws_eqVariable {v0 : XVariable} {v1 : XVariable} {r : Bool} (h : sh_laws_eqVariable v0 v1 = some r) : Con Try.prog 68 [(cXVariable cS cI).enc v0, (cXVariable cS cI).enc v1] [] (rs_laws_eqVariable r) := by
  delta sh_laws_eqVariable at h
  refine top (out := none) (f := Try.f68) (m := m68) (rs := [.t 4]) (by kernel_rfl) rfl (by kernel_rfl) (by kernel_rfl) (by kernel_rfl) (by kernel_rfl) (by kernel_rfl) ?_
  exact
   ini [(0, .d ((cXVariable cS cI).enc v0)), (1, .d ((cXVariable cS cI).enc v1))] rfl <| wpC_seq <| reg_s <| x_box (ss rfl rfl) <| x_box (ss rfl rfl) <| x_asg (sc cB false rfl) <| seqN [(2, .box ((cXVariable cS cI).enc v0)), (3, .box ((cXVariable cS cI).enc v1))] (by kernel_rfl) <|
    xn <| wpC_seq <| wpC_kp <| wpC_seq <| reg_s <| st rfl <| fab rfl rfl rfl rfl <| st rfl <| lda rfl rfl rfl rfl rfl rfl <| st rfl <| fab rfl rfl rfl rfl <| st rfl <| lda rfl rfl rfl rfl rfl rfl <| st rfl <| b_sne rfl rfl <| seqN [(2, .box ((cXVariable cS cI).enc v0)), (3, .box ((cXVariable cS cI).enc v1)), (9, .d (cB.enc (decide (v0.Name ≠ v1.Name))))] (by kernel_rfl) <|
    xn <| cnd rfl h (fun b2 h => wpC_seq <| reg_s <| x_asg (sc cB false rfl) <| seqN [(4, .d (cB.enc false))] (by kernel_rfl) <|
    xn <| wpC_ret <| rt <| rt <| re <| fin h (r1 (ss rfl rfl) <| r0) rfl)
    (fun b2 h => wpC_skip <| kpN [(2, .box ((cXVariable cS cI).enc v0)), (3, .box ((cXVariable cS cI).enc v1))] (by kernel_rfl) <| xn <| wpC_seq <| wpC_kp <| wpC_seq <| reg_s <| st rfl <| fab rfl rfl rfl rfl <| st rfl <| lda rfl rfl rfl rfl rfl rfl <| st rfl <| fab rfl rfl rfl rfl <| st rfl <| lda rfl rfl rfl rfl rfl rfl <| st rfl <| b_neq (k := .i64) rfl rfl <| seqN [(14, .d (cB.enc (decide (v0.Levels ≠ v1.Levels))))] (by kernel_rfl) <|
    xn <| cnd rfl h (fun b4 h => wpC_seq <| reg_s <| x_asg (sc cB false rfl) <| seqN [(4, .d (cB.enc false))] (by kernel_rfl) <|
    xn <| wpC_ret <| rt <| rt <| re <| fin h (r1 (ss rfl rfl) <| r0) rfl)
    (fun b4 h => wpC_skip <| kpN [] (by kernel_rfl) <| xn <| wpC_seq <| reg_s <| x_asg (sc cB true rfl) <| seqN [(4, .d (cB.enc true))] (by kernel_rfl) <|
    xn <| wpC_ret <| re <| fin h (r1 (ss rfl rfl) <| r0) rfl))

def rs_laws_eqVariableS (r : Bool) : List D := [cB.enc r]
def m20 : MC := .seq (.reg [⟨some 4, .asg (.c (.bool false)), none⟩] [0, 1])
  (.seq (.kp [0, 1] (.seq (.reg [⟨some 6, .mv (.t 0), none⟩,
    ⟨some 7, .len false (.t 6), none⟩,
    ⟨some 8, .mv (.t 1), none⟩,
    ⟨some 9, .len false (.t 8), none⟩,
    ⟨some 10, .bin .neq (.t 7) (.t 9), none⟩] [0, 1, 10])
  (.cond (.t 10) (.seq (.reg [⟨some 4, .asg (.c (.bool false)), none⟩] [4])
  (.ret)) (.skip))))
  (.seq (.kp [] (.seq (.reg [⟨some 5, .asg (.c (.int .i64 0)), none⟩] [0, 1, 5])
  (.blk 0 (.loop (.seq (.kp [0, 1, 5] (.seq (.reg [⟨some 11, .mv (.t 5), none⟩,
    ⟨some 12, .mv (.t 0), none⟩,
    ⟨some 13, .len false (.t 12), none⟩,
    ⟨some 14, .bin .lss (.t 11) (.t 13), none⟩] [0, 1, 5, 14])
  (.cond (.t 14) (.skip) (.exit 0))))
  (.seq (.kp [0, 1, 5] (.blk 1 (.seq (.drw [⟨0, ⟨some 17, .mv (.t 0), none⟩, [18, 19, 20, 21, 22, 23, 24, 25, 26]⟩,
    ⟨1, ⟨some 18, .mv (.t 5), none⟩, [17, 19, 20, 21, 22, 23, 24, 25, 26]⟩,
    ⟨2, ⟨some 19, .ia 17 (.t 18) 2, none⟩, [20, 21, 22, 23, 24, 25, 26]⟩,
    ⟨3, ⟨some 20, .ld 19 2 true, none⟩, [21, 22, 23, 24, 25, 26]⟩,
    ⟨4, ⟨some 21, .mv (.t 1), none⟩, [17, 18, 19, 20, 22, 23, 24, 25, 26]⟩,
    ⟨5, ⟨some 22, .mv (.t 5), none⟩, [17, 18, 19, 20, 21, 23, 24, 25, 26]⟩,
    ⟨6, ⟨some 23, .ia 21 (.t 22) 2, none⟩, [17, 18, 19, 20, 24, 25, 26]⟩,
    ⟨7, ⟨some 24, .ld 23 2 true, none⟩, [17, 18, 19, 20, 25, 26]⟩,
    ⟨8, ⟨some 25, .call 68 [(.t 20), (.t 24)], none⟩, [26]⟩,
    ⟨9, ⟨some 26, .nt (.t 25), none⟩, []⟩]
    [] [0, 1, 5, 26])
  (.cond (.t 26) (.seq (.reg [⟨some 4, .asg (.c (.bool false)), none⟩] [4])
  (.ret)) (.skip)))))
  (.reg [⟨some 15, .mv (.t 5), none⟩,
    ⟨some 16, .bin .add (.t 15) (.c (.int .i64 1)), none⟩,
    ⟨some 5, .asg (.t 16), none⟩] [0, 1, 5])))))))
  (.seq (.reg [⟨some 4, .asg (.c (.bool true)), none⟩] [4])
  (.ret))))
theorem con_laws_eqVariableS {v0 : (List XVariable)} {v1 : (List XVariable)} {r : Bool} (h : sh_laws_eqVariableS v0 v1 = some r) : Con Try.prog 20 [(cLs (cXVariable cS cI) rfl).enc v0, (cLs (cXVariable cS cI) rfl).enc v1] [] (rs_laws_eqVariableS r) := by
  delta sh_laws_eqVariableS at h
  refine top (out := none) (f := Try.f20) (m := m20) (rs := [.t 4]) (by kernel_rfl) rfl (by kernel_rfl) (by kernel_rfl) (by kernel_rfl) (by kernel_rfl) (by kernel_rfl) ?_
  exact
   ini [(0, .d ((cLs (cXVariable cS cI) rfl).enc v0)), (1, .d ((cLs (cXVariable cS cI) rfl).enc v1))] rfl <| wpC_seq <| reg_s <| x_asg (sc cB false rfl) <| seqN [(0, .d ((cLs (cXVariable cS cI) rfl).enc v0)), (1, .d ((cLs (cXVariable cS cI) rfl).enc v1))] (by kernel_rfl) <|
    xn <| wpC_seq <| wpC_kp <| wpC_seq <| reg_s <| st rfl <| mvd rfl rfl <| stw rfl <| lens rfl fun l8 => st rfl <| mvd rfl rfl <| stw rfl <| lens rfl fun l9 => st rfl <| b_neq (k := .i64) rfl rfl <| seqN [(0, .d ((cLs (cXVariable cS cI) rfl).enc v0)), (1, .d ((cLs (cXVariable cS cI) rfl).enc v1)), (10, .d (cB.enc (decide ((v0.length : Int) ≠ (v1.length : Int)))))] (by kernel_rfl) <|
    xn <| cnd rfl h (fun b10 h => wpC_seq <| reg_s <| x_asg (sc cB false rfl) <| seqN [(4, .d (cB.enc false))] (by kernel_rfl) <|
    xn <| wpC_ret <| rt <| rt <| re <| fin h (r1 (ss rfl rfl) <| r0) rfl)
    (fun b10 h => wpC_skip <| kpN [(0, .d ((cLs (cXVariable cS cI) rfl).enc v0)), (1, .d ((cLs (cXVariable cS cI) rfl).enc v1))] (by kernel_rfl) <| xn <| wpC_seq <| wpC_kp <| wpC_seq <| reg_s <| x_asg (sc cI (0 : Int) rfl) <| seqN [(0, .d ((cLs (cXVariable cS cI) rfl).enc v0)), (1, .d ((cLs (cXVariable cS cI) rfl).enc v1)), (5, .d (cI.enc (0 : Int)))] (by kernel_rfl) <|
    xn <| wpC_blk <| lpF (fun (s142 : Int) => [(0, .d ((cLs (cXVariable cS cI) rfl).enc v0)), (1, .d ((cLs (cXVariable cS cI) rfl).enc v1)), (5, .d (cI.enc s142))]) (0 : Int) rfl h
    fun G231 nx229 s142 hn230 h => wpC_seq <| wpC_kp <| wpC_seq <| reg_s <| st rfl <| mvd rfl rfl <| st rfl <| mvd rfl rfl <| stw rfl <| lens rfl fun l236 => st rfl <| b_lss (k := .i64) rfl rfl <| seqN [(0, .d ((cLs (cXVariable cS cI) rfl).enc v0)), (1, .d ((cLs (cXVariable cS cI) rfl).enc v1)), (5, .d (cI.enc s142)), (14, .d (cB.enc (decide (s142 < (v0.length : Int)))))] (by kernel_rfl) <|
    xn <| cnd rfl h (fun b237 h => wpC_skip <| kpN [(0, .d ((cLs (cXVariable cS cI) rfl).enc v0)), (1, .d ((cLs (cXVariable cS cI) rfl).enc v1)), (5, .d (cI.enc s142))] (by kernel_rfl) <| xn <| wpC_seq <| wpC_kp <| wpC_blk <| wpC_seq <| drw_s <| pst rfl <| mvd rfl rfl ⟨rfl, pst rfl <| mvd rfl rfl ⟨rfl, getO_kp h fun x263 i264 g265 h => pst rfl <| ias rfl rfl i264 g265 rfl ⟨rfl, pst rfl <| ldi rfl rfl rfl rfl ⟨rfl, pst rfl <| mvd rfl rfl ⟨rfl, pst rfl <| mvd rfl rfl ⟨rfl, getO_kp h fun x266 i267 g268 h => pst rfl <| ias rfl rfl i267 g268 rfl ⟨rfl, pst rfl <| ldi rfl rfl rfl rfl ⟨rfl, bndp h fun x269 e270 h => pst rfl <| o_call (a1 (c := (cXVariable cS cI)) (tXVariable tS tK) rfl (a1 (c := (cXVariable cS cI)) (tXVariable tS tK) rfl a0)) (con_laws_eqVariable e270) (.inl (so1 sB so0)) ⟨rfl, pst rfl <| o_nt rfl ⟨rfl, preN <| seqN [(0, .d ((cLs (cXVariable cS cI) rfl).enc v0)), (1, .d ((cLs (cXVariable cS cI) rfl).enc v1)), (5, .d (cI.enc s142)), (26, .d (cB.enc (!x269)))] (by kernel_rfl) <|
    xn <| cnd rfl h (fun b271 h => wpC_seq <| reg_s <| x_asg (sc cB false rfl) <| seqN [(4, .d (cB.enc false))] (by kernel_rfl) <|
    xn <| wpC_ret <| rb <| rt <| rt <| rt <| rb <| rt <| rt <| re <| fin h (r1 (ss rfl rfl) <| r0) rfl)
    (fun b271 h => wpC_skip <| xbb <| kpN [(0, .d ((cLs (cXVariable cS cI) rfl).enc v0)), (1, .d ((cLs (cXVariable cS cI) rfl).enc v1)), (5, .d (cI.enc s142))] (by kernel_rfl) <| xn <| reg_s <| st rfl <| mvd rfl rfl <| ckI_k h fun i272 h => st rfl <| b_add (k := .i64) rfl rfl i272 <| x_asg (ss rfl rfl) <| seqN [(0, .d ((cLs (cXVariable cS cI) rfl).enc v0)), (1, .d ((cLs (cXVariable cS cI) rfl).enc v1)), (5, .d (cI.enc (s142 + (1 : Int))))] (by kernel_rfl) <|
    xn <| hn230 (s142 + (1 : Int)) h)⟩⟩⟩⟩⟩⟩⟩⟩⟩⟩)
    (fun b237 h => wpC_exit <| xt <| xt <| xt <| xb <| kpN [] (by kernel_rfl) <| xn <| wpC_seq <| reg_s <| x_asg (sc cB true rfl) <| seqN [(4, .d (cB.enc true))] (by kernel_rfl) <|
    xn <| wpC_ret <| re <| fin h (r1 (ss rfl rfl) <| r0) rfl))

def rs_laws_eqEdit (r : Bool) : List D := [cB.enc r]
def m69 : MC := .seq (.reg [⟨some 2, .box (.t 0), none⟩,
    ⟨some 3, .box (.t 1), none⟩,
    ⟨some 4, .asg (.c (.bool false)), none⟩] [2, 3])
  (.seq (.kp [] (.seq (.reg [⟨some 5, .fa 2 0 0, none⟩,
    ⟨some 6, .ld 5 1 false, none⟩,
    ⟨some 7, .fa 3 0 0, none⟩,
    ⟨some 8, .ld 7 1 false, none⟩,
    ⟨some 9, .call 19 [(.t 6), (.t 8)], none⟩,
    ⟨some 10, .nt (.t 9), none⟩] [10])
  (.cond (.t 10) (.seq (.reg [⟨some 4, .asg (.c (.bool false)), none⟩] [4])
  (.ret)) (.skip))))
  (.seq (.reg [⟨some 4, .asg (.c (.bool true)), none⟩] [4])
  (.ret)))
theorem con_laws_eqEdit {v0 : XEdit} {v1 : XEdit} {r : Bool} (h : sh_laws_eqEdit v0 v1 = some r) : Con Try.prog 69 [(cXEdit (cLs cI rfl)).enc v0, (cXEdit (cLs cI rfl)).enc v1] [] (rs_laws_eqEdit r) := by
  delta sh_laws_eqEdit at h
  refine top (out := none) (f := Try.f69) (m := m69) (rs := [.t 4]) (by kernel_rfl) rfl (by kernel_rfl) (by kernel_rfl) (by kernel_rfl) (by kernel_rfl) (by kernel_rfl) ?_
  exact
   ini [(0, .d ((cXEdit (cLs cI rfl)).enc v0)), (1, .d ((cXEdit (cLs cI rfl)).enc v1))] rfl <| wpC_seq <| reg_s <| x_box (ss rfl rfl) <| x_box (ss rfl rfl) <| x_asg (sc cB false rfl) <| seqN [(2, .box ((cXEdit (cLs cI rfl)).enc v0)), (3, .box ((cXEdit (cLs cI rfl)).enc v1))] (by kernel_rfl) <|
    xn <| wpC_seq <| wpC_kp <| wpC_seq <| reg_s <| st rfl <| fab rfl rfl rfl rfl <| st rfl <| lda rfl rfl rfl rfl rfl rfl <| st rfl <| fab rfl rfl rfl rfl <| st rfl <| lda rfl rfl rfl rfl rfl rfl <| bnd h fun x8 e9 h => st rfl <| o_call (a1 (c := (cLs cI rfl)) (tLs tK) rfl (a1 (c := (cLs cI rfl)) (tLs tK) rfl a0)) (con_laws_eqIntS e9) (.inl (so1 sB so0)) <| st rfl <| o_nt rfl <| seqN [(10, .d (cB.enc (!x8)))] (by kernel_rfl) <|
    xn <| cnd rfl h (fun b10 h => wpC_seq <| reg_s <| x_asg (sc cB false rfl) <| seqN [(4, .d (cB.enc false))] (by kernel_rfl) <|
    xn <| wpC_ret <| rt <| rt <| re <| fin h (r1 (ss rfl rfl) <| r0) rfl)
    (fun b10 h => wpC_skip <| kpN [] (by kernel_rfl) <| xn <| wpC_seq <| reg_s <| x_asg (sc cB true rfl) <| seqN [(4, .d (cB.enc true))] (by kernel_rfl) <|
    xn <| wpC_ret <| re <| fin h (r1 (ss rfl rfl) <| r0) rfl)

def rs_laws_eqEditS (r : Bool) : List D := [cB.enc r]
def m21 : MC := .seq (.reg [⟨some 4, .asg (.c (.bool false)), none⟩] [0, 1])
  (.seq (.kp [0, 1] (.seq (.reg [⟨some 6, .mv (.t 0), none⟩,
    ⟨some 7, .len false (.t 6), none⟩,
    ⟨some 8, .mv (.t 1), none⟩,
    ⟨some 9, .len false (.t 8), none⟩,
    ⟨some 10, .bin .neq (.t 7) (.t 9), none⟩] [0, 1, 10])
  (.cond (.t 10) (.seq (.reg [⟨some 4, .asg (.c (.bool false)), none⟩] [4])
  (.ret)) (.skip))))
  (.seq (.kp [] (.seq (.reg [⟨some 5, .asg (.c (.int .i64 0)), none⟩] [0, 1, 5])
  (.blk 0 (.loop (.seq (.kp [0, 1, 5] (.seq (.reg [⟨some 11, .mv (.t 5), none⟩,
    ⟨some 12, .mv (.t 0), none⟩,
    ⟨some 13, .len false (.t 12), none⟩,
    ⟨some 14, .bin .lss (.t 11) (.t 13), none⟩] [0, 1, 5, 14])
  (.cond (.t 14) (.skip) (.exit 0))))
  (.seq (.kp [0, 1, 5] (.blk 1 (.seq (.drw [⟨0, ⟨some 17, .mv (.t 0), none⟩, [18, 19, 20, 21, 22, 23, 24, 25, 26]⟩,
    ⟨1, ⟨some 18, .mv (.t 5), none⟩, [17, 19, 20, 21, 22, 23, 24, 25, 26]⟩,
    ⟨2, ⟨some 19, .ia 17 (.t 18) 1, none⟩, [20, 21, 22, 23, 24, 25, 26]⟩,
    ⟨3, ⟨some 20, .ld 19 1 true, none⟩, [21, 22, 23, 24, 25, 26]⟩,
    ⟨4, ⟨some 21, .mv (.t 1), none⟩, [17, 18, 19, 20, 22, 23, 24, 25, 26]⟩,
    ⟨5, ⟨some 22, .mv (.t 5), none⟩, [17, 18, 19, 20, 21, 23, 24, 25, 26]⟩,
    ⟨6, ⟨some 23, .ia 21 (.t 22) 1, none⟩, [17, 18, 19, 20, 24, 25, 26]⟩,
    ⟨7, ⟨some 24, .ld 23 1 true, none⟩, [17, 18, 19, 20, 25, 26]⟩,
    ⟨8, ⟨some 25, .call 69 [(.t 20), (.t 24)], none⟩, [26]⟩,
    ⟨9, ⟨some 26, .nt (.t 25), none⟩, []⟩]
    [] [0, 1, 5, 26])
  (.cond (.t 26) (.seq (.reg [⟨some 4, .asg (.c (.bool false)), none⟩] [4])
  (.ret)) (.skip)))))
  (.reg [⟨some 15, .mv (.t 5), none⟩,
    ⟨some 16, .bin .add (.t 15) (.c (.int .i64 1)), none⟩,
    ⟨some 5, .asg (.t 16), none⟩] [0, 1, 5])))))))
  (.seq (.reg [⟨some 4, .asg (.c (.bool true)), none⟩] [4])
  (.ret))))
theorem con_laws_eqEditS {v0 : (List XEdit)} {v1 : (List XEdit)} {r : Bool} (h : sh_laws_eqEditS v0 v1 = some r) : Con Try.prog 21 [(cLs (cXEdit (cLs cI rfl)) rfl).enc v0, (cLs (cXEdit (cLs cI rfl)) rfl).enc v1] [] (rs_laws_eqEditS r) := by
  delta sh_laws_eqEditS at h
  refine top (out := none) (f := Try.f21) (m := m21) (rs := [.t 4]) (by kernel_rfl) rfl (by kernel_rfl) (by kernel_rfl) (by kernel_rfl) (by kernel_rfl) (by kernel_rfl) ?_
  exact
   ini [(0, .d ((cLs (cXEdit (cLs cI rfl)) rfl).enc v0)), (1, .d ((cLs (cXEdit (cLs cI rfl)) rfl).enc v1))] rfl <| wpC_seq <| reg_s <| x_asg (sc cB false rfl) <| seqN [(0, .d ((cLs (cXEdit (cLs cI rfl)) rfl).enc v0)), (1, .d ((cLs (cXEdit (cLs cI rfl)) rfl).enc v1))] (by kernel_rfl) <|
    xn <| wpC_seq <| wpC_kp <| wpC_seq <| reg_s <| st rfl <| mvd rfl rfl <| stw rfl <| lens rfl fun l8 => st rfl <| mvd rfl rfl <| stw rfl <| lens rfl fun l9 => st rfl <| b_neq (k := .i64) rfl rfl <| seqN [(0, .d ((cLs (cXEdit (cLs cI rfl)) rfl).enc v0)), (1, .d ((cLs (cXEdit (cLs cI rfl)) rfl).enc v1)), (10, .d (cB.enc (decide ((v0.length : Int) ≠ (v1.length : Int)))))] (by kernel_rfl) <|
    xn <| cnd rfl h (fun b10 h => wpC_seq <| reg_s <| x_asg (sc cB false rfl) <| seqN [(4, .d (cB.enc false))] (by kernel_rfl) <|
    xn <| wpC_ret <| rt <| rt <| re <| fin h (r1 (ss rfl rfl) <| r0) rfl)
    (fun b10 h => wpC_skip <| kpN [(0, .d ((cLs (cXEdit (cLs cI rfl)) rfl).enc v0)), (1, .d ((cLs (cXEdit (cLs cI rfl)) rfl).enc v1))] (by kernel_rfl) <| xn <| wpC_seq <| wpC_kp <| wpC_seq <| reg_s <| x_asg (sc cI (0 : Int) rfl) <| seqN [(0, .d ((cLs (cXEdit (cLs cI rfl)) rfl).enc v0)), (1, .d ((cLs (cXEdit (cLs cI rfl)) rfl).enc v1)), (5, .d (cI.enc (0 : Int)))] (by kernel_rfl) <|
    xn <| wpC_blk <| lpF (fun (s142 : Int) => [(0, .d ((cLs (cXEdit (cLs cI rfl)) rfl).enc v0)), (1, .d ((cLs (cXEdit (cLs cI rfl)) rfl).enc v1)), (5, .d (cI.enc s142))]) (0 : Int) rfl h
    fun G231 nx229 s142 hn230 h => wpC_seq <| wpC_kp <| wpC_seq <| reg_s <| st rfl <| mvd rfl rfl <| st rfl <| mvd rfl rfl <| stw rfl <| lens rfl fun l236 => st rfl <| b_lss (k := .i64) rfl rfl <| seqN [(0, .d ((cLs (cXEdit (cLs cI rfl)) rfl).enc v0)), (1, .d ((cLs (cXEdit (cLs cI rfl)) rfl).enc v1)), (5, .d (cI.enc s142)), (14, .d (cB.enc (decide (s142 < (v0.length : Int)))))] (by kernel_rfl) <|
    xn <| cnd rfl h (fun b237 h => wpC_skip <| kpN [(0, .d ((cLs (cXEdit (cLs cI rfl)) rfl).enc v0)), (1, .d ((cLs (cXEdit (cLs cI rfl)) rfl).enc v1)), (5, .d (cI.enc s142))] (by kernel_rfl) <| xn <| wpC_seq <| wpC_kp <| wpC_blk <| wpC_seq <| drw_s <| pst rfl <| mvd rfl rfl ⟨rfl, pst rfl <| mvd rfl rfl ⟨rfl, getO_kp h fun x263 i264 g265 h => pst rfl <| ias rfl rfl i264 g265 rfl ⟨rfl, pst rfl <| ldi rfl rfl rfl rfl ⟨rfl, pst rfl <| mvd rfl rfl ⟨rfl, pst rfl <| mvd rfl rfl ⟨rfl, getO_kp h fun x266 i267 g268 h => pst rfl <| ias rfl rfl i267 g268 rfl ⟨rfl, pst rfl <| ldi rfl rfl rfl rfl ⟨rfl, bndp h fun x269 e270 h => pst rfl <| o_call (a1 (c := (cXEdit (cLs cI rfl))) (tXEdit (tLs tK)) rfl (a1 (c := (cXEdit (cLs cI rfl))) (tXEdit (tLs tK)) rfl a0)) (con_laws_eqEdit e270) (.inl (so1 sB so0)) ⟨rfl, pst rfl <| o_nt rfl ⟨rfl, preN <| seqN [(0, .d ((cLs (cXEdit (cLs cI rfl)) rfl).enc v0)), (1, .d ((cLs (cXEdit (cLs cI rfl)) rfl).enc v1)), (5, .d (cI.enc s142)), (26, .d (cB.enc (!x269)))] (by kernel_rfl) <|
    xn <| cnd rfl h (fun b271 h => wpC_seq <| reg_s <| x_asg (sc cB false rfl) <| seqN [(4, .d (cB.enc false))] (by kernel_rfl) <|
    xn <| wpC_ret <| rb <| rt <| rt <| rt <| rb <| rt <| rt <| re <| fin h (r1 (ss rfl rfl) <| r0) rfl)
    (fun b271 h => wpC_skip <| xbb <| kpN [(0, .d ((cLs (cXEdit (cLs cI rfl)) rfl).enc v0)), (1, .d ((cLs (cXEdit (cLs cI rfl)) rfl).enc v1)), (5, .d (cI.enc s142))] (by kernel_rfl) <| xn <| reg_s <| st rfl <| mvd rfl rfl <| ckI_k h fun i272 h => st rfl <| b_add (k := .i64) rfl rfl i272 <| x_asg (ss rfl rfl) <| seqN [(0, .d ((cLs (cXEdit (cLs cI rfl)) rfl).enc v0)), (1, .d ((cLs (cXEdit (cLs cI rfl)) rfl).enc v1)), (5, .d (cI.enc (s142 + (1 : Int))))] (by kernel_rfl) <|
    xn <| hn230 (s142 + (1 : Int)) h)⟩⟩⟩⟩⟩⟩⟩⟩⟩⟩)
    (fun b237 h => wpC_exit <| xt <| xt <| xt <| xb <| kpN [] (by kernel_rfl) <| xn <| wpC_seq <| reg_s <| x_asg (sc cB true rfl) <| seqN [(4, .d (cB.enc true))] (by kernel_rfl) <|
    xn <| wpC_ret <| re <| fin h (r1 (ss rfl rfl) <| r0) rfl))

def rs_laws_markText (r : (List UInt8)) : List D := [cS.enc r]
def m70 : MC := .seq (.reg [⟨some 2, .asg (.c (.str [])), none⟩] [0])
  (.seq (.kp [0] (.seq (.reg [⟨some 4, .mv (.t 0), none⟩,
    ⟨some 5, .bin .leq (.t 4) (.c (.int .i64 0)), none⟩] [0, 5])
  (.cond (.t 5) (.seq (.reg [⟨some 2, .asg (.c (.str [109, 48])), none⟩] [2])
  (.ret)) (.skip))))
  (.seq (.reg [⟨some 3, .asg (.c (.str [])), none⟩] [0, 3])
  (.seq (.kp [3] (.blk 0 (.loop (.kp [0, 3] (.seq (.kp [0, 3] (.seq (.reg [⟨some 6, .mv (.t 0), none⟩,
    ⟨some 7, .bin .gtr (.t 6) (.c (.int .i64 0)), none⟩] [0, 3, 7])
  (.cond (.t 7) (.skip) (.exit 0))))
  (.blk 1 (.seq (.reg [⟨some 8, .mv (.t 0), none⟩,
    ⟨some 9, .bin .rem (.t 8) (.c (.int .i64 10)), none⟩,
    ⟨some 10, .bin .add (.c (.int .i64 48)) (.t 9), none⟩,
    ⟨some 11, .cvi .u8 (.t 10), none⟩,
    ⟨some 12, .bsl [(.t 11)] 1, none⟩,
    ⟨some 13, .b2s (.t 12), none⟩,
    ⟨some 14, .mv (.t 3), none⟩,
    ⟨some 15, .bin .add (.t 13) (.t 14), none⟩,
    ⟨some 3, .asg (.t 15), none⟩] [0, 3])
  (.reg [⟨some 16, .mv (.t 0), none⟩,
    ⟨some 17, .bin .quo (.t 16) (.c (.int .i64 10)), none⟩,
    ⟨some 0, .asg (.t 17), none⟩] [0, 3]))))))))
  (.seq (.reg [⟨some 18, .mv (.t 3), none⟩,
    ⟨some 19, .bin .add (.c (.str [109])) (.t 18), none⟩,
    ⟨some 2, .asg (.t 19), none⟩] [2])
  (.ret)))))
theorem con_laws_markText {v0 : Int} {r : (List UInt8)} (h : sh_laws_markText v0 = some r) : Con Try.prog 70 [cI.enc v0] [] (rs_laws_markText r) := by
  delta sh_laws_markText at h
  refine top (out := none) (f := Try.f70) (m := m70) (rs := [.t 2]) (by kernel_rfl) rfl (by kernel_rfl) (by kernel_rfl) (by kernel_rfl) (by kernel_rfl) (by kernel_rfl) ?_
  exact
   ini [(0, .d (cI.enc v0))] rfl <| wpC_seq <| reg_s <| x_asg (sc cS ([] : List UInt8) rfl) <| seqN [(0, .d (cI.enc v0))] (by kernel_rfl) <|
    xn <| wpC_seq <| wpC_kp <| wpC_seq <| reg_s <| st rfl <| mvd rfl rfl <| st rfl <| b_leq (k := .i64) rfl rfl <| seqN [(0, .d (cI.enc v0)), (5, .d (cB.enc (decide (v0 ≤ (0 : Int)))))] (by kernel_rfl) <|
    xn <| cnd rfl h (fun b2 h => wpC_seq <| reg_s <| x_asg (sc cS ([109, 48] : List UInt8) rfl) <| seqN [(2, .d (cS.enc ([109, 48] : List UInt8)))] (by kernel_rfl) <|
    xn <| wpC_ret <| rt <| rt <| re <| fin h (r1 (ss rfl rfl) <| r0) rfl)
    (fun b2 h => wpC_skip <| kpN [(0, .d (cI.enc v0))] (by kernel_rfl) <| xn <| wpC_seq <| reg_s <| x_asg (sc cS ([] : List UInt8) rfl) <| seqN [(0, .d (cI.enc v0)), (3, .d (cS.enc ([] : List UInt8)))] (by kernel_rfl) <|
    xn <| wpC_seq <| wpC_kp <| wpC_blk <| lpF (fun (s59 : (Int × (List UInt8))) => [(0, .d (cI.enc s59.1)), (3, .d (cS.enc s59.2))]) (v0, ([] : List UInt8)) rfl h
    fun G98 nx96 s59 hn97 h => wpC_kp <| wpC_seq <| wpC_kp <| wpC_seq <| reg_s <| st rfl <| mvd rfl rfl <| st rfl <| b_gtr (k := .i64) rfl rfl <| seqN [(0, .d (cI.enc s59.1)), (3, .d (cS.enc s59.2)), (7, .d (cB.enc (decide ((0 : Int) < s59.1))))] (by kernel_rfl) <|
    xn <| cnd rfl h (fun b100 h => wpC_skip <| kpN [(0, .d (cI.enc s59.1)), (3, .d (cS.enc s59.2))] (by kernel_rfl) <| xn <| wpC_blk <| wpC_seq <| reg_s <| st rfl <| mvd rfl rfl <| ck_k h fun i107 h => st rfl <| b_rem (k := .i64) rfl rfl i107 <| ckI_k h fun i108 h => st rfl <| b_add (k := .i64) rfl rfl i108 <| ckU_k h fun i109 h => st rfl <| o_cvi (k := .i64) (k' := .u8) rfl i109 <| x_bsl cU [((48 : Int) + (s59.1.tmod (10 : Int)))] (t1 (ss rfl rfl) rfl t0) rfl rfl <| ck_k h fun i110 h => st rfl <| o_b2s rfl rfl i110 <| st rfl <| mvd rfl rfl <| lnO_k h fun l112 h => st rfl <| b_cat rfl rfl l112 <| x_asg (ss rfl rfl) <| seqN [(0, .d (cI.enc s59.1)), (3, .d (cS.enc ((bytesOf [((48 : Int) + (s59.1.tmod (10 : Int)))]) ++ s59.2)))] (by kernel_rfl) <|
    xn <| reg_s <| st rfl <| mvd rfl rfl <| ck_k h fun i113 h => ckI_k h fun i114 h => st rfl <| b_quo (k := .i64) rfl rfl i113 i114 <| x_asg (ss rfl rfl) <| seqN [(0, .d (cI.enc (s59.1.tdiv (10 : Int)))), (3, .d (cS.enc ((bytesOf [((48 : Int) + (s59.1.tmod (10 : Int)))]) ++ s59.2)))] (by kernel_rfl) <|
    xbb <| kpN [(0, .d (cI.enc (s59.1.tdiv (10 : Int)))), (3, .d (cS.enc ((bytesOf [((48 : Int) + (s59.1.tmod (10 : Int)))]) ++ s59.2)))] (by kernel_rfl) <| xn <| hn97 ((s59.1.tdiv (10 : Int)), ((bytesOf [((48 : Int) + (s59.1.tmod (10 : Int)))]) ++ s59.2)) h)
    (fun b100 h => wpC_exit <| xt <| xt <| xt <| xt <| xb <| kpN [(3, .d (cS.enc s59.2))] (by kernel_rfl) <| xn <| wpC_seq <| reg_s <| st rfl <| mvd rfl rfl <| lnO_k h fun l116 h => st rfl <| b_cat rfl rfl l116 <| x_asg (ss rfl rfl) <| seqN [(2, .d (cS.enc (([109] : List UInt8) ++ s59.2)))] (by kernel_rfl) <|
    xn <| wpC_ret <| re <| fin h (r1 (ss rfl rfl) <| r0) rfl))

def os_laws_markVariableS (r : ((List XVariable) × Int)) : D := (cLo (cXVariable cS cI)).enc r.1
def rs_laws_markVariableS (r : ((List XVariable) × Int)) : List D := [cI.enc r.2]
def m22 : MC := .seq (.reg [⟨some 4, .asg (.c (.int .i64 0)), none⟩] [0, 1])
  (.seq (.kp [0, 1] (.seq (.reg [⟨some 5, .asg (.c (.int .i64 0)), none⟩] [0, 1, 5])
  (.blk 0 (.loop (.seq (.kp [0, 1, 5] (.seq (.reg [⟨some 6, .mv (.t 5), none⟩,
    ⟨some 7, .mv (.t 0), none⟩,
    ⟨some 8, .len false (.t 7), none⟩,
    ⟨some 9, .bin .lss (.t 6) (.t 8), none⟩] [0, 1, 5, 9])
  (.cond (.t 9) (.skip) (.exit 0))))
  (.seq (.kp [0, 1, 5] (.blk 1 (.seq (.reg [⟨some 12, .mv (.t 0), none⟩,
    ⟨some 13, .mv (.t 5), none⟩,
    ⟨some 14, .mv (.t 1), none⟩,
    ⟨some 15, .call 70 [(.t 14)], none⟩,
    ⟨some 16, .ia 12 (.t 13) 2, none⟩,
    ⟨some 17, .fa 16 0 0, none⟩,
    ⟨none, .st 17 (.t 15) 1, none⟩] [0, 1, 5])
  (.seq (.reg [⟨some 18, .mv (.t 1), none⟩,
    ⟨some 19, .bin .add (.t 18) (.c (.int .i64 1)), none⟩,
    ⟨some 1, .asg (.t 19), none⟩] [0, 1, 5])
  (.seq (.reg [⟨some 20, .mv (.t 0), none⟩,
    ⟨some 21, .mv (.t 5), none⟩,
    ⟨some 22, .mv (.t 1), none⟩,
    ⟨some 23, .ia 20 (.t 21) 2, none⟩,
    ⟨some 24, .fa 23 1 1, none⟩,
    ⟨none, .st 24 (.t 22) 1, none⟩] [0, 1, 5])
  (.reg [⟨some 25, .mv (.t 1), none⟩,
    ⟨some 26, .bin .add (.t 25) (.c (.int .i64 1)), none⟩,
    ⟨some 1, .asg (.t 26), none⟩] [0, 1, 5]))))))
  (.reg [⟨some 10, .mv (.t 5), none⟩,
    ⟨some 11, .bin .add (.t 10) (.c (.int .i64 1)), none⟩,
    ⟨some 5, .asg (.t 11), none⟩] [0, 1, 5])))))))
  (.seq (.reg [⟨some 27, .mv (.t 1), none⟩,
    ⟨some 4, .asg (.t 27), none⟩] [0, 4])
  (.ret)))
theorem con_laws_markVariableS {v0 : (List XVariable)} {v1 : Int} {r : ((List XVariable) × Int)} (h : sh_laws_markVariableS v0 v1 = some r) : Con Try.prog 22 [(cLo (cXVariable cS cI)).enc v0, cI.enc v1] (outsOf (some (0, os_laws_markVariableS r))) (rs_laws_markVariableS r) := by
  delta sh_laws_markVariableS at h
  refine top (out := some (0, os_laws_markVariableS r)) (f := Try.f22) (m := m22) (rs := [.t 4]) (by kernel_rfl) rfl (by kernel_rfl) (by kernel_rfl) (by kernel_rfl) (by kernel_rfl) (by kernel_rfl) ?_
  exact
   ini [(0, .d ((cLo (cXVariable cS cI)).enc v0)), (1, .d (cI.enc v1))] rfl <| wpC_seq <| reg_s <| x_asg (sc cI (0 : Int) rfl) <| seqN [(0, .d ((cLo (cXVariable cS cI)).enc v0)), (1, .d (cI.enc v1))] (by kernel_rfl) <|
    xn <| wpC_seq <| wpC_kp <| wpC_seq <| reg_s <| x_asg (sc cI (0 : Int) rfl) <| seqN [(0, .d ((cLo (cXVariable cS cI)).enc v0)), (1, .d (cI.enc v1)), (5, .d (cI.enc (0 : Int)))] (by kernel_rfl) <|
    xn <| wpC_blk <| lpF (fun (s144 : ((List XVariable) × Int × Int)) => [(0, .d ((cLo (cXVariable cS cI)).enc s144.1)), (1, .d (cI.enc s144.2.1)), (5, .d (cI.enc s144.2.2))]) (v0, v1, (0 : Int)) rfl h
    fun G241 nx239 s144 hn240 h => wpC_seq <| wpC_kp <| wpC_seq <| reg_s <| st rfl <| mvd rfl rfl <| st rfl <| mvo rfl rfl <| stw rfl <| leno rfl fun l246 => st rfl <| b_lss (k := .i64) rfl rfl <| seqN [(0, .d ((cLo (cXVariable cS cI)).enc s144.1)), (1, .d (cI.enc s144.2.1)), (5, .d (cI.enc s144.2.2)), (9, .d (cB.enc (decide (s144.2.2 < (s144.1.length : Int)))))] (by kernel_rfl) <|
    xn <| cnd rfl h (fun b247 h => wpC_skip <| kpN [(0, .d ((cLo (cXVariable cS cI)).enc s144.1)), (1, .d (cI.enc s144.2.1)), (5, .d (cI.enc s144.2.2))] (by kernel_rfl) <| xn <| wpC_seq <| wpC_kp <| wpC_blk <| wpC_seq <| reg_s <| st rfl <| mvo rfl rfl <| st rfl <| mvd rfl rfl <| st rfl <| mvd rfl rfl <| bnd h fun x272 e273 h => st rfl <| o_call (a1 (c := cI) tK rfl a0) (con_laws_markText e273) (.inl (so1 sS so0)) <| getO_k h fun x274 i275 g276 h => st rfl <| iar rfl rfl rfl rfl i275 g276 rfl <| st rfl <| faa rfl rfl (Gt.idx g276 Gt.nil) rfl rfl rfl <| x_sta ((cLo (cXVariable cS cI)).enc (s144.1.set (s144.2.2).toNat (⟨x272, x274.Levels⟩ : XVariable))) (ss rfl rfl) rfl rfl (Ln.idx g276 (Ln.fld rfl rfl Ln.nil rfl)) (Cd.h_sz cS _) rfl <| seqN [(0, .d ((cLo (cXVariable cS cI)).enc (s144.1.set (s144.2.2).toNat (⟨x272, x274.Levels⟩ : XVariable)))), (1, .d (cI.enc s144.2.1)), (5, .d (cI.enc s144.2.2))] (by kernel_rfl) <|
    xn <| wpC_seq <| reg_s <| st rfl <| mvd rfl rfl <| ckI_k h fun i278 h => st rfl <| b_add (k := .i64) rfl rfl i278 <| x_asg (ss rfl rfl) <| seqN [(0, .d ((cLo (cXVariable cS cI)).enc (s144.1.set (s144.2.2).toNat (⟨x272, x274.Levels⟩ : XVariable)))), (1, .d (cI.enc (s144.2.1 + (1 : Int)))), (5, .d (cI.enc s144.2.2))] (by kernel_rfl) <|
    xn <| wpC_seq <| reg_s <| st rfl <| mvo rfl rfl <| st rfl <| mvd rfl rfl <| st rfl <| mvd rfl rfl <| getO_k h fun x282 i283 g284 h => st rfl <| iar rfl rfl rfl rfl i283 g284 rfl <| st rfl <| faa rfl rfl (Gt.idx g284 Gt.nil) rfl rfl rfl <| x_sta ((cLo (cXVariable cS cI)).enc ((s144.1.set (s144.2.2).toNat (⟨x272, x274.Levels⟩ : XVariable)).set (s144.2.2).toNat (⟨x282.Name, (s144.2.1 + (1 : Int))⟩ : XVariable))) (ss rfl rfl) rfl rfl (Ln.idx g284 (Ln.fld rfl rfl Ln.nil rfl)) (Cd.h_sz cI _) rfl <| seqN [(0, .d ((cLo (cXVariable cS cI)).enc ((s144.1.set (s144.2.2).toNat (⟨x272, x274.Levels⟩ : XVariable)).set (s144.2.2).toNat (⟨x282.Name, (s144.2.1 + (1 : Int))⟩ : XVariable)))), (1, .d (cI.enc (s144.2.1 + (1 : Int)))), (5, .d (cI.enc s144.2.2))] (by kernel_rfl) <|
    xn <| reg_s <| st rfl <| mvd rfl rfl <| ckI_k h fun i285 h => st rfl <| b_add (k := .i64) rfl rfl i285 <| x_asg (ss rfl rfl) <| seqN [(0, .d ((cLo (cXVariable cS cI)).enc ((s144.1.set (s144.2.2).toNat (⟨x272, x274.Levels⟩ : XVariable)).set (s144.2.2).toNat (⟨x282.Name, (s144.2.1 + (1 : Int))⟩ : XVariable)))), (1, .d (cI.enc ((s144.2.1 + (1 : Int)) + (1 : Int)))), (5, .d (cI.enc s144.2.2))] (by kernel_rfl) <|
    xbb <| kpN [(0, .d ((cLo (cXVariable cS cI)).enc ((s144.1.set (s144.2.2).toNat (⟨x272, x274.Levels⟩ : XVariable)).set (s144.2.2).toNat (⟨x282.Name, (s144.2.1 + (1 : Int))⟩ : XVariable)))), (1, .d (cI.enc ((s144.2.1 + (1 : Int)) + (1 : Int)))), (5, .d (cI.enc s144.2.2))] (by kernel_rfl) <| xn <| reg_s <| st rfl <| mvd rfl rfl <| ckI_k h fun i286 h => st rfl <| b_add (k := .i64) rfl rfl i286 <| x_asg (ss rfl rfl) <| seqN [(0, .d ((cLo (cXVariable cS cI)).enc ((s144.1.set (s144.2.2).toNat (⟨x272, x274.Levels⟩ : XVariable)).set (s144.2.2).toNat (⟨x282.Name, (s144.2.1 + (1 : Int))⟩ : XVariable)))), (1, .d (cI.enc ((s144.2.1 + (1 : Int)) + (1 : Int)))), (5, .d (cI.enc (s144.2.2 + (1 : Int))))] (by kernel_rfl) <|
    xn <| hn240 (((s144.1.set (s144.2.2).toNat (⟨x272, x274.Levels⟩ : XVariable)).set (s144.2.2).toNat (⟨x282.Name, (s144.2.1 + (1 : Int))⟩ : XVariable)), ((s144.2.1 + (1 : Int)) + (1 : Int)), (s144.2.2 + (1 : Int))) h)
    (fun b247 h => wpC_exit <| xt <| xt <| xt <| xb <| kpN [(0, .d ((cLo (cXVariable cS cI)).enc s144.1)), (1, .d (cI.enc s144.2.1))] (by kernel_rfl) <| xn <| wpC_seq <| reg_s <| st rfl <| mvd rfl rfl <| x_asg (ss rfl rfl) <| seqN [(0, .d ((cLo (cXVariable cS cI)).enc s144.1)), (4, .d (cI.enc s144.2.1))] (by kernel_rfl) <|
    xn <| wpC_ret <| re <| finO h (r1 (ss rfl rfl) <| r0) rfl rfl)

def os_laws_markEditS (r : ((List XEdit) × Int)) : D := (cLo (cXEdit (cLo cI))).enc r.1
def rs_laws_markEditS (r : ((List XEdit) × Int)) : List D := [cI.enc r.2]
def m23 : MC := .seq (.reg [⟨some 4, .asg (.c (.int .i64 0)), none⟩] [0, 1])
  (.seq (.kp [0, 1] (.seq (.reg [⟨some 5, .asg (.c (.int .i64 0)), none⟩] [0, 1, 5])
  (.blk 0 (.loop (.seq (.kp [0, 1, 5] (.seq (.reg [⟨some 6, .mv (.t 5), none⟩,
    ⟨some 7, .mv (.t 0), none⟩,
    ⟨some 8, .len false (.t 7), none⟩,
    ⟨some 9, .bin .lss (.t 6) (.t 8), none⟩] [0, 1, 5, 9])
  (.cond (.t 9) (.skip) (.exit 0))))
  (.seq (.kp [0, 1, 5] (.blk 1 (.reg [⟨some 12, .mv (.t 0), none⟩,
    ⟨some 13, .mv (.t 5), none⟩,
    ⟨some 14, .ia 12 (.t 13) 1, none⟩,
    ⟨some 15, .fa 14 0 0, none⟩,
    ⟨some 16, .ld 15 1 false, none⟩,
    ⟨some 17, .mv (.t 1), none⟩,
    ⟨some 18, .callO 24 [(.t 16), (.t 17)], none⟩,
    ⟨some 1, .asg (.t 18), none⟩] [0, 1, 5])))
  (.reg [⟨some 10, .mv (.t 5), none⟩,
    ⟨some 11, .bin .add (.t 10) (.c (.int .i64 1)), none⟩,
    ⟨some 5, .asg (.t 11), none⟩] [0, 1, 5])))))))
  (.seq (.reg [⟨some 19, .mv (.t 1), none⟩,
    ⟨some 4, .asg (.t 19), none⟩] [0, 4])
  (.ret)))
theorem con_laws_markEditS {v0 : (List XEdit)} {v1 : Int} {r : ((List XEdit) × Int)} (h : sh_laws_markEditS v0 v1 = some r) : Con Try.prog 23 [(cLo (cXEdit (cLo cI))).enc v0, cI.enc v1] (outsOf (some (0, os_laws_markEditS r))) (rs_laws_markEditS r) := by
  delta sh_laws_markEditS at h
  refine top (out := some (0, os_laws_markEditS r)) (f := Try.f23) (m := m23) (rs := [.t 4]) (by kernel_rfl) rfl (by kernel_rfl) (by kernel_rfl) (by kernel_rfl) (by kernel_rfl) (by kernel_rfl) ?_
  exact
   ini [(0, .d ((cLo (cXEdit (cLo cI))).enc v0)), (1, .d (cI.enc v1))] rfl <| wpC_seq <| reg_s <| x_asg (sc cI (0 : Int) rfl) <| seqN [(0, .d ((cLo (cXEdit (cLo cI))).enc v0)), (1, .d (cI.enc v1))] (by kernel_rfl) <|
    xn <| wpC_seq <| wpC_kp <| wpC_seq <| reg_s <| x_asg (sc cI (0 : Int) rfl) <| seqN [(0, .d ((cLo (cXEdit (cLo cI))).enc v0)), (1, .d (cI.enc v1)), (5, .d (cI.enc (0 : Int)))] (by kernel_rfl) <|
    xn <| wpC_blk <| lpF (fun (s60 : ((List XEdit) × Int × Int)) => [(0, .d ((cLo (cXEdit (cLo cI))).enc s60.1)), (1, .d (cI.enc s60.2.1)), (5, .d (cI.enc s60.2.2))]) (v0, v1, (0 : Int)) rfl h
    fun G101 nx99 s60 hn100 h => wpC_seq <| wpC_kp <| wpC_seq <| reg_s <| st rfl <| mvd rfl rfl <| st rfl <| mvo rfl rfl <| stw rfl <| leno rfl fun l106 => st rfl <| b_lss (k := .i64) rfl rfl <| seqN [(0, .d ((cLo (cXEdit (cLo cI))).enc s60.1)), (1, .d (cI.enc s60.2.1)), (5, .d (cI.enc s60.2.2)), (9, .d (cB.enc (decide (s60.2.2 < (s60.1.length : Int)))))] (by kernel_rfl) <|
    xn <| cnd rfl h (fun b107 h => wpC_skip <| kpN [(0, .d ((cLo (cXEdit (cLo cI))).enc s60.1)), (1, .d (cI.enc s60.2.1)), (5, .d (cI.enc s60.2.2))] (by kernel_rfl) <| xn <| wpC_seq <| wpC_kp <| wpC_blk <| reg_s <| st rfl <| mvo rfl rfl <| st rfl <| mvd rfl rfl <| getO_k h fun x113 i114 g115 h => st rfl <| iar rfl rfl rfl rfl i114 g115 rfl <| st rfl <| faa rfl rfl (Gt.idx g115 Gt.nil) rfl rfl rfl <| st rfl <| ldao rfl rfl (Gt.idx g115 (Gt.fld rfl rfl Gt.nil)) rfl rfl rfl <| st rfl <| mvd rfl rfl <| bnd h fun x116 e117 h => x_clr (c := (cLo cI)) (c' := (cLo cI)) ((cLo (cXEdit (cLo cI))).enc (s60.1.set (s60.2.2).toNat (⟨x116.1⟩ : XEdit))) (sLo sK) rfl (a1 (c := cI) tK rfl a0) rfl (Ln.idx g115 (Ln.fld rfl rfl Ln.nil rfl)) (con_laws_markIntS e117) rfl rfl (so1 sK so0) <| x_asg (ss rfl rfl) <| seqN [(0, .d ((cLo (cXEdit (cLo cI))).enc (s60.1.set (s60.2.2).toNat (⟨x116.1⟩ : XEdit)))), (1, .d (cI.enc x116.2)), (5, .d (cI.enc s60.2.2))] (by kernel_rfl) <|
    xbb <| kpN [(0, .d ((cLo (cXEdit (cLo cI))).enc (s60.1.set (s60.2.2).toNat (⟨x116.1⟩ : XEdit)))), (1, .d (cI.enc x116.2)), (5, .d (cI.enc s60.2.2))] (by kernel_rfl) <| xn <| reg_s <| st rfl <| mvd rfl rfl <| ckI_k h fun i118 h => st rfl <| b_add (k := .i64) rfl rfl i118 <| x_asg (ss rfl rfl) <| seqN [(0, .d ((cLo (cXEdit (cLo cI))).enc (s60.1.set (s60.2.2).toNat (⟨x116.1⟩ : XEdit)))), (1, .d (cI.enc x116.2)), (5, .d (cI.enc (s60.2.2 + (1 : Int))))] (by kernel_rfl) <|
    xn <| hn100 ((s60.1.set (s60.2.2).toNat (⟨x116.1⟩ : XEdit)), x116.2, (s60.2.2 + (1 : Int))) h)
    (fun b107 h => wpC_exit <| xt <| xt <| xt <| xb <| kpN [(0, .d ((cLo (cXEdit (cLo cI))).enc s60.1)), (1, .d (cI.enc s60.2.1))] (by kernel_rfl) <| xn <| wpC_seq <| reg_s <| st rfl <| mvd rfl rfl <| x_asg (ss rfl rfl) <| seqN [(0, .d ((cLo (cXEdit (cLo cI))).enc s60.1)), (4, .d (cI.enc s60.2.1))] (by kernel_rfl) <|
    xn <| wpC_ret <| re <| finO h (r1 (ss rfl rfl) <| r0) rfl rfl)

def rs_spec_eSmall (r : Bool) : List D := [cB.enc r]
def m96 : MC := .seq (.reg [⟨some 4, .asg (.c (.bool false)), none⟩] [0, 1])
  (.seq (.reg [⟨some 5, .mv (.t 0), none⟩,
    ⟨some 6, .mv (.t 1), none⟩,
    ⟨some 7, .call 58 [(.t 5), (.t 6)], none⟩,
    ⟨some 8, .mv (.t 7), none⟩,
    ⟨some 9, .mv (.t 0), some (8, true)⟩,
    ⟨some 10, .call 59 [(.t 9)], some (8, true)⟩,
    ⟨some 11, .bin .leq (.t 10) (.c (.int .i64 100)), some (8, true)⟩,
    ⟨some 12, .pick (.t 8) (.t 11) (.c (.bool false)), none⟩,
    ⟨some 4, .asg (.t 12), none⟩] [4])
  (.ret))
theorem con_spec_eSmall {v0 : (List XVariable)} {v1 : (List XEdit)} {r : Bool} (h : sh_spec_eSmall v0 v1 = some r) : Con Try.prog 96 [(cLs (cXVariable cS cI) rfl).enc v0, (cLs (cXEdit (cLs cI rfl)) rfl).enc v1] [] (rs_spec_eSmall r) := by
  delta sh_spec_eSmall at h
  refine top (out := none) (f := Try.f96) (m := m96) (rs := [.t 4]) (by kernel_rfl) rfl (by kernel_rfl) (by kernel_rfl) (by kernel_rfl) (by kernel_rfl) (by kernel_rfl) ?_
  exact
   ini [(0, .d ((cLs (cXVariable cS cI) rfl).enc v0)), (1, .d ((cLs (cXEdit (cLs cI rfl)) rfl).enc v1))] rfl <| wpC_seq <| reg_s <| x_asg (sc cB false rfl) <| seqN [(0, .d ((cLs (cXVariable cS cI) rfl).enc v0)), (1, .d ((cLs (cXEdit (cLs cI rfl)) rfl).enc v1))] (by kernel_rfl) <|
    xn <| wpC_seq <| reg_s <| st rfl <| mvd rfl rfl <| st rfl <| mvd rfl rfl <| bnd h fun x6 e7 h => st rfl <| o_call (a1 (c := (cLs (cXVariable cS cI) rfl)) (tLs (tXVariable tS tK)) rfl (a1 (c := (cLs (cXEdit (cLs cI rfl)) rfl)) (tLs (tXEdit (tLs tK))) rfl a0)) (con_spec_eList e7) (.inl (so1 sB so0)) <| st rfl <| mvd rfl rfl <| ite_k h (fun b8 h => gt' rfl b8 <| st rfl <| mvd rfl rfl <| gt' rfl b8 <| bnd h fun x9 e10 h => st rfl <| o_call (a1 (c := (cLs (cXVariable cS cI) rfl)) (tLs (tXVariable tS tK)) rfl a0) (con_spec_sCount e10) (.inl (so1 sK so0)) <| gt' rfl b8 <| st rfl <| b_leq (k := .i64) rfl rfl <| st rfl <| pick1 rfl b8 (cd := cB) (v := (decide (x9 ≤ (100 : Int)))) rfl rfl <| x_asg (ss rfl rfl) <| seqN [(4, .d (cB.enc (decide (x9 ≤ (100 : Int)))))] (by kernel_rfl) <|
    xn <| wpC_ret <| re <| fin h (r1 (ss rfl rfl) <| r0) rfl)
    (fun b8 h => gf rfl b8 <| gf rfl b8 <| gf rfl b8 <| st rfl <| pick0 rfl b8 (cd := cB) (v := false) rfl rfl <| x_asg (ss rfl rfl) <| seqN [(4, .d (cB.enc false))] (by kernel_rfl) <|
    xn <| wpC_ret <| re <| fin h (r1 (ss rfl rfl) <| r0) rfl)

def rs_spec_l1Rising (r : Bool) : List D := [cB.enc r]
def m129 : MC := .seq (.reg [⟨some 6, .asg (.c (.bool false)), none⟩] [0, 1, 2])
  (.seq (.kp [] (.seq (.reg [⟨some 9, .mv (.t 0), none⟩,
    ⟨some 10, .len false (.t 9), none⟩,
    ⟨some 11, .mv (.c (.int .i64 0)), none⟩] [0, 1, 2, 9, 10, 11])
  (.blk 0 (.loop (.seq (.reg [⟨some 12, .bin .lss (.t 11) (.t 10), none⟩] [0, 1, 2, 9, 10, 11, 12])
  (.seq (.kp [0, 1, 2, 9, 10, 11] (.cond (.t 12) (.skip) (.exit 0)))
  (.seq (.kp [0, 1, 2, 9, 10, 11] (.blk 1 (.seq (.reg [⟨some 13, .mv (.t 11), none⟩,
    ⟨some 14, .ia 9 (.t 11) 1, none⟩,
    ⟨some 15, .ld 14 1 false, none⟩,
    ⟨some 7, .asg (.t 13), none⟩,
    ⟨some 8, .asg (.t 15), none⟩] [0, 1, 2, 7, 8, 9, 10, 11])
  (.seq (.reg [⟨some 16, .mv (.t 8), none⟩,
    ⟨some 17, .mv (.t 1), none⟩,
    ⟨some 18, .mv (.t 2), none⟩,
    ⟨some 19, .call 111 [(.t 16), (.t 17), (.t 18)], none⟩,
    ⟨some 20, .nt (.t 19), none⟩,
    ⟨some 21, .mv (.t 20), none⟩,
    ⟨some 22, .mv (.t 7), some (21, false)⟩,
    ⟨some 23, .bin .gtr (.t 22) (.c (.int .i64 0)), some (21, false)⟩,
    ⟨some 24, .mv (.t 23), some (21, false)⟩,
    ⟨some 25, .mv (.t 0), some (24, true)⟩,
    ⟨some 26, .mv (.t 7), some (24, true)⟩,
    ⟨some 27, .bin .sub (.t 26) (.c (.int .i64 1)), some (24, true)⟩,
    ⟨some 28, .ia 25 (.t 27) 1, some (24, true)⟩,
    ⟨some 29, .ld 28 1 false, some (24, true)⟩,
    ⟨some 30, .mv (.t 8), some (24, true)⟩,
    ⟨some 31, .bin .geq (.t 29) (.t 30), some (24, true)⟩,
    ⟨some 32, .pick (.t 24) (.t 31) (.c (.bool false)), some (21, false)⟩,
    ⟨some 33, .pick (.t 21) (.c (.bool true)) (.t 32), none⟩] [0, 1, 2, 9, 10, 11, 33])
  (.cond (.t 33) (.seq (.reg [⟨some 6, .asg (.c (.bool false)), none⟩] [6])
  (.ret)) (.skip))))))
  (.reg [⟨some 34, .bin .add (.t 11) (.c (.int .i64 1)), none⟩,
    ⟨some 11, .mv (.t 34), none⟩] [0, 1, 2, 9, 10, 11]))))))))
  (.seq (.reg [⟨some 6, .asg (.c (.bool true)), none⟩] [6])
  (.ret)))
theorem con_spec_l1Rising {v0 : (List Int)} {v1 : Int} {v2 : Int} {r : Bool} (h : sh_spec_l1Rising v0 v1 v2 = some r) : Con Try.prog 129 [(cLs cI rfl).enc v0, cI.enc v1, cI.enc v2] [] (rs_spec_l1Rising r) := by
  delta sh_spec_l1Rising at h
  refine top (out := none) (f := Try.f129) (m := m129) (rs := [.t 6]) (by kernel_rfl) rfl (by kernel_rfl) (by kernel_rfl) (by kernel_rfl) (by kernel_rfl) (by kernel_rfl) ?_
  exact
   ini [(0, .d ((cLs cI rfl).enc v0)), (1, .d (cI.enc v1)), (2, .d (cI.enc v2))] rfl <| wpC_seq <| reg_s <| x_asg (sc cB false rfl) <| seqN [(0, .d ((cLs cI rfl).enc v0)), (1, .d (cI.enc v1)), (2, .d (cI.enc v2))] (by kernel_rfl) <|
    xn <| wpC_seq <| wpC_kp <| wpC_seq <| reg_s <| st rfl <| mvd rfl rfl <| stw rfl <| lens rfl fun l80 => st rfl <| mvc cI (0 : Int) rfl <| seqN [(0, .d ((cLs cI rfl).enc v0)), (1, .d (cI.enc v1)), (2, .d (cI.enc v2)), (9, .d ((cLs cI rfl).enc v0)), (10, .d (cI.enc (v0.length : Int))), (11, .d (cI.enc (0 : Int)))] (by kernel_rfl) <|
    xn <| wpC_blk <| lpR (fun (k82 : Nat) (s81 : Unit) => [(0, .d ((cLs cI rfl).enc v0)), (1, .d (cI.enc v1)), (2, .d (cI.enc v2)), (9, .d ((cLs cI rfl).enc v0)), (10, .d (cI.enc (v0.length : Int))), (11, .d (cI.enc (k82 : Int)))]) () rfl h
    (fun G122 s81 h => wpC_seq <| reg_s <| st rfl <| b_lss (k := .i64) rfl rfl <| seqN [(0, .d ((cLs cI rfl).enc v0)), (1, .d (cI.enc v1)), (2, .d (cI.enc v2)), (9, .d ((cLs cI rfl).enc v0)), (10, .d (cI.enc (v0.length : Int))), (11, .d (cI.enc (v0.length : Int))), (12, .d (cB.enc (decide ((v0.length : Int) < (v0.length : Int)))))] (by kernel_rfl) <|
    xn <| wpC_seq <| wpC_kp <| cnd0 rfl (dlf _) <| wpC_exit <| xt <| xt <| xt <| xb <| kpN [] (by kernel_rfl) <| xn <| wpC_seq <| reg_s <| x_asg (sc cB true rfl) <| seqN [(6, .d (cB.enc true))] (by kernel_rfl) <|
    xn <| wpC_ret <| re <| fin h (r1 (ss rfl rfl) <| r0) rfl)
    (fun G122 nx120 k82 s81 x83 hk84 hx85 hn121 h => wpC_seq <| reg_s <| st rfl <| b_lss (k := .i64) rfl rfl <| seqN [(0, .d ((cLs cI rfl).enc v0)), (1, .d (cI.enc v1)), (2, .d (cI.enc v2)), (9, .d ((cLs cI rfl).enc v0)), (10, .d (cI.enc (v0.length : Int))), (11, .d (cI.enc (k82 : Int))), (12, .d (cB.enc (decide ((k82 : Int) < (v0.length : Int)))))] (by kernel_rfl) <|
    xn <| wpC_seq <| wpC_kp <| cnd1 rfl (dlt hk84) <| wpC_skip <| kpN [(0, .d ((cLs cI rfl).enc v0)), (1, .d (cI.enc v1)), (2, .d (cI.enc v2)), (9, .d ((cLs cI rfl).enc v0)), (10, .d (cI.enc (v0.length : Int))), (11, .d (cI.enc (k82 : Int)))] (by kernel_rfl) <| xn <| wpC_seq <| wpC_kp <| wpC_blk <| wpC_seq <| reg_s <| st rfl <| mvd rfl rfl <| st rfl <| ias rfl rfl (Int.natCast_nonneg _) hx85 rfl <| st rfl <| ldi rfl rfl rfl rfl <| x_asg (ss rfl rfl) <| x_asg (ss rfl rfl) <| seqN [(0, .d ((cLs cI rfl).enc v0)), (1, .d (cI.enc v1)), (2, .d (cI.enc v2)), (7, .d (cI.enc (k82 : Int))), (8, .d (cI.enc x83)), (9, .d ((cLs cI rfl).enc v0)), (10, .d (cI.enc (v0.length : Int))), (11, .d (cI.enc (k82 : Int)))] (by kernel_rfl) <|
    xn <| wpC_seq <| reg_s <| st rfl <| mvd rfl rfl <| st rfl <| mvd rfl rfl <| st rfl <| mvd rfl rfl <| bnd h fun x148 e149 h => st rfl <| o_call (a1 (c := cI) tK rfl (a1 (c := cI) tK rfl (a1 (c := cI) tK rfl a0))) (con_spec_l1In e149) (.inl (so1 sB so0)) <| st rfl <| o_nt rfl <| st rfl <| mvd rfl rfl <| ite_k h (fun b150 h => gf rfl b150 <| gf rfl b150 <| gf rfl b150 <| gu rfl <| gu rfl <| gu rfl <| gu rfl <| gu rfl <| gu rfl <| gu rfl <| gf rfl b150 <| st rfl <| pick1 rfl b150 (cd := cB) (v := true) rfl rfl <| seqN [(0, .d ((cLs cI rfl).enc v0)), (1, .d (cI.enc v1)), (2, .d (cI.enc v2)), (9, .d ((cLs cI rfl).enc v0)), (10, .d (cI.enc (v0.length : Int))), (11, .d (cI.enc (k82 : Int))), (33, .d (cB.enc true))] (by kernel_rfl) <|
    xn <| cnd1 rfl rfl <| wpC_seq <| reg_s <| x_asg (sc cB false rfl) <| seqN [(6, .d (cB.enc false))] (by kernel_rfl) <|
    xn <| wpC_ret <| rb <| rt <| rt <| rt <| rb <| rt <| rt <| re <| fin h (r1 (ss rfl rfl) <| r0) rfl)
    (fun b150 h => gt' rfl b150 <| st rfl <| mvd rfl rfl <| gt' rfl b150 <| st rfl <| b_gtr (k := .i64) rfl rfl <| gt' rfl b150 <| st rfl <| mvd rfl rfl <| ite_k h (fun b151 h => gt' rfl b151 <| st rfl <| mvd rfl rfl <| gt' rfl b151 <| st rfl <| mvd rfl rfl <| gt' rfl b151 <| ckI_k h fun i152 h => st rfl <| b_sub (k := .i64) rfl rfl i152 <| gt' rfl b151 <| getO_k h fun x153 i154 g155 h => st rfl <| ias rfl rfl i154 g155 rfl <| gt' rfl b151 <| st rfl <| ldi rfl rfl rfl rfl <| gt' rfl b151 <| st rfl <| mvd rfl rfl <| gt' rfl b151 <| st rfl <| b_geq (k := .i64) rfl rfl <| gt' rfl b150 <| st rfl <| pick1 rfl b151 (cd := cB) (v := (decide (x83 ≤ x153))) rfl rfl <| st rfl <| pick0 rfl b150 (cd := cB) (v := (decide (x83 ≤ x153))) rfl rfl <| seqN [(0, .d ((cLs cI rfl).enc v0)), (1, .d (cI.enc v1)), (2, .d (cI.enc v2)), (9, .d ((cLs cI rfl).enc v0)), (10, .d (cI.enc (v0.length : Int))), (11, .d (cI.enc (k82 : Int))), (33, .d (cB.enc (decide (x83 ≤ x153))))] (by kernel_rfl) <|
    xn <| cnd rfl h (fun b156 h => wpC_seq <| reg_s <| x_asg (sc cB false rfl) <| seqN [(6, .d (cB.enc false))] (by kernel_rfl) <|
    xn <| wpC_ret <| rb <| rt <| rt <| rt <| rb <| rt <| rt <| re <| fin h (r1 (ss rfl rfl) <| r0) rfl)
    (fun b156 h => wpC_skip <| xbb <| kpN [(0, .d ((cLs cI rfl).enc v0)), (1, .d (cI.enc v1)), (2, .d (cI.enc v2)), (9, .d ((cLs cI rfl).enc v0)), (10, .d (cI.enc (v0.length : Int))), (11, .d (cI.enc (k82 : Int)))] (by kernel_rfl) <| xn <| reg_s <| st rfl <| b_inc rfl rfl l80 hk84 <| st rfl <| mvd rfl rfl <| seqN [(0, .d ((cLs cI rfl).enc v0)), (1, .d (cI.enc v1)), (2, .d (cI.enc v2)), (9, .d ((cLs cI rfl).enc v0)), (10, .d (cI.enc (v0.length : Int))), (11, .d (cI.enc ((k82 + 1 : Nat) : Int)))] (by kernel_rfl) <|
    xn <| hn121 () h))
    (fun b151 h => gf rfl b151 <| gf rfl b151 <| gf rfl b151 <| gf rfl b151 <| gf rfl b151 <| gf rfl b151 <| gf rfl b151 <| gt' rfl b150 <| st rfl <| pick0 rfl b151 (cd := cB) (v := false) rfl rfl <| st rfl <| pick0 rfl b150 (cd := cB) (v := false) rfl rfl <| seqN [(0, .d ((cLs cI rfl).enc v0)), (1, .d (cI.enc v1)), (2, .d (cI.enc v2)), (9, .d ((cLs cI rfl).enc v0)), (10, .d (cI.enc (v0.length : Int))), (11, .d (cI.enc (k82 : Int))), (33, .d (cB.enc false))] (by kernel_rfl) <|
    xn <| cnd0 rfl rfl <| wpC_skip <| xbb <| kpN [(0, .d ((cLs cI rfl).enc v0)), (1, .d (cI.enc v1)), (2, .d (cI.enc v2)), (9, .d ((cLs cI rfl).enc v0)), (10, .d (cI.enc (v0.length : Int))), (11, .d (cI.enc (k82 : Int)))] (by kernel_rfl) <| xn <| reg_s <| st rfl <| b_inc rfl rfl l80 hk84 <| st rfl <| mvd rfl rfl <| seqN [(0, .d ((cLs cI rfl).enc v0)), (1, .d (cI.enc v1)), (2, .d (cI.enc v2)), (9, .d ((cLs cI rfl).enc v0)), (10, .d (cI.enc (v0.length : Int))), (11, .d (cI.enc ((k82 + 1 : Nat) : Int)))] (by kernel_rfl) <|
    xn <| hn121 () h)))

def rs_spec_sFits (r : Bool) : List D := [cB.enc r]
def m89 : MC := .seq (.reg [⟨some 4, .asg (.c (.bool false)), none⟩] [0, 1])
  (.seq (.kp [0, 1] (.seq (.reg [⟨some 7, .mv (.t 1), none⟩,
    ⟨some 8, .len false (.t 7), none⟩,
    ⟨some 9, .mv (.t 0), none⟩,
    ⟨some 10, .len false (.t 9), none⟩,
    ⟨some 11, .bin .neq (.t 8) (.t 10), none⟩] [0, 1, 11])
  (.cond (.t 11) (.seq (.reg [⟨some 4, .asg (.c (.bool false)), none⟩] [4])
  (.ret)) (.skip))))
  (.seq (.kp [] (.seq (.reg [⟨some 12, .mv (.t 0), none⟩,
    ⟨some 13, .len false (.t 12), none⟩,
    ⟨some 14, .mv (.c (.int .i64 0)), none⟩] [0, 1, 12, 13, 14])
  (.blk 0 (.loop (.seq (.reg [⟨some 15, .bin .lss (.t 14) (.t 13), none⟩] [0, 1, 12, 13, 14, 15])
  (.seq (.kp [0, 1, 12, 13, 14] (.cond (.t 15) (.skip) (.exit 0)))
  (.seq (.kp [0, 1, 12, 13, 14] (.blk 1 (.seq (.reg [⟨some 16, .mv (.t 14), none⟩,
    ⟨some 17, .ia 12 (.t 14) 2, none⟩,
    ⟨some 18, .ld 17 2 true, none⟩,
    ⟨some 6, .alloc (.agg [.str [], .int .i64 0]), none⟩,
    ⟨some 5, .asg (.t 16), none⟩,
    ⟨none, .st 6 (.t 18) 2, none⟩] [0, 1, 5, 6, 12, 13, 14])
  (.seq (.drw [⟨0, ⟨some 19, .mv (.t 1), none⟩, [20, 21, 22, 23, 24, 25, 26, 27]⟩,
    ⟨1, ⟨some 20, .mv (.t 5), none⟩, [19, 21, 22, 23, 24, 25, 26, 27]⟩,
    ⟨2, ⟨some 21, .ia 19 (.t 20) 1, none⟩, [22, 23, 24, 25, 26, 27]⟩,
    ⟨3, ⟨some 22, .ld 21 1 false, none⟩, [23, 24, 25, 26, 27]⟩,
    ⟨4, ⟨some 23, .fa 6 1 1, none⟩, [19, 20, 21, 22, 24, 25, 26, 27]⟩,
    ⟨5, ⟨some 24, .ld 23 1 false, none⟩, [19, 20, 21, 22, 25, 26, 27]⟩,
    ⟨6, ⟨some 25, .bin .sub (.t 24) (.c (.int .i64 1)), none⟩, [19, 20, 21, 22, 26, 27]⟩,
    ⟨7, ⟨some 26, .call 111 [(.t 22), (.c (.int .i64 0)), (.t 25)], none⟩, [27]⟩,
    ⟨8, ⟨some 27, .nt (.t 26), none⟩, []⟩]
    [] [0, 1, 12, 13, 14, 27])
  (.cond (.t 27) (.seq (.reg [⟨some 4, .asg (.c (.bool false)), none⟩] [4])
  (.ret)) (.skip))))))
  (.reg [⟨some 28, .bin .add (.t 14) (.c (.int .i64 1)), none⟩,
    ⟨some 14, .mv (.t 28), none⟩] [0, 1, 12, 13, 14]))))))))
  (.seq (.reg [⟨some 4, .asg (.c (.bool true)), none⟩] [4])
  (.ret))))
theorem con_spec_sFits {v0 : (List XVariable)} {v1 : (List Int)} {r : Bool} (h : sh_spec_sFits v0 v1 = some r) : Con Try.prog 89 [(cLs (cXVariable cS cI) rfl).enc v0, (cLs cI rfl).enc v1] [] (rs_spec_sFits r) := by
  delta sh_spec_sFits at h
  refine top (out := none) (f := Try.f89) (m := m89) (rs := [.t 4]) (by kernel_rfl) rfl (by kernel_rfl) (by kernel_rfl) (by kernel_rfl) (by kernel_rfl) (by kernel_rfl) ?_
  exact
   ini [(0, .d ((cLs (cXVariable cS cI) rfl).enc v0)), (1, .d ((cLs cI rfl).enc v1))] rfl <| wpC_seq <| reg_s <| x_asg (sc cB false rfl) <| seqN [(0, .d ((cLs (cXVariable cS cI) rfl).enc v0)), (1, .d ((cLs cI rfl).enc v1))] (by kernel_rfl) <|
    xn <| wpC_seq <| wpC_kp <| wpC_seq <| reg_s <| st rfl <| mvd rfl rfl <| stw rfl <| lens rfl fun l8 => st rfl <| mvd rfl rfl <| stw rfl <| lens rfl fun l9 => st rfl <| b_neq (k := .i64) rfl rfl <| seqN [(0, .d ((cLs (cXVariable cS cI) rfl).enc v0)), (1, .d ((cLs cI rfl).enc v1)), (11, .d (cB.enc (decide ((v1.length : Int) ≠ (v0.length : Int)))))] (by kernel_rfl) <|
    xn <| cnd rfl h (fun b10 h => wpC_seq <| reg_s <| x_asg (sc cB false rfl) <| seqN [(4, .d (cB.enc false))] (by kernel_rfl) <|
    xn <| wpC_ret <| rt <| rt <| re <| fin h (r1 (ss rfl rfl) <| r0) rfl)
    (fun b10 h => wpC_skip <| kpN [(0, .d ((cLs (cXVariable cS cI) rfl).enc v0)), (1, .d ((cLs cI rfl).enc v1))] (by kernel_rfl) <| xn <| wpC_seq <| wpC_kp <| wpC_seq <| reg_s <| st rfl <| mvd rfl rfl <| stw rfl <| lens rfl fun l74 => st rfl <| mvc cI (0 : Int) rfl <| seqN [(0, .d ((cLs (cXVariable cS cI) rfl).enc v0)), (1, .d ((cLs cI rfl).enc v1)), (12, .d ((cLs (cXVariable cS cI) rfl).enc v0)), (13, .d (cI.enc (v0.length : Int))), (14, .d (cI.enc (0 : Int)))] (by kernel_rfl) <|
    xn <| wpC_blk <| lpR (fun (k76 : Nat) (s75 : Unit) => [(0, .d ((cLs (cXVariable cS cI) rfl).enc v0)), (1, .d ((cLs cI rfl).enc v1)), (12, .d ((cLs (cXVariable cS cI) rfl).enc v0)), (13, .d (cI.enc (v0.length : Int))), (14, .d (cI.enc (k76 : Int)))]) () rfl h
    (fun G108 s75 h => wpC_seq <| reg_s <| st rfl <| b_lss (k := .i64) rfl rfl <| seqN [(0, .d ((cLs (cXVariable cS cI) rfl).enc v0)), (1, .d ((cLs cI rfl).enc v1)), (12, .d ((cLs (cXVariable cS cI) rfl).enc v0)), (13, .d (cI.enc (v0.length : Int))), (14, .d (cI.enc (v0.length : Int))), (15, .d (cB.enc (decide ((v0.length : Int) < (v0.length : Int)))))] (by kernel_rfl) <|
    xn <| wpC_seq <| wpC_kp <| cnd0 rfl (dlf _) <| wpC_exit <| xt <| xt <| xt <| xb <| kpN [] (by kernel_rfl) <| xn <| wpC_seq <| reg_s <| x_asg (sc cB true rfl) <| seqN [(4, .d (cB.enc true))] (by kernel_rfl) <|
    xn <| wpC_ret <| re <| fin h (r1 (ss rfl rfl) <| r0) rfl)
    (fun G108 nx106 k76 s75 x77 hk78 hx79 hn107 h => wpC_seq <| reg_s <| st rfl <| b_lss (k := .i64) rfl rfl <| seqN [(0, .d ((cLs (cXVariable cS cI) rfl).enc v0)), (1, .d ((cLs cI rfl).enc v1)), (12, .d ((cLs (cXVariable cS cI) rfl).enc v0)), (13, .d (cI.enc (v0.length : Int))), (14, .d (cI.enc (k76 : Int))), (15, .d (cB.enc (decide ((k76 : Int) < (v0.length : Int)))))] (by kernel_rfl) <|
    xn <| wpC_seq <| wpC_kp <| cnd1 rfl (dlt hk78) <| wpC_skip <| kpN [(0, .d ((cLs (cXVariable cS cI) rfl).enc v0)), (1, .d ((cLs cI rfl).enc v1)), (12, .d ((cLs (cXVariable cS cI) rfl).enc v0)), (13, .d (cI.enc (v0.length : Int))), (14, .d (cI.enc (k76 : Int)))] (by kernel_rfl) <| xn <| wpC_seq <| wpC_kp <| wpC_blk <| wpC_seq <| reg_s <| st rfl <| mvd rfl rfl <| st rfl <| ias rfl rfl (Int.natCast_nonneg _) hx79 rfl <| st rfl <| ldi rfl rfl rfl rfl <| x_all (cXVariable cS cI) (⟨([] : List UInt8), (0 : Int)⟩ : XVariable) rfl <| x_asg (ss rfl rfl) <| x_stb (ss rfl rfl) rfl (Cd.h_sz _ _) rfl <| seqN [(0, .d ((cLs (cXVariable cS cI) rfl).enc v0)), (1, .d ((cLs cI rfl).enc v1)), (5, .d (cI.enc (k76 : Int))), (6, .box ((cXVariable cS cI).enc x77)), (12, .d ((cLs (cXVariable cS cI) rfl).enc v0)), (13, .d (cI.enc (v0.length : Int))), (14, .d (cI.enc (k76 : Int)))] (by kernel_rfl) <|
    xn <| wpC_seq <| drw_s <| pst rfl <| mvd rfl rfl ⟨rfl, pst rfl <| mvd rfl rfl ⟨rfl, getO_kp h fun x128 i129 g130 h => pst rfl <| ias rfl rfl i129 g130 rfl ⟨rfl, pst rfl <| ldi rfl rfl rfl rfl ⟨rfl, pst rfl <| fab rfl rfl rfl rfl ⟨rfl, pst rfl <| lda rfl rfl rfl rfl rfl rfl ⟨rfl, ckI_kp h fun i131 h => pst rfl <| b_sub (k := .i64) rfl rfl i131 ⟨rfl, bndp h fun x132 e133 h => pst rfl <| o_call (a1 (c := cI) tK rfl (a1 (c := cI) tK rfl (a1 (c := cI) tK rfl a0))) (con_spec_l1In e133) (.inl (so1 sB so0)) ⟨rfl, pst rfl <| o_nt rfl ⟨rfl, preN <| seqN [(0, .d ((cLs (cXVariable cS cI) rfl).enc v0)), (1, .d ((cLs cI rfl).enc v1)), (12, .d ((cLs (cXVariable cS cI) rfl).enc v0)), (13, .d (cI.enc (v0.length : Int))), (14, .d (cI.enc (k76 : Int))), (27, .d (cB.enc (!x132)))] (by kernel_rfl) <|
    xn <| cnd rfl h (fun b134 h => wpC_seq <| reg_s <| x_asg (sc cB false rfl) <| seqN [(4, .d (cB.enc false))] (by kernel_rfl) <|
    xn <| wpC_ret <| rb <| rt <| rt <| rt <| rb <| rt <| rt <| re <| fin h (r1 (ss rfl rfl) <| r0) rfl)
    (fun b134 h => wpC_skip <| xbb <| kpN [(0, .d ((cLs (cXVariable cS cI) rfl).enc v0)), (1, .d ((cLs cI rfl).enc v1)), (12, .d ((cLs (cXVariable cS cI) rfl).enc v0)), (13, .d (cI.enc (v0.length : Int))), (14, .d (cI.enc (k76 : Int)))] (by kernel_rfl) <| xn <| reg_s <| st rfl <| b_inc rfl rfl l74 hk78 <| st rfl <| mvd rfl rfl <| seqN [(0, .d ((cLs (cXVariable cS cI) rfl).enc v0)), (1, .d ((cLs cI rfl).enc v1)), (12, .d ((cLs (cXVariable cS cI) rfl).enc v0)), (13, .d (cI.enc (v0.length : Int))), (14, .d (cI.enc ((k76 + 1 : Nat) : Int)))] (by kernel_rfl) <|
    xn <| hn107 () h)⟩⟩⟩⟩⟩⟩⟩⟩⟩))

def rs_spec_eAsked (r : Bool) : List D := [cB.enc r]
def m71 : MC := .seq (.reg [⟨some 8, .asg (.c (.bool false)), none⟩] [0, 1, 2, 3])
  (.seq (.reg [⟨some 9, .mv (.t 0), none⟩,
    ⟨some 10, .mv (.t 1), none⟩,
    ⟨some 11, .call 96 [(.t 9), (.t 10)], none⟩,
    ⟨some 12, .mv (.t 11), none⟩,
    ⟨some 13, .mv (.t 2), some (12, true)⟩,
    ⟨some 14, .mv (.t 0), some (12, true)⟩,
    ⟨some 15, .len false (.t 14), some (12, true)⟩,
    ⟨some 16, .bin .sub (.t 15) (.c (.int .i64 1)), some (12, true)⟩,
    ⟨some 17, .call 129 [(.t 13), (.c (.int .i64 0)), (.t 16)], some (12, true)⟩,
    ⟨some 18, .pick (.t 12) (.t 17) (.c (.bool false)), none⟩,
    ⟨some 19, .mv (.t 18), none⟩,
    ⟨some 20, .mv (.t 0), some (19, true)⟩,
    ⟨some 21, .mv (.t 3), some (19, true)⟩,
    ⟨some 22, .call 89 [(.t 20), (.t 21)], some (19, true)⟩,
    ⟨some 23, .pick (.t 19) (.t 22) (.c (.bool false)), none⟩,
    ⟨some 8, .asg (.t 23), none⟩] [8])
  (.ret))
theorem con_spec_eAsked {v0 : (List XVariable)} {v1 : (List XEdit)} {v2 : (List Int)} {v3 : (List Int)} {r : Bool} (h : sh_spec_eAsked v0 v1 v2 v3 = some r) : Con Try.prog 71 [(cLs (cXVariable cS cI) rfl).enc v0, (cLs (cXEdit (cLs cI rfl)) rfl).enc v1, (cLs cI rfl).enc v2, (cLs cI rfl).enc v3] [] (rs_spec_eAsked r) := by
  delta sh_spec_eAsked at h
  refine top (out := none) (f := Try.f71) (m := m71) (rs := [.t 8]) (by kernel_rfl) rfl (by kernel_rfl) (by kernel_rfl) (by kernel_rfl) (by kernel_rfl) (by kernel_rfl) ?_
  exact
   ini [(0, .d ((cLs (cXVariable cS cI) rfl).enc v0)), (1, .d ((cLs (cXEdit (cLs cI rfl)) rfl).enc v1)), (2, .d ((cLs cI rfl).enc v2)), (3, .d ((cLs cI rfl).enc v3))] rfl <| wpC_seq <| reg_s <| x_asg (sc cB false rfl) <| seqN [(0, .d ((cLs (cXVariable cS cI) rfl).enc v0)), (1, .d ((cLs (cXEdit (cLs cI rfl)) rfl).enc v1)), (2, .d ((cLs cI rfl).enc v2)), (3, .d ((cLs cI rfl).enc v3))] (by kernel_rfl) <|
    xn <| wpC_seq <| reg_s <| st rfl <| mvd rfl rfl <| st rfl <| mvd rfl rfl <| bnd h fun x11 e12 h => st rfl <| o_call (a1 (c := (cLs (cXVariable cS cI) rfl)) (tLs (tXVariable tS tK)) rfl (a1 (c := (cLs (cXEdit (cLs cI rfl)) rfl)) (tLs (tXEdit (tLs tK))) rfl a0)) (con_spec_eSmall e12) (.inl (so1 sB so0)) <| st rfl <| mvd rfl rfl <| ite_k h (fun b13 h => gt' rfl b13 <| st rfl <| mvd rfl rfl <| gt' rfl b13 <| st rfl <| mvd rfl rfl <| gt' rfl b13 <| stw rfl <| lens rfl fun l14 => gt' rfl b13 <| ckI_k h fun i15 h => st rfl <| b_sub (k := .i64) rfl rfl i15 <| gt' rfl b13 <| bnd h fun x16 e17 h => st rfl <| o_call (a1 (c := (cLs cI rfl)) (tLs tK) rfl (a1 (c := cI) tK rfl (a1 (c := cI) tK rfl a0))) (con_spec_l1Rising e17) (.inl (so1 sB so0)) <| st rfl <| pick1 rfl b13 (cd := cB) (v := x16) rfl rfl <| st rfl <| mvd rfl rfl <| ite_k h (fun b18 h => gt' rfl b18 <| st rfl <| mvd rfl rfl <| gt' rfl b18 <| st rfl <| mvd rfl rfl <| gt' rfl b18 <| bnd h fun x19 e20 h => st rfl <| o_call (a1 (c := (cLs (cXVariable cS cI) rfl)) (tLs (tXVariable tS tK)) rfl (a1 (c := (cLs cI rfl)) (tLs tK) rfl a0)) (con_spec_sFits e20) (.inl (so1 sB so0)) <| st rfl <| pick1 rfl b18 (cd := cB) (v := x19) rfl rfl <| x_asg (ss rfl rfl) <| seqN [(8, .d (cB.enc x19))] (by kernel_rfl) <|
    xn <| wpC_ret <| re <| fin h (r1 (ss rfl rfl) <| r0) rfl)
    (fun b18 h => gf rfl b18 <| gf rfl b18 <| gf rfl b18 <| st rfl <| pick0 rfl b18 (cd := cB) (v := false) rfl rfl <| x_asg (ss rfl rfl) <| seqN [(8, .d (cB.enc false))] (by kernel_rfl) <|
    xn <| wpC_ret <| re <| fin h (r1 (ss rfl rfl) <| r0) rfl))
    (fun b13 h => gf rfl b13 <| gf rfl b13 <| gf rfl b13 <| gf rfl b13 <| gf rfl b13 <| st rfl <| pick0 rfl b13 (cd := cB) (v := false) rfl rfl <| st rfl <| mvd rfl rfl <| gf rfl rfl <| gf rfl rfl <| gf rfl rfl <| st rfl <| pick0 rfl rfl (cd := cB) (v := false) rfl rfl <| x_asg (ss rfl rfl) <| seqN [(8, .d (cB.enc false))] (by kernel_rfl) <|
    xn <| wpC_ret <| re <| fin h (r1 (ss rfl rfl) <| r0) rfl)

def rs_spec_eComplete (r : ((List Int) × Bool)) : List D := [(cLo cI).enc r.1, cB.enc r.2]
def m72 : MC := .seq (.reg [⟨some 8, .asg (.c (.slice true [])), none⟩,
    ⟨some 9, .asg (.c (.bool false)), none⟩] [0, 1, 2, 3])
  (.seq (.kp [] (.seq (.reg [⟨some 10, .asg (.c (.int .i64 0)), none⟩] [0, 1, 2, 3, 10])
  (.blk 0 (.loop (.seq (.kp [0, 1, 2, 3, 10] (.seq (.reg [⟨some 15, .mv (.t 10), none⟩,
    ⟨some 16, .mv (.t 0), none⟩,
    ⟨some 17, .call 59 [(.t 16)], none⟩,
    ⟨some 18, .bin .lss (.t 15) (.t 17), none⟩] [0, 1, 2, 3, 10, 18])
  (.cond (.t 18) (.skip) (.exit 0))))
  (.seq (.kp [0, 1, 2, 3, 10] (.blk 1 (.seq (.reg [⟨some 21, .mv (.t 0), none⟩,
    ⟨some 22, .mv (.t 10), none⟩,
    ⟨some 23, .call 125 [(.t 21), (.t 22)], none⟩,
    ⟨some 11, .asg (.t 23), none⟩] [0, 1, 2, 3, 10, 11])
  (.seq (.reg [⟨some 24, .mv (.t 1), none⟩,
    ⟨some 25, .mv (.t 11), none⟩,
    ⟨some 26, .call 91 [(.t 24), (.t 25)], none⟩,
    ⟨some 27, .len false (.t 26), none⟩,
    ⟨some 28, .bin .eql (.t 27) (.c (.int .i64 0)), none⟩,
    ⟨some 12, .asg (.t 28), none⟩] [0, 1, 2, 3, 10, 11, 12])
  (.seq (.kp [0, 1, 2, 3, 10, 11, 12] (.seq (.reg [⟨some 29, .mv (.t 2), none⟩,
    ⟨some 30, .len false (.t 29), none⟩,
    ⟨some 31, .mv (.c (.int .i64 0)), none⟩] [0, 1, 2, 3, 10, 11, 12, 29, 30, 31])
  (.blk 2 (.loop (.seq (.reg [⟨some 32, .bin .lss (.t 31) (.t 30), none⟩] [0, 1, 2, 3, 10, 11, 12, 29, 30, 31, 32])
  (.seq (.kp [0, 1, 2, 3, 10, 11, 12, 29, 30, 31] (.cond (.t 32) (.skip) (.exit 2)))
  (.seq (.kp [0, 1, 2, 3, 10, 11, 12, 29, 30, 31] (.blk 3 (.seq (.reg [⟨some 33, .ia 29 (.t 31) 1, none⟩,
    ⟨some 34, .ld 33 1 false, none⟩,
    ⟨some 14, .asg (.t 34), none⟩] [0, 1, 2, 3, 10, 11, 12, 14, 29, 30, 31])
  (.drw [⟨0, ⟨some 35, .mv (.t 12), none⟩, [36, 37, 38, 39, 40, 41, 42, 43, 44, 45, 46]⟩,
    ⟨1, ⟨some 36, .mv (.t 35), none⟩, [37, 38, 39, 40, 41, 42, 43, 44, 45, 46]⟩,
    ⟨2, ⟨some 37, .mv (.t 11), some (36, true)⟩, [38, 39, 40, 41, 42, 43, 44, 45, 46]⟩,
    ⟨3, ⟨some 38, .mv (.t 14), some (36, true)⟩, [37, 39, 40, 41, 42, 43, 44, 45, 46]⟩,
    ⟨4, ⟨some 39, .ia 37 (.t 38) 1, some (36, true)⟩, [40, 41, 42, 43, 44, 45, 46]⟩,
    ⟨5, ⟨some 40, .ld 39 1 false, some (36, true)⟩, [41, 42, 43, 44, 45, 46]⟩,
    ⟨6, ⟨some 41, .mv (.t 3), some (36, true)⟩, [37, 38, 39, 40, 42, 43, 44, 45, 46]⟩,
    ⟨7, ⟨some 42, .mv (.t 14), some (36, true)⟩, [37, 38, 39, 40, 41, 43, 44, 45, 46]⟩,
    ⟨8, ⟨some 43, .ia 41 (.t 42) 1, some (36, true)⟩, [37, 38, 39, 40, 44, 45, 46]⟩,
    ⟨9, ⟨some 44, .ld 43 1 false, some (36, true)⟩, [37, 38, 39, 40, 45, 46]⟩,
    ⟨10, ⟨some 45, .bin .eql (.t 40) (.t 44), some (36, true)⟩, [46]⟩,
    ⟨11, ⟨some 46, .pick (.t 36) (.t 45) (.c (.bool false)), none⟩, []⟩]
    [(12, ⟨some 12, .asg (.t 46), none⟩)] [0, 1, 2, 3, 10, 11, 12, 29, 30, 31]))))
  (.reg [⟨some 47, .bin .add (.t 31) (.c (.int .i64 1)), none⟩,
    ⟨some 31, .mv (.t 47), none⟩] [0, 1, 2, 3, 10, 11, 12, 29, 30, 31]))))))))
  (.seq (.reg [⟨some 48, .mv (.t 12), none⟩] [0, 1, 2, 3, 10, 11, 48])
  (.cond (.t 48) (.seq (.reg [⟨some 49, .mv (.t 11), none⟩,
    ⟨some 8, .asg (.t 49), none⟩,
    ⟨some 9, .asg (.c (.bool true)), none⟩] [8, 9])
  (.ret)) (.skip))))))))
  (.reg [⟨some 19, .mv (.t 10), none⟩,
    ⟨some 20, .bin .add (.t 19) (.c (.int .i64 1)), none⟩,
    ⟨some 10, .asg (.t 20), none⟩] [0, 1, 2, 3, 10])))))))
  (.seq (.reg [⟨some 8, .asg (.c (.slice true [])), none⟩,
    ⟨some 9, .asg (.c (.bool false)), none⟩] [8, 9])
  (.ret)))
theorem con_spec_eComplete {v0 : (List XVariable)} {v1 : (List XEdit)} {v2 : (List Int)} {v3 : (List Int)} {r : ((List Int) × Bool)} (h : sh_spec_eComplete v0 v1 v2 v3 = some r) : Con Try.prog 72 [(cLs (cXVariable cS cI) rfl).enc v0, (cLs (cXEdit (cLs cI rfl)) rfl).enc v1, (cLs cI rfl).enc v2, (cLs cI rfl).enc v3] [] (rs_spec_eComplete r) := by
  delta sh_spec_eComplete at h
  refine top (out := none) (f := Try.f72) (m := m72) (rs := [.t 8, .t 9]) (by kernel_rfl) rfl (by kernel_rfl) (by kernel_rfl) (by kernel_rfl) (by kernel_rfl) (by kernel_rfl) ?_
  exact
   ini [(0, .d ((cLs (cXVariable cS cI) rfl).enc v0)), (1, .d ((cLs (cXEdit (cLs cI rfl)) rfl).enc v1)), (2, .d ((cLs cI rfl).enc v2)), (3, .d ((cLs cI rfl).enc v3))] rfl <| wpC_seq <| reg_s <| x_asg (sc (cLo cI) ([] : List Int) rfl) <| x_asg (sc cB false rfl) <| seqN [(0, .d ((cLs (cXVariable cS cI) rfl).enc v0)), (1, .d ((cLs (cXEdit (cLs cI rfl)) rfl).enc v1)), (2, .d ((cLs cI rfl).enc v2)), (3, .d ((cLs cI rfl).enc v3))] (by kernel_rfl) <|
    xn <| wpC_seq <| wpC_kp <| wpC_seq <| reg_s <| x_asg (sc cI (0 : Int) rfl) <| seqN [(0, .d ((cLs (cXVariable cS cI) rfl).enc v0)), (1, .d ((cLs (cXEdit (cLs cI rfl)) rfl).enc v1)), (2, .d ((cLs cI rfl).enc v2)), (3, .d ((cLs cI rfl).enc v3)), (10, .d (cI.enc (0 : Int)))] (by kernel_rfl) <|
    xn <| wpC_blk <| lpF (fun (s732 : Int) => [(0, .d ((cLs (cXVariable cS cI) rfl).enc v0)), (1, .d ((cLs (cXEdit (cLs cI rfl)) rfl).enc v1)), (2, .d ((cLs cI rfl).enc v2)), (3, .d ((cLs cI rfl).enc v3)), (10, .d (cI.enc s732))]) (0 : Int) rfl h
    fun G1221 nx1219 s732 hn1220 h => wpC_seq <| wpC_kp <| wpC_seq <| reg_s <| st rfl <| mvd rfl rfl <| st rfl <| mvd rfl rfl <| bnd h fun x1229 e1230 h => st rfl <| o_call (a1 (c := (cLs (cXVariable cS cI) rfl)) (tLs (tXVariable tS tK)) rfl a0) (con_spec_sCount e1230) (.inl (so1 sK so0)) <| st rfl <| b_lss (k := .i64) rfl rfl <| seqN [(0, .d ((cLs (cXVariable cS cI) rfl).enc v0)), (1, .d ((cLs (cXEdit (cLs cI rfl)) rfl).enc v1)), (2, .d ((cLs cI rfl).enc v2)), (3, .d ((cLs cI rfl).enc v3)), (10, .d (cI.enc s732)), (18, .d (cB.enc (decide (s732 < x1229))))] (by kernel_rfl) <|
    xn <| cnd rfl h (fun b1231 h => wpC_skip <| kpN [(0, .d ((cLs (cXVariable cS cI) rfl).enc v0)), (1, .d ((cLs (cXEdit (cLs cI rfl)) rfl).enc v1)), (2, .d ((cLs cI rfl).enc v2)), (3, .d ((cLs cI rfl).enc v3)), (10, .d (cI.enc s732))] (by kernel_rfl) <| xn <| wpC_seq <| wpC_kp <| wpC_blk <| wpC_seq <| reg_s <| st rfl <| mvd rfl rfl <| st rfl <| mvd rfl rfl <| bnd h fun x1349 e1350 h => st rfl <| o_call (a1 (c := (cLs (cXVariable cS cI) rfl)) (tLs (tXVariable tS tK)) rfl (a1 (c := cI) tK rfl a0)) (con_spec_sAt e1350) (.inl (so1 (sLo sK) so0)) <| x_asg (so rfl rfl) <| seqN [(0, .d ((cLs (cXVariable cS cI) rfl).enc v0)), (1, .d ((cLs (cXEdit (cLs cI rfl)) rfl).enc v1)), (2, .d ((cLs cI rfl).enc v2)), (3, .d ((cLs cI rfl).enc v3)), (10, .d (cI.enc s732)), (11, .d ((cLo cI).enc x1349))] (by kernel_rfl) <|
    xn <| wpC_seq <| reg_s <| st rfl <| mvd rfl rfl <| st rfl <| mvo rfl rfl <| bnd h fun x1354 e1355 h => st rfl <| o_call (a1 (c := (cLs (cXEdit (cLs cI rfl)) rfl)) (tLs (tXEdit (tLs tK))) rfl (a1 (c := (cLo cI)) (tLo tK) rfl a0)) (con_spec_eFailed e1355) (.inl (so1 (sLo sK) so0)) <| stw rfl <| leno rfl fun l1356 => st rfl <| b_eql (k := .i64) rfl rfl <| x_asg (ss rfl rfl) <| seqN [(0, .d ((cLs (cXVariable cS cI) rfl).enc v0)), (1, .d ((cLs (cXEdit (cLs cI rfl)) rfl).enc v1)), (2, .d ((cLs cI rfl).enc v2)), (3, .d ((cLs cI rfl).enc v3)), (10, .d (cI.enc s732)), (11, .d ((cLo cI).enc x1349)), (12, .d (cB.enc (decide ((x1354.length : Int) = (0 : Int)))))] (by kernel_rfl) <|
    xn <| wpC_seq <| wpC_kp <| wpC_seq <| reg_s <| st rfl <| mvd rfl rfl <| stw rfl <| lens rfl fun l1410 => st rfl <| mvc cI (0 : Int) rfl <| seqN [(0, .d ((cLs (cXVariable cS cI) rfl).enc v0)), (1, .d ((cLs (cXEdit (cLs cI rfl)) rfl).enc v1)), (2, .d ((cLs cI rfl).enc v2)), (3, .d ((cLs cI rfl).enc v3)), (10, .d (cI.enc s732)), (11, .d ((cLo cI).enc x1349)), (12, .d (cB.enc (decide ((x1354.length : Int) = (0 : Int))))), (29, .d ((cLs cI rfl).enc v2)), (30, .d (cI.enc (v2.length : Int))), (31, .d (cI.enc (0 : Int)))] (by kernel_rfl) <|
    xn <| wpC_blk <| lpR (fun (k1412 : Nat) (s1411 : Bool) => [(0, .d ((cLs (cXVariable cS cI) rfl).enc v0)), (1, .d ((cLs (cXEdit (cLs cI rfl)) rfl).enc v1)), (2, .d ((cLs cI rfl).enc v2)), (3, .d ((cLs cI rfl).enc v3)), (10, .d (cI.enc s732)), (11, .d ((cLo cI).enc x1349)), (12, .d (cB.enc s1411)), (29, .d ((cLs cI rfl).enc v2)), (30, .d (cI.enc (v2.length : Int))), (31, .d (cI.enc (k1412 : Int)))]) (decide ((x1354.length : Int) = (0 : Int))) rfl h
    (fun G1446 s1411 h => wpC_seq <| reg_s <| st rfl <| b_lss (k := .i64) rfl rfl <| seqN [(0, .d ((cLs (cXVariable cS cI) rfl).enc v0)), (1, .d ((cLs (cXEdit (cLs cI rfl)) rfl).enc v1)), (2, .d ((cLs cI rfl).enc v2)), (3, .d ((cLs cI rfl).enc v3)), (10, .d (cI.enc s732)), (11, .d ((cLo cI).enc x1349)), (12, .d (cB.enc s1411)), (29, .d ((cLs cI rfl).enc v2)), (30, .d (cI.enc (v2.length : Int))), (31, .d (cI.enc (v2.length : Int))), (32, .d (cB.enc (decide ((v2.length : Int) < (v2.length : Int)))))] (by kernel_rfl) <|
    xn <| wpC_seq <| wpC_kp <| cnd0 rfl (dlf _) <| wpC_exit <| xt <| xt <| xt <| xb <| kpN [(0, .d ((cLs (cXVariable cS cI) rfl).enc v0)), (1, .d ((cLs (cXEdit (cLs cI rfl)) rfl).enc v1)), (2, .d ((cLs cI rfl).enc v2)), (3, .d ((cLs cI rfl).enc v3)), (10, .d (cI.enc s732)), (11, .d ((cLo cI).enc x1349)), (12, .d (cB.enc s1411))] (by kernel_rfl) <| xn <| wpC_seq <| reg_s <| st rfl <| mvd rfl rfl <| seqN [(0, .d ((cLs (cXVariable cS cI) rfl).enc v0)), (1, .d ((cLs (cXEdit (cLs cI rfl)) rfl).enc v1)), (2, .d ((cLs cI rfl).enc v2)), (3, .d ((cLs cI rfl).enc v3)), (10, .d (cI.enc s732)), (11, .d ((cLo cI).enc x1349)), (48, .d (cB.enc s1411))] (by kernel_rfl) <|
    xn <| cnd rfl h (fun b1447 h => wpC_seq <| reg_s <| st rfl <| mvo rfl rfl <| x_asg (sr rfl rfl) <| x_asg (sc cB true rfl) <| seqN [(8, .d ((cLo cI).enc x1349)), (9, .d (cB.enc true))] (by kernel_rfl) <|
    xn <| wpC_ret <| rb <| rt <| rt <| rt <| rb <| rt <| rt <| re <| fin h (r1 (so rfl rfl) <| r1 (ss rfl rfl) <| r0) rfl)
    (fun b1447 h => wpC_skip <| xbb <| kpN [(0, .d ((cLs (cXVariable cS cI) rfl).enc v0)), (1, .d ((cLs (cXEdit (cLs cI rfl)) rfl).enc v1)), (2, .d ((cLs cI rfl).enc v2)), (3, .d ((cLs cI rfl).enc v3)), (10, .d (cI.enc s732))] (by kernel_rfl) <| xn <| reg_s <| st rfl <| mvd rfl rfl <| ckI_k h fun i1448 h => st rfl <| b_add (k := .i64) rfl rfl i1448 <| x_asg (ss rfl rfl) <| seqN [(0, .d ((cLs (cXVariable cS cI) rfl).enc v0)), (1, .d ((cLs (cXEdit (cLs cI rfl)) rfl).enc v1)), (2, .d ((cLs cI rfl).enc v2)), (3, .d ((cLs cI rfl).enc v3)), (10, .d (cI.enc (s732 + (1 : Int))))] (by kernel_rfl) <|
    xn <| hn1220 (s732 + (1 : Int)) h))
    (fun G1446 nx1444 k1412 s1411 x1413 hk1414 hx1415 hn1445 h => wpC_seq <| reg_s <| st rfl <| b_lss (k := .i64) rfl rfl <| seqN [(0, .d ((cLs (cXVariable cS cI) rfl).enc v0)), (1, .d ((cLs (cXEdit (cLs cI rfl)) rfl).enc v1)), (2, .d ((cLs cI rfl).enc v2)), (3, .d ((cLs cI rfl).enc v3)), (10, .d (cI.enc s732)), (11, .d ((cLo cI).enc x1349)), (12, .d (cB.enc s1411)), (29, .d ((cLs cI rfl).enc v2)), (30, .d (cI.enc (v2.length : Int))), (31, .d (cI.enc (k1412 : Int))), (32, .d (cB.enc (decide ((k1412 : Int) < (v2.length : Int)))))] (by kernel_rfl) <|
    xn <| wpC_seq <| wpC_kp <| cnd1 rfl (dlt hk1414) <| wpC_skip <| kpN [(0, .d ((cLs (cXVariable cS cI) rfl).enc v0)), (1, .d ((cLs (cXEdit (cLs cI rfl)) rfl).enc v1)), (2, .d ((cLs cI rfl).enc v2)), (3, .d ((cLs cI rfl).enc v3)), (10, .d (cI.enc s732)), (11, .d ((cLo cI).enc x1349)), (12, .d (cB.enc s1411)), (29, .d ((cLs cI rfl).enc v2)), (30, .d (cI.enc (v2.length : Int))), (31, .d (cI.enc (k1412 : Int)))] (by kernel_rfl) <| xn <| wpC_seq <| wpC_kp <| wpC_blk <| wpC_seq <| reg_s <| st rfl <| ias rfl rfl (Int.natCast_nonneg _) hx1415 rfl <| st rfl <| ldi rfl rfl rfl rfl <| x_asg (ss rfl rfl) <| seqN [(0, .d ((cLs (cXVariable cS cI) rfl).enc v0)), (1, .d ((cLs (cXEdit (cLs cI rfl)) rfl).enc v1)), (2, .d ((cLs cI rfl).enc v2)), (3, .d ((cLs cI rfl).enc v3)), (10, .d (cI.enc s732)), (11, .d ((cLo cI).enc x1349)), (12, .d (cB.enc s1411)), (14, .d (cI.enc x1413)), (29, .d ((cLs cI rfl).enc v2)), (30, .d (cI.enc (v2.length : Int))), (31, .d (cI.enc (k1412 : Int)))] (by kernel_rfl) <|
    xn <| drw_s <| pst rfl <| mvd rfl rfl ⟨rfl, pst rfl <| mvd rfl rfl ⟨rfl, ite_kp h (fun b1456 h => pgt rfl b1456 <| pst rfl <| mvo rfl rfl ⟨rfl, pgt rfl b1456 <| pst rfl <| mvd rfl rfl ⟨rfl, pgt rfl b1456 <| getO_kp h fun x1457 i1458 g1459 h => pst rfl <| iar rfl rfl rfl rfl i1458 g1459 rfl ⟨rfl, pgt rfl b1456 <| pst rfl <| lda rfl rfl (Gt.idx g1459 Gt.nil) rfl rfl rfl ⟨rfl, pgt rfl b1456 <| pst rfl <| mvd rfl rfl ⟨rfl, pgt rfl b1456 <| pst rfl <| mvd rfl rfl ⟨rfl, pgt rfl b1456 <| getO_kp h fun x1460 i1461 g1462 h => pst rfl <| ias rfl rfl i1461 g1462 rfl ⟨rfl, pgt rfl b1456 <| pst rfl <| ldi rfl rfl rfl rfl ⟨rfl, pgt rfl b1456 <| pst rfl <| b_eql (k := .i64) rfl rfl ⟨rfl, pst rfl <| pick1 rfl b1456 (cd := cB) (v := (decide (x1457 = x1460))) rfl rfl ⟨rfl, preN <| x_asg (ss rfl rfl) <| seqN [(0, .d ((cLs (cXVariable cS cI) rfl).enc v0)), (1, .d ((cLs (cXEdit (cLs cI rfl)) rfl).enc v1)), (2, .d ((cLs cI rfl).enc v2)), (3, .d ((cLs cI rfl).enc v3)), (10, .d (cI.enc s732)), (11, .d ((cLo cI).enc x1349)), (12, .d (cB.enc (decide (x1457 = x1460)))), (29, .d ((cLs cI rfl).enc v2)), (30, .d (cI.enc (v2.length : Int))), (31, .d (cI.enc (k1412 : Int)))] (by kernel_rfl) <|
    xbb <| kpN [(0, .d ((cLs (cXVariable cS cI) rfl).enc v0)), (1, .d ((cLs (cXEdit (cLs cI rfl)) rfl).enc v1)), (2, .d ((cLs cI rfl).enc v2)), (3, .d ((cLs cI rfl).enc v3)), (10, .d (cI.enc s732)), (11, .d ((cLo cI).enc x1349)), (12, .d (cB.enc (decide (x1457 = x1460)))), (29, .d ((cLs cI rfl).enc v2)), (30, .d (cI.enc (v2.length : Int))), (31, .d (cI.enc (k1412 : Int)))] (by kernel_rfl) <| xn <| reg_s <| st rfl <| b_inc rfl rfl l1410 hk1414 <| st rfl <| mvd rfl rfl <| seqN [(0, .d ((cLs (cXVariable cS cI) rfl).enc v0)), (1, .d ((cLs (cXEdit (cLs cI rfl)) rfl).enc v1)), (2, .d ((cLs cI rfl).enc v2)), (3, .d ((cLs cI rfl).enc v3)), (10, .d (cI.enc s732)), (11, .d ((cLo cI).enc x1349)), (12, .d (cB.enc (decide (x1457 = x1460)))), (29, .d ((cLs cI rfl).enc v2)), (30, .d (cI.enc (v2.length : Int))), (31, .d (cI.enc ((k1412 + 1 : Nat) : Int)))] (by kernel_rfl) <|
    xn <| hn1445 (decide (x1457 = x1460)) h⟩⟩⟩⟩⟩⟩⟩⟩⟩⟩)
    (fun b1456 h => pgf rfl rfl b1456 <| pgf rfl rfl b1456 <| pgf rfl rfl b1456 <| pgf rfl rfl b1456 <| pgf rfl rfl b1456 <| pgf rfl rfl b1456 <| pgf rfl rfl b1456 <| pgf rfl rfl b1456 <| pgf rfl rfl b1456 <| pst rfl <| pick0 rfl b1456 (cd := cB) (v := false) rfl rfl ⟨rfl, preN <| x_asg (ss rfl rfl) <| seqN [(0, .d ((cLs (cXVariable cS cI) rfl).enc v0)), (1, .d ((cLs (cXEdit (cLs cI rfl)) rfl).enc v1)), (2, .d ((cLs cI rfl).enc v2)), (3, .d ((cLs cI rfl).enc v3)), (10, .d (cI.enc s732)), (11, .d ((cLo cI).enc x1349)), (12, .d (cB.enc false)), (29, .d ((cLs cI rfl).enc v2)), (30, .d (cI.enc (v2.length : Int))), (31, .d (cI.enc (k1412 : Int)))] (by kernel_rfl) <|
    xbb <| kpN [(0, .d ((cLs (cXVariable cS cI) rfl).enc v0)), (1, .d ((cLs (cXEdit (cLs cI rfl)) rfl).enc v1)), (2, .d ((cLs cI rfl).enc v2)), (3, .d ((cLs cI rfl).enc v3)), (10, .d (cI.enc s732)), (11, .d ((cLo cI).enc x1349)), (12, .d (cB.enc false)), (29, .d ((cLs cI rfl).enc v2)), (30, .d (cI.enc (v2.length : Int))), (31, .d (cI.enc (k1412 : Int)))] (by kernel_rfl) <| xn <| reg_s <| st rfl <| b_inc rfl rfl l1410 hk1414 <| st rfl <| mvd rfl rfl <| seqN [(0, .d ((cLs (cXVariable cS cI) rfl).enc v0)), (1, .d ((cLs (cXEdit (cLs cI rfl)) rfl).enc v1)), (2, .d ((cLs cI rfl).enc v2)), (3, .d ((cLs cI rfl).enc v3)), (10, .d (cI.enc s732)), (11, .d ((cLo cI).enc x1349)), (12, .d (cB.enc false)), (29, .d ((cLs cI rfl).enc v2)), (30, .d (cI.enc (v2.length : Int))), (31, .d (cI.enc ((k1412 + 1 : Nat) : Int)))] (by kernel_rfl) <|
    xn <| hn1445 false h⟩)⟩⟩))
    (fun b1231 h => wpC_exit <| xt <| xt <| xt <| xb <| kpN [] (by kernel_rfl) <| xn <| wpC_seq <| reg_s <| x_asg (sc (cLo cI) ([] : List Int) rfl) <| x_asg (sc cB false rfl) <| seqN [(8, .d ((cLo cI).enc ([] : List Int))), (9, .d (cB.enc false))] (by kernel_rfl) <|
    xn <| wpC_ret <| re <| fin h (r1 (so rfl rfl) <| r1 (ss rfl rfl) <| r0) rfl)

def rs_impl_isSmall (r : Bool) : List D := [cB.enc r]
def m73 : MC := .seq (.reg [⟨some 2, .asg (.c (.bool false)), none⟩] [0])
  (.seq (.reg [⟨some 3, .mv (.t 0), none⟩,
    ⟨some 4, .call 63 [(.t 3)], none⟩,
    ⟨some 5, .mv (.t 4), none⟩,
    ⟨some 6, .mv (.t 0), some (5, true)⟩,
    ⟨some 7, .call 65 [(.t 6)], some (5, true)⟩,
    ⟨some 8, .bin .leq (.t 7) (.c (.int .i64 100)), some (5, true)⟩,
    ⟨some 9, .pick (.t 5) (.t 8) (.c (.bool false)), none⟩,
    ⟨some 2, .asg (.t 9), none⟩] [2])
  (.ret))
theorem con_impl_isSmall {v0 : (List XVariable)} {r : Bool} (h : sh_impl_isSmall v0 = some r) : Con Try.prog 73 [(cLs (cXVariable cS cI) rfl).enc v0] [] (rs_impl_isSmall r) := by
  delta sh_impl_isSmall at h
  refine top (out := none) (f := Try.f73) (m := m73) (rs := [.t 2]) (by kernel_rfl) rfl (by kernel_rfl) (by kernel_rfl) (by kernel_rfl) (by kernel_rfl) (by kernel_rfl) ?_
  exact
   ini [(0, .d ((cLs (cXVariable cS cI) rfl).enc v0))] rfl <| wpC_seq <| reg_s <| x_asg (sc cB false rfl) <| seqN [(0, .d ((cLs (cXVariable cS cI) rfl).enc v0))] (by kernel_rfl) <|
    xn <| wpC_seq <| reg_s <| st rfl <| mvd rfl rfl <| bnd h fun x6 e7 h => st rfl <| o_call (a1 (c := (cLs (cXVariable cS cI) rfl)) (tLs (tXVariable tS tK)) rfl a0) (con_impl_IsSchema e7) (.inl (so1 sB so0)) <| st rfl <| mvd rfl rfl <| ite_k h (fun b8 h => gt' rfl b8 <| st rfl <| mvd rfl rfl <| gt' rfl b8 <| bnd h fun x9 e10 h => st rfl <| o_call (a1 (c := (cLs (cXVariable cS cI) rfl)) (tLs (tXVariable tS tK)) rfl a0) (con_impl_combinations e10) (.inl (so1 sK so0)) <| gt' rfl b8 <| st rfl <| b_leq (k := .i64) rfl rfl <| st rfl <| pick1 rfl b8 (cd := cB) (v := (decide (x9 ≤ (100 : Int)))) rfl rfl <| x_asg (ss rfl rfl) <| seqN [(2, .d (cB.enc (decide (x9 ≤ (100 : Int)))))] (by kernel_rfl) <|
    xn <| wpC_ret <| re <| fin h (r1 (ss rfl rfl) <| r0) rfl)
    (fun b8 h => gf rfl b8 <| gf rfl b8 <| gf rfl b8 <| st rfl <| pick0 rfl b8 (cd := cB) (v := false) rfl rfl <| x_asg (ss rfl rfl) <| seqN [(2, .d (cB.enc false))] (by kernel_rfl) <|
    xn <| wpC_ret <| re <| fin h (r1 (ss rfl rfl) <| r0) rfl)

def rs_impl_areValues (r : Bool) : List D := [cB.enc r]
def m75 : MC := .seq (.reg [⟨some 4, .asg (.c (.bool false)), none⟩] [0, 1])
  (.seq (.kp [0, 1] (.seq (.reg [⟨some 7, .mv (.t 1), none⟩,
    ⟨some 8, .len false (.t 7), none⟩,
    ⟨some 9, .mv (.t 0), none⟩,
    ⟨some 10, .len false (.t 9), none⟩,
    ⟨some 11, .bin .neq (.t 8) (.t 10), none⟩] [0, 1, 11])
  (.cond (.t 11) (.seq (.reg [⟨some 4, .asg (.c (.bool false)), none⟩] [4])
  (.ret)) (.skip))))
  (.seq (.kp [] (.seq (.reg [⟨some 12, .mv (.t 1), none⟩,
    ⟨some 13, .len false (.t 12), none⟩,
    ⟨some 14, .mv (.c (.int .i64 0)), none⟩] [0, 1, 12, 13, 14])
  (.blk 0 (.loop (.seq (.reg [⟨some 15, .bin .lss (.t 14) (.t 13), none⟩] [0, 1, 12, 13, 14, 15])
  (.seq (.kp [0, 1, 12, 13, 14] (.cond (.t 15) (.skip) (.exit 0)))
  (.seq (.kp [0, 1, 12, 13, 14] (.blk 1 (.seq (.reg [⟨some 16, .mv (.t 14), none⟩,
    ⟨some 17, .ia 12 (.t 14) 1, none⟩,
    ⟨some 18, .ld 17 1 false, none⟩,
    ⟨some 5, .asg (.t 16), none⟩,
    ⟨some 6, .asg (.t 18), none⟩] [0, 1, 5, 6, 12, 13, 14])
  (.seq (.reg [⟨some 19, .mv (.t 6), none⟩,
    ⟨some 20, .bin .lss (.t 19) (.c (.int .i64 0)), none⟩,
    ⟨some 21, .mv (.t 20), none⟩,
    ⟨some 22, .mv (.t 6), some (21, false)⟩,
    ⟨some 23, .mv (.t 0), some (21, false)⟩,
    ⟨some 24, .mv (.t 5), some (21, false)⟩,
    ⟨some 25, .ia 23 (.t 24) 2, some (21, false)⟩,
    ⟨some 26, .fa 25 1 1, some (21, false)⟩,
    ⟨some 27, .ld 26 1 false, some (21, false)⟩,
    ⟨some 28, .bin .geq (.t 22) (.t 27), some (21, false)⟩,
    ⟨some 29, .pick (.t 21) (.c (.bool true)) (.t 28), none⟩] [0, 1, 12, 13, 14, 29])
  (.cond (.t 29) (.seq (.reg [⟨some 4, .asg (.c (.bool false)), none⟩] [4])
  (.ret)) (.skip))))))
  (.reg [⟨some 30, .bin .add (.t 14) (.c (.int .i64 1)), none⟩,
    ⟨some 14, .mv (.t 30), none⟩] [0, 1, 12, 13, 14]))))))))
  (.seq (.reg [⟨some 4, .asg (.c (.bool true)), none⟩] [4])
  (.ret))))
theorem con_impl_areValues {v0 : (List XVariable)} {v1 : (List Int)} {r : Bool} (h : sh_impl_areValues v0 v1 = some r) : Con Try.prog 75 [(cLs (cXVariable cS cI) rfl).enc v0, (cLs cI rfl).enc v1] [] (rs_impl_areValues r) := by
  delta sh_impl_areValues at h
  refine top (out := none) (f := Try.f75) (m := m75) (rs := [.t 4]) (by kernel_rfl) rfl (by kernel_rfl) (by kernel_rfl) (by kernel_rfl) (by kernel_rfl) (by kernel_rfl) ?_
  exact
   ini [(0, .d ((cLs (cXVariable cS cI) rfl).enc v0)), (1, .d ((cLs cI rfl).enc v1))] rfl <| wpC_seq <| reg_s <| x_asg (sc cB false rfl) <| seqN [(0, .d ((cLs (cXVariable cS cI) rfl).enc v0)), (1, .d ((cLs cI rfl).enc v1))] (by kernel_rfl) <|
    xn <| wpC_seq <| wpC_kp <| wpC_seq <| reg_s <| st rfl <| mvd rfl rfl <| stw rfl <| lens rfl fun l8 => st rfl <| mvd rfl rfl <| stw rfl <| lens rfl fun l9 => st rfl <| b_neq (k := .i64) rfl rfl <| seqN [(0, .d ((cLs (cXVariable cS cI) rfl).enc v0)), (1, .d ((cLs cI rfl).enc v1)), (11, .d (cB.enc (decide ((v1.length : Int) ≠ (v0.length : Int)))))] (by kernel_rfl) <|
    xn <| cnd rfl h (fun b10 h => wpC_seq <| reg_s <| x_asg (sc cB false rfl) <| seqN [(4, .d (cB.enc false))] (by kernel_rfl) <|
    xn <| wpC_ret <| rt <| rt <| re <| fin h (r1 (ss rfl rfl) <| r0) rfl)
    (fun b10 h => wpC_skip <| kpN [(0, .d ((cLs (cXVariable cS cI) rfl).enc v0)), (1, .d ((cLs cI rfl).enc v1))] (by kernel_rfl) <| xn <| wpC_seq <| wpC_kp <| wpC_seq <| reg_s <| st rfl <| mvd rfl rfl <| stw rfl <| lens rfl fun l58 => st rfl <| mvc cI (0 : Int) rfl <| seqN [(0, .d ((cLs (cXVariable cS cI) rfl).enc v0)), (1, .d ((cLs cI rfl).enc v1)), (12, .d ((cLs cI rfl).enc v1)), (13, .d (cI.enc (v1.length : Int))), (14, .d (cI.enc (0 : Int)))] (by kernel_rfl) <|
    xn <| wpC_blk <| lpR (fun (k60 : Nat) (s59 : Unit) => [(0, .d ((cLs (cXVariable cS cI) rfl).enc v0)), (1, .d ((cLs cI rfl).enc v1)), (12, .d ((cLs cI rfl).enc v1)), (13, .d (cI.enc (v1.length : Int))), (14, .d (cI.enc (k60 : Int)))]) () rfl h
    (fun G84 s59 h => wpC_seq <| reg_s <| st rfl <| b_lss (k := .i64) rfl rfl <| seqN [(0, .d ((cLs (cXVariable cS cI) rfl).enc v0)), (1, .d ((cLs cI rfl).enc v1)), (12, .d ((cLs cI rfl).enc v1)), (13, .d (cI.enc (v1.length : Int))), (14, .d (cI.enc (v1.length : Int))), (15, .d (cB.enc (decide ((v1.length : Int) < (v1.length : Int)))))] (by kernel_rfl) <|
    xn <| wpC_seq <| wpC_kp <| cnd0 rfl (dlf _) <| wpC_exit <| xt <| xt <| xt <| xb <| kpN [] (by kernel_rfl) <| xn <| wpC_seq <| reg_s <| x_asg (sc cB true rfl) <| seqN [(4, .d (cB.enc true))] (by kernel_rfl) <|
    xn <| wpC_ret <| re <| fin h (r1 (ss rfl rfl) <| r0) rfl)
    (fun G84 nx82 k60 s59 x61 hk62 hx63 hn83 h => wpC_seq <| reg_s <| st rfl <| b_lss (k := .i64) rfl rfl <| seqN [(0, .d ((cLs (cXVariable cS cI) rfl).enc v0)), (1, .d ((cLs cI rfl).enc v1)), (12, .d ((cLs cI rfl).enc v1)), (13, .d (cI.enc (v1.length : Int))), (14, .d (cI.enc (k60 : Int))), (15, .d (cB.enc (decide ((k60 : Int) < (v1.length : Int)))))] (by kernel_rfl) <|
    xn <| wpC_seq <| wpC_kp <| cnd1 rfl (dlt hk62) <| wpC_skip <| kpN [(0, .d ((cLs (cXVariable cS cI) rfl).enc v0)), (1, .d ((cLs cI rfl).enc v1)), (12, .d ((cLs cI rfl).enc v1)), (13, .d (cI.enc (v1.length : Int))), (14, .d (cI.enc (k60 : Int)))] (by kernel_rfl) <| xn <| wpC_seq <| wpC_kp <| wpC_blk <| wpC_seq <| reg_s <| st rfl <| mvd rfl rfl <| st rfl <| ias rfl rfl (Int.natCast_nonneg _) hx63 rfl <| st rfl <| ldi rfl rfl rfl rfl <| x_asg (ss rfl rfl) <| x_asg (ss rfl rfl) <| seqN [(0, .d ((cLs (cXVariable cS cI) rfl).enc v0)), (1, .d ((cLs cI rfl).enc v1)), (5, .d (cI.enc (k60 : Int))), (6, .d (cI.enc x61)), (12, .d ((cLs cI rfl).enc v1)), (13, .d (cI.enc (v1.length : Int))), (14, .d (cI.enc (k60 : Int)))] (by kernel_rfl) <|
    xn <| wpC_seq <| reg_s <| st rfl <| mvd rfl rfl <| st rfl <| b_lss (k := .i64) rfl rfl <| st rfl <| mvd rfl rfl <| ite_k h (fun b98 h => gf rfl b98 <| gf rfl b98 <| gf rfl b98 <| gf rfl b98 <| gf rfl b98 <| gf rfl b98 <| gf rfl b98 <| st rfl <| pick1 rfl b98 (cd := cB) (v := true) rfl rfl <| seqN [(0, .d ((cLs (cXVariable cS cI) rfl).enc v0)), (1, .d ((cLs cI rfl).enc v1)), (12, .d ((cLs cI rfl).enc v1)), (13, .d (cI.enc (v1.length : Int))), (14, .d (cI.enc (k60 : Int))), (29, .d (cB.enc true))] (by kernel_rfl) <|
    xn <| cnd1 rfl rfl <| wpC_seq <| reg_s <| x_asg (sc cB false rfl) <| seqN [(4, .d (cB.enc false))] (by kernel_rfl) <|
    xn <| wpC_ret <| rb <| rt <| rt <| rt <| rb <| rt <| rt <| re <| fin h (r1 (ss rfl rfl) <| r0) rfl)
    (fun b98 h => gt' rfl b98 <| st rfl <| mvd rfl rfl <| gt' rfl b98 <| st rfl <| mvd rfl rfl <| gt' rfl b98 <| st rfl <| mvd rfl rfl <| gt' rfl b98 <| getO_k h fun x99 i100 g101 h => st rfl <| ias rfl rfl i100 g101 rfl <| gt' rfl b98 <| st rfl <| fai rfl rfl rfl rfl <| gt' rfl b98 <| st rfl <| ldi rfl rfl rfl rfl <| gt' rfl b98 <| st rfl <| b_geq (k := .i64) rfl rfl <| st rfl <| pick0 rfl b98 (cd := cB) (v := (decide (x99.Levels ≤ x61))) rfl rfl <| seqN [(0, .d ((cLs (cXVariable cS cI) rfl).enc v0)), (1, .d ((cLs cI rfl).enc v1)), (12, .d ((cLs cI rfl).enc v1)), (13, .d (cI.enc (v1.length : Int))), (14, .d (cI.enc (k60 : Int))), (29, .d (cB.enc (decide (x99.Levels ≤ x61))))] (by kernel_rfl) <|
    xn <| cnd rfl h (fun b102 h => wpC_seq <| reg_s <| x_asg (sc cB false rfl) <| seqN [(4, .d (cB.enc false))] (by kernel_rfl) <|
    xn <| wpC_ret <| rb <| rt <| rt <| rt <| rb <| rt <| rt <| re <| fin h (r1 (ss rfl rfl) <| r0) rfl)
    (fun b102 h => wpC_skip <| xbb <| kpN [(0, .d ((cLs (cXVariable cS cI) rfl).enc v0)), (1, .d ((cLs cI rfl).enc v1)), (12, .d ((cLs cI rfl).enc v1)), (13, .d (cI.enc (v1.length : Int))), (14, .d (cI.enc (k60 : Int)))] (by kernel_rfl) <| xn <| reg_s <| st rfl <| b_inc rfl rfl l58 hk62 <| st rfl <| mvd rfl rfl <| seqN [(0, .d ((cLs (cXVariable cS cI) rfl).enc v0)), (1, .d ((cLs cI rfl).enc v1)), (12, .d ((cLs cI rfl).enc v1)), (13, .d (cI.enc (v1.length : Int))), (14, .d (cI.enc ((k60 + 1 : Nat) : Int)))] (by kernel_rfl) <|
    xn <| hn83 () h))))

def os_impl_completionOf_1 (r : ((Option (List Int)) × Bool)) : D := (cP true (cNo cI)).enc r.1
def rs_impl_completionOf_1 (r : ((Option (List Int)) × Bool)) : List D := [cB.enc r.2]
def m130 : MC := .seq (.reg [⟨some 5, .asg (.c (.bool false)), none⟩] [0, 1, 2, 3])
  (.seq (.kp [0, 3] (.seq (.reg [⟨some 8, .ld 1 1 false, none⟩,
    ⟨some 9, .len false (.t 8), none⟩,
    ⟨some 10, .mv (.c (.int .i64 0)), none⟩] [0, 1, 2, 3, 8, 9, 10])
  (.blk 0 (.loop (.seq (.reg [⟨some 11, .bin .lss (.t 10) (.t 9), none⟩] [0, 1, 2, 3, 8, 9, 10, 11])
  (.seq (.kp [0, 1, 2, 3, 8, 9, 10] (.cond (.t 11) (.skip) (.exit 0)))
  (.seq (.kp [0, 1, 2, 3, 8, 9, 10] (.blk 1 (.seq (.reg [⟨some 12, .ia 8 (.t 10) 1, none⟩,
    ⟨some 13, .ld 12 1 false, none⟩,
    ⟨some 7, .asg (.t 13), none⟩] [0, 1, 2, 3, 7, 8, 9, 10])
  (.seq (.drw [⟨0, ⟨some 14, .mv (.t 0), none⟩, [15, 16, 17, 18, 19, 20, 21, 22]⟩,
    ⟨1, ⟨some 15, .mv (.t 7), none⟩, [14, 16, 17, 18, 19, 20, 21, 22]⟩,
    ⟨2, ⟨some 16, .ia 14 (.t 15) 1, none⟩, [17, 18, 19, 20, 21, 22]⟩,
    ⟨3, ⟨some 17, .ld 16 1 false, none⟩, [18, 19, 20, 21, 22]⟩,
    ⟨4, ⟨some 18, .ld 2 1 false, none⟩, [14, 15, 16, 17, 19, 20, 21, 22]⟩,
    ⟨5, ⟨some 19, .mv (.t 7), none⟩, [14, 15, 16, 17, 18, 20, 21, 22]⟩,
    ⟨6, ⟨some 20, .ia 18 (.t 19) 1, none⟩, [14, 15, 16, 17, 21, 22]⟩,
    ⟨7, ⟨some 21, .ld 20 1 false, none⟩, [14, 15, 16, 17, 22]⟩,
    ⟨8, ⟨some 22, .bin .neq (.t 17) (.t 21), none⟩, []⟩]
    [] [0, 1, 2, 3, 8, 9, 10, 22])
  (.cond (.t 22) (.seq (.reg [⟨some 5, .asg (.c (.bool true)), none⟩] [3, 5])
  (.ret)) (.skip))))))
  (.reg [⟨some 23, .bin .add (.t 10) (.c (.int .i64 1)), none⟩,
    ⟨some 10, .mv (.t 23), none⟩] [0, 1, 2, 3, 8, 9, 10]))))))))
  (.seq (.reg [⟨some 24, .mv (.t 0), none⟩,
    ⟨none, .st 3 (.t 24) 1, none⟩] [3])
  (.seq (.reg [⟨some 5, .asg (.c (.bool false)), none⟩] [3, 5])
  (.ret))))
theorem con_impl_completionOf_1 {v0 : (List Int)} {v1 : (List Int)} {v2 : (List Int)} {v3 : (Option (List Int))} {r : ((Option (List Int)) × Bool)} (h : sh_impl_completionOf_1 v0 v1 v2 v3 = some r) : Con Try.prog 130 [(cLo cI).enc v0, (cP false (cLs cI rfl)).enc v1, (cP false (cLs cI rfl)).enc v2, (cP true (cNo cI)).enc v3] (outsOf (some (3, os_impl_completionOf_1 r))) (rs_impl_completionOf_1 r) := by
  delta sh_impl_completionOf_1 at h
  refine top (out := some (3, os_impl_completionOf_1 r)) (f := Try.f130) (m := m130) (rs := [.t 5]) (by kernel_rfl) rfl (by kernel_rfl) (by kernel_rfl) (by kernel_rfl) (by kernel_rfl) (by kernel_rfl) ?_
  exact
   ini [(0, .d ((cLo cI).enc v0)), (1, .ima ((cLs cI rfl).enc v1)), (2, .ima ((cLs cI rfl).enc v2)), (3, .box ((cNo cI).enc v3))] rfl <| wpC_seq <| reg_s <| x_asg (sc cB false rfl) <| seqN [(0, .d ((cLo cI).enc v0)), (1, .ima ((cLs cI rfl).enc v1)), (2, .ima ((cLs cI rfl).enc v2)), (3, .box ((cNo cI).enc v3))] (by kernel_rfl) <|
    xn <| wpC_seq <| wpC_kp <| wpC_seq <| reg_s <| st rfl <| ldi rfl rfl rfl rfl <| stw rfl <| lens rfl fun l64 => st rfl <| mvc cI (0 : Int) rfl <| seqN [(0, .d ((cLo cI).enc v0)), (1, .ima ((cLs cI rfl).enc v1)), (2, .ima ((cLs cI rfl).enc v2)), (3, .box ((cNo cI).enc v3)), (8, .d ((cLs cI rfl).enc v1)), (9, .d (cI.enc (v1.length : Int))), (10, .d (cI.enc (0 : Int)))] (by kernel_rfl) <|
    xn <| wpC_blk <| lpR (fun (k66 : Nat) (s65 : Unit) => [(0, .d ((cLo cI).enc v0)), (1, .ima ((cLs cI rfl).enc v1)), (2, .ima ((cLs cI rfl).enc v2)), (3, .box ((cNo cI).enc v3)), (8, .d ((cLs cI rfl).enc v1)), (9, .d (cI.enc (v1.length : Int))), (10, .d (cI.enc (k66 : Int)))]) () rfl h
    (fun G98 s65 h => wpC_seq <| reg_s <| st rfl <| b_lss (k := .i64) rfl rfl <| seqN [(0, .d ((cLo cI).enc v0)), (1, .ima ((cLs cI rfl).enc v1)), (2, .ima ((cLs cI rfl).enc v2)), (3, .box ((cNo cI).enc v3)), (8, .d ((cLs cI rfl).enc v1)), (9, .d (cI.enc (v1.length : Int))), (10, .d (cI.enc (v1.length : Int))), (11, .d (cB.enc (decide ((v1.length : Int) < (v1.length : Int)))))] (by kernel_rfl) <|
    xn <| wpC_seq <| wpC_kp <| cnd0 rfl (dlf _) <| wpC_exit <| xt <| xt <| xt <| xb <| kpN [(0, .d ((cLo cI).enc v0)), (3, .box ((cNo cI).enc v3))] (by kernel_rfl) <| xn <| wpC_seq <| reg_s <| st rfl <| mvo rfl rfl <| x_stb (sr rfl rfl) rfl (Cd.h_sz _ _) rfl <| seqN [(3, .box ((cNo cI).enc (some v0)))] (by kernel_rfl) <|
    xn <| wpC_seq <| reg_s <| x_asg (sc cB false rfl) <| seqN [(3, .box ((cNo cI).enc (some v0))), (5, .d (cB.enc false))] (by kernel_rfl) <|
    xn <| wpC_ret <| re <| finO h (r1 (ss rfl rfl) <| r0) rfl rfl)
    (fun G98 nx96 k66 s65 x67 hk68 hx69 hn97 h => wpC_seq <| reg_s <| st rfl <| b_lss (k := .i64) rfl rfl <| seqN [(0, .d ((cLo cI).enc v0)), (1, .ima ((cLs cI rfl).enc v1)), (2, .ima ((cLs cI rfl).enc v2)), (3, .box ((cNo cI).enc v3)), (8, .d ((cLs cI rfl).enc v1)), (9, .d (cI.enc (v1.length : Int))), (10, .d (cI.enc (k66 : Int))), (11, .d (cB.enc (decide ((k66 : Int) < (v1.length : Int)))))] (by kernel_rfl) <|
    xn <| wpC_seq <| wpC_kp <| cnd1 rfl (dlt hk68) <| wpC_skip <| kpN [(0, .d ((cLo cI).enc v0)), (1, .ima ((cLs cI rfl).enc v1)), (2, .ima ((cLs cI rfl).enc v2)), (3, .box ((cNo cI).enc v3)), (8, .d ((cLs cI rfl).enc v1)), (9, .d (cI.enc (v1.length : Int))), (10, .d (cI.enc (k66 : Int)))] (by kernel_rfl) <| xn <| wpC_seq <| wpC_kp <| wpC_blk <| wpC_seq <| reg_s <| st rfl <| ias rfl rfl (Int.natCast_nonneg _) hx69 rfl <| st rfl <| ldi rfl rfl rfl rfl <| x_asg (ss rfl rfl) <| seqN [(0, .d ((cLo cI).enc v0)), (1, .ima ((cLs cI rfl).enc v1)), (2, .ima ((cLs cI rfl).enc v2)), (3, .box ((cNo cI).enc v3)), (7, .d (cI.enc x67)), (8, .d ((cLs cI rfl).enc v1)), (9, .d (cI.enc (v1.length : Int))), (10, .d (cI.enc (k66 : Int)))] (by kernel_rfl) <|
    xn <| wpC_seq <| drw_s <| pst rfl <| mvo rfl rfl ⟨rfl, pst rfl <| mvd rfl rfl ⟨rfl, getO_kp h fun x118 i119 g120 h => pst rfl <| iar rfl rfl rfl rfl i119 g120 rfl ⟨rfl, pst rfl <| lda rfl rfl (Gt.idx g120 Gt.nil) rfl rfl rfl ⟨rfl, pst rfl <| ldi rfl rfl rfl rfl ⟨rfl, pst rfl <| mvd rfl rfl ⟨rfl, getO_kp h fun x121 i122 g123 h => pst rfl <| ias rfl rfl i122 g123 rfl ⟨rfl, pst rfl <| ldi rfl rfl rfl rfl ⟨rfl, pst rfl <| b_neq (k := .i64) rfl rfl ⟨rfl, preN <| seqN [(0, .d ((cLo cI).enc v0)), (1, .ima ((cLs cI rfl).enc v1)), (2, .ima ((cLs cI rfl).enc v2)), (3, .box ((cNo cI).enc v3)), (8, .d ((cLs cI rfl).enc v1)), (9, .d (cI.enc (v1.length : Int))), (10, .d (cI.enc (k66 : Int))), (22, .d (cB.enc (decide (x118 ≠ x121))))] (by kernel_rfl) <|
    xn <| cnd rfl h (fun b124 h => wpC_seq <| reg_s <| x_asg (sc cB true rfl) <| seqN [(3, .box ((cNo cI).enc v3)), (5, .d (cB.enc true))] (by kernel_rfl) <|
    xn <| wpC_ret <| rb <| rt <| rt <| rt <| rb <| rt <| rt <| re <| finO h (r1 (ss rfl rfl) <| r0) rfl rfl)
    (fun b124 h => wpC_skip <| xbb <| kpN [(0, .d ((cLo cI).enc v0)), (1, .ima ((cLs cI rfl).enc v1)), (2, .ima ((cLs cI rfl).enc v2)), (3, .box ((cNo cI).enc v3)), (8, .d ((cLs cI rfl).enc v1)), (9, .d (cI.enc (v1.length : Int))), (10, .d (cI.enc (k66 : Int)))] (by kernel_rfl) <| xn <| reg_s <| st rfl <| b_inc rfl rfl l64 hk68 <| st rfl <| mvd rfl rfl <| seqN [(0, .d ((cLo cI).enc v0)), (1, .ima ((cLs cI rfl).enc v1)), (2, .ima ((cLs cI rfl).enc v2)), (3, .box ((cNo cI).enc v3)), (8, .d ((cLs cI rfl).enc v1)), (9, .d (cI.enc (v1.length : Int))), (10, .d (cI.enc ((k66 + 1 : Nat) : Int)))] (by kernel_rfl) <|
    xn <| hn97 () h)⟩⟩⟩⟩⟩⟩⟩⟩⟩)

end AS.W
