/- The program computes the plain functions. No condition. -/
import Derived.Test.YtpllepipjbiefaaDoorQParseEditS
import Derived.Test.YtpllepipjbiefaaDoorProg
import Derived.Test.YtpllepipjbiefaaDoorQParseEditX
import Derived.Test.YtpllepipjbiefaaDoorQParseEditL0
set_option maxRecDepth 100000
set_option linter.unusedVariables false
set_option linter.unusedSimpArgs false
namespace AS.W
open Go Go.Proofs
def rs_impl_IsSchema (r : Bool) : List D := [cB.enc r]
def m39 : MC := .seq (.reg [⟨some 2, .asg (.c (.bool false)), none⟩] [0])
  (.seq (.kp [0] (.seq (.reg [⟨some 7, .mv (.t 0), none⟩,
    ⟨some 8, .len false (.t 7), none⟩,
    ⟨some 9, .bin .lss (.t 8) (.c (.int .i64 1)), none⟩,
    ⟨some 10, .mv (.t 9), none⟩,
    ⟨some 11, .mv (.t 0), some (10, false)⟩,
    ⟨some 12, .len false (.t 11), some (10, false)⟩,
    ⟨some 13, .bin .gtr (.t 12) (.c (.int .i64 6)), some (10, false)⟩,
    ⟨some 14, .pick (.t 10) (.c (.bool true)) (.t 13), none⟩] [0, 14])
  (.cond (.t 14) (.seq (.reg [⟨some 2, .asg (.c (.bool false)), none⟩] [2])
  (.ret)) (.skip))))
  (.seq (.kp [] (.seq (.reg [⟨some 15, .mv (.t 0), none⟩,
    ⟨some 16, .len false (.t 15), none⟩,
    ⟨some 17, .mv (.c (.int .i64 0)), none⟩] [0, 15, 16, 17])
  (.blk 0 (.loop (.seq (.reg [⟨some 18, .bin .lss (.t 17) (.t 16), none⟩] [0, 15, 16, 17, 18])
  (.seq (.kp [0, 15, 16, 17] (.cond (.t 18) (.skip) (.exit 0)))
  (.seq (.kp [0, 15, 16, 17] (.blk 1 (.seq (.reg [⟨some 19, .mv (.t 17), none⟩,
    ⟨some 20, .ia 15 (.t 17) 2, none⟩,
    ⟨some 21, .ld 20 2 true, none⟩,
    ⟨some 4, .alloc (.agg [.str [], .int .i64 0]), none⟩,
    ⟨some 3, .asg (.t 19), none⟩,
    ⟨none, .st 4 (.t 21) 2, none⟩] [0, 3, 4, 15, 16, 17])
  (.seq (.kp [0, 3, 4, 15, 16, 17] (.seq (.reg [⟨some 22, .fa 4 0 0, none⟩,
    ⟨some 23, .ld 22 1 false, none⟩,
    ⟨some 24, .call 69 [(.t 23)], none⟩,
    ⟨some 25, .nt (.t 24), none⟩,
    ⟨some 26, .mv (.t 25), none⟩,
    ⟨some 27, .fa 4 1 1, some (26, false)⟩,
    ⟨some 28, .ld 27 1 false, some (26, false)⟩,
    ⟨some 29, .bin .lss (.t 28) (.c (.int .i64 2)), some (26, false)⟩,
    ⟨some 30, .pick (.t 26) (.c (.bool true)) (.t 29), none⟩,
    ⟨some 31, .mv (.t 30), none⟩,
    ⟨some 32, .fa 4 1 1, some (31, false)⟩,
    ⟨some 33, .ld 32 1 false, some (31, false)⟩,
    ⟨some 34, .bin .gtr (.t 33) (.c (.int .i64 8)), some (31, false)⟩,
    ⟨some 35, .pick (.t 31) (.c (.bool true)) (.t 34), none⟩] [0, 3, 4, 15, 16, 17, 35])
  (.cond (.t 35) (.seq (.reg [⟨some 2, .asg (.c (.bool false)), none⟩] [2])
  (.ret)) (.skip))))
  (.seq (.reg [⟨some 36, .mv (.t 0), none⟩,
    ⟨some 37, .mv (.t 3), none⟩,
    ⟨some 38, .sl (.t 36) none (some (.t 37)) 2, none⟩,
    ⟨some 39, .len false (.t 38), none⟩,
    ⟨some 40, .mv (.c (.int .i64 0)), none⟩] [0, 4, 15, 16, 17, 38, 39, 40])
  (.blk 2 (.loop (.seq (.reg [⟨some 41, .bin .lss (.t 40) (.t 39), none⟩] [0, 4, 15, 16, 17, 38, 39, 40, 41])
  (.seq (.kp [0, 4, 15, 16, 17, 38, 39, 40] (.cond (.t 41) (.skip) (.exit 2)))
  (.seq (.kp [0, 4, 15, 16, 17, 38, 39, 40] (.blk 3 (.seq (.reg [⟨some 42, .ia 38 (.t 40) 2, none⟩,
    ⟨some 43, .ld 42 2 true, none⟩,
    ⟨some 6, .alloc (.agg [.str [], .int .i64 0]), none⟩,
    ⟨none, .st 6 (.t 43) 2, none⟩] [0, 4, 6, 15, 16, 17, 38, 39, 40])
  (.seq (.reg [⟨some 44, .fa 6 0 0, none⟩,
    ⟨some 45, .ld 44 1 false, none⟩,
    ⟨some 46, .fa 4 0 0, none⟩,
    ⟨some 47, .ld 46 1 false, none⟩,
    ⟨some 48, .bin .eql (.t 45) (.t 47), none⟩] [0, 4, 15, 16, 17, 38, 39, 40, 48])
  (.cond (.t 48) (.seq (.reg [⟨some 2, .asg (.c (.bool false)), none⟩] [2])
  (.ret)) (.skip))))))
  (.reg [⟨some 49, .bin .add (.t 40) (.c (.int .i64 1)), none⟩,
    ⟨some 40, .mv (.t 49), none⟩] [0, 4, 15, 16, 17, 38, 39, 40])))))))))))
  (.reg [⟨some 50, .bin .add (.t 17) (.c (.int .i64 1)), none⟩,
    ⟨some 17, .mv (.t 50), none⟩] [0, 15, 16, 17]))))))))
  (.seq (.reg [⟨some 2, .asg (.c (.bool true)), none⟩] [2])
  (.ret))))
theorem con_impl_IsSchema {v0 : (List XVariable)} {r : Bool} (h : sh_impl_IsSchema v0 = some r) : Con Tryd.prog 39 [(cLs (cXVariable cS cI) rfl).enc v0] [] (rs_impl_IsSchema r) := by
  delta sh_impl_IsSchema at h
  refine top (out := none) (f := Tryd.f39) (m := m39) (rs := [.t 2]) (by kernel_rfl) rfl (by kernel_rfl) (by kernel_rfl) (by kernel_rfl) (by kernel_rfl) (by kernel_rfl) ?_
  exact
   ini [(0, .d ((cLs (cXVariable cS cI) rfl).enc v0))] rfl <| wpC_seq <| reg_s <| x_asg (sc cB false rfl) <| seqN [(0, .d ((cLs (cXVariable cS cI) rfl).enc v0))] (by kernel_rfl) <|
    xn <| wpC_seq <| wpC_kp <| wpC_seq <| reg_s <| st rfl <| mvd rfl rfl <| stw rfl <| lens rfl fun l11 => st rfl <| b_lss (k := .i64) rfl rfl <| st rfl <| mvd rfl rfl <| ite_k h (fun b12 h => gf rfl b12 <| gf rfl b12 <| gf rfl b12 <| st rfl <| pick1 rfl b12 (cd := cB) (v := true) rfl rfl <| seqN [(0, .d ((cLs (cXVariable cS cI) rfl).enc v0)), (14, .d (cB.enc true))] (by kernel_rfl) <|
    xn <| cnd1 rfl rfl <| wpC_seq <| reg_s <| x_asg (sc cB false rfl) <| seqN [(2, .d (cB.enc false))] (by kernel_rfl) <|
    xn <| wpC_ret <| rt <| rt <| re <| fin h (r1 (ss rfl rfl) <| r0) rfl)
    (fun b12 h => gt' rfl b12 <| st rfl <| mvd rfl rfl <| gt' rfl b12 <| stw rfl <| lens rfl fun l13 => gt' rfl b12 <| st rfl <| b_gtr (k := .i64) rfl rfl <| st rfl <| pick0 rfl b12 (cd := cB) (v := (decide ((6 : Int) < (v0.length : Int)))) rfl rfl <| seqN [(0, .d ((cLs (cXVariable cS cI) rfl).enc v0)), (14, .d (cB.enc (decide ((6 : Int) < (v0.length : Int)))))] (by kernel_rfl) <|
    xn <| cnd rfl h (fun b14 h => wpC_seq <| reg_s <| x_asg (sc cB false rfl) <| seqN [(2, .d (cB.enc false))] (by kernel_rfl) <|
    xn <| wpC_ret <| rt <| rt <| re <| fin h (r1 (ss rfl rfl) <| r0) rfl)
    (fun b14 h => wpC_skip <| kpN [(0, .d ((cLs (cXVariable cS cI) rfl).enc v0))] (by kernel_rfl) <| xn <| wpC_seq <| wpC_kp <| wpC_seq <| reg_s <| st rfl <| mvd rfl rfl <| stw rfl <| lens rfl fun l162 => st rfl <| mvc cI (0 : Int) rfl <| seqN [(0, .d ((cLs (cXVariable cS cI) rfl).enc v0)), (15, .d ((cLs (cXVariable cS cI) rfl).enc v0)), (16, .d (cI.enc (v0.length : Int))), (17, .d (cI.enc (0 : Int)))] (by kernel_rfl) <|
    xn <| wpC_blk <| lpR (fun (k164 : Nat) (s163 : Unit) => [(0, .d ((cLs (cXVariable cS cI) rfl).enc v0)), (15, .d ((cLs (cXVariable cS cI) rfl).enc v0)), (16, .d (cI.enc (v0.length : Int))), (17, .d (cI.enc (k164 : Int)))]) () rfl h
    (fun G238 s163 h => wpC_seq <| reg_s <| st rfl <| b_lss (k := .i64) rfl rfl <| seqN [(0, .d ((cLs (cXVariable cS cI) rfl).enc v0)), (15, .d ((cLs (cXVariable cS cI) rfl).enc v0)), (16, .d (cI.enc (v0.length : Int))), (17, .d (cI.enc (v0.length : Int))), (18, .d (cB.enc (decide ((v0.length : Int) < (v0.length : Int)))))] (by kernel_rfl) <|
    xn <| wpC_seq <| wpC_kp <| cnd0 rfl (dlf _) <| wpC_exit <| xt <| xt <| xt <| xb <| kpN [] (by kernel_rfl) <| xn <| wpC_seq <| reg_s <| x_asg (sc cB true rfl) <| seqN [(2, .d (cB.enc true))] (by kernel_rfl) <|
    xn <| wpC_ret <| re <| fin h (r1 (ss rfl rfl) <| r0) rfl)
    (fun G238 nx236 k164 s163 x165 hk166 hx167 hn237 h => wpC_seq <| reg_s <| st rfl <| b_lss (k := .i64) rfl rfl <| seqN [(0, .d ((cLs (cXVariable cS cI) rfl).enc v0)), (15, .d ((cLs (cXVariable cS cI) rfl).enc v0)), (16, .d (cI.enc (v0.length : Int))), (17, .d (cI.enc (k164 : Int))), (18, .d (cB.enc (decide ((k164 : Int) < (v0.length : Int)))))] (by kernel_rfl) <|
    xn <| wpC_seq <| wpC_kp <| cnd1 rfl (dlt hk166) <| wpC_skip <| kpN [(0, .d ((cLs (cXVariable cS cI) rfl).enc v0)), (15, .d ((cLs (cXVariable cS cI) rfl).enc v0)), (16, .d (cI.enc (v0.length : Int))), (17, .d (cI.enc (k164 : Int)))] (by kernel_rfl) <| xn <| wpC_seq <| wpC_kp <| wpC_blk <| wpC_seq <| reg_s <| st rfl <| mvd rfl rfl <| st rfl <| ias rfl rfl (Int.natCast_nonneg _) hx167 rfl <| st rfl <| ldi rfl rfl rfl rfl <| x_all (cXVariable cS cI) (⟨([] : List UInt8), (0 : Int)⟩ : XVariable) rfl <| x_asg (ss rfl rfl) <| x_stb (ss rfl rfl) rfl (Cd.h_sz _ _) rfl <| seqN [(0, .d ((cLs (cXVariable cS cI) rfl).enc v0)), (3, .d (cI.enc (k164 : Int))), (4, .box ((cXVariable cS cI).enc x165)), (15, .d ((cLs (cXVariable cS cI) rfl).enc v0)), (16, .d (cI.enc (v0.length : Int))), (17, .d (cI.enc (k164 : Int)))] (by kernel_rfl) <|
    xn <| wpC_seq <| wpC_kp <| wpC_seq <| reg_s <| st rfl <| fab rfl rfl rfl rfl <| st rfl <| lda rfl rfl rfl rfl rfl rfl <| bnd h fun x286 e287 h => st rfl <| o_call (a1 (c := cS) tS rfl a0) (con_impl_isWord e287) (.inl (so1 sB so0)) <| st rfl <| o_nt rfl <| st rfl <| mvd rfl rfl <| ite_k h (fun b288 h => gf rfl b288 <| gf rfl b288 <| gf rfl b288 <| st rfl <| pick1 rfl b288 (cd := cB) (v := true) rfl rfl <| st rfl <| mvd rfl rfl <| gf rfl rfl <| gf rfl rfl <| gf rfl rfl <| st rfl <| pick1 rfl rfl (cd := cB) (v := true) rfl rfl <| seqN [(0, .d ((cLs (cXVariable cS cI) rfl).enc v0)), (3, .d (cI.enc (k164 : Int))), (4, .box ((cXVariable cS cI).enc x165)), (15, .d ((cLs (cXVariable cS cI) rfl).enc v0)), (16, .d (cI.enc (v0.length : Int))), (17, .d (cI.enc (k164 : Int))), (35, .d (cB.enc true))] (by kernel_rfl) <|
    xn <| cnd1 rfl rfl <| wpC_seq <| reg_s <| x_asg (sc cB false rfl) <| seqN [(2, .d (cB.enc false))] (by kernel_rfl) <|
    xn <| wpC_ret <| rt <| rt <| rb <| rt <| rt <| rt <| rb <| rt <| rt <| re <| fin h (r1 (ss rfl rfl) <| r0) rfl)
    (fun b288 h => gt' rfl b288 <| st rfl <| fab rfl rfl rfl rfl <| gt' rfl b288 <| st rfl <| lda rfl rfl rfl rfl rfl rfl <| gt' rfl b288 <| st rfl <| b_lss (k := .i64) rfl rfl <| st rfl <| pick0 rfl b288 (cd := cB) (v := (decide (x165.Levels < (2 : Int)))) rfl rfl <| st rfl <| mvd rfl rfl <| ite_k h (fun b289 h => gf rfl b289 <| gf rfl b289 <| gf rfl b289 <| st rfl <| pick1 rfl b289 (cd := cB) (v := true) rfl rfl <| seqN [(0, .d ((cLs (cXVariable cS cI) rfl).enc v0)), (3, .d (cI.enc (k164 : Int))), (4, .box ((cXVariable cS cI).enc x165)), (15, .d ((cLs (cXVariable cS cI) rfl).enc v0)), (16, .d (cI.enc (v0.length : Int))), (17, .d (cI.enc (k164 : Int))), (35, .d (cB.enc true))] (by kernel_rfl) <|
    xn <| cnd1 rfl rfl <| wpC_seq <| reg_s <| x_asg (sc cB false rfl) <| seqN [(2, .d (cB.enc false))] (by kernel_rfl) <|
    xn <| wpC_ret <| rt <| rt <| rb <| rt <| rt <| rt <| rb <| rt <| rt <| re <| fin h (r1 (ss rfl rfl) <| r0) rfl)
    (fun b289 h => gt' rfl b289 <| st rfl <| fab rfl rfl rfl rfl <| gt' rfl b289 <| st rfl <| lda rfl rfl rfl rfl rfl rfl <| gt' rfl b289 <| st rfl <| b_gtr (k := .i64) rfl rfl <| st rfl <| pick0 rfl b289 (cd := cB) (v := (decide ((8 : Int) < x165.Levels))) rfl rfl <| seqN [(0, .d ((cLs (cXVariable cS cI) rfl).enc v0)), (3, .d (cI.enc (k164 : Int))), (4, .box ((cXVariable cS cI).enc x165)), (15, .d ((cLs (cXVariable cS cI) rfl).enc v0)), (16, .d (cI.enc (v0.length : Int))), (17, .d (cI.enc (k164 : Int))), (35, .d (cB.enc (decide ((8 : Int) < x165.Levels))))] (by kernel_rfl) <|
    xn <| cnd rfl h (fun b290 h => wpC_seq <| reg_s <| x_asg (sc cB false rfl) <| seqN [(2, .d (cB.enc false))] (by kernel_rfl) <|
    xn <| wpC_ret <| rt <| rt <| rb <| rt <| rt <| rt <| rb <| rt <| rt <| re <| fin h (r1 (ss rfl rfl) <| r0) rfl)
    (fun b290 h => wpC_skip <| kpN [(0, .d ((cLs (cXVariable cS cI) rfl).enc v0)), (3, .d (cI.enc (k164 : Int))), (4, .box ((cXVariable cS cI).enc x165)), (15, .d ((cLs (cXVariable cS cI) rfl).enc v0)), (16, .d (cI.enc (v0.length : Int))), (17, .d (cI.enc (k164 : Int)))] (by kernel_rfl) <| xn <| wpC_seq <| reg_s <| st rfl <| mvd rfl rfl <| st rfl <| mvd rfl rfl <| ck_k h fun i293 h => st rfl <| o_sl rfl rfl lo0 (hi1 (k := .i64) rfl i293.1) i293.2 <| stw rfl <| lens rfl fun l294 => st rfl <| mvc cI (0 : Int) rfl <| seqN [(0, .d ((cLs (cXVariable cS cI) rfl).enc v0)), (4, .box ((cXVariable cS cI).enc x165)), (15, .d ((cLs (cXVariable cS cI) rfl).enc v0)), (16, .d (cI.enc (v0.length : Int))), (17, .d (cI.enc (k164 : Int))), (38, .d ((cLs (cXVariable cS cI) rfl).enc ((v0.take ((k164 : Int)).toNat).drop 0))), (39, .d (cI.enc (((v0.take ((k164 : Int)).toNat).drop 0).length : Int))), (40, .d (cI.enc (0 : Int)))] (by kernel_rfl) <|
    xn <| wpC_blk <| lpR (fun (k296 : Nat) (s295 : Unit) => [(0, .d ((cLs (cXVariable cS cI) rfl).enc v0)), (4, .box ((cXVariable cS cI).enc x165)), (15, .d ((cLs (cXVariable cS cI) rfl).enc v0)), (16, .d (cI.enc (v0.length : Int))), (17, .d (cI.enc (k164 : Int))), (38, .d ((cLs (cXVariable cS cI) rfl).enc ((v0.take ((k164 : Int)).toNat).drop 0))), (39, .d (cI.enc (((v0.take ((k164 : Int)).toNat).drop 0).length : Int))), (40, .d (cI.enc (k296 : Int)))]) () rfl h
    (fun G304 s295 h => wpC_seq <| reg_s <| st rfl <| b_lss (k := .i64) rfl rfl <| seqN [(0, .d ((cLs (cXVariable cS cI) rfl).enc v0)), (4, .box ((cXVariable cS cI).enc x165)), (15, .d ((cLs (cXVariable cS cI) rfl).enc v0)), (16, .d (cI.enc (v0.length : Int))), (17, .d (cI.enc (k164 : Int))), (38, .d ((cLs (cXVariable cS cI) rfl).enc ((v0.take ((k164 : Int)).toNat).drop 0))), (39, .d (cI.enc (((v0.take ((k164 : Int)).toNat).drop 0).length : Int))), (40, .d (cI.enc (((v0.take ((k164 : Int)).toNat).drop 0).length : Int))), (41, .d (cB.enc (decide ((((v0.take ((k164 : Int)).toNat).drop 0).length : Int) < (((v0.take ((k164 : Int)).toNat).drop 0).length : Int)))))] (by kernel_rfl) <|
    xn <| wpC_seq <| wpC_kp <| cnd0 rfl (dlf _) <| wpC_exit <| xt <| xt <| xt <| xb <| xbb <| kpN [(0, .d ((cLs (cXVariable cS cI) rfl).enc v0)), (15, .d ((cLs (cXVariable cS cI) rfl).enc v0)), (16, .d (cI.enc (v0.length : Int))), (17, .d (cI.enc (k164 : Int)))] (by kernel_rfl) <| xn <| reg_s <| st rfl <| b_inc rfl rfl l162 hk166 <| st rfl <| mvd rfl rfl <| seqN [(0, .d ((cLs (cXVariable cS cI) rfl).enc v0)), (15, .d ((cLs (cXVariable cS cI) rfl).enc v0)), (16, .d (cI.enc (v0.length : Int))), (17, .d (cI.enc ((k164 + 1 : Nat) : Int)))] (by kernel_rfl) <|
    xn <| hn237 () h)
    (fun G304 nx302 k296 s295 x297 hk298 hx299 hn303 h => wpC_seq <| reg_s <| st rfl <| b_lss (k := .i64) rfl rfl <| seqN [(0, .d ((cLs (cXVariable cS cI) rfl).enc v0)), (4, .box ((cXVariable cS cI).enc x165)), (15, .d ((cLs (cXVariable cS cI) rfl).enc v0)), (16, .d (cI.enc (v0.length : Int))), (17, .d (cI.enc (k164 : Int))), (38, .d ((cLs (cXVariable cS cI) rfl).enc ((v0.take ((k164 : Int)).toNat).drop 0))), (39, .d (cI.enc (((v0.take ((k164 : Int)).toNat).drop 0).length : Int))), (40, .d (cI.enc (k296 : Int))), (41, .d (cB.enc (decide ((k296 : Int) < (((v0.take ((k164 : Int)).toNat).drop 0).length : Int)))))] (by kernel_rfl) <|
    xn <| wpC_seq <| wpC_kp <| cnd1 rfl (dlt hk298) <| wpC_skip <| kpN [(0, .d ((cLs (cXVariable cS cI) rfl).enc v0)), (4, .box ((cXVariable cS cI).enc x165)), (15, .d ((cLs (cXVariable cS cI) rfl).enc v0)), (16, .d (cI.enc (v0.length : Int))), (17, .d (cI.enc (k164 : Int))), (38, .d ((cLs (cXVariable cS cI) rfl).enc ((v0.take ((k164 : Int)).toNat).drop 0))), (39, .d (cI.enc (((v0.take ((k164 : Int)).toNat).drop 0).length : Int))), (40, .d (cI.enc (k296 : Int)))] (by kernel_rfl) <| xn <| wpC_seq <| wpC_kp <| wpC_blk <| wpC_seq <| reg_s <| st rfl <| ias rfl rfl (Int.natCast_nonneg _) hx299 rfl <| st rfl <| ldi rfl rfl rfl rfl <| x_all (cXVariable cS cI) (⟨([] : List UInt8), (0 : Int)⟩ : XVariable) rfl <| x_stb (ss rfl rfl) rfl (Cd.h_sz _ _) rfl <| seqN [(0, .d ((cLs (cXVariable cS cI) rfl).enc v0)), (4, .box ((cXVariable cS cI).enc x165)), (6, .box ((cXVariable cS cI).enc x297)), (15, .d ((cLs (cXVariable cS cI) rfl).enc v0)), (16, .d (cI.enc (v0.length : Int))), (17, .d (cI.enc (k164 : Int))), (38, .d ((cLs (cXVariable cS cI) rfl).enc ((v0.take ((k164 : Int)).toNat).drop 0))), (39, .d (cI.enc (((v0.take ((k164 : Int)).toNat).drop 0).length : Int))), (40, .d (cI.enc (k296 : Int)))] (by kernel_rfl) <|
    xn <| wpC_seq <| reg_s <| st rfl <| fab rfl rfl rfl rfl <| st rfl <| lda rfl rfl rfl rfl rfl rfl <| st rfl <| fab rfl rfl rfl rfl <| st rfl <| lda rfl rfl rfl rfl rfl rfl <| st rfl <| b_seq rfl rfl <| seqN [(0, .d ((cLs (cXVariable cS cI) rfl).enc v0)), (4, .box ((cXVariable cS cI).enc x165)), (15, .d ((cLs (cXVariable cS cI) rfl).enc v0)), (16, .d (cI.enc (v0.length : Int))), (17, .d (cI.enc (k164 : Int))), (38, .d ((cLs (cXVariable cS cI) rfl).enc ((v0.take ((k164 : Int)).toNat).drop 0))), (39, .d (cI.enc (((v0.take ((k164 : Int)).toNat).drop 0).length : Int))), (40, .d (cI.enc (k296 : Int))), (48, .d (cB.enc (decide (x297.Name = x165.Name))))] (by kernel_rfl) <|
    xn <| cnd rfl h (fun b306 h => wpC_seq <| reg_s <| x_asg (sc cB false rfl) <| seqN [(2, .d (cB.enc false))] (by kernel_rfl) <|
    xn <| wpC_ret <| rb <| rt <| rt <| rt <| rb <| rb <| rt <| rt <| rt <| rb <| rt <| rt <| re <| fin h (r1 (ss rfl rfl) <| r0) rfl)
    (fun b306 h => wpC_skip <| xbb <| kpN [(0, .d ((cLs (cXVariable cS cI) rfl).enc v0)), (4, .box ((cXVariable cS cI).enc x165)), (15, .d ((cLs (cXVariable cS cI) rfl).enc v0)), (16, .d (cI.enc (v0.length : Int))), (17, .d (cI.enc (k164 : Int))), (38, .d ((cLs (cXVariable cS cI) rfl).enc ((v0.take ((k164 : Int)).toNat).drop 0))), (39, .d (cI.enc (((v0.take ((k164 : Int)).toNat).drop 0).length : Int))), (40, .d (cI.enc (k296 : Int)))] (by kernel_rfl) <| xn <| reg_s <| st rfl <| b_inc rfl rfl l294 hk298 <| st rfl <| mvd rfl rfl <| seqN [(0, .d ((cLs (cXVariable cS cI) rfl).enc v0)), (4, .box ((cXVariable cS cI).enc x165)), (15, .d ((cLs (cXVariable cS cI) rfl).enc v0)), (16, .d (cI.enc (v0.length : Int))), (17, .d (cI.enc (k164 : Int))), (38, .d ((cLs (cXVariable cS cI) rfl).enc ((v0.take ((k164 : Int)).toNat).drop 0))), (39, .d (cI.enc (((v0.take ((k164 : Int)).toNat).drop 0).length : Int))), (40, .d (cI.enc ((k296 + 1 : Nat) : Int)))] (by kernel_rfl) <|
    xn <| hn303 () h))))))))

def rs_impl_fullSet (r : Int) : List D := [cI.enc r]
def m40 : MC := .seq (.reg [⟨some 1, .box (.t 0), none⟩,
    ⟨some 2, .asg (.c (.int .i64 0)), none⟩] [1])
  (.seq (.reg [⟨some 3, .fa 1 1 1, none⟩,
    ⟨some 4, .ld 3 1 false, none⟩,
    ⟨some 5, .bin .shl (.c (.int .i64 1)) (.t 4), none⟩,
    ⟨some 6, .bin .sub (.t 5) (.c (.int .i64 1)), none⟩,
    ⟨some 2, .asg (.t 6), none⟩] [2])
  (.ret))
theorem con_impl_fullSet {v0 : XVariable} {r : Int} (h : sh_impl_fullSet v0 = some r) : Con Tryd.prog 40 [(cXVariable cS cI).enc v0] [] (rs_impl_fullSet r) := by
  delta sh_impl_fullSet at h
  refine top (out := none) (f := Tryd.f40) (m := m40) (rs := [.t 2]) (by kernel_rfl) rfl (by kernel_rfl) (by kernel_rfl) (by kernel_rfl) (by kernel_rfl) (by kernel_rfl) ?_
  exact
   ini [(0, .d ((cXVariable cS cI).enc v0))] rfl <| wpC_seq <| reg_s <| x_box (ss rfl rfl) <| x_asg (sc cI (0 : Int) rfl) <| seqN [(1, .box ((cXVariable cS cI).enc v0))] (by kernel_rfl) <|
    xn <| wpC_seq <| reg_s <| st rfl <| fab rfl rfl rfl rfl <| st rfl <| lda rfl rfl rfl rfl rfl rfl <| ck_k h fun i4 h => ckI_k h fun i5 h => st rfl <| b_shl (k := .i64) (k' := .i64) rfl rfl i4 rfl i5 <| ckI_k h fun i6 h => st rfl <| b_sub (k := .i64) rfl rfl i6 <| x_asg (ss rfl rfl) <| seqN [(2, .d (cI.enc (((1 : Int) * 2 ^ (v0.Levels).toNat) - (1 : Int))))] (by kernel_rfl) <|
    xn <| wpC_ret <| re <| fin h (r1 (ss rfl rfl) <| r0) rfl

def rs_stringslite_Index (r : Int) : List D := [cI.enc r]
theorem ixB_eq (c : UInt8) : ∀ l : List UInt8, sh_ixB c l = Go.Lib.indexByte l c
  | [] => rfl
  | b :: l => by
    simp only [sh_ixB, Go.Lib.indexByte, ixB_eq c l]
    by_cases h : b = c
    · simp [h]
    · have : (b == c) = false := by simpa using h
      simp only [h, this, if_false, Bool.false_eq_true, beq_iff_eq]
theorem con_stringslite_Index {v0 : (List UInt8)} {v1 : (List UInt8)} {r : Int} (h : sh_stringslite_Index v0 v1 = some r) : Con Tryd.prog 93 [cS.enc v0, cS.enc v1] [] (rs_stringslite_Index r) := by
  unfold sh_stringslite_Index at h
  split at h
  · rename_i c
    cases h
    refine ⟨⟨Tryd.f93, _, Tryd.func93, rfl, by kernel_rfl⟩, ?_⟩
    intro w Z vs F hrep h1 h2 h3
    obtain ⟨x, vs2, f1, f2, rfl, e1, r1, y, vs3, f3, f4, rfl, e2, r2, rfl, e4⟩ := hrep
    obtain ⟨rfl, hl1, _⟩ := RepV.str r1
    obtain ⟨rfl, hl2, _⟩ := RepV.str r2
    refine (Tryd.stringslite_Index_one ⟨v0.toArray⟩ c w).mono ?_
    rintro e w' ⟨rfl, rfl⟩
    refine ⟨_, Z, fun _ => 0, fun _ => 0, rfl, ret_below ?_ (Go.RowKit.Below.refl _ _)⟩
    rw [ixB_eq]
    exact ⟨rfl, by simp [cI, cK, RepX, Value.cells]⟩
  · cases h

def rs_strings_splitSeq (r : ((List UInt8) × (List UInt8) × Int)) : List D := [(cFn 90 (fun (v : ((List UInt8) × (List UInt8) × Int)) => [.ptr false (cS.enc v.1), .ptr true (cS.enc v.2.1), .ptr false (cI.enc v.2.2)]) false (fun _ => (iml imo))).enc r]
def m70 : MC := .seq (.reg [⟨some 3, .box (.t 0), none⟩,
    ⟨some 4, .box (.t 1), none⟩,
    ⟨some 5, .box (.t 2), none⟩,
    ⟨some 6, .asg (.c (.hole)), none⟩] [3, 4, 5, 7])
  (.fzb 4 (.fzb 5 (.seq (.reg [⟨some 7, .mkf 90 [(false, 4), (true, 3), (false, 5)], none⟩,
    ⟨some 6, .asg (.t 7), none⟩] [6])
  (.ret))))
theorem con_strings_splitSeq {v0 : (List UInt8)} {v1 : (List UInt8)} {v2 : Int} {r : ((List UInt8) × (List UInt8) × Int)} (h : sh_strings_splitSeq v0 v1 v2 = some r) : Con Tryd.prog 70 [cS.enc v0, cS.enc v1, cI.enc v2] [] (rs_strings_splitSeq r) := by
  delta sh_strings_splitSeq at h
  refine top (out := none) (f := Tryd.f70) (m := m70) (rs := [.t 6]) (by kernel_rfl) rfl (by kernel_rfl) (by kernel_rfl) (by kernel_rfl) (by kernel_rfl) (by kernel_rfl) ?_
  exact
   ini [(0, .d (cS.enc v0)), (1, .d (cS.enc v1)), (2, .d (cI.enc v2))] rfl <| wpC_seq <| reg_s <| x_box (ss rfl rfl) <| x_box (ss rfl rfl) <| x_box (ss rfl rfl) <| x_asg (sc (cH (α := Bool)) false rfl) <| seqN [(3, .box (cS.enc v0)), (4, .box (cS.enc v1)), (5, .box (cI.enc v2)), (7, .un)] (by kernel_rfl) <|
    xn <| fzb_s tS rfl <| fzb_s tK rfl <| wpC_seq <| reg_s <| x_mkf (cFn 90 (fun (v : ((List UInt8) × (List UInt8) × Int)) => [.ptr false (cS.enc v.1), .ptr true (cS.enc v.2.1), .ptr false (cI.enc v.2.2)]) false (fun _ => (iml imo))) (v1, v0, v2) (cpi rfl (cpo rfl (cpi rfl cp0))) rfl rfl <| x_asg (so rfl rfl) <| seqN [(6, .d ((cFn 90 (fun (v : ((List UInt8) × (List UInt8) × Int)) => [.ptr false (cS.enc v.1), .ptr true (cS.enc v.2.1), .ptr false (cI.enc v.2.2)]) false (fun _ => (iml imo))).enc (v1, v0, v2)))] (by kernel_rfl) <|
    xn <| wpC_ret <| re <| fin h (r1 (so rfl rfl) <| r0) rfl

def rs_strings_SplitSeq (r : ((List UInt8) × (List UInt8) × Int)) : List D := [(cFn 90 (fun (v : ((List UInt8) × (List UInt8) × Int)) => [.ptr false (cS.enc v.1), .ptr true (cS.enc v.2.1), .ptr false (cI.enc v.2.2)]) false (fun _ => (iml imo))).enc r]
def m41 : MC := .seq (.reg [⟨some 4, .asg (.c (.hole)), none⟩] [0, 1])
  (.seq (.reg [⟨some 5, .mv (.t 0), none⟩,
    ⟨some 6, .mv (.t 1), none⟩,
    ⟨some 7, .call 70 [(.t 5), (.t 6), (.c (.int .i64 0))], none⟩,
    ⟨some 4, .asg (.t 7), none⟩] [4])
  (.ret))
theorem con_strings_SplitSeq {v0 : (List UInt8)} {v1 : (List UInt8)} {r : ((List UInt8) × (List UInt8) × Int)} (h : sh_strings_SplitSeq v0 v1 = some r) : Con Tryd.prog 41 [cS.enc v0, cS.enc v1] [] (rs_strings_SplitSeq r) := by
  delta sh_strings_SplitSeq at h
  refine top (out := none) (f := Tryd.f41) (m := m41) (rs := [.t 4]) (by kernel_rfl) rfl (by kernel_rfl) (by kernel_rfl) (by kernel_rfl) (by kernel_rfl) (by kernel_rfl) ?_
  exact
   ini [(0, .d (cS.enc v0)), (1, .d (cS.enc v1))] rfl <| wpC_seq <| reg_s <| x_asg (sc (cH (α := Bool)) false rfl) <| seqN [(0, .d (cS.enc v0)), (1, .d (cS.enc v1))] (by kernel_rfl) <|
    xn <| wpC_seq <| reg_s <| st rfl <| mvd rfl rfl <| st rfl <| mvd rfl rfl <| bnd h fun x3 e4 h => st rfl <| o_call (a1 (c := cS) tS rfl (a1 (c := cS) tS rfl (a1 (c := cI) tK rfl a0))) (con_strings_splitSeq e4) (.inr (hr1 rfl rfl (hr1 rfl rfl (hrc rfl hr0)))) <| x_asg (so rfl rfl) <| seqN [(4, .d ((cFn 90 (fun (v : ((List UInt8) × (List UInt8) × Int)) => [.ptr false (cS.enc v.1), .ptr true (cS.enc v.2.1), .ptr false (cI.enc v.2.2)]) false (fun _ => (iml imo))).enc x3))] (by kernel_rfl) <|
    xn <| wpC_ret <| re <| fin h (r1 (so rfl rfl) <| r0) rfl

def rs_stringslite_Cut (r : ((List UInt8) × (List UInt8) × Bool)) : List D := [cS.enc r.1, cS.enc r.2.1, cB.enc r.2.2]
def m71 : MC := .seq (.reg [⟨some 4, .asg (.c (.str [])), none⟩,
    ⟨some 5, .asg (.c (.str [])), none⟩,
    ⟨some 6, .asg (.c (.bool false)), none⟩] [0, 1])
  (.seq (.kp [0] (.seq (.reg [⟨some 8, .mv (.t 0), none⟩,
    ⟨some 9, .mv (.t 1), none⟩,
    ⟨some 10, .call 93 [(.t 8), (.t 9)], none⟩,
    ⟨some 7, .asg (.t 10), none⟩] [0, 1, 7])
  (.seq (.reg [⟨some 11, .mv (.t 7), none⟩,
    ⟨some 12, .bin .geq (.t 11) (.c (.int .i64 0)), none⟩] [0, 1, 7, 12])
  (.cond (.t 12) (.seq (.drw [⟨0, ⟨some 13, .mv (.t 0), none⟩, [4, 5, 6, 14, 15, 16, 17, 18, 19, 20, 21]⟩,
    ⟨1, ⟨some 14, .mv (.t 7), none⟩, [4, 5, 6, 13, 15, 16, 17, 18, 19, 20, 21]⟩,
    ⟨2, ⟨some 15, .sls (.t 13) none (some (.t 14)), none⟩, [4, 5, 6, 16, 17, 18, 19, 20, 21]⟩,
    ⟨3, ⟨some 16, .mv (.t 0), none⟩, [4, 5, 6, 13, 14, 15, 17, 18, 19, 20, 21]⟩,
    ⟨4, ⟨some 17, .mv (.t 7), none⟩, [4, 5, 6, 13, 14, 15, 16, 18, 19, 20, 21]⟩,
    ⟨5, ⟨some 18, .mv (.t 1), none⟩, [4, 5, 6, 13, 14, 15, 16, 17, 19, 20, 21]⟩,
    ⟨6, ⟨some 19, .len true (.t 18), none⟩, [4, 5, 6, 13, 14, 15, 16, 17, 20, 21]⟩,
    ⟨7, ⟨some 20, .bin .add (.t 17) (.t 19), none⟩, [4, 5, 6, 13, 14, 15, 16, 21]⟩,
    ⟨8, ⟨some 21, .sls (.t 16) (some (.t 20)) none, none⟩, [4, 5, 6, 13, 14, 15]⟩,
    ⟨9, ⟨some 4, .mv (.t 15), none⟩, [5, 6, 16, 17, 18, 19, 20, 21]⟩,
    ⟨10, ⟨some 5, .mv (.t 21), none⟩, [6]⟩,
    ⟨11, ⟨some 6, .mv (.c (.bool true)), none⟩, []⟩]
    [] [4, 5, 6])
  (.ret)) (.skip)))))
  (.seq (.reg [⟨some 22, .mv (.t 0), none⟩,
    ⟨some 4, .asg (.t 22), none⟩,
    ⟨some 5, .asg (.c (.str [])), none⟩,
    ⟨some 6, .asg (.c (.bool false)), none⟩] [4, 5, 6])
  (.ret)))
theorem con_stringslite_Cut {v0 : (List UInt8)} {v1 : (List UInt8)} {r : ((List UInt8) × (List UInt8) × Bool)} (h : sh_stringslite_Cut v0 v1 = some r) : Con Tryd.prog 71 [cS.enc v0, cS.enc v1] [] (rs_stringslite_Cut r) := by
  delta sh_stringslite_Cut at h
  refine top (out := none) (f := Tryd.f71) (m := m71) (rs := [.t 4, .t 5, .t 6]) (by kernel_rfl) rfl (by kernel_rfl) (by kernel_rfl) (by kernel_rfl) (by kernel_rfl) (by kernel_rfl) ?_
  exact
   ini [(0, .d (cS.enc v0)), (1, .d (cS.enc v1))] rfl <| wpC_seq <| reg_s <| x_asg (sc cS ([] : List UInt8) rfl) <| x_asg (sc cS ([] : List UInt8) rfl) <| x_asg (sc cB false rfl) <| seqN [(0, .d (cS.enc v0)), (1, .d (cS.enc v1))] (by kernel_rfl) <|
    xn <| wpC_seq <| wpC_kp <| wpC_seq <| reg_s <| st rfl <| mvd rfl rfl <| st rfl <| mvd rfl rfl <| bnd h fun x16 e17 h => st rfl <| o_call (a1 (c := cS) tS rfl (a1 (c := cS) tS rfl a0)) (con_stringslite_Index e17) (.inl (so1 sK so0)) <| x_asg (ss rfl rfl) <| seqN [(0, .d (cS.enc v0)), (1, .d (cS.enc v1)), (7, .d (cI.enc x16))] (by kernel_rfl) <|
    xn <| wpC_seq <| reg_s <| st rfl <| mvd rfl rfl <| st rfl <| b_geq (k := .i64) rfl rfl <| seqN [(0, .d (cS.enc v0)), (1, .d (cS.enc v1)), (7, .d (cI.enc x16)), (12, .d (cB.enc (decide ((0 : Int) ≤ x16))))] (by kernel_rfl) <|
    xn <| cnd rfl h (fun b18 h => wpC_seq <| drw_s <| pst rfl <| mvd rfl rfl ⟨rfl, pst rfl <| mvd rfl rfl ⟨rfl, ck_kp h fun i23 h => pst rfl <| o_sls rfl lo0 (hi1 (k := .i64) rfl i23.1) i23.2 ⟨rfl, pst rfl <| mvd rfl rfl ⟨rfl, pst rfl <| mvd rfl rfl ⟨rfl, pst rfl <| mvd rfl rfl ⟨rfl, lmO_kp h fun l24 h => pst rfl <| plnt rfl l24 ⟨rfl, ckI_kp h fun i25 h => pst rfl <| b_add (k := .i64) rfl rfl i25 ⟨rfl, ck_kp h fun i26 h => pst rfl <| o_sls rfl (lo1 (k := .i64) rfl i26.1) hi0 i26.2 ⟨rfl, pst rfl <| mvd rfl rfl ⟨rfl, pst rfl <| mvd rfl rfl ⟨rfl, pst rfl <| mvc cB true rfl ⟨rfl, preN <| seqN [(4, .d (cS.enc ((v0.take (x16).toNat).drop 0))), (5, .d (cS.enc ((v0.take v0.length).drop ((x16 + (v1.length : Int))).toNat))), (6, .d (cB.enc true))] (by kernel_rfl) <|
    xn <| wpC_ret <| rt <| rt <| re <| fin h (r1 (ss rfl rfl) <| r1 (ss rfl rfl) <| r1 (ss rfl rfl) <| r0) rfl⟩⟩⟩⟩⟩⟩⟩⟩⟩⟩⟩⟩)
    (fun b18 h => wpC_skip <| kpN [(0, .d (cS.enc v0))] (by kernel_rfl) <| xn <| wpC_seq <| reg_s <| st rfl <| mvd rfl rfl <| x_asg (ss rfl rfl) <| x_asg (sc cS ([] : List UInt8) rfl) <| x_asg (sc cB false rfl) <| seqN [(4, .d (cS.enc v0)), (5, .d (cS.enc ([] : List UInt8))), (6, .d (cB.enc false))] (by kernel_rfl) <|
    xn <| wpC_ret <| re <| fin h (r1 (ss rfl rfl) <| r1 (ss rfl rfl) <| r1 (ss rfl rfl) <| r0) rfl)

def rs_strings_Cut (r : ((List UInt8) × (List UInt8) × Bool)) : List D := [cS.enc r.1, cS.enc r.2.1, cB.enc r.2.2]
def m42 : MC := .seq (.reg [⟨some 4, .asg (.c (.str [])), none⟩,
    ⟨some 5, .asg (.c (.str [])), none⟩,
    ⟨some 6, .asg (.c (.bool false)), none⟩] [0, 1])
  (.seq (.reg [⟨some 7, .mv (.t 0), none⟩,
    ⟨some 8, .mv (.t 1), none⟩,
    ⟨some 9, .call 71 [(.t 7), (.t 8)], none⟩,
    ⟨some 10, .ext 9 0, none⟩,
    ⟨some 11, .ext 9 1, none⟩,
    ⟨some 12, .ext 9 2, none⟩,
    ⟨some 4, .asg (.t 10), none⟩,
    ⟨some 5, .asg (.t 11), none⟩,
    ⟨some 6, .asg (.t 12), none⟩] [4, 5, 6])
  (.ret))
theorem con_strings_Cut {v0 : (List UInt8)} {v1 : (List UInt8)} {r : ((List UInt8) × (List UInt8) × Bool)} (h : sh_strings_Cut v0 v1 = some r) : Con Tryd.prog 42 [cS.enc v0, cS.enc v1] [] (rs_strings_Cut r) := by
  delta sh_strings_Cut at h
  refine top (out := none) (f := Tryd.f42) (m := m42) (rs := [.t 4, .t 5, .t 6]) (by kernel_rfl) rfl (by kernel_rfl) (by kernel_rfl) (by kernel_rfl) (by kernel_rfl) (by kernel_rfl) ?_
  exact
   ini [(0, .d (cS.enc v0)), (1, .d (cS.enc v1))] rfl <| wpC_seq <| reg_s <| x_asg (sc cS ([] : List UInt8) rfl) <| x_asg (sc cS ([] : List UInt8) rfl) <| x_asg (sc cB false rfl) <| seqN [(0, .d (cS.enc v0)), (1, .d (cS.enc v1))] (by kernel_rfl) <|
    xn <| wpC_seq <| reg_s <| st rfl <| mvd rfl rfl <| st rfl <| mvd rfl rfl <| bnd h fun x3 e4 h => st rfl <| o_call (a1 (c := cS) tS rfl (a1 (c := cS) tS rfl a0)) (con_stringslite_Cut e4) (.inl (so1 sS (so1 sS (so1 sB so0)))) <| x_ext rfl rfl <| x_ext rfl rfl <| x_ext rfl rfl <| x_asg (ss rfl rfl) <| x_asg (ss rfl rfl) <| x_asg (ss rfl rfl) <| seqN [(4, .d (cS.enc x3.1)), (5, .d (cS.enc x3.2.1)), (6, .d (cB.enc x3.2.2))] (by kernel_rfl) <|
    xn <| wpC_ret <| re <| fin h (r1 (ss rfl rfl) <| r1 (ss rfl rfl) <| r1 (ss rfl rfl) <| r0) rfl

def rs_impl_nameIndex_1 (r : Bool) : List D := [cB.enc r]
def m73 : MC := .seq (.reg [⟨some 2, .box (.t 0), none⟩,
    ⟨some 3, .asg (.c (.bool false)), none⟩] [1, 2])
  (.seq (.reg [⟨some 4, .fa 2 0 0, none⟩,
    ⟨some 5, .ld 4 1 false, none⟩,
    ⟨some 6, .ld 1 1 false, none⟩,
    ⟨some 7, .bin .eql (.t 5) (.t 6), none⟩,
    ⟨some 3, .asg (.t 7), none⟩] [3])
  (.ret))
theorem con_impl_nameIndex_1 {v0 : XVariable} {v1 : (List UInt8)} {r : Bool} (h : sh_impl_nameIndex_1 v0 v1 = some r) : Con Tryd.prog 73 [(cXVariable cS cI).enc v0, (cP false cS).enc v1] [] (rs_impl_nameIndex_1 r) := by
  delta sh_impl_nameIndex_1 at h
  refine top (out := none) (f := Tryd.f73) (m := m73) (rs := [.t 3]) (by kernel_rfl) rfl (by kernel_rfl) (by kernel_rfl) (by kernel_rfl) (by kernel_rfl) (by kernel_rfl) ?_
  exact
   ini [(0, .d ((cXVariable cS cI).enc v0)), (1, .ima (cS.enc v1))] rfl <| wpC_seq <| reg_s <| x_box (ss rfl rfl) <| x_asg (sc cB false rfl) <| seqN [(1, .ima (cS.enc v1)), (2, .box ((cXVariable cS cI).enc v0))] (by kernel_rfl) <|
    xn <| wpC_seq <| reg_s <| st rfl <| fab rfl rfl rfl rfl <| st rfl <| lda rfl rfl rfl rfl rfl rfl <| st rfl <| ldi rfl rfl rfl rfl <| st rfl <| b_seq rfl rfl <| x_asg (ss rfl rfl) <| seqN [(3, .d (cB.enc (decide (v0.Name = v1))))] (by kernel_rfl) <|
    xn <| wpC_ret <| re <| fin h (r1 (ss rfl rfl) <| r0) rfl

def rs_slices_IndexFunc_impl_Variable_impl_Variable_impl_nameIndex_1 (r : Int) : List D := [cI.enc r]
def m72_73 : MC := .seq (.reg [⟨some 4, .asg (.c (.int .i64 0)), none⟩] [0, 1])
  (.seq (.kp [] (.seq (.reg [⟨some 6, .mv (.t 0), none⟩,
    ⟨some 7, .len false (.t 6), none⟩,
    ⟨some 8, .mv (.c (.int .i64 0)), none⟩] [0, 1, 7, 8])
  (.blk 0 (.loop (.seq (.reg [⟨some 9, .bin .lss (.t 8) (.t 7), none⟩] [0, 1, 7, 8, 9])
  (.seq (.kp [0, 1, 7, 8] (.cond (.t 9) (.skip) (.exit 0)))
  (.seq (.kp [0, 1, 7, 8] (.blk 1 (.seq (.reg [⟨some 10, .mv (.t 8), none⟩,
    ⟨some 5, .asg (.t 10), none⟩] [0, 1, 5, 7, 8])
  (.seq (.reg [⟨some 11, .mv (.t 1), none⟩,
    ⟨some 12, .mv (.t 0), none⟩,
    ⟨some 13, .mv (.t 5), none⟩,
    ⟨some 14, .ia 12 (.t 13) 2, none⟩,
    ⟨some 15, .ld 14 2 true, none⟩,
    ⟨some 16, .callf 11 [(false, (.t 15))], none⟩] [0, 1, 5, 7, 8, 16])
  (.cond (.t 16) (.seq (.reg [⟨some 17, .mv (.t 5), none⟩,
    ⟨some 4, .asg (.t 17), none⟩] [4])
  (.ret)) (.skip))))))
  (.reg [⟨some 18, .bin .add (.t 8) (.c (.int .i64 1)), none⟩,
    ⟨some 8, .mv (.t 18), none⟩] [0, 1, 7, 8]))))))))
  (.seq (.reg [⟨some 4, .asg (.c (.int .i64 (-1))), none⟩] [4])
  (.ret)))
theorem con_slices_IndexFunc_impl_Variable_impl_Variable_impl_nameIndex_1 {v0 : (List XVariable)} {v1 : (List UInt8)} {r : Int} (h : sh_slices_IndexFunc_impl_Variable_impl_Variable_impl_nameIndex_1 v0 v1 = some r) : Con Tryd.prog 72 [(cLs (cXVariable cS cI) rfl).enc v0, (cFn 73 (fun (v : (List UInt8)) => [.ptr false (cS.enc v)]) true (fun _ => (im1 rfl im0))).enc v1] [] (rs_slices_IndexFunc_impl_Variable_impl_Variable_impl_nameIndex_1 r) := by
  delta sh_slices_IndexFunc_impl_Variable_impl_Variable_impl_nameIndex_1 at h
  refine top (out := none) (f := Tryd.f72) (m := m72_73) (rs := [.t 4]) (by kernel_rfl) rfl (by kernel_rfl) (by kernel_rfl) (by kernel_rfl) (by kernel_rfl) (by kernel_rfl) ?_
  exact
   ini [(0, .d ((cLs (cXVariable cS cI) rfl).enc v0)), (1, .d ((cFn 73 (fun (v : (List UInt8)) => [.ptr false (cS.enc v)]) true (fun _ => (im1 rfl im0))).enc v1))] rfl <| wpC_seq <| reg_s <| x_asg (sc cI (0 : Int) rfl) <| seqN [(0, .d ((cLs (cXVariable cS cI) rfl).enc v0)), (1, .d ((cFn 73 (fun (v : (List UInt8)) => [.ptr false (cS.enc v)]) true (fun _ => (im1 rfl im0))).enc v1))] (by kernel_rfl) <|
    xn <| wpC_seq <| wpC_kp <| wpC_seq <| reg_s <| st rfl <| mvd rfl rfl <| stw rfl <| lens rfl fun l32 => st rfl <| mvc cI (0 : Int) rfl <| seqN [(0, .d ((cLs (cXVariable cS cI) rfl).enc v0)), (1, .d ((cFn 73 (fun (v : (List UInt8)) => [.ptr false (cS.enc v)]) true (fun _ => (im1 rfl im0))).enc v1)), (7, .d (cI.enc (v0.length : Int))), (8, .d (cI.enc (0 : Int)))] (by kernel_rfl) <|
    xn <| wpC_blk <| lpR (fun (k34 : Nat) (s33 : Unit) => [(0, .d ((cLs (cXVariable cS cI) rfl).enc v0)), (1, .d ((cFn 73 (fun (v : (List UInt8)) => [.ptr false (cS.enc v)]) true (fun _ => (im1 rfl im0))).enc v1)), (7, .d (cI.enc (v0.length : Int))), (8, .d (cI.enc (k34 : Int)))]) () rfl h
    (fun G50 s33 h => wpC_seq <| reg_s <| st rfl <| b_lss (k := .i64) rfl rfl <| seqN [(0, .d ((cLs (cXVariable cS cI) rfl).enc v0)), (1, .d ((cFn 73 (fun (v : (List UInt8)) => [.ptr false (cS.enc v)]) true (fun _ => (im1 rfl im0))).enc v1)), (7, .d (cI.enc (v0.length : Int))), (8, .d (cI.enc (v0.length : Int))), (9, .d (cB.enc (decide ((v0.length : Int) < (v0.length : Int)))))] (by kernel_rfl) <|
    xn <| wpC_seq <| wpC_kp <| cnd0 rfl (dlf _) <| wpC_exit <| xt <| xt <| xt <| xb <| kpN [] (by kernel_rfl) <| xn <| wpC_seq <| reg_s <| x_asg (sc cI (-1 : Int) rfl) <| seqN [(4, .d (cI.enc (-1 : Int)))] (by kernel_rfl) <|
    xn <| wpC_ret <| re <| fin h (r1 (ss rfl rfl) <| r0) rfl)
    (fun G50 nx48 k34 s33 x35 hk36 hx37 hn49 h => wpC_seq <| reg_s <| st rfl <| b_lss (k := .i64) rfl rfl <| seqN [(0, .d ((cLs (cXVariable cS cI) rfl).enc v0)), (1, .d ((cFn 73 (fun (v : (List UInt8)) => [.ptr false (cS.enc v)]) true (fun _ => (im1 rfl im0))).enc v1)), (7, .d (cI.enc (v0.length : Int))), (8, .d (cI.enc (k34 : Int))), (9, .d (cB.enc (decide ((k34 : Int) < (v0.length : Int)))))] (by kernel_rfl) <|
    xn <| wpC_seq <| wpC_kp <| cnd1 rfl (dlt hk36) <| wpC_skip <| kpN [(0, .d ((cLs (cXVariable cS cI) rfl).enc v0)), (1, .d ((cFn 73 (fun (v : (List UInt8)) => [.ptr false (cS.enc v)]) true (fun _ => (im1 rfl im0))).enc v1)), (7, .d (cI.enc (v0.length : Int))), (8, .d (cI.enc (k34 : Int)))] (by kernel_rfl) <| xn <| wpC_seq <| wpC_kp <| wpC_blk <| wpC_seq <| reg_s <| st rfl <| mvd rfl rfl <| x_asg (ss rfl rfl) <| seqN [(0, .d ((cLs (cXVariable cS cI) rfl).enc v0)), (1, .d ((cFn 73 (fun (v : (List UInt8)) => [.ptr false (cS.enc v)]) true (fun _ => (im1 rfl im0))).enc v1)), (5, .d (cI.enc (k34 : Int))), (7, .d (cI.enc (v0.length : Int))), (8, .d (cI.enc (k34 : Int)))] (by kernel_rfl) <|
    xn <| wpC_seq <| reg_s <| st rfl <| mvd rfl rfl <| st rfl <| mvd rfl rfl <| st rfl <| mvd rfl rfl <| st rfl <| ias rfl rfl (Int.natCast_nonneg _) hx37 rfl <| st rfl <| ldi rfl rfl rfl rfl <| bnd h fun x58 e59 h => x_cf (cFn 73 (fun (v : (List UInt8)) => [.ptr false (cS.enc v)]) true (fun _ => (im1 rfl im0))) v1 (fad rfl rfl) k0 (m2 (tXVariable tS tK) rfl m0) rfl (con_impl_nameIndex_1 e59) (cls rfl cl0) (so1 sB so0) <| seqN [(0, .d ((cLs (cXVariable cS cI) rfl).enc v0)), (1, .d ((cFn 73 (fun (v : (List UInt8)) => [.ptr false (cS.enc v)]) true (fun _ => (im1 rfl im0))).enc v1)), (5, .d (cI.enc (k34 : Int))), (7, .d (cI.enc (v0.length : Int))), (8, .d (cI.enc (k34 : Int))), (16, .d (cB.enc x58))] (by kernel_rfl) <|
    xn <| cnd rfl h (fun b60 h => wpC_seq <| reg_s <| st rfl <| mvd rfl rfl <| x_asg (ss rfl rfl) <| seqN [(4, .d (cI.enc (k34 : Int)))] (by kernel_rfl) <|
    xn <| wpC_ret <| rb <| rt <| rt <| rt <| rb <| rt <| rt <| re <| fin h (r1 (ss rfl rfl) <| r0) rfl)
    (fun b60 h => wpC_skip <| xbb <| kpN [(0, .d ((cLs (cXVariable cS cI) rfl).enc v0)), (1, .d ((cFn 73 (fun (v : (List UInt8)) => [.ptr false (cS.enc v)]) true (fun _ => (im1 rfl im0))).enc v1)), (7, .d (cI.enc (v0.length : Int))), (8, .d (cI.enc (k34 : Int)))] (by kernel_rfl) <| xn <| reg_s <| st rfl <| b_inc rfl rfl l32 hk36 <| st rfl <| mvd rfl rfl <| seqN [(0, .d ((cLs (cXVariable cS cI) rfl).enc v0)), (1, .d ((cFn 73 (fun (v : (List UInt8)) => [.ptr false (cS.enc v)]) true (fun _ => (im1 rfl im0))).enc v1)), (7, .d (cI.enc (v0.length : Int))), (8, .d (cI.enc ((k34 + 1 : Nat) : Int)))] (by kernel_rfl) <|
    xn <| hn49 () h))

def rs_impl_nameIndex (r : Int) : List D := [cI.enc r]
def m43 : MC := .seq (.reg [⟨some 3, .box (.t 1), none⟩,
    ⟨some 4, .asg (.c (.int .i64 0)), none⟩] [0, 3])
  (.fzb 3 (.seq (.reg [⟨some 5, .mv (.t 0), none⟩,
    ⟨some 6, .mkf 73 [(false, 3)], none⟩,
    ⟨some 7, .call 72 [(.t 5), (.t 6)], none⟩,
    ⟨some 4, .asg (.t 7), none⟩] [4])
  (.ret)))
theorem con_impl_nameIndex {v0 : (List XVariable)} {v1 : (List UInt8)} {r : Int} (h : sh_impl_nameIndex v0 v1 = some r) : Con Tryd.prog 43 [(cLs (cXVariable cS cI) rfl).enc v0, cS.enc v1] [] (rs_impl_nameIndex r) := by
  delta sh_impl_nameIndex at h
  refine top (out := none) (f := Tryd.f43) (m := m43) (rs := [.t 4]) (by kernel_rfl) rfl (by kernel_rfl) (by kernel_rfl) (by kernel_rfl) (by kernel_rfl) (by kernel_rfl) ?_
  exact
   ini [(0, .d ((cLs (cXVariable cS cI) rfl).enc v0)), (1, .d (cS.enc v1))] rfl <| wpC_seq <| reg_s <| x_box (ss rfl rfl) <| x_asg (sc cI (0 : Int) rfl) <| seqN [(0, .d ((cLs (cXVariable cS cI) rfl).enc v0)), (3, .box (cS.enc v1))] (by kernel_rfl) <|
    xn <| fzb_s tS rfl <| wpC_seq <| reg_s <| st rfl <| mvd rfl rfl <| x_mkf (cFn 73 (fun (v : (List UInt8)) => [.ptr false (cS.enc v)]) true (fun _ => (im1 rfl im0))) v1 (cpi rfl cp0) rfl rfl <| bnd h fun x3 e4 h => st rfl <| o_call (a1 (c := (cLs (cXVariable cS cI) rfl)) (tLs (tXVariable tS tK)) rfl (a1 (c := (cFn 73 (fun (v : (List UInt8)) => [.ptr false (cS.enc v)]) true (fun _ => (im1 rfl im0)))) (tFn (fun _ => (ti1 tS ti0))) rfl a0)) (con_slices_IndexFunc_impl_Variable_impl_Variable_impl_nameIndex_1 e4) (.inl (so1 sK so0)) <| x_asg (ss rfl rfl) <| seqN [(4, .d (cI.enc x3))] (by kernel_rfl) <|
    xn <| wpC_ret <| re <| fin h (r1 (ss rfl rfl) <| r0) rfl

def rs_impl_parseSet (r : Int) : List D := [cI.enc r]
def m44 : MC := .seq (.reg [⟨some 3, .box (.t 1), none⟩,
    ⟨some 4, .alloc (.int .i64 0), none⟩] [0, 3, 4])
  (.seq (.reg [⟨some 5, .alloc (.int .i64 0), none⟩,
    ⟨some 6, .alloc (.int .i64 0), none⟩,
    ⟨none, .st 5 (.c (.int .i64 0)) 1, none⟩,
    ⟨none, .st 6 (.c (.int .i64 (-1))) 1, none⟩] [0, 3, 4, 5, 6])
  (.seq (.kp [4, 5] (.seq (.reg [⟨some 9, .mv (.t 0), none⟩,
    ⟨some 10, .call 41 [(.t 9), (.c (.str [44]))], none⟩] [3, 4, 5, 6, 10])
  (.blk 0 (.rfs 10 11 7 [3, 4, 5, 6] (.blk 1 (.seq (.kp [3, 4, 5, 6, 7] (.seq (.reg [⟨some 12, .mv (.t 7), none⟩,
    ⟨some 13, .len true (.t 12), none⟩,
    ⟨some 14, .bin .neq (.t 13) (.c (.int .i64 1)), none⟩] [3, 4, 5, 6, 7, 14])
  (.cond (.t 14) (.seq (.reg [⟨none, .st 4 (.c (.int .i64 0)) 1, none⟩] [4])
  (.ret)) (.skip))))
  (.seq (.reg [⟨some 15, .mv (.t 7), none⟩,
    ⟨some 16, .ix (.t 15) (.c (.int .i64 0)), none⟩,
    ⟨some 17, .cvi .i64 (.t 16), none⟩,
    ⟨some 18, .bin .sub (.t 17) (.c (.int .i64 48)), none⟩,
    ⟨some 8, .asg (.t 18), none⟩] [3, 4, 5, 6, 8])
  (.seq (.kp [3, 4, 5, 6, 8] (.seq (.reg [⟨some 19, .mv (.t 8), none⟩,
    ⟨some 20, .ld 6 1 false, none⟩,
    ⟨some 21, .bin .leq (.t 19) (.t 20), none⟩,
    ⟨some 22, .mv (.t 21), none⟩,
    ⟨some 23, .mv (.t 8), some (22, false)⟩,
    ⟨some 24, .ld 3 1 false, some (22, false)⟩,
    ⟨some 25, .bin .geq (.t 23) (.t 24), some (22, false)⟩,
    ⟨some 26, .pick (.t 22) (.c (.bool true)) (.t 25), none⟩] [3, 4, 5, 6, 8, 26])
  (.cond (.t 26) (.seq (.reg [⟨none, .st 4 (.c (.int .i64 0)) 1, none⟩] [4])
  (.ret)) (.skip))))
  (.seq (.drw [⟨0, ⟨some 27, .ld 5 1 false, none⟩, [28, 29, 30]⟩,
    ⟨1, ⟨some 28, .mv (.t 8), none⟩, [27, 29, 30]⟩,
    ⟨2, ⟨some 29, .bin .shl (.c (.int .i64 1)) (.t 28), none⟩, [27, 30]⟩,
    ⟨3, ⟨some 30, .bin .or (.t 27) (.t 29), none⟩, []⟩]
    [(4, ⟨none, .st 5 (.t 30) 1, none⟩)] [3, 4, 5, 6, 8])
  (.reg [⟨some 31, .mv (.t 8), none⟩,
    ⟨none, .st 6 (.t 31) 1, none⟩] [3, 4, 5, 6]))))))))))
  (.seq (.reg [⟨some 32, .ld 5 1 false, none⟩,
    ⟨none, .st 4 (.t 32) 1, none⟩] [4])
  (.ret))))
theorem con_impl_parseSet {v0 : (List UInt8)} {v1 : Int} {r : Int} (h : sh_impl_parseSet v0 v1 = some r) : Con Tryd.prog 44 [cS.enc v0, cI.enc v1] [] (rs_impl_parseSet r) := by
  delta sh_impl_parseSet at h
  refine top (out := none) (f := Tryd.f44) (m := m44) (rs := [.c 4 1 false]) (by kernel_rfl) rfl (by kernel_rfl) (by kernel_rfl) (by kernel_rfl) (by kernel_rfl) (by kernel_rfl) ?_
  exact
   ini [(0, .d (cS.enc v0)), (1, .d (cI.enc v1))] rfl <| wpC_seq <| reg_s <| x_box (ss rfl rfl) <| x_all cI (0 : Int) rfl <| seqN [(0, .d (cS.enc v0)), (3, .box (cI.enc v1)), (4, .box (cI.enc (0 : Int)))] (by kernel_rfl) <|
    xn <| wpC_seq <| reg_s <| x_all cI (0 : Int) rfl <| x_all cI (0 : Int) rfl <| x_stb (sc cI (0 : Int) rfl) rfl (Cd.h_sz _ _) rfl <| x_stb (sc cI (-1 : Int) rfl) rfl (Cd.h_sz _ _) rfl <| seqN [(0, .d (cS.enc v0)), (3, .box (cI.enc v1)), (4, .box (cI.enc (0 : Int))), (5, .box (cI.enc (0 : Int))), (6, .box (cI.enc (-1 : Int)))] (by kernel_rfl) <|
    xn <| wpC_seq <| wpC_kp <| wpC_seq <| reg_s <| st rfl <| mvd rfl rfl <| bnd h fun x116 e117 h => st rfl <| o_call (a1 (c := cS) tS rfl (a1 (c := cS) tS rfl a0)) (con_strings_SplitSeq e117) (.inr (hr1 rfl rfl (hrc rfl hr0))) <| seqN [(3, .box (cI.enc v1)), (4, .box (cI.enc (0 : Int))), (5, .box (cI.enc (0 : Int))), (6, .box (cI.enc (-1 : Int))), (10, .d ((cFn 90 (fun (v : ((List UInt8) × (List UInt8) × Int)) => [.ptr false (cS.enc v.1), .ptr true (cS.enc v.2.1), .ptr false (cI.enc v.2.2)]) false (fun _ => (iml imo))).enc x116))] (by kernel_rfl) <|
    xn <| wpC_blk <| AS.ck_k h fun hk121 h => rf_s (fun (s118 : (Int × Int)) => [(3, .box (cI.enc v1)), (4, .box (cI.enc (0 : Int))), (5, .box (cI.enc s118.1)), (6, .box (cI.enc s118.2))]) ((0 : Int), (-1 : Int)) rfl (it_split hk121) (by kernel_rfl) h
    (fun s118 h => xbb <| kpN [(4, .box (cI.enc (0 : Int))), (5, .box (cI.enc s118.1))] (by kernel_rfl) <| xn <| wpC_seq <| reg_s <| st rfl <| ldb rfl rfl rfl rfl <| x_stb (ss rfl rfl) rfl (Cd.h_sz _ _) rfl <| seqN [(4, .box (cI.enc s118.1))] (by kernel_rfl) <|
    xn <| wpC_ret <| re <| fin h (r2 rfl rfl rfl <| r0) rfl)
    (fun G192 nx190 k119 s118 x120 hn191 h => wpC_blk <| wpC_seq <| wpC_kp <| wpC_seq <| reg_s <| st rfl <| mvd rfl rfl <| stw rfl <| lent rfl fun l197 => st rfl <| b_neq (k := .i64) rfl rfl <| seqN [(3, .box (cI.enc v1)), (4, .box (cI.enc (0 : Int))), (5, .box (cI.enc s118.1)), (6, .box (cI.enc s118.2)), (7, .d (cS.enc x120)), (14, .d (cB.enc (decide ((x120.length : Int) ≠ (1 : Int)))))] (by kernel_rfl) <|
    xn <| cnd rfl h (fun b198 h => wpC_seq <| reg_s <| x_stb (sc cI (0 : Int) rfl) rfl (Cd.h_sz _ _) rfl <| seqN [(4, .box (cI.enc (0 : Int)))] (by kernel_rfl) <|
    xn <| wpC_ret <| rt <| rt <| rb <| rfR [(3, .un), (4, .box (cI.enc (0 : Int))), (5, .un), (6, .un)] (by kernel_rfl) <| rb <| rt <| rt <| re <| fin h (r2 rfl rfl rfl <| r0) rfl)
    (fun b198 h => wpC_skip <| kpN [(3, .box (cI.enc v1)), (4, .box (cI.enc (0 : Int))), (5, .box (cI.enc s118.1)), (6, .box (cI.enc s118.2)), (7, .d (cS.enc x120))] (by kernel_rfl) <| xn <| wpC_seq <| reg_s <| st rfl <| mvd rfl rfl <| getO_k h fun x204 i205 g206 h => st rfl <| o_ix (k := .i64) rfl rfl i205 g206 <| ckI_k h fun i207 h => st rfl <| o_cvi (k := .u8) (k' := .i64) rfl i207 <| ckI_k h fun i208 h => st rfl <| b_sub (k := .i64) rfl rfl i208 <| x_asg (ss rfl rfl) <| seqN [(3, .box (cI.enc v1)), (4, .box (cI.enc (0 : Int))), (5, .box (cI.enc s118.1)), (6, .box (cI.enc s118.2)), (8, .d (cI.enc ((x204.toNat : Int) - (48 : Int))))] (by kernel_rfl) <|
    xn <| wpC_seq <| wpC_kp <| wpC_seq <| reg_s <| st rfl <| mvd rfl rfl <| st rfl <| ldb rfl rfl rfl rfl <| st rfl <| b_leq (k := .i64) rfl rfl <| st rfl <| mvd rfl rfl <| ite_k h (fun b213 h => gf rfl b213 <| gf rfl b213 <| gf rfl b213 <| st rfl <| pick1 rfl b213 (cd := cB) (v := true) rfl rfl <| seqN [(3, .box (cI.enc v1)), (4, .box (cI.enc (0 : Int))), (5, .box (cI.enc s118.1)), (6, .box (cI.enc s118.2)), (8, .d (cI.enc ((x204.toNat : Int) - (48 : Int)))), (26, .d (cB.enc true))] (by kernel_rfl) <|
    xn <| cnd1 rfl rfl <| wpC_seq <| reg_s <| x_stb (sc cI (0 : Int) rfl) rfl (Cd.h_sz _ _) rfl <| seqN [(4, .box (cI.enc (0 : Int)))] (by kernel_rfl) <|
    xn <| wpC_ret <| rt <| rt <| rb <| rfR [(3, .un), (4, .box (cI.enc (0 : Int))), (5, .un), (6, .un)] (by kernel_rfl) <| rb <| rt <| rt <| re <| fin h (r2 rfl rfl rfl <| r0) rfl)
    (fun b213 h => gt' rfl b213 <| st rfl <| mvd rfl rfl <| gt' rfl b213 <| st rfl <| ldb rfl rfl rfl rfl <| gt' rfl b213 <| st rfl <| b_geq (k := .i64) rfl rfl <| st rfl <| pick0 rfl b213 (cd := cB) (v := (decide (v1 ≤ ((x204.toNat : Int) - (48 : Int))))) rfl rfl <| seqN [(3, .box (cI.enc v1)), (4, .box (cI.enc (0 : Int))), (5, .box (cI.enc s118.1)), (6, .box (cI.enc s118.2)), (8, .d (cI.enc ((x204.toNat : Int) - (48 : Int)))), (26, .d (cB.enc (decide (v1 ≤ ((x204.toNat : Int) - (48 : Int))))))] (by kernel_rfl) <|
    xn <| cnd rfl h (fun b214 h => wpC_seq <| reg_s <| x_stb (sc cI (0 : Int) rfl) rfl (Cd.h_sz _ _) rfl <| seqN [(4, .box (cI.enc (0 : Int)))] (by kernel_rfl) <|
    xn <| wpC_ret <| rt <| rt <| rb <| rfR [(3, .un), (4, .box (cI.enc (0 : Int))), (5, .un), (6, .un)] (by kernel_rfl) <| rb <| rt <| rt <| re <| fin h (r2 rfl rfl rfl <| r0) rfl)
    (fun b214 h => wpC_skip <| kpN [(3, .box (cI.enc v1)), (4, .box (cI.enc (0 : Int))), (5, .box (cI.enc s118.1)), (6, .box (cI.enc s118.2)), (8, .d (cI.enc ((x204.toNat : Int) - (48 : Int))))] (by kernel_rfl) <| xn <| wpC_seq <| drw_s <| pst rfl <| ldb rfl rfl rfl rfl ⟨rfl, pst rfl <| mvd rfl rfl ⟨rfl, ck_kp h fun i221 h => ckI_kp h fun i222 h => pst rfl <| b_shl (k := .i64) (k' := .i64) rfl rfl i221 rfl i222 ⟨rfl, ck_kp h fun i223 h => ckK_kp h fun i224 h => ck_kp h fun i225 h => ckK_kp h fun i226 h => pst rfl <| b_or (k := .i64) rfl rfl ⟨i223, i224⟩ ⟨i225, i226⟩ ⟨rfl, preN <| x_stb (ss rfl rfl) rfl (Cd.h_sz _ _) rfl <| seqN [(3, .box (cI.enc v1)), (4, .box (cI.enc (0 : Int))), (5, .box (cI.enc ((s118.1.toNat ||| ((1 : Int) * 2 ^ (((x204.toNat : Int) - (48 : Int))).toNat).toNat : Nat) : Int))), (6, .box (cI.enc s118.2)), (8, .d (cI.enc ((x204.toNat : Int) - (48 : Int))))] (by kernel_rfl) <|
    xn <| reg_s <| st rfl <| mvd rfl rfl <| x_stb (ss rfl rfl) rfl (Cd.h_sz _ _) rfl <| seqN [(3, .box (cI.enc v1)), (4, .box (cI.enc (0 : Int))), (5, .box (cI.enc ((s118.1.toNat ||| ((1 : Int) * 2 ^ (((x204.toNat : Int) - (48 : Int))).toNat).toNat : Nat) : Int))), (6, .box (cI.enc ((x204.toNat : Int) - (48 : Int))))] (by kernel_rfl) <|
    xbb <| rfN [(3, .box (cI.enc v1)), (4, .box (cI.enc (0 : Int))), (5, .box (cI.enc ((s118.1.toNat ||| ((1 : Int) * 2 ^ (((x204.toNat : Int) - (48 : Int))).toNat).toNat : Nat) : Int))), (6, .box (cI.enc ((x204.toNat : Int) - (48 : Int))))] (by kernel_rfl) <| hn191 (((s118.1.toNat ||| ((1 : Int) * 2 ^ (((x204.toNat : Int) - (48 : Int))).toNat).toNat : Nat) : Int), ((x204.toNat : Int) - (48 : Int))) h⟩⟩⟩⟩))))

def rs_impl_ParseEdit (r : (XEdit × Bool)) : List D := [(cXEdit (cLo cI)).enc r.1, cB.enc r.2]
def m19 : MC := .seq (.reg [⟨some 2, .box (.t 0), none⟩,
    ⟨some 4, .alloc (.agg [.slice true []]), none⟩,
    ⟨some 5, .alloc (.bool false), none⟩] [1, 2, 4, 5])
  (.seq (.kp [1, 2, 4, 5] (.seq (.reg [⟨some 16, .ld 2 1 false, none⟩,
    ⟨some 17, .call 39 [(.t 16)], none⟩,
    ⟨some 18, .nt (.t 17), none⟩] [1, 2, 4, 5, 18])
  (.cond (.t 18) (.seq (.reg [⟨some 19, .bld [.slice true []] [], none⟩,
    ⟨none, .st 4 (.t 19) 1, none⟩,
    ⟨none, .st 5 (.c (.bool false)) 1, none⟩] [4, 5])
  (.ret)) (.skip))))
  (.seq (.reg [⟨some 20, .ld 2 1 false, none⟩,
    ⟨some 21, .len false (.t 20), none⟩,
    ⟨some 22, .mk (.int .i64 0) (.t 21), none⟩,
    ⟨some 6, .alloc (.slice true []), none⟩,
    ⟨none, .st 6 (.t 22) 1, none⟩] [1, 2, 4, 5, 6])
  (.seq (.kp [1, 2, 4, 5, 6] (.seq (.reg [⟨some 23, .ld 2 1 false, none⟩,
    ⟨some 24, .len false (.t 23), none⟩,
    ⟨some 25, .mv (.c (.int .i64 0)), none⟩] [1, 2, 4, 5, 6, 23, 24, 25])
  (.blk 0 (.loop (.seq (.reg [⟨some 26, .bin .lss (.t 25) (.t 24), none⟩] [1, 2, 4, 5, 6, 23, 24, 25, 26])
  (.seq (.kp [1, 2, 4, 5, 6, 23, 24, 25] (.cond (.t 26) (.skip) (.exit 0)))
  (.seq (.kp [1, 2, 4, 5, 6, 23, 24, 25] (.blk 1 (.seq (.reg [⟨some 27, .mv (.t 25), none⟩,
    ⟨some 28, .ia 23 (.t 25) 2, none⟩,
    ⟨some 29, .ld 28 2 true, none⟩,
    ⟨some 8, .alloc (.agg [.str [], .int .i64 0]), none⟩,
    ⟨some 7, .asg (.t 27), none⟩,
    ⟨none, .st 8 (.t 29) 2, none⟩] [1, 2, 4, 5, 6, 7, 8, 23, 24, 25])
  (.drw [⟨0, ⟨some 30, .ld 6 1 false, none⟩, [31, 32, 33, 34]⟩,
    ⟨1, ⟨some 31, .mv (.t 7), none⟩, [30, 32, 33, 34]⟩,
    ⟨2, ⟨some 32, .ld 8 2 true, none⟩, [30, 31, 33, 34]⟩,
    ⟨3, ⟨some 33, .call 40 [(.t 32)], none⟩, [30, 31, 34]⟩,
    ⟨4, ⟨some 34, .ia 30 (.t 31) 1, none⟩, []⟩]
    [(5, ⟨none, .st 34 (.t 33) 1, none⟩)] [1, 2, 4, 5, 6, 23, 24, 25]))))
  (.reg [⟨some 35, .bin .add (.t 25) (.c (.int .i64 1)), none⟩,
    ⟨some 25, .mv (.t 35), none⟩] [1, 2, 4, 5, 6, 23, 24, 25]))))))))
  (.seq (.kp [1, 2, 4, 5, 6] (.seq (.reg [⟨some 36, .mv (.t 1), none⟩,
    ⟨some 37, .bin .eql (.t 36) (.c (.str [97, 108, 108])), none⟩] [1, 2, 4, 5, 6, 37])
  (.cond (.t 37) (.seq (.reg [⟨some 38, .ld 6 1 false, none⟩,
    ⟨some 39, .bld [.slice true []] [(0, (.t 38))], none⟩,
    ⟨none, .st 4 (.t 39) 1, none⟩,
    ⟨none, .st 5 (.c (.bool true)) 1, none⟩] [4, 5])
  (.ret)) (.skip))))
  (.seq (.reg [⟨some 9, .alloc (.int .i64 0), none⟩,
    ⟨none, .st 9 (.c (.int .i64 (-1))) 1, none⟩] [1, 2, 4, 5, 6, 9])
  (.seq (.kp [4, 5, 6] (.seq (.reg [⟨some 40, .mv (.t 1), none⟩,
    ⟨some 41, .call 41 [(.t 40), (.c (.str [32]))], none⟩] [2, 4, 5, 6, 9, 41])
  (.blk 2 (.rfs 41 42 10 [2, 4, 5, 6, 9] (.blk 3 (.seq (.reg [⟨some 44, .mv (.t 10), none⟩,
    ⟨some 45, .call 42 [(.t 44), (.c (.str [61]))], none⟩,
    ⟨some 43, .mvt 45, none⟩,
    ⟨some 46, .ext 43 0, none⟩,
    ⟨some 47, .ext 43 1, none⟩,
    ⟨some 48, .ext 43 2, none⟩,
    ⟨some 11, .asg (.t 46), none⟩,
    ⟨some 12, .asg (.t 47), none⟩,
    ⟨some 13, .asg (.t 48), none⟩] [2, 4, 5, 6, 9, 11, 12, 13])
  (.seq (.reg [⟨some 49, .ld 2 1 false, none⟩,
    ⟨some 50, .mv (.t 11), none⟩,
    ⟨some 51, .call 43 [(.t 49), (.t 50)], none⟩,
    ⟨some 14, .asg (.t 51), none⟩] [2, 4, 5, 6, 9, 12, 13, 14])
  (.seq (.kp [2, 4, 5, 6, 9, 12, 14] (.seq (.reg [⟨some 52, .mv (.t 13), none⟩,
    ⟨some 53, .nt (.t 52), none⟩,
    ⟨some 54, .mv (.t 53), none⟩,
    ⟨some 55, .mv (.t 14), some (54, false)⟩,
    ⟨some 56, .ld 9 1 false, some (54, false)⟩,
    ⟨some 57, .bin .leq (.t 55) (.t 56), some (54, false)⟩,
    ⟨some 58, .pick (.t 54) (.c (.bool true)) (.t 57), none⟩] [2, 4, 5, 6, 9, 12, 14, 58])
  (.cond (.t 58) (.seq (.reg [⟨some 59, .bld [.slice true []] [], none⟩,
    ⟨none, .st 4 (.t 59) 1, none⟩,
    ⟨none, .st 5 (.c (.bool false)) 1, none⟩] [4, 5])
  (.ret)) (.skip))))
  (.seq (.reg [⟨some 60, .mv (.t 12), none⟩,
    ⟨some 61, .ld 2 1 false, none⟩,
    ⟨some 62, .mv (.t 14), none⟩,
    ⟨some 63, .ia 61 (.t 62) 2, none⟩,
    ⟨some 64, .fa 63 1 1, none⟩,
    ⟨some 65, .ld 64 1 false, none⟩,
    ⟨some 66, .call 44 [(.t 60), (.t 65)], none⟩,
    ⟨some 15, .asg (.t 66), none⟩] [2, 4, 5, 6, 9, 14, 15])
  (.seq (.kp [2, 4, 5, 6, 9, 14, 15] (.seq (.reg [⟨some 67, .mv (.t 15), none⟩,
    ⟨some 68, .bin .eql (.t 67) (.c (.int .i64 0)), none⟩,
    ⟨some 69, .mv (.t 68), none⟩,
    ⟨some 70, .mv (.t 15), some (69, false)⟩,
    ⟨some 71, .ld 2 1 false, some (69, false)⟩,
    ⟨some 72, .mv (.t 14), some (69, false)⟩,
    ⟨some 73, .ia 71 (.t 72) 2, some (69, false)⟩,
    ⟨some 74, .ld 73 2 true, some (69, false)⟩,
    ⟨some 75, .call 40 [(.t 74)], some (69, false)⟩,
    ⟨some 76, .bin .eql (.t 70) (.t 75), some (69, false)⟩,
    ⟨some 77, .pick (.t 69) (.c (.bool true)) (.t 76), none⟩] [2, 4, 5, 6, 9, 14, 15, 77])
  (.cond (.t 77) (.seq (.reg [⟨some 78, .bld [.slice true []] [], none⟩,
    ⟨none, .st 4 (.t 78) 1, none⟩,
    ⟨none, .st 5 (.c (.bool false)) 1, none⟩] [4, 5])
  (.ret)) (.skip))))
  (.reg [⟨some 79, .ld 6 1 false, none⟩,
    ⟨some 80, .mv (.t 14), none⟩,
    ⟨some 81, .mv (.t 15), none⟩,
    ⟨some 82, .mv (.t 14), none⟩,
    ⟨some 83, .ia 79 (.t 80) 1, none⟩,
    ⟨none, .st 83 (.t 81) 1, none⟩,
    ⟨none, .st 9 (.t 82) 1, none⟩] [2, 4, 5, 6, 9])))))))))))
  (.seq (.reg [⟨some 84, .ld 6 1 false, none⟩,
    ⟨some 85, .bld [.slice true []] [(0, (.t 84))], none⟩,
    ⟨none, .st 4 (.t 85) 1, none⟩,
    ⟨none, .st 5 (.c (.bool true)) 1, none⟩] [4, 5])
  (.ret))))))))
theorem con_impl_ParseEdit {v0 : (List XVariable)} {v1 : (List UInt8)} {r : (XEdit × Bool)} (h : sh_impl_ParseEdit v0 v1 = some r) : Con Tryd.prog 19 [(cLs (cXVariable cS cI) rfl).enc v0, cS.enc v1] [] (rs_impl_ParseEdit r) := by
  delta sh_impl_ParseEdit at h
  refine top (out := none) (f := Tryd.f19) (m := m19) (rs := [.c 4 1 true, .c 5 1 false]) (by kernel_rfl) rfl (by kernel_rfl) (by kernel_rfl) (by kernel_rfl) (by kernel_rfl) (by kernel_rfl) ?_
  exact
   ini [(0, .d ((cLs (cXVariable cS cI) rfl).enc v0)), (1, .d (cS.enc v1))] rfl <| wpC_seq <| reg_s <| x_box (ss rfl rfl) <| x_all (cXEdit (cLo cI)) (⟨([] : List Int)⟩ : XEdit) rfl <| x_all cB false rfl <| seqN [(1, .d (cS.enc v1)), (2, .box ((cLs (cXVariable cS cI) rfl).enc v0)), (4, .box ((cXEdit (cLo cI)).enc (⟨([] : List Int)⟩ : XEdit))), (5, .box (cB.enc false))] (by kernel_rfl) <|
    xn <| wpC_seq <| wpC_kp <| wpC_seq <| reg_s <| st rfl <| ldb rfl rfl rfl rfl <| bnd h fun x8 e9 h => st rfl <| o_call (a1 (c := (cLs (cXVariable cS cI) rfl)) (tLs (tXVariable tS tK)) rfl a0) (con_impl_IsSchema e9) (.inl (so1 sB so0)) <| st rfl <| o_nt rfl <| seqN [(1, .d (cS.enc v1)), (2, .box ((cLs (cXVariable cS cI) rfl).enc v0)), (4, .box ((cXEdit (cLo cI)).enc (⟨([] : List Int)⟩ : XEdit))), (5, .box (cB.enc false)), (18, .d (cB.enc (!x8)))] (by kernel_rfl) <|
    xn <| cnd rfl h (fun b10 h => wpC_seq <| reg_s <| x_bld ((cXEdit (cLo cI)).enc (⟨([] : List Int)⟩ : XEdit)) t0 rfl rfl <| x_stb (so rfl rfl) rfl (Cd.h_sz _ _) rfl <| x_stb (sc cB false rfl) rfl (Cd.h_sz _ _) rfl <| seqN [(4, .box ((cXEdit (cLo cI)).enc (⟨([] : List Int)⟩ : XEdit))), (5, .box (cB.enc false))] (by kernel_rfl) <|
    xn <| wpC_ret <| rt <| rt <| re <| fin h (r2 rfl rfl rfl <| r2 rfl rfl rfl <| r0) rfl)
    (fun b10 h => wpC_skip <| kpN [(1, .d (cS.enc v1)), (2, .box ((cLs (cXVariable cS cI) rfl).enc v0)), (4, .box ((cXEdit (cLo cI)).enc (⟨([] : List Int)⟩ : XEdit))), (5, .box (cB.enc false))] (by kernel_rfl) <| xn <| wpC_seq <| reg_s <| st rfl <| ldb rfl rfl rfl rfl <| stw rfl <| lens rfl fun l14 => mkO_k h fun i15 l16 h => st rfl <| o_mk (c := cI) (a0 := (0 : Int)) rfl (k := .i64) rfl i15 l16 <| x_all (cLo cI) ([] : List Int) rfl <| x_stb (so rfl rfl) rfl (Cd.h_sz _ _) rfl <| seqN [(1, .d (cS.enc v1)), (2, .box ((cLs (cXVariable cS cI) rfl).enc v0)), (4, .box ((cXEdit (cLo cI)).enc (⟨([] : List Int)⟩ : XEdit))), (5, .box (cB.enc false)), (6, .box ((cLo cI).enc (List.replicate ((v0.length : Int)).toNat (0 : Int))))] (by kernel_rfl) <|
    xn <| wpC_seq <| wpC_kp <| wpC_seq <| reg_s <| st rfl <| ldb rfl rfl rfl rfl <| stw rfl <| lens rfl fun l58 => st rfl <| mvc cI (0 : Int) rfl <| seqN [(1, .d (cS.enc v1)), (2, .box ((cLs (cXVariable cS cI) rfl).enc v0)), (4, .box ((cXEdit (cLo cI)).enc (⟨([] : List Int)⟩ : XEdit))), (5, .box (cB.enc false)), (6, .box ((cLo cI).enc (List.replicate ((v0.length : Int)).toNat (0 : Int)))), (23, .d ((cLs (cXVariable cS cI) rfl).enc v0)), (24, .d (cI.enc (v0.length : Int))), (25, .d (cI.enc (0 : Int)))] (by kernel_rfl) <|
    xn <| wpC_blk <| lpR (fun (k60 : Nat) (s59 : (List Int)) => [(1, .d (cS.enc v1)), (2, .box ((cLs (cXVariable cS cI) rfl).enc v0)), (4, .box ((cXEdit (cLo cI)).enc (⟨([] : List Int)⟩ : XEdit))), (5, .box (cB.enc false)), (6, .box ((cLo cI).enc s59)), (23, .d ((cLs (cXVariable cS cI) rfl).enc v0)), (24, .d (cI.enc (v0.length : Int))), (25, .d (cI.enc (k60 : Int)))]) (List.replicate ((v0.length : Int)).toNat (0 : Int)) rfl h
    (fun G86 s59 h => wpC_seq <| reg_s <| st rfl <| b_lss (k := .i64) rfl rfl <| seqN [(1, .d (cS.enc v1)), (2, .box ((cLs (cXVariable cS cI) rfl).enc v0)), (4, .box ((cXEdit (cLo cI)).enc (⟨([] : List Int)⟩ : XEdit))), (5, .box (cB.enc false)), (6, .box ((cLo cI).enc s59)), (23, .d ((cLs (cXVariable cS cI) rfl).enc v0)), (24, .d (cI.enc (v0.length : Int))), (25, .d (cI.enc (v0.length : Int))), (26, .d (cB.enc (decide ((v0.length : Int) < (v0.length : Int)))))] (by kernel_rfl) <|
    xn <| wpC_seq <| wpC_kp <| cnd0 rfl (dlf _) <| wpC_exit <| xt <| xt <| xt <| xb <| kpN [(1, .d (cS.enc v1)), (2, .box ((cLs (cXVariable cS cI) rfl).enc v0)), (4, .box ((cXEdit (cLo cI)).enc (⟨([] : List Int)⟩ : XEdit))), (5, .box (cB.enc false)), (6, .box ((cLo cI).enc s59))] (by kernel_rfl) <| xn <| wpC_seq <| wpC_kp <| wpC_seq <| reg_s <| st rfl <| mvd rfl rfl <| st rfl <| b_seq rfl rfl <| seqN [(1, .d (cS.enc v1)), (2, .box ((cLs (cXVariable cS cI) rfl).enc v0)), (4, .box ((cXEdit (cLo cI)).enc (⟨([] : List Int)⟩ : XEdit))), (5, .box (cB.enc false)), (6, .box ((cLo cI).enc s59)), (37, .d (cB.enc (decide (v1 = ([97, 108, 108] : List UInt8)))))] (by kernel_rfl) <|
    xn <| cnd rfl h (fun b88 h => wpC_seq <| reg_s <| st rfl <| ldbo rfl rfl rfl rfl <| x_bld ((cXEdit (cLo cI)).enc (⟨s59⟩ : XEdit)) (t1 (sb rfl rfl) rfl t0) rfl rfl <| x_stb (so rfl rfl) rfl (Cd.h_sz _ _) rfl <| x_stb (sc cB true rfl) rfl (Cd.h_sz _ _) rfl <| seqN [(4, .box ((cXEdit (cLo cI)).enc (⟨s59⟩ : XEdit))), (5, .box (cB.enc true))] (by kernel_rfl) <|
    xn <| wpC_ret <| rt <| rt <| re <| fin h (r2 rfl rfl rfl <| r2 rfl rfl rfl <| r0) rfl)
    (fun b88 h => wpC_skip <| kpN [(1, .d (cS.enc v1)), (2, .box ((cLs (cXVariable cS cI) rfl).enc v0)), (4, .box ((cXEdit (cLo cI)).enc (⟨([] : List Int)⟩ : XEdit))), (5, .box (cB.enc false)), (6, .box ((cLo cI).enc s59))] (by kernel_rfl) <| xn <| wpC_seq <| reg_s <| x_all cI (0 : Int) rfl <| x_stb (sc cI (-1 : Int) rfl) rfl (Cd.h_sz _ _) rfl <| seqN [(1, .d (cS.enc v1)), (2, .box ((cLs (cXVariable cS cI) rfl).enc v0)), (4, .box ((cXEdit (cLo cI)).enc (⟨([] : List Int)⟩ : XEdit))), (5, .box (cB.enc false)), (6, .box ((cLo cI).enc s59)), (9, .box (cI.enc (-1 : Int)))] (by kernel_rfl) <|
    xn <| wpC_seq <| wpC_kp <| wpC_seq <| reg_s <| st rfl <| mvd rfl rfl <| bnd h fun x225 e226 h => st rfl <| o_call (a1 (c := cS) tS rfl (a1 (c := cS) tS rfl a0)) (con_strings_SplitSeq e226) (.inr (hr1 rfl rfl (hrc rfl hr0))) <| seqN [(2, .box ((cLs (cXVariable cS cI) rfl).enc v0)), (4, .box ((cXEdit (cLo cI)).enc (⟨([] : List Int)⟩ : XEdit))), (5, .box (cB.enc false)), (6, .box ((cLo cI).enc s59)), (9, .box (cI.enc (-1 : Int))), (41, .d ((cFn 90 (fun (v : ((List UInt8) × (List UInt8) × Int)) => [.ptr false (cS.enc v.1), .ptr true (cS.enc v.2.1), .ptr false (cI.enc v.2.2)]) false (fun _ => (iml imo))).enc x225))] (by kernel_rfl) <|
    xn <| wpC_blk <| AS.ck_k h fun hk230 h => rf_s (fun (s227 : ((List Int) × Int)) => [(2, .box ((cLs (cXVariable cS cI) rfl).enc v0)), (4, .box ((cXEdit (cLo cI)).enc (⟨([] : List Int)⟩ : XEdit))), (5, .box (cB.enc false)), (6, .box ((cLo cI).enc s227.1)), (9, .box (cI.enc s227.2))]) (s59, (-1 : Int)) rfl (it_split hk230) (by kernel_rfl) h
    (fun s227 h => xbb <| kpN [(4, .box ((cXEdit (cLo cI)).enc (⟨([] : List Int)⟩ : XEdit))), (5, .box (cB.enc false)), (6, .box ((cLo cI).enc s227.1))] (by kernel_rfl) <| xn <| wpC_seq <| reg_s <| st rfl <| ldbo rfl rfl rfl rfl <| x_bld ((cXEdit (cLo cI)).enc (⟨s227.1⟩ : XEdit)) (t1 (sb rfl rfl) rfl t0) rfl rfl <| x_stb (so rfl rfl) rfl (Cd.h_sz _ _) rfl <| x_stb (sc cB true rfl) rfl (Cd.h_sz _ _) rfl <| seqN [(4, .box ((cXEdit (cLo cI)).enc (⟨s227.1⟩ : XEdit))), (5, .box (cB.enc true))] (by kernel_rfl) <|
    xn <| wpC_ret <| re <| fin h (r2 rfl rfl rfl <| r2 rfl rfl rfl <| r0) rfl)
    (fun G315 nx313 k228 s227 x229 hn314 h => wpC_blk <| wpC_seq <| reg_s <| st rfl <| mvd rfl rfl <| bnd h fun x318 e319 h => st rfl <| o_call (a1 (c := cS) tS rfl (a1 (c := cS) tS rfl a0)) (con_strings_Cut e319) (.inl (so1 sS (so1 sS (so1 sB so0)))) <| x_mvt rfl <| x_ext rfl rfl <| x_ext rfl rfl <| x_ext rfl rfl <| x_asg (ss rfl rfl) <| x_asg (ss rfl rfl) <| x_asg (ss rfl rfl) <| seqN [(2, .box ((cLs (cXVariable cS cI) rfl).enc v0)), (4, .box ((cXEdit (cLo cI)).enc (⟨([] : List Int)⟩ : XEdit))), (5, .box (cB.enc false)), (6, .box ((cLo cI).enc s227.1)), (9, .box (cI.enc s227.2)), (11, .d (cS.enc x318.1)), (12, .d (cS.enc x318.2.1)), (13, .d (cB.enc x318.2.2))] (by kernel_rfl) <|
    xn <| wpC_seq <| reg_s <| st rfl <| ldb rfl rfl rfl rfl <| st rfl <| mvd rfl rfl <| bnd h fun x322 e323 h => st rfl <| o_call (a1 (c := (cLs (cXVariable cS cI) rfl)) (tLs (tXVariable tS tK)) rfl (a1 (c := cS) tS rfl a0)) (con_impl_nameIndex e323) (.inl (so1 sK so0)) <| x_asg (ss rfl rfl) <| seqN [(2, .box ((cLs (cXVariable cS cI) rfl).enc v0)), (4, .box ((cXEdit (cLo cI)).enc (⟨([] : List Int)⟩ : XEdit))), (5, .box (cB.enc false)), (6, .box ((cLo cI).enc s227.1)), (9, .box (cI.enc s227.2)), (12, .d (cS.enc x318.2.1)), (13, .d (cB.enc x318.2.2)), (14, .d (cI.enc x322))] (by kernel_rfl) <|
    xn <| wpC_seq <| wpC_kp <| wpC_seq <| reg_s <| st rfl <| mvd rfl rfl <| st rfl <| o_nt rfl <| st rfl <| mvd rfl rfl <| ite_k h (fun b328 h => gf rfl b328 <| gf rfl b328 <| gf rfl b328 <| st rfl <| pick1 rfl b328 (cd := cB) (v := true) rfl rfl <| seqN [(2, .box ((cLs (cXVariable cS cI) rfl).enc v0)), (4, .box ((cXEdit (cLo cI)).enc (⟨([] : List Int)⟩ : XEdit))), (5, .box (cB.enc false)), (6, .box ((cLo cI).enc s227.1)), (9, .box (cI.enc s227.2)), (12, .d (cS.enc x318.2.1)), (14, .d (cI.enc x322)), (58, .d (cB.enc true))] (by kernel_rfl) <|
    xn <| cnd1 rfl rfl <| wpC_seq <| reg_s <| x_bld ((cXEdit (cLo cI)).enc (⟨([] : List Int)⟩ : XEdit)) t0 rfl rfl <| x_stb (so rfl rfl) rfl (Cd.h_sz _ _) rfl <| x_stb (sc cB false rfl) rfl (Cd.h_sz _ _) rfl <| seqN [(4, .box ((cXEdit (cLo cI)).enc (⟨([] : List Int)⟩ : XEdit))), (5, .box (cB.enc false))] (by kernel_rfl) <|
    xn <| wpC_ret <| rt <| rt <| rb <| rfR [(2, .un), (4, .box ((cXEdit (cLo cI)).enc (⟨([] : List Int)⟩ : XEdit))), (5, .box (cB.enc false)), (6, .un), (9, .un)] (by kernel_rfl) <| rb <| rt <| rt <| re <| fin h (r2 rfl rfl rfl <| r2 rfl rfl rfl <| r0) rfl)
    (fun b328 h => gt' rfl b328 <| st rfl <| mvd rfl rfl <| gt' rfl b328 <| st rfl <| ldb rfl rfl rfl rfl <| gt' rfl b328 <| st rfl <| b_leq (k := .i64) rfl rfl <| st rfl <| pick0 rfl b328 (cd := cB) (v := (decide (x322 ≤ s227.2))) rfl rfl <| seqN [(2, .box ((cLs (cXVariable cS cI) rfl).enc v0)), (4, .box ((cXEdit (cLo cI)).enc (⟨([] : List Int)⟩ : XEdit))), (5, .box (cB.enc false)), (6, .box ((cLo cI).enc s227.1)), (9, .box (cI.enc s227.2)), (12, .d (cS.enc x318.2.1)), (14, .d (cI.enc x322)), (58, .d (cB.enc (decide (x322 ≤ s227.2))))] (by kernel_rfl) <|
    xn <| cnd rfl h (fun b329 h => wpC_seq <| reg_s <| x_bld ((cXEdit (cLo cI)).enc (⟨([] : List Int)⟩ : XEdit)) t0 rfl rfl <| x_stb (so rfl rfl) rfl (Cd.h_sz _ _) rfl <| x_stb (sc cB false rfl) rfl (Cd.h_sz _ _) rfl <| seqN [(4, .box ((cXEdit (cLo cI)).enc (⟨([] : List Int)⟩ : XEdit))), (5, .box (cB.enc false))] (by kernel_rfl) <|
    xn <| wpC_ret <| rt <| rt <| rb <| rfR [(2, .un), (4, .box ((cXEdit (cLo cI)).enc (⟨([] : List Int)⟩ : XEdit))), (5, .box (cB.enc false)), (6, .un), (9, .un)] (by kernel_rfl) <| rb <| rt <| rt <| re <| fin h (r2 rfl rfl rfl <| r2 rfl rfl rfl <| r0) rfl)
    (fun b329 h => wpC_skip <| kpN [(2, .box ((cLs (cXVariable cS cI) rfl).enc v0)), (4, .box ((cXEdit (cLo cI)).enc (⟨([] : List Int)⟩ : XEdit))), (5, .box (cB.enc false)), (6, .box ((cLo cI).enc s227.1)), (9, .box (cI.enc s227.2)), (12, .d (cS.enc x318.2.1)), (14, .d (cI.enc x322))] (by kernel_rfl) <| xn <| wpC_seq <| reg_s <| st rfl <| mvd rfl rfl <| st rfl <| ldb rfl rfl rfl rfl <| st rfl <| mvd rfl rfl <| getO_k h fun x335 i336 g337 h => st rfl <| ias rfl rfl i336 g337 rfl <| st rfl <| fai rfl rfl rfl rfl <| st rfl <| ldi rfl rfl rfl rfl <| bnd h fun x338 e339 h => st rfl <| o_call (a1 (c := cS) tS rfl (a1 (c := cI) tK rfl a0)) (con_impl_parseSet e339) (.inl (so1 sK so0)) <| x_asg (ss rfl rfl) <| seqN [(2, .box ((cLs (cXVariable cS cI) rfl).enc v0)), (4, .box ((cXEdit (cLo cI)).enc (⟨([] : List Int)⟩ : XEdit))), (5, .box (cB.enc false)), (6, .box ((cLo cI).enc s227.1)), (9, .box (cI.enc s227.2)), (14, .d (cI.enc x322)), (15, .d (cI.enc x338))] (by kernel_rfl) <|
    xn <| wpC_seq <| wpC_kp <| wpC_seq <| reg_s <| st rfl <| mvd rfl rfl <| st rfl <| b_eql (k := .i64) rfl rfl <| st rfl <| mvd rfl rfl <| ite_k h (fun b350 h => gf rfl b350 <| gf rfl b350 <| gf rfl b350 <| gf rfl b350 <| gf rfl b350 <| gf rfl b350 <| gf rfl b350 <| st rfl <| pick1 rfl b350 (cd := cB) (v := true) rfl rfl <| seqN [(2, .box ((cLs (cXVariable cS cI) rfl).enc v0)), (4, .box ((cXEdit (cLo cI)).enc (⟨([] : List Int)⟩ : XEdit))), (5, .box (cB.enc false)), (6, .box ((cLo cI).enc s227.1)), (9, .box (cI.enc s227.2)), (14, .d (cI.enc x322)), (15, .d (cI.enc x338)), (77, .d (cB.enc true))] (by kernel_rfl) <|
    xn <| cnd1 rfl rfl <| wpC_seq <| reg_s <| x_bld ((cXEdit (cLo cI)).enc (⟨([] : List Int)⟩ : XEdit)) t0 rfl rfl <| x_stb (so rfl rfl) rfl (Cd.h_sz _ _) rfl <| x_stb (sc cB false rfl) rfl (Cd.h_sz _ _) rfl <| seqN [(4, .box ((cXEdit (cLo cI)).enc (⟨([] : List Int)⟩ : XEdit))), (5, .box (cB.enc false))] (by kernel_rfl) <|
    xn <| wpC_ret <| rt <| rt <| rb <| rfR [(2, .un), (4, .box ((cXEdit (cLo cI)).enc (⟨([] : List Int)⟩ : XEdit))), (5, .box (cB.enc false)), (6, .un), (9, .un)] (by kernel_rfl) <| rb <| rt <| rt <| re <| fin h (r2 rfl rfl rfl <| r2 rfl rfl rfl <| r0) rfl)
    (fun b350 h => gt' rfl b350 <| st rfl <| mvd rfl rfl <| gt' rfl b350 <| st rfl <| ldb rfl rfl rfl rfl <| gt' rfl b350 <| st rfl <| mvd rfl rfl <| gt' rfl b350 <| st rfl <| ias rfl rfl i336 g337 rfl <| gt' rfl b350 <| st rfl <| ldi rfl rfl rfl rfl <| gt' rfl b350 <| bnd h fun x351 e352 h => st rfl <| o_call (a1 (c := (cXVariable cS cI)) (tXVariable tS tK) rfl a0) (con_impl_fullSet e352) (.inl (so1 sK so0)) <| gt' rfl b350 <| st rfl <| b_eql (k := .i64) rfl rfl <| st rfl <| pick0 rfl b350 (cd := cB) (v := (decide (x338 = x351))) rfl rfl <| seqN [(2, .box ((cLs (cXVariable cS cI) rfl).enc v0)), (4, .box ((cXEdit (cLo cI)).enc (⟨([] : List Int)⟩ : XEdit))), (5, .box (cB.enc false)), (6, .box ((cLo cI).enc s227.1)), (9, .box (cI.enc s227.2)), (14, .d (cI.enc x322)), (15, .d (cI.enc x338)), (77, .d (cB.enc (decide (x338 = x351))))] (by kernel_rfl) <|
    xn <| cnd rfl h (fun b353 h => wpC_seq <| reg_s <| x_bld ((cXEdit (cLo cI)).enc (⟨([] : List Int)⟩ : XEdit)) t0 rfl rfl <| x_stb (so rfl rfl) rfl (Cd.h_sz _ _) rfl <| x_stb (sc cB false rfl) rfl (Cd.h_sz _ _) rfl <| seqN [(4, .box ((cXEdit (cLo cI)).enc (⟨([] : List Int)⟩ : XEdit))), (5, .box (cB.enc false))] (by kernel_rfl) <|
    xn <| wpC_ret <| rt <| rt <| rb <| rfR [(2, .un), (4, .box ((cXEdit (cLo cI)).enc (⟨([] : List Int)⟩ : XEdit))), (5, .box (cB.enc false)), (6, .un), (9, .un)] (by kernel_rfl) <| rb <| rt <| rt <| re <| fin h (r2 rfl rfl rfl <| r2 rfl rfl rfl <| r0) rfl)
    (fun b353 h => wpC_skip <| kpN [(2, .box ((cLs (cXVariable cS cI) rfl).enc v0)), (4, .box ((cXEdit (cLo cI)).enc (⟨([] : List Int)⟩ : XEdit))), (5, .box (cB.enc false)), (6, .box ((cLo cI).enc s227.1)), (9, .box (cI.enc s227.2)), (14, .d (cI.enc x322)), (15, .d (cI.enc x338))] (by kernel_rfl) <| xn <| reg_s <| st rfl <| ldbo rfl rfl rfl rfl <| st rfl <| mvd rfl rfl <| st rfl <| mvd rfl rfl <| st rfl <| mvd rfl rfl <| getO_k h fun x354 i355 g356 h => st rfl <| iar rfl rfl rfl rfl i355 g356 rfl <| x_sta ((cLo cI).enc (s227.1.set (x322).toNat x338)) (ss rfl rfl) rfl rfl (Ln.idx g356 Ln.nil) (Cd.h_sz cI _) rfl <| x_stb (ss rfl rfl) rfl (Cd.h_sz _ _) rfl <| seqN [(2, .box ((cLs (cXVariable cS cI) rfl).enc v0)), (4, .box ((cXEdit (cLo cI)).enc (⟨([] : List Int)⟩ : XEdit))), (5, .box (cB.enc false)), (6, .box ((cLo cI).enc (s227.1.set (x322).toNat x338))), (9, .box (cI.enc x322))] (by kernel_rfl) <|
    xbb <| rfN [(2, .box ((cLs (cXVariable cS cI) rfl).enc v0)), (4, .box ((cXEdit (cLo cI)).enc (⟨([] : List Int)⟩ : XEdit))), (5, .box (cB.enc false)), (6, .box ((cLo cI).enc (s227.1.set (x322).toNat x338))), (9, .box (cI.enc x322))] (by kernel_rfl) <| hn314 ((s227.1.set (x322).toNat x338), x322) h)))))))
    (fun G86 nx84 k60 s59 x61 hk62 hx63 hn85 h => wpC_seq <| reg_s <| st rfl <| b_lss (k := .i64) rfl rfl <| seqN [(1, .d (cS.enc v1)), (2, .box ((cLs (cXVariable cS cI) rfl).enc v0)), (4, .box ((cXEdit (cLo cI)).enc (⟨([] : List Int)⟩ : XEdit))), (5, .box (cB.enc false)), (6, .box ((cLo cI).enc s59)), (23, .d ((cLs (cXVariable cS cI) rfl).enc v0)), (24, .d (cI.enc (v0.length : Int))), (25, .d (cI.enc (k60 : Int))), (26, .d (cB.enc (decide ((k60 : Int) < (v0.length : Int)))))] (by kernel_rfl) <|
    xn <| wpC_seq <| wpC_kp <| cnd1 rfl (dlt hk62) <| wpC_skip <| kpN [(1, .d (cS.enc v1)), (2, .box ((cLs (cXVariable cS cI) rfl).enc v0)), (4, .box ((cXEdit (cLo cI)).enc (⟨([] : List Int)⟩ : XEdit))), (5, .box (cB.enc false)), (6, .box ((cLo cI).enc s59)), (23, .d ((cLs (cXVariable cS cI) rfl).enc v0)), (24, .d (cI.enc (v0.length : Int))), (25, .d (cI.enc (k60 : Int)))] (by kernel_rfl) <| xn <| wpC_seq <| wpC_kp <| wpC_blk <| wpC_seq <| reg_s <| st rfl <| mvd rfl rfl <| st rfl <| ias rfl rfl (Int.natCast_nonneg _) hx63 rfl <| st rfl <| ldi rfl rfl rfl rfl <| x_all (cXVariable cS cI) (⟨([] : List UInt8), (0 : Int)⟩ : XVariable) rfl <| x_asg (ss rfl rfl) <| x_stb (ss rfl rfl) rfl (Cd.h_sz _ _) rfl <| seqN [(1, .d (cS.enc v1)), (2, .box ((cLs (cXVariable cS cI) rfl).enc v0)), (4, .box ((cXEdit (cLo cI)).enc (⟨([] : List Int)⟩ : XEdit))), (5, .box (cB.enc false)), (6, .box ((cLo cI).enc s59)), (7, .d (cI.enc (k60 : Int))), (8, .box ((cXVariable cS cI).enc x61)), (23, .d ((cLs (cXVariable cS cI) rfl).enc v0)), (24, .d (cI.enc (v0.length : Int))), (25, .d (cI.enc (k60 : Int)))] (by kernel_rfl) <|
    xn <| drw_s <| pst rfl <| ldbo rfl rfl rfl rfl ⟨rfl, pst rfl <| mvd rfl rfl ⟨rfl, pst rfl <| ldb rfl rfl rfl rfl ⟨rfl, bndp h fun x362 e363 h => pst rfl <| o_call (a1 (c := (cXVariable cS cI)) (tXVariable tS tK) rfl a0) (con_impl_fullSet e363) (.inl (so1 sK so0)) ⟨rfl, getO_kp h fun x364 i365 g366 h => pst rfl <| iar rfl rfl rfl rfl i365 g366 rfl ⟨rfl, preN <| x_sta ((cLo cI).enc (s59.set ((k60 : Int)).toNat x362)) (ss rfl rfl) rfl rfl (Ln.idx g366 Ln.nil) (Cd.h_sz cI _) rfl <| seqN [(1, .d (cS.enc v1)), (2, .box ((cLs (cXVariable cS cI) rfl).enc v0)), (4, .box ((cXEdit (cLo cI)).enc (⟨([] : List Int)⟩ : XEdit))), (5, .box (cB.enc false)), (6, .box ((cLo cI).enc (s59.set ((k60 : Int)).toNat x362))), (23, .d ((cLs (cXVariable cS cI) rfl).enc v0)), (24, .d (cI.enc (v0.length : Int))), (25, .d (cI.enc (k60 : Int)))] (by kernel_rfl) <|
    xbb <| kpN [(1, .d (cS.enc v1)), (2, .box ((cLs (cXVariable cS cI) rfl).enc v0)), (4, .box ((cXEdit (cLo cI)).enc (⟨([] : List Int)⟩ : XEdit))), (5, .box (cB.enc false)), (6, .box ((cLo cI).enc (s59.set ((k60 : Int)).toNat x362))), (23, .d ((cLs (cXVariable cS cI) rfl).enc v0)), (24, .d (cI.enc (v0.length : Int))), (25, .d (cI.enc (k60 : Int)))] (by kernel_rfl) <| xn <| reg_s <| st rfl <| b_inc rfl rfl l58 hk62 <| st rfl <| mvd rfl rfl <| seqN [(1, .d (cS.enc v1)), (2, .box ((cLs (cXVariable cS cI) rfl).enc v0)), (4, .box ((cXEdit (cLo cI)).enc (⟨([] : List Int)⟩ : XEdit))), (5, .box (cB.enc false)), (6, .box ((cLo cI).enc (s59.set ((k60 : Int)).toNat x362))), (23, .d ((cLs (cXVariable cS cI) rfl).enc v0)), (24, .d (cI.enc (v0.length : Int))), (25, .d (cI.enc ((k60 + 1 : Nat) : Int)))] (by kernel_rfl) <|
    xn <| hn85 (s59.set ((k60 : Int)).toNat x362) h⟩⟩⟩⟩⟩))

def rs_laws_eqIntS (r : Bool) : List D := [cB.enc r]
def m17 : MC := .seq (.reg [⟨some 4, .asg (.c (.bool false)), none⟩] [0, 1])
  (.seq (.kp [0, 1] (.seq (.reg [⟨some 6, .mv (.t 0), none⟩,
    ⟨some 7, .len false (.t 6), none⟩,
    ⟨some 8, .mv (.t 1), none⟩,
    ⟨some 9, .len false (.t 8), none⟩,
    ⟨some 10, .bin .neq (.t 7) (.t 9), none⟩] [0, 1, 10])
  (.cond (.t 10) (.seq (.reg [⟨some 4, .asg (.c (.bool false)), none⟩] [4])
  (.ret)) (.skip))))
  (.seq (.kp [] (.seq (.reg [⟨some 5, .asg (.c (.int .i64 0)), none⟩] [0, 1, 5])
  (.blk 0 (.loop (.seq (.kp [0, 1, 5] (.seq (.reg [⟨some 11, .mv (.t 5), none⟩,
    ⟨some 12, .mv (.t 0), none⟩,
    ⟨some 13, .len false (.t 12), none⟩,
    ⟨some 14, .bin .lss (.t 11) (.t 13), none⟩] [0, 1, 5, 14])
  (.cond (.t 14) (.skip) (.exit 0))))
  (.seq (.kp [0, 1, 5] (.blk 1 (.seq (.drw [⟨0, ⟨some 17, .mv (.t 0), none⟩, [18, 19, 20, 21, 22, 23, 24, 25]⟩,
    ⟨1, ⟨some 18, .mv (.t 5), none⟩, [17, 19, 20, 21, 22, 23, 24, 25]⟩,
    ⟨2, ⟨some 19, .ia 17 (.t 18) 1, none⟩, [20, 21, 22, 23, 24, 25]⟩,
    ⟨3, ⟨some 20, .ld 19 1 false, none⟩, [21, 22, 23, 24, 25]⟩,
    ⟨4, ⟨some 21, .mv (.t 1), none⟩, [17, 18, 19, 20, 22, 23, 24, 25]⟩,
    ⟨5, ⟨some 22, .mv (.t 5), none⟩, [17, 18, 19, 20, 21, 23, 24, 25]⟩,
    ⟨6, ⟨some 23, .ia 21 (.t 22) 1, none⟩, [17, 18, 19, 20, 24, 25]⟩,
    ⟨7, ⟨some 24, .ld 23 1 false, none⟩, [17, 18, 19, 20, 25]⟩,
    ⟨8, ⟨some 25, .bin .neq (.t 20) (.t 24), none⟩, []⟩]
    [] [0, 1, 5, 25])
  (.cond (.t 25) (.seq (.reg [⟨some 4, .asg (.c (.bool false)), none⟩] [4])
  (.ret)) (.skip)))))
  (.reg [⟨some 15, .mv (.t 5), none⟩,
    ⟨some 16, .bin .add (.t 15) (.c (.int .i64 1)), none⟩,
    ⟨some 5, .asg (.t 16), none⟩] [0, 1, 5])))))))
  (.seq (.reg [⟨some 4, .asg (.c (.bool true)), none⟩] [4])
  (.ret))))
theorem con_laws_eqIntS {v0 : (List Int)} {v1 : (List Int)} {r : Bool} (h : sh_laws_eqIntS v0 v1 = some r) : Con Tryd.prog 17 [(cLs cI rfl).enc v0, (cLs cI rfl).enc v1] [] (rs_laws_eqIntS r) := by
  delta sh_laws_eqIntS at h
  refine top (out := none) (f := Tryd.f17) (m := m17) (rs := [.t 4]) (by kernel_rfl) rfl (by kernel_rfl) (by kernel_rfl) (by kernel_rfl) (by kernel_rfl) (by kernel_rfl) ?_
  exact
   ini [(0, .d ((cLs cI rfl).enc v0)), (1, .d ((cLs cI rfl).enc v1))] rfl <| wpC_seq <| reg_s <| x_asg (sc cB false rfl) <| seqN [(0, .d ((cLs cI rfl).enc v0)), (1, .d ((cLs cI rfl).enc v1))] (by kernel_rfl) <|
    xn <| wpC_seq <| wpC_kp <| wpC_seq <| reg_s <| st rfl <| mvd rfl rfl <| stw rfl <| lens rfl fun l8 => st rfl <| mvd rfl rfl <| stw rfl <| lens rfl fun l9 => st rfl <| b_neq (k := .i64) rfl rfl <| seqN [(0, .d ((cLs cI rfl).enc v0)), (1, .d ((cLs cI rfl).enc v1)), (10, .d (cB.enc (decide ((v0.length : Int) ≠ (v1.length : Int)))))] (by kernel_rfl) <|
    xn <| cnd rfl h (fun b10 h => wpC_seq <| reg_s <| x_asg (sc cB false rfl) <| seqN [(4, .d (cB.enc false))] (by kernel_rfl) <|
    xn <| wpC_ret <| rt <| rt <| re <| fin h (r1 (ss rfl rfl) <| r0) rfl)
    (fun b10 h => wpC_skip <| kpN [(0, .d ((cLs cI rfl).enc v0)), (1, .d ((cLs cI rfl).enc v1))] (by kernel_rfl) <| xn <| wpC_seq <| wpC_kp <| wpC_seq <| reg_s <| x_asg (sc cI (0 : Int) rfl) <| seqN [(0, .d ((cLs cI rfl).enc v0)), (1, .d ((cLs cI rfl).enc v1)), (5, .d (cI.enc (0 : Int)))] (by kernel_rfl) <|
    xn <| wpC_blk <| lpF (fun (s118 : Int) => [(0, .d ((cLs cI rfl).enc v0)), (1, .d ((cLs cI rfl).enc v1)), (5, .d (cI.enc s118))]) (0 : Int) rfl h
    fun G191 nx189 s118 hn190 h => wpC_seq <| wpC_kp <| wpC_seq <| reg_s <| st rfl <| mvd rfl rfl <| st rfl <| mvd rfl rfl <| stw rfl <| lens rfl fun l196 => st rfl <| b_lss (k := .i64) rfl rfl <| seqN [(0, .d ((cLs cI rfl).enc v0)), (1, .d ((cLs cI rfl).enc v1)), (5, .d (cI.enc s118)), (14, .d (cB.enc (decide (s118 < (v0.length : Int)))))] (by kernel_rfl) <|
    xn <| cnd rfl h (fun b197 h => wpC_skip <| kpN [(0, .d ((cLs cI rfl).enc v0)), (1, .d ((cLs cI rfl).enc v1)), (5, .d (cI.enc s118))] (by kernel_rfl) <| xn <| wpC_seq <| wpC_kp <| wpC_blk <| wpC_seq <| drw_s <| pst rfl <| mvd rfl rfl ⟨rfl, pst rfl <| mvd rfl rfl ⟨rfl, getO_kp h fun x217 i218 g219 h => pst rfl <| ias rfl rfl i218 g219 rfl ⟨rfl, pst rfl <| ldi rfl rfl rfl rfl ⟨rfl, pst rfl <| mvd rfl rfl ⟨rfl, pst rfl <| mvd rfl rfl ⟨rfl, getO_kp h fun x220 i221 g222 h => pst rfl <| ias rfl rfl i221 g222 rfl ⟨rfl, pst rfl <| ldi rfl rfl rfl rfl ⟨rfl, pst rfl <| b_neq (k := .i64) rfl rfl ⟨rfl, preN <| seqN [(0, .d ((cLs cI rfl).enc v0)), (1, .d ((cLs cI rfl).enc v1)), (5, .d (cI.enc s118)), (25, .d (cB.enc (decide (x217 ≠ x220))))] (by kernel_rfl) <|
    xn <| cnd rfl h (fun b223 h => wpC_seq <| reg_s <| x_asg (sc cB false rfl) <| seqN [(4, .d (cB.enc false))] (by kernel_rfl) <|
    xn <| wpC_ret <| rb <| rt <| rt <| rt <| rb <| rt <| rt <| re <| fin h (r1 (ss rfl rfl) <| r0) rfl)
    (fun b223 h => wpC_skip <| xbb <| kpN [(0, .d ((cLs cI rfl).enc v0)), (1, .d ((cLs cI rfl).enc v1)), (5, .d (cI.enc s118))] (by kernel_rfl) <| xn <| reg_s <| st rfl <| mvd rfl rfl <| ckI_k h fun i224 h => st rfl <| b_add (k := .i64) rfl rfl i224 <| x_asg (ss rfl rfl) <| seqN [(0, .d ((cLs cI rfl).enc v0)), (1, .d ((cLs cI rfl).enc v1)), (5, .d (cI.enc (s118 + (1 : Int))))] (by kernel_rfl) <|
    xn <| hn190 (s118 + (1 : Int)) h)⟩⟩⟩⟩⟩⟩⟩⟩⟩)
    (fun b197 h => wpC_exit <| xt <| xt <| xt <| xb <| kpN [] (by kernel_rfl) <| xn <| wpC_seq <| reg_s <| x_asg (sc cB true rfl) <| seqN [(4, .d (cB.enc true))] (by kernel_rfl) <|
    xn <| wpC_ret <| re <| fin h (r1 (ss rfl rfl) <| r0) rfl))

def rs_laws_eqEdit (r : Bool) : List D := [cB.enc r]
def m20 : MC := .seq (.reg [⟨some 2, .box (.t 0), none⟩,
    ⟨some 3, .box (.t 1), none⟩,
    ⟨some 4, .asg (.c (.bool false)), none⟩] [2, 3])
  (.seq (.kp [] (.seq (.reg [⟨some 5, .fa 2 0 0, none⟩,
    ⟨some 6, .ld 5 1 false, none⟩,
    ⟨some 7, .fa 3 0 0, none⟩,
    ⟨some 8, .ld 7 1 false, none⟩,
    ⟨some 9, .call 17 [(.t 6), (.t 8)], none⟩,
    ⟨some 10, .nt (.t 9), none⟩] [10])
  (.cond (.t 10) (.seq (.reg [⟨some 4, .asg (.c (.bool false)), none⟩] [4])
  (.ret)) (.skip))))
  (.seq (.reg [⟨some 4, .asg (.c (.bool true)), none⟩] [4])
  (.ret)))
theorem con_laws_eqEdit {v0 : XEdit} {v1 : XEdit} {r : Bool} (h : sh_laws_eqEdit v0 v1 = some r) : Con Tryd.prog 20 [(cXEdit (cLs cI rfl)).enc v0, (cXEdit (cLs cI rfl)).enc v1] [] (rs_laws_eqEdit r) := by
  delta sh_laws_eqEdit at h
  refine top (out := none) (f := Tryd.f20) (m := m20) (rs := [.t 4]) (by kernel_rfl) rfl (by kernel_rfl) (by kernel_rfl) (by kernel_rfl) (by kernel_rfl) (by kernel_rfl) ?_
  exact
   ini [(0, .d ((cXEdit (cLs cI rfl)).enc v0)), (1, .d ((cXEdit (cLs cI rfl)).enc v1))] rfl <| wpC_seq <| reg_s <| x_box (ss rfl rfl) <| x_box (ss rfl rfl) <| x_asg (sc cB false rfl) <| seqN [(2, .box ((cXEdit (cLs cI rfl)).enc v0)), (3, .box ((cXEdit (cLs cI rfl)).enc v1))] (by kernel_rfl) <|
    xn <| wpC_seq <| wpC_kp <| wpC_seq <| reg_s <| st rfl <| fab rfl rfl rfl rfl <| st rfl <| lda rfl rfl rfl rfl rfl rfl <| st rfl <| fab rfl rfl rfl rfl <| st rfl <| lda rfl rfl rfl rfl rfl rfl <| bnd h fun x8 e9 h => st rfl <| o_call (a1 (c := (cLs cI rfl)) (tLs tK) rfl (a1 (c := (cLs cI rfl)) (tLs tK) rfl a0)) (con_laws_eqIntS e9) (.inl (so1 sB so0)) <| st rfl <| o_nt rfl <| seqN [(10, .d (cB.enc (!x8)))] (by kernel_rfl) <|
    xn <| cnd rfl h (fun b10 h => wpC_seq <| reg_s <| x_asg (sc cB false rfl) <| seqN [(4, .d (cB.enc false))] (by kernel_rfl) <|
    xn <| wpC_ret <| rt <| rt <| re <| fin h (r1 (ss rfl rfl) <| r0) rfl)
    (fun b10 h => wpC_skip <| kpN [] (by kernel_rfl) <| xn <| wpC_seq <| reg_s <| x_asg (sc cB true rfl) <| seqN [(4, .d (cB.enc true))] (by kernel_rfl) <|
    xn <| wpC_ret <| re <| fin h (r1 (ss rfl rfl) <| r0) rfl)

def rs_laws_eqVariable (r : Bool) : List D := [cB.enc r]
def m36 : MC := .seq (.reg [⟨some 2, .box (.t 0), none⟩,
    ⟨some 3, .box (.t 1), none⟩,
    ⟨some 4, .asg (.c (.bool false)), none⟩] [2, 3])
  (.seq (.kp [2, 3] (.seq (.reg [⟨some 5, .fa 2 0 0, none⟩,
    ⟨some 6, .ld 5 1 false, none⟩,
    ⟨some 7, .fa 3 0 0, none⟩,
    ⟨some 8, .ld 7 1 false, none⟩,
    ⟨some 9, .bin .neq (.t 6) (.t 8), none⟩] [2, 3, 9])
  (.cond (.t 9) (.seq (.reg [⟨some 4, .asg (.c (.bool false)), none⟩] [4])
  (.ret)) (.skip))))
  (.seq (.kp [] (.seq (.reg [⟨some 10, .fa 2 1 1, none⟩,
    ⟨some 11, .ld 10 1 false, none⟩,
    ⟨some 12, .fa 3 1 1, none⟩,
    ⟨some 13, .ld 12 1 false, none⟩,
    ⟨some 14, .bin .neq (.t 11) (.t 13), none⟩] [14])
  (.cond (.t 14) (.seq (.reg [⟨some 4, .asg (.c (.bool false)), none⟩] [4])
  (.ret)) (.skip))))
  (.seq (.reg [⟨some 4, .asg (.c (.bool true)), none⟩] [4])
  (.ret))))
theorem con_laws_eqVariable {v0 : XVariable} {v1 : XVariable} {r : Bool} (h : sh_laws_eqVariable v0 v1 = some r) : Con Tryd.prog 36 [(cXVariable cS cI).enc v0, (cXVariable cS cI).enc v1] [] (rs_laws_eqVariable r) := by
  delta sh_laws_eqVariable at h
  refine top (out := none) (f := Tryd.f36) (m := m36) (rs := [.t 4]) (by kernel_rfl) rfl (by kernel_rfl) (by kernel_rfl) (by kernel_rfl) (by kernel_rfl) (by kernel_rfl) ?_
  exact
   ini [(0, .d ((cXVariable cS cI).enc v0)), (1, .d ((cXVariable cS cI).enc v1))] rfl <| wpC_seq <| reg_s <| x_box (ss rfl rfl) <| x_box (ss rfl rfl) <| x_asg (sc cB false rfl) <| seqN [(2, .box ((cXVariable cS cI).enc v0)), (3, .box ((cXVariable cS cI).enc v1))] (by kernel_rfl) <|
    xn <| wpC_seq <| wpC_kp <| wpC_seq <| reg_s <| st rfl <| fab rfl rfl rfl rfl <| st rfl <| lda rfl rfl rfl rfl rfl rfl <| st rfl <| fab rfl rfl rfl rfl <| st rfl <| lda rfl rfl rfl rfl rfl rfl <| st rfl <| b_sne rfl rfl <| seqN [(2, .box ((cXVariable cS cI).enc v0)), (3, .box ((cXVariable cS cI).enc v1)), (9, .d (cB.enc (decide (v0.Name ≠ v1.Name))))] (by kernel_rfl) <|
    xn <| cnd rfl h (fun b2 h => wpC_seq <| reg_s <| x_asg (sc cB false rfl) <| seqN [(4, .d (cB.enc false))] (by kernel_rfl) <|
    xn <| wpC_ret <| rt <| rt <| re <| fin h (r1 (ss rfl rfl) <| r0) rfl)
    (fun b2 h => wpC_skip <| kpN [(2, .box ((cXVariable cS cI).enc v0)), (3, .box ((cXVariable cS cI).enc v1))] (by kernel_rfl) <| xn <| wpC_seq <| wpC_kp <| wpC_seq <| reg_s <| st rfl <| fab rfl rfl rfl rfl <| st rfl <| lda rfl rfl rfl rfl rfl rfl <| st rfl <| fab rfl rfl rfl rfl <| st rfl <| lda rfl rfl rfl rfl rfl rfl <| st rfl <| b_neq (k := .i64) rfl rfl <| seqN [(14, .d (cB.enc (decide (v0.Levels ≠ v1.Levels))))] (by kernel_rfl) <|
    xn <| cnd rfl h (fun b4 h => wpC_seq <| reg_s <| x_asg (sc cB false rfl) <| seqN [(4, .d (cB.enc false))] (by kernel_rfl) <|
    xn <| wpC_ret <| rt <| rt <| re <| fin h (r1 (ss rfl rfl) <| r0) rfl)
    (fun b4 h => wpC_skip <| kpN [] (by kernel_rfl) <| xn <| wpC_seq <| reg_s <| x_asg (sc cB true rfl) <| seqN [(4, .d (cB.enc true))] (by kernel_rfl) <|
    xn <| wpC_ret <| re <| fin h (r1 (ss rfl rfl) <| r0) rfl))

def rs_laws_eqVariableS (r : Bool) : List D := [cB.enc r]
def m15 : MC := .seq (.reg [⟨some 4, .asg (.c (.bool false)), none⟩] [0, 1])
  (.seq (.kp [0, 1] (.seq (.reg [⟨some 6, .mv (.t 0), none⟩,
    ⟨some 7, .len false (.t 6), none⟩,
    ⟨some 8, .mv (.t 1), none⟩,
    ⟨some 9, .len false (.t 8), none⟩,
    ⟨some 10, .bin .neq (.t 7) (.t 9), none⟩] [0, 1, 10])
  (.cond (.t 10) (.seq (.reg [⟨some 4, .asg (.c (.bool false)), none⟩] [4])
  (.ret)) (.skip))))
  (.seq (.kp [] (.seq (.reg [⟨some 5, .asg (.c (.int .i64 0)), none⟩] [0, 1, 5])
  (.blk 0 (.loop (.seq (.kp [0, 1, 5] (.seq (.reg [⟨some 11, .mv (.t 5), none⟩,
    ⟨some 12, .mv (.t 0), none⟩,
    ⟨some 13, .len false (.t 12), none⟩,
    ⟨some 14, .bin .lss (.t 11) (.t 13), none⟩] [0, 1, 5, 14])
  (.cond (.t 14) (.skip) (.exit 0))))
  (.seq (.kp [0, 1, 5] (.blk 1 (.seq (.drw [⟨0, ⟨some 17, .mv (.t 0), none⟩, [18, 19, 20, 21, 22, 23, 24, 25, 26]⟩,
    ⟨1, ⟨some 18, .mv (.t 5), none⟩, [17, 19, 20, 21, 22, 23, 24, 25, 26]⟩,
    ⟨2, ⟨some 19, .ia 17 (.t 18) 2, none⟩, [20, 21, 22, 23, 24, 25, 26]⟩,
    ⟨3, ⟨some 20, .ld 19 2 true, none⟩, [21, 22, 23, 24, 25, 26]⟩,
    ⟨4, ⟨some 21, .mv (.t 1), none⟩, [17, 18, 19, 20, 22, 23, 24, 25, 26]⟩,
    ⟨5, ⟨some 22, .mv (.t 5), none⟩, [17, 18, 19, 20, 21, 23, 24, 25, 26]⟩,
    ⟨6, ⟨some 23, .ia 21 (.t 22) 2, none⟩, [17, 18, 19, 20, 24, 25, 26]⟩,
    ⟨7, ⟨some 24, .ld 23 2 true, none⟩, [17, 18, 19, 20, 25, 26]⟩,
    ⟨8, ⟨some 25, .call 36 [(.t 20), (.t 24)], none⟩, [26]⟩,
    ⟨9, ⟨some 26, .nt (.t 25), none⟩, []⟩]
    [] [0, 1, 5, 26])
  (.cond (.t 26) (.seq (.reg [⟨some 4, .asg (.c (.bool false)), none⟩] [4])
  (.ret)) (.skip)))))
  (.reg [⟨some 15, .mv (.t 5), none⟩,
    ⟨some 16, .bin .add (.t 15) (.c (.int .i64 1)), none⟩,
    ⟨some 5, .asg (.t 16), none⟩] [0, 1, 5])))))))
  (.seq (.reg [⟨some 4, .asg (.c (.bool true)), none⟩] [4])
  (.ret))))
theorem con_laws_eqVariableS {v0 : (List XVariable)} {v1 : (List XVariable)} {r : Bool} (h : sh_laws_eqVariableS v0 v1 = some r) : Con Tryd.prog 15 [(cLs (cXVariable cS cI) rfl).enc v0, (cLs (cXVariable cS cI) rfl).enc v1] [] (rs_laws_eqVariableS r) := by
  delta sh_laws_eqVariableS at h
  refine top (out := none) (f := Tryd.f15) (m := m15) (rs := [.t 4]) (by kernel_rfl) rfl (by kernel_rfl) (by kernel_rfl) (by kernel_rfl) (by kernel_rfl) (by kernel_rfl) ?_
  exact
   ini [(0, .d ((cLs (cXVariable cS cI) rfl).enc v0)), (1, .d ((cLs (cXVariable cS cI) rfl).enc v1))] rfl <| wpC_seq <| reg_s <| x_asg (sc cB false rfl) <| seqN [(0, .d ((cLs (cXVariable cS cI) rfl).enc v0)), (1, .d ((cLs (cXVariable cS cI) rfl).enc v1))] (by kernel_rfl) <|
    xn <| wpC_seq <| wpC_kp <| wpC_seq <| reg_s <| st rfl <| mvd rfl rfl <| stw rfl <| lens rfl fun l8 => st rfl <| mvd rfl rfl <| stw rfl <| lens rfl fun l9 => st rfl <| b_neq (k := .i64) rfl rfl <| seqN [(0, .d ((cLs (cXVariable cS cI) rfl).enc v0)), (1, .d ((cLs (cXVariable cS cI) rfl).enc v1)), (10, .d (cB.enc (decide ((v0.length : Int) ≠ (v1.length : Int)))))] (by kernel_rfl) <|
    xn <| cnd rfl h (fun b10 h => wpC_seq <| reg_s <| x_asg (sc cB false rfl) <| seqN [(4, .d (cB.enc false))] (by kernel_rfl) <|
    xn <| wpC_ret <| rt <| rt <| re <| fin h (r1 (ss rfl rfl) <| r0) rfl)
    (fun b10 h => wpC_skip <| kpN [(0, .d ((cLs (cXVariable cS cI) rfl).enc v0)), (1, .d ((cLs (cXVariable cS cI) rfl).enc v1))] (by kernel_rfl) <| xn <| wpC_seq <| wpC_kp <| wpC_seq <| reg_s <| x_asg (sc cI (0 : Int) rfl) <| seqN [(0, .d ((cLs (cXVariable cS cI) rfl).enc v0)), (1, .d ((cLs (cXVariable cS cI) rfl).enc v1)), (5, .d (cI.enc (0 : Int)))] (by kernel_rfl) <|
    xn <| wpC_blk <| lpF (fun (s142 : Int) => [(0, .d ((cLs (cXVariable cS cI) rfl).enc v0)), (1, .d ((cLs (cXVariable cS cI) rfl).enc v1)), (5, .d (cI.enc s142))]) (0 : Int) rfl h
    fun G231 nx229 s142 hn230 h => wpC_seq <| wpC_kp <| wpC_seq <| reg_s <| st rfl <| mvd rfl rfl <| st rfl <| mvd rfl rfl <| stw rfl <| lens rfl fun l236 => st rfl <| b_lss (k := .i64) rfl rfl <| seqN [(0, .d ((cLs (cXVariable cS cI) rfl).enc v0)), (1, .d ((cLs (cXVariable cS cI) rfl).enc v1)), (5, .d (cI.enc s142)), (14, .d (cB.enc (decide (s142 < (v0.length : Int)))))] (by kernel_rfl) <|
    xn <| cnd rfl h (fun b237 h => wpC_skip <| kpN [(0, .d ((cLs (cXVariable cS cI) rfl).enc v0)), (1, .d ((cLs (cXVariable cS cI) rfl).enc v1)), (5, .d (cI.enc s142))] (by kernel_rfl) <| xn <| wpC_seq <| wpC_kp <| wpC_blk <| wpC_seq <| drw_s <| pst rfl <| mvd rfl rfl ⟨rfl, pst rfl <| mvd rfl rfl ⟨rfl, getO_kp h fun x263 i264 g265 h => pst rfl <| ias rfl rfl i264 g265 rfl ⟨rfl, pst rfl <| ldi rfl rfl rfl rfl ⟨rfl, pst rfl <| mvd rfl rfl ⟨rfl, pst rfl <| mvd rfl rfl ⟨rfl, getO_kp h fun x266 i267 g268 h => pst rfl <| ias rfl rfl i267 g268 rfl ⟨rfl, pst rfl <| ldi rfl rfl rfl rfl ⟨rfl, bndp h fun x269 e270 h => pst rfl <| o_call (a1 (c := (cXVariable cS cI)) (tXVariable tS tK) rfl (a1 (c := (cXVariable cS cI)) (tXVariable tS tK) rfl a0)) (con_laws_eqVariable e270) (.inl (so1 sB so0)) ⟨rfl, pst rfl <| o_nt rfl ⟨rfl, preN <| seqN [(0, .d ((cLs (cXVariable cS cI) rfl).enc v0)), (1, .d ((cLs (cXVariable cS cI) rfl).enc v1)), (5, .d (cI.enc s142)), (26, .d (cB.enc (!x269)))] (by kernel_rfl) <|
    xn <| cnd rfl h (fun b271 h => wpC_seq <| reg_s <| x_asg (sc cB false rfl) <| seqN [(4, .d (cB.enc false))] (by kernel_rfl) <|
    xn <| wpC_ret <| rb <| rt <| rt <| rt <| rb <| rt <| rt <| re <| fin h (r1 (ss rfl rfl) <| r0) rfl)
    (fun b271 h => wpC_skip <| xbb <| kpN [(0, .d ((cLs (cXVariable cS cI) rfl).enc v0)), (1, .d ((cLs (cXVariable cS cI) rfl).enc v1)), (5, .d (cI.enc s142))] (by kernel_rfl) <| xn <| reg_s <| st rfl <| mvd rfl rfl <| ckI_k h fun i272 h => st rfl <| b_add (k := .i64) rfl rfl i272 <| x_asg (ss rfl rfl) <| seqN [(0, .d ((cLs (cXVariable cS cI) rfl).enc v0)), (1, .d ((cLs (cXVariable cS cI) rfl).enc v1)), (5, .d (cI.enc (s142 + (1 : Int))))] (by kernel_rfl) <|
    xn <| hn230 (s142 + (1 : Int)) h)⟩⟩⟩⟩⟩⟩⟩⟩⟩⟩)
    (fun b237 h => wpC_exit <| xt <| xt <| xt <| xb <| kpN [] (by kernel_rfl) <| xn <| wpC_seq <| reg_s <| x_asg (sc cB true rfl) <| seqN [(4, .d (cB.enc true))] (by kernel_rfl) <|
    xn <| wpC_ret <| re <| fin h (r1 (ss rfl rfl) <| r0) rfl))

def rs_laws_markText (r : (List UInt8)) : List D := [cS.enc r]
def m45 : MC := .seq (.reg [⟨some 2, .asg (.c (.str [])), none⟩] [0])
  (.seq (.kp [0] (.seq (.reg [⟨some 4, .mv (.t 0), none⟩,
    ⟨some 5, .bin .leq (.t 4) (.c (.int .i64 0)), none⟩] [0, 5])
  (.cond (.t 5) (.seq (.reg [⟨some 2, .asg (.c (.str [109, 48])), none⟩] [2])
  (.ret)) (.skip))))
  (.seq (.reg [⟨some 3, .asg (.c (.str [])), none⟩] [0, 3])
  (.seq (.kp [3] (.blk 0 (.loop (.kp [0, 3] (.seq (.kp [0, 3] (.seq (.reg [⟨some 6, .mv (.t 0), none⟩,
    ⟨some 7, .bin .gtr (.t 6) (.c (.int .i64 0)), none⟩] [0, 3, 7])
  (.cond (.t 7) (.skip) (.exit 0))))
  (.blk 1 (.seq (.reg [⟨some 8, .mv (.t 0), none⟩,
    ⟨some 9, .bin .rem (.t 8) (.c (.int .i64 10)), none⟩,
    ⟨some 10, .bin .add (.c (.int .i64 48)) (.t 9), none⟩,
    ⟨some 11, .cvi .u8 (.t 10), none⟩,
    ⟨some 12, .bsl [(.t 11)] 1, none⟩,
    ⟨some 13, .b2s (.t 12), none⟩,
    ⟨some 14, .mv (.t 3), none⟩,
    ⟨some 15, .bin .add (.t 13) (.t 14), none⟩,
    ⟨some 3, .asg (.t 15), none⟩] [0, 3])
  (.reg [⟨some 16, .mv (.t 0), none⟩,
    ⟨some 17, .bin .quo (.t 16) (.c (.int .i64 10)), none⟩,
    ⟨some 0, .asg (.t 17), none⟩] [0, 3]))))))))
  (.seq (.reg [⟨some 18, .mv (.t 3), none⟩,
    ⟨some 19, .bin .add (.c (.str [109])) (.t 18), none⟩,
    ⟨some 2, .asg (.t 19), none⟩] [2])
  (.ret)))))
theorem con_laws_markText {v0 : Int} {r : (List UInt8)} (h : sh_laws_markText v0 = some r) : Con Tryd.prog 45 [cI.enc v0] [] (rs_laws_markText r) := by
  delta sh_laws_markText at h
  refine top (out := none) (f := Tryd.f45) (m := m45) (rs := [.t 2]) (by kernel_rfl) rfl (by kernel_rfl) (by kernel_rfl) (by kernel_rfl) (by kernel_rfl) (by kernel_rfl) ?_
  exact
   ini [(0, .d (cI.enc v0))] rfl <| wpC_seq <| reg_s <| x_asg (sc cS ([] : List UInt8) rfl) <| seqN [(0, .d (cI.enc v0))] (by kernel_rfl) <|
    xn <| wpC_seq <| wpC_kp <| wpC_seq <| reg_s <| st rfl <| mvd rfl rfl <| st rfl <| b_leq (k := .i64) rfl rfl <| seqN [(0, .d (cI.enc v0)), (5, .d (cB.enc (decide (v0 ≤ (0 : Int)))))] (by kernel_rfl) <|
    xn <| cnd rfl h (fun b2 h => wpC_seq <| reg_s <| x_asg (sc cS ([109, 48] : List UInt8) rfl) <| seqN [(2, .d (cS.enc ([109, 48] : List UInt8)))] (by kernel_rfl) <|
    xn <| wpC_ret <| rt <| rt <| re <| fin h (r1 (ss rfl rfl) <| r0) rfl)
    (fun b2 h => wpC_skip <| kpN [(0, .d (cI.enc v0))] (by kernel_rfl) <| xn <| wpC_seq <| reg_s <| x_asg (sc cS ([] : List UInt8) rfl) <| seqN [(0, .d (cI.enc v0)), (3, .d (cS.enc ([] : List UInt8)))] (by kernel_rfl) <|
    xn <| wpC_seq <| wpC_kp <| wpC_blk <| lpF (fun (s59 : (Int × (List UInt8))) => [(0, .d (cI.enc s59.1)), (3, .d (cS.enc s59.2))]) (v0, ([] : List UInt8)) rfl h
    fun G98 nx96 s59 hn97 h => wpC_kp <| wpC_seq <| wpC_kp <| wpC_seq <| reg_s <| st rfl <| mvd rfl rfl <| st rfl <| b_gtr (k := .i64) rfl rfl <| seqN [(0, .d (cI.enc s59.1)), (3, .d (cS.enc s59.2)), (7, .d (cB.enc (decide ((0 : Int) < s59.1))))] (by kernel_rfl) <|
    xn <| cnd rfl h (fun b100 h => wpC_skip <| kpN [(0, .d (cI.enc s59.1)), (3, .d (cS.enc s59.2))] (by kernel_rfl) <| xn <| wpC_blk <| wpC_seq <| reg_s <| st rfl <| mvd rfl rfl <| ck_k h fun i107 h => st rfl <| b_rem (k := .i64) rfl rfl i107 <| ckI_k h fun i108 h => st rfl <| b_add (k := .i64) rfl rfl i108 <| ckU_k h fun i109 h => st rfl <| o_cvi (k := .i64) (k' := .u8) rfl i109 <| x_bsl cU [((48 : Int) + (s59.1.tmod (10 : Int)))] (t1 (ss rfl rfl) rfl t0) rfl rfl <| ck_k h fun i110 h => st rfl <| o_b2s rfl rfl i110 <| st rfl <| mvd rfl rfl <| lnO_k h fun l112 h => st rfl <| b_cat rfl rfl l112 <| x_asg (ss rfl rfl) <| seqN [(0, .d (cI.enc s59.1)), (3, .d (cS.enc ((bytesOf [((48 : Int) + (s59.1.tmod (10 : Int)))]) ++ s59.2)))] (by kernel_rfl) <|
    xn <| reg_s <| st rfl <| mvd rfl rfl <| ck_k h fun i113 h => ckI_k h fun i114 h => st rfl <| b_quo (k := .i64) rfl rfl i113 i114 <| x_asg (ss rfl rfl) <| seqN [(0, .d (cI.enc (s59.1.tdiv (10 : Int)))), (3, .d (cS.enc ((bytesOf [((48 : Int) + (s59.1.tmod (10 : Int)))]) ++ s59.2)))] (by kernel_rfl) <|
    xbb <| kpN [(0, .d (cI.enc (s59.1.tdiv (10 : Int)))), (3, .d (cS.enc ((bytesOf [((48 : Int) + (s59.1.tmod (10 : Int)))]) ++ s59.2)))] (by kernel_rfl) <| xn <| hn97 ((s59.1.tdiv (10 : Int)), ((bytesOf [((48 : Int) + (s59.1.tmod (10 : Int)))]) ++ s59.2)) h)
    (fun b100 h => wpC_exit <| xt <| xt <| xt <| xt <| xb <| kpN [(3, .d (cS.enc s59.2))] (by kernel_rfl) <| xn <| wpC_seq <| reg_s <| st rfl <| mvd rfl rfl <| lnO_k h fun l116 h => st rfl <| b_cat rfl rfl l116 <| x_asg (ss rfl rfl) <| seqN [(2, .d (cS.enc (([109] : List UInt8) ++ s59.2)))] (by kernel_rfl) <|
    xn <| wpC_ret <| re <| fin h (r1 (ss rfl rfl) <| r0) rfl))

def os_laws_markVariableS (r : ((List XVariable) × Int)) : D := (cLo (cXVariable cS cI)).enc r.1
def rs_laws_markVariableS (r : ((List XVariable) × Int)) : List D := [cI.enc r.2]
def m21 : MC := .seq (.reg [⟨some 4, .asg (.c (.int .i64 0)), none⟩] [0, 1])
  (.seq (.kp [0, 1] (.seq (.reg [⟨some 5, .asg (.c (.int .i64 0)), none⟩] [0, 1, 5])
  (.blk 0 (.loop (.seq (.kp [0, 1, 5] (.seq (.reg [⟨some 6, .mv (.t 5), none⟩,
    ⟨some 7, .mv (.t 0), none⟩,
    ⟨some 8, .len false (.t 7), none⟩,
    ⟨some 9, .bin .lss (.t 6) (.t 8), none⟩] [0, 1, 5, 9])
  (.cond (.t 9) (.skip) (.exit 0))))
  (.seq (.kp [0, 1, 5] (.blk 1 (.seq (.reg [⟨some 12, .mv (.t 0), none⟩,
    ⟨some 13, .mv (.t 5), none⟩,
    ⟨some 14, .mv (.t 1), none⟩,
    ⟨some 15, .call 45 [(.t 14)], none⟩,
    ⟨some 16, .ia 12 (.t 13) 2, none⟩,
    ⟨some 17, .fa 16 0 0, none⟩,
    ⟨none, .st 17 (.t 15) 1, none⟩] [0, 1, 5])
  (.seq (.reg [⟨some 18, .mv (.t 1), none⟩,
    ⟨some 19, .bin .add (.t 18) (.c (.int .i64 1)), none⟩,
    ⟨some 1, .asg (.t 19), none⟩] [0, 1, 5])
  (.seq (.reg [⟨some 20, .mv (.t 0), none⟩,
    ⟨some 21, .mv (.t 5), none⟩,
    ⟨some 22, .mv (.t 1), none⟩,
    ⟨some 23, .ia 20 (.t 21) 2, none⟩,
    ⟨some 24, .fa 23 1 1, none⟩,
    ⟨none, .st 24 (.t 22) 1, none⟩] [0, 1, 5])
  (.reg [⟨some 25, .mv (.t 1), none⟩,
    ⟨some 26, .bin .add (.t 25) (.c (.int .i64 1)), none⟩,
    ⟨some 1, .asg (.t 26), none⟩] [0, 1, 5]))))))
  (.reg [⟨some 10, .mv (.t 5), none⟩,
    ⟨some 11, .bin .add (.t 10) (.c (.int .i64 1)), none⟩,
    ⟨some 5, .asg (.t 11), none⟩] [0, 1, 5])))))))
  (.seq (.reg [⟨some 27, .mv (.t 1), none⟩,
    ⟨some 4, .asg (.t 27), none⟩] [0, 4])
  (.ret)))
theorem con_laws_markVariableS {v0 : (List XVariable)} {v1 : Int} {r : ((List XVariable) × Int)} (h : sh_laws_markVariableS v0 v1 = some r) : Con Tryd.prog 21 [(cLo (cXVariable cS cI)).enc v0, cI.enc v1] (outsOf (some (0, os_laws_markVariableS r))) (rs_laws_markVariableS r) := by
  delta sh_laws_markVariableS at h
  refine top (out := some (0, os_laws_markVariableS r)) (f := Tryd.f21) (m := m21) (rs := [.t 4]) (by kernel_rfl) rfl (by kernel_rfl) (by kernel_rfl) (by kernel_rfl) (by kernel_rfl) (by kernel_rfl) ?_
  exact
   ini [(0, .d ((cLo (cXVariable cS cI)).enc v0)), (1, .d (cI.enc v1))] rfl <| wpC_seq <| reg_s <| x_asg (sc cI (0 : Int) rfl) <| seqN [(0, .d ((cLo (cXVariable cS cI)).enc v0)), (1, .d (cI.enc v1))] (by kernel_rfl) <|
    xn <| wpC_seq <| wpC_kp <| wpC_seq <| reg_s <| x_asg (sc cI (0 : Int) rfl) <| seqN [(0, .d ((cLo (cXVariable cS cI)).enc v0)), (1, .d (cI.enc v1)), (5, .d (cI.enc (0 : Int)))] (by kernel_rfl) <|
    xn <| wpC_blk <| lpF (fun (s144 : ((List XVariable) × Int × Int)) => [(0, .d ((cLo (cXVariable cS cI)).enc s144.1)), (1, .d (cI.enc s144.2.1)), (5, .d (cI.enc s144.2.2))]) (v0, v1, (0 : Int)) rfl h
    fun G241 nx239 s144 hn240 h => wpC_seq <| wpC_kp <| wpC_seq <| reg_s <| st rfl <| mvd rfl rfl <| st rfl <| mvo rfl rfl <| stw rfl <| leno rfl fun l246 => st rfl <| b_lss (k := .i64) rfl rfl <| seqN [(0, .d ((cLo (cXVariable cS cI)).enc s144.1)), (1, .d (cI.enc s144.2.1)), (5, .d (cI.enc s144.2.2)), (9, .d (cB.enc (decide (s144.2.2 < (s144.1.length : Int)))))] (by kernel_rfl) <|
    xn <| cnd rfl h (fun b247 h => wpC_skip <| kpN [(0, .d ((cLo (cXVariable cS cI)).enc s144.1)), (1, .d (cI.enc s144.2.1)), (5, .d (cI.enc s144.2.2))] (by kernel_rfl) <| xn <| wpC_seq <| wpC_kp <| wpC_blk <| wpC_seq <| reg_s <| st rfl <| mvo rfl rfl <| st rfl <| mvd rfl rfl <| st rfl <| mvd rfl rfl <| bnd h fun x272 e273 h => st rfl <| o_call (a1 (c := cI) tK rfl a0) (con_laws_markText e273) (.inl (so1 sS so0)) <| getO_k h fun x274 i275 g276 h => st rfl <| iar rfl rfl rfl rfl i275 g276 rfl <| st rfl <| faa rfl rfl (Gt.idx g276 Gt.nil) rfl rfl rfl <| x_sta ((cLo (cXVariable cS cI)).enc (s144.1.set (s144.2.2).toNat (⟨x272, x274.Levels⟩ : XVariable))) (ss rfl rfl) rfl rfl (Ln.idx g276 (Ln.fld rfl rfl Ln.nil rfl)) (Cd.h_sz cS _) rfl <| seqN [(0, .d ((cLo (cXVariable cS cI)).enc (s144.1.set (s144.2.2).toNat (⟨x272, x274.Levels⟩ : XVariable)))), (1, .d (cI.enc s144.2.1)), (5, .d (cI.enc s144.2.2))] (by kernel_rfl) <|
    xn <| wpC_seq <| reg_s <| st rfl <| mvd rfl rfl <| ckI_k h fun i278 h => st rfl <| b_add (k := .i64) rfl rfl i278 <| x_asg (ss rfl rfl) <| seqN [(0, .d ((cLo (cXVariable cS cI)).enc (s144.1.set (s144.2.2).toNat (⟨x272, x274.Levels⟩ : XVariable)))), (1, .d (cI.enc (s144.2.1 + (1 : Int)))), (5, .d (cI.enc s144.2.2))] (by kernel_rfl) <|
    xn <| wpC_seq <| reg_s <| st rfl <| mvo rfl rfl <| st rfl <| mvd rfl rfl <| st rfl <| mvd rfl rfl <| getO_k h fun x282 i283 g284 h => st rfl <| iar rfl rfl rfl rfl i283 g284 rfl <| st rfl <| faa rfl rfl (Gt.idx g284 Gt.nil) rfl rfl rfl <| x_sta ((cLo (cXVariable cS cI)).enc ((s144.1.set (s144.2.2).toNat (⟨x272, x274.Levels⟩ : XVariable)).set (s144.2.2).toNat (⟨x282.Name, (s144.2.1 + (1 : Int))⟩ : XVariable))) (ss rfl rfl) rfl rfl (Ln.idx g284 (Ln.fld rfl rfl Ln.nil rfl)) (Cd.h_sz cI _) rfl <| seqN [(0, .d ((cLo (cXVariable cS cI)).enc ((s144.1.set (s144.2.2).toNat (⟨x272, x274.Levels⟩ : XVariable)).set (s144.2.2).toNat (⟨x282.Name, (s144.2.1 + (1 : Int))⟩ : XVariable)))), (1, .d (cI.enc (s144.2.1 + (1 : Int)))), (5, .d (cI.enc s144.2.2))] (by kernel_rfl) <|
    xn <| reg_s <| st rfl <| mvd rfl rfl <| ckI_k h fun i285 h => st rfl <| b_add (k := .i64) rfl rfl i285 <| x_asg (ss rfl rfl) <| seqN [(0, .d ((cLo (cXVariable cS cI)).enc ((s144.1.set (s144.2.2).toNat (⟨x272, x274.Levels⟩ : XVariable)).set (s144.2.2).toNat (⟨x282.Name, (s144.2.1 + (1 : Int))⟩ : XVariable)))), (1, .d (cI.enc ((s144.2.1 + (1 : Int)) + (1 : Int)))), (5, .d (cI.enc s144.2.2))] (by kernel_rfl) <|
    xbb <| kpN [(0, .d ((cLo (cXVariable cS cI)).enc ((s144.1.set (s144.2.2).toNat (⟨x272, x274.Levels⟩ : XVariable)).set (s144.2.2).toNat (⟨x282.Name, (s144.2.1 + (1 : Int))⟩ : XVariable)))), (1, .d (cI.enc ((s144.2.1 + (1 : Int)) + (1 : Int)))), (5, .d (cI.enc s144.2.2))] (by kernel_rfl) <| xn <| reg_s <| st rfl <| mvd rfl rfl <| ckI_k h fun i286 h => st rfl <| b_add (k := .i64) rfl rfl i286 <| x_asg (ss rfl rfl) <| seqN [(0, .d ((cLo (cXVariable cS cI)).enc ((s144.1.set (s144.2.2).toNat (⟨x272, x274.Levels⟩ : XVariable)).set (s144.2.2).toNat (⟨x282.Name, (s144.2.1 + (1 : Int))⟩ : XVariable)))), (1, .d (cI.enc ((s144.2.1 + (1 : Int)) + (1 : Int)))), (5, .d (cI.enc (s144.2.2 + (1 : Int))))] (by kernel_rfl) <|
    xn <| hn240 (((s144.1.set (s144.2.2).toNat (⟨x272, x274.Levels⟩ : XVariable)).set (s144.2.2).toNat (⟨x282.Name, (s144.2.1 + (1 : Int))⟩ : XVariable)), ((s144.2.1 + (1 : Int)) + (1 : Int)), (s144.2.2 + (1 : Int))) h)
    (fun b247 h => wpC_exit <| xt <| xt <| xt <| xb <| kpN [(0, .d ((cLo (cXVariable cS cI)).enc s144.1)), (1, .d (cI.enc s144.2.1))] (by kernel_rfl) <| xn <| wpC_seq <| reg_s <| st rfl <| mvd rfl rfl <| x_asg (ss rfl rfl) <| seqN [(0, .d ((cLo (cXVariable cS cI)).enc s144.1)), (4, .d (cI.enc s144.2.1))] (by kernel_rfl) <|
    xn <| wpC_ret <| re <| finO h (r1 (ss rfl rfl) <| r0) rfl rfl)

def os_laws_markIntS (r : ((List Int) × Int)) : D := (cLo cI).enc r.1
def rs_laws_markIntS (r : ((List Int) × Int)) : List D := [cI.enc r.2]
def m46 : MC := .seq (.reg [⟨some 4, .asg (.c (.int .i64 0)), none⟩] [0, 1])
  (.seq (.kp [0, 1] (.seq (.reg [⟨some 5, .asg (.c (.int .i64 0)), none⟩] [0, 1, 5])
  (.blk 0 (.loop (.seq (.kp [0, 1, 5] (.seq (.reg [⟨some 6, .mv (.t 5), none⟩,
    ⟨some 7, .mv (.t 0), none⟩,
    ⟨some 8, .len false (.t 7), none⟩,
    ⟨some 9, .bin .lss (.t 6) (.t 8), none⟩] [0, 1, 5, 9])
  (.cond (.t 9) (.skip) (.exit 0))))
  (.seq (.kp [0, 1, 5] (.blk 1 (.seq (.reg [⟨some 12, .mv (.t 0), none⟩,
    ⟨some 13, .mv (.t 5), none⟩,
    ⟨some 14, .mv (.t 1), none⟩,
    ⟨some 15, .ia 12 (.t 13) 1, none⟩,
    ⟨none, .st 15 (.t 14) 1, none⟩] [0, 1, 5])
  (.reg [⟨some 16, .mv (.t 1), none⟩,
    ⟨some 17, .bin .add (.t 16) (.c (.int .i64 1)), none⟩,
    ⟨some 1, .asg (.t 17), none⟩] [0, 1, 5]))))
  (.reg [⟨some 10, .mv (.t 5), none⟩,
    ⟨some 11, .bin .add (.t 10) (.c (.int .i64 1)), none⟩,
    ⟨some 5, .asg (.t 11), none⟩] [0, 1, 5])))))))
  (.seq (.reg [⟨some 18, .mv (.t 1), none⟩,
    ⟨some 4, .asg (.t 18), none⟩] [0, 4])
  (.ret)))
theorem con_laws_markIntS {v0 : (List Int)} {v1 : Int} {r : ((List Int) × Int)} (h : sh_laws_markIntS v0 v1 = some r) : Con Tryd.prog 46 [(cLo cI).enc v0, cI.enc v1] (outsOf (some (0, os_laws_markIntS r))) (rs_laws_markIntS r) := by
  delta sh_laws_markIntS at h
  refine top (out := some (0, os_laws_markIntS r)) (f := Tryd.f46) (m := m46) (rs := [.t 4]) (by kernel_rfl) rfl (by kernel_rfl) (by kernel_rfl) (by kernel_rfl) (by kernel_rfl) (by kernel_rfl) ?_
  exact
   ini [(0, .d ((cLo cI).enc v0)), (1, .d (cI.enc v1))] rfl <| wpC_seq <| reg_s <| x_asg (sc cI (0 : Int) rfl) <| seqN [(0, .d ((cLo cI).enc v0)), (1, .d (cI.enc v1))] (by kernel_rfl) <|
    xn <| wpC_seq <| wpC_kp <| wpC_seq <| reg_s <| x_asg (sc cI (0 : Int) rfl) <| seqN [(0, .d ((cLo cI).enc v0)), (1, .d (cI.enc v1)), (5, .d (cI.enc (0 : Int)))] (by kernel_rfl) <|
    xn <| wpC_blk <| lpF (fun (s72 : ((List Int) × Int × Int)) => [(0, .d ((cLo cI).enc s72.1)), (1, .d (cI.enc s72.2.1)), (5, .d (cI.enc s72.2.2))]) (v0, v1, (0 : Int)) rfl h
    fun G121 nx119 s72 hn120 h => wpC_seq <| wpC_kp <| wpC_seq <| reg_s <| st rfl <| mvd rfl rfl <| st rfl <| mvo rfl rfl <| stw rfl <| leno rfl fun l126 => st rfl <| b_lss (k := .i64) rfl rfl <| seqN [(0, .d ((cLo cI).enc s72.1)), (1, .d (cI.enc s72.2.1)), (5, .d (cI.enc s72.2.2)), (9, .d (cB.enc (decide (s72.2.2 < (s72.1.length : Int)))))] (by kernel_rfl) <|
    xn <| cnd rfl h (fun b127 h => wpC_skip <| kpN [(0, .d ((cLo cI).enc s72.1)), (1, .d (cI.enc s72.2.1)), (5, .d (cI.enc s72.2.2))] (by kernel_rfl) <| xn <| wpC_seq <| wpC_kp <| wpC_blk <| wpC_seq <| reg_s <| st rfl <| mvo rfl rfl <| st rfl <| mvd rfl rfl <| st rfl <| mvd rfl rfl <| getO_k h fun x138 i139 g140 h => st rfl <| iar rfl rfl rfl rfl i139 g140 rfl <| x_sta ((cLo cI).enc (s72.1.set (s72.2.2).toNat s72.2.1)) (ss rfl rfl) rfl rfl (Ln.idx g140 Ln.nil) (Cd.h_sz cI _) rfl <| seqN [(0, .d ((cLo cI).enc (s72.1.set (s72.2.2).toNat s72.2.1))), (1, .d (cI.enc s72.2.1)), (5, .d (cI.enc s72.2.2))] (by kernel_rfl) <|
    xn <| reg_s <| st rfl <| mvd rfl rfl <| ckI_k h fun i141 h => st rfl <| b_add (k := .i64) rfl rfl i141 <| x_asg (ss rfl rfl) <| seqN [(0, .d ((cLo cI).enc (s72.1.set (s72.2.2).toNat s72.2.1))), (1, .d (cI.enc (s72.2.1 + (1 : Int)))), (5, .d (cI.enc s72.2.2))] (by kernel_rfl) <|
    xbb <| kpN [(0, .d ((cLo cI).enc (s72.1.set (s72.2.2).toNat s72.2.1))), (1, .d (cI.enc (s72.2.1 + (1 : Int)))), (5, .d (cI.enc s72.2.2))] (by kernel_rfl) <| xn <| reg_s <| st rfl <| mvd rfl rfl <| ckI_k h fun i142 h => st rfl <| b_add (k := .i64) rfl rfl i142 <| x_asg (ss rfl rfl) <| seqN [(0, .d ((cLo cI).enc (s72.1.set (s72.2.2).toNat s72.2.1))), (1, .d (cI.enc (s72.2.1 + (1 : Int)))), (5, .d (cI.enc (s72.2.2 + (1 : Int))))] (by kernel_rfl) <|
    xn <| hn120 ((s72.1.set (s72.2.2).toNat s72.2.1), (s72.2.1 + (1 : Int)), (s72.2.2 + (1 : Int))) h)
    (fun b127 h => wpC_exit <| xt <| xt <| xt <| xb <| kpN [(0, .d ((cLo cI).enc s72.1)), (1, .d (cI.enc s72.2.1))] (by kernel_rfl) <| xn <| wpC_seq <| reg_s <| st rfl <| mvd rfl rfl <| x_asg (ss rfl rfl) <| seqN [(0, .d ((cLo cI).enc s72.1)), (4, .d (cI.enc s72.2.1))] (by kernel_rfl) <|
    xn <| wpC_ret <| re <| finO h (r1 (ss rfl rfl) <| r0) rfl rfl)

def os_laws_markEdit (r : (XEdit × Int)) : D := (cXEdit (cLo cI)).enc r.1
def rs_laws_markEdit (r : (XEdit × Int)) : List D := [cI.enc r.2]
def m22 : MC := .seq (.reg [⟨some 2, .boxm 0, none⟩,
    ⟨some 4, .asg (.c (.int .i64 0)), none⟩] [0, 1, 2])
  (.seq (.reg [⟨some 5, .fa 2 0 0, none⟩,
    ⟨some 6, .ld 5 1 false, none⟩,
    ⟨some 7, .mv (.t 1), none⟩,
    ⟨some 8, .callO 46 [(.t 6), (.t 7)], none⟩,
    ⟨some 1, .asg (.t 8), none⟩] [0, 1])
  (.seq (.reg [⟨some 9, .mv (.t 1), none⟩,
    ⟨some 4, .asg (.t 9), none⟩] [0, 4])
  (.ret)))
theorem con_laws_markEdit {v0 : XEdit} {v1 : Int} {r : (XEdit × Int)} (h : sh_laws_markEdit v0 v1 = some r) : Con Tryd.prog 22 [(cXEdit (cLo cI)).enc v0, cI.enc v1] (outsOf (some (0, os_laws_markEdit r))) (rs_laws_markEdit r) := by
  delta sh_laws_markEdit at h
  refine top (out := some (0, os_laws_markEdit r)) (f := Tryd.f22) (m := m22) (rs := [.t 4]) (by kernel_rfl) rfl (by kernel_rfl) (by kernel_rfl) (by kernel_rfl) (by kernel_rfl) (by kernel_rfl) ?_
  exact
   ini [(0, .d ((cXEdit (cLo cI)).enc v0)), (1, .d (cI.enc v1))] rfl <| wpC_seq <| reg_s <| x_boxm rfl rfl <| x_asg (sc cI (0 : Int) rfl) <| seqN [(0, .d ((cXEdit (cLo cI)).enc v0)), (1, .d (cI.enc v1)), (2, .mad 0 [])] (by kernel_rfl) <|
    xn <| wpC_seq <| reg_s <| st rfl <| fam rfl rfl rfl rfl rfl rfl <| st rfl <| ldmo rfl rfl rfl rfl rfl rfl <| st rfl <| mvd rfl rfl <| bnd h fun x3 e4 h => x_clr (c := (cLo cI)) (c' := (cLo cI)) ((cXEdit (cLo cI)).enc (⟨x3.1⟩ : XEdit)) (sLo sK) rfl (a1 (c := cI) tK rfl a0) rfl (Ln.fld rfl rfl Ln.nil rfl) (con_laws_markIntS e4) rfl rfl (so1 sK so0) <| x_asg (ss rfl rfl) <| seqN [(0, .d ((cXEdit (cLo cI)).enc (⟨x3.1⟩ : XEdit))), (1, .d (cI.enc x3.2))] (by kernel_rfl) <|
    xn <| wpC_seq <| reg_s <| st rfl <| mvd rfl rfl <| x_asg (ss rfl rfl) <| seqN [(0, .d ((cXEdit (cLo cI)).enc (⟨x3.1⟩ : XEdit))), (4, .d (cI.enc x3.2))] (by kernel_rfl) <|
    xn <| wpC_ret <| re <| finO h (r1 (ss rfl rfl) <| r0) rfl rfl

def rs_laws_heldIntS (r : Int) : List D := [cI.enc r]
def m47 : MC := .seq (.reg [⟨some 4, .asg (.c (.int .i64 0)), none⟩] [0, 1])
  (.seq (.kp [1] (.seq (.reg [⟨some 5, .asg (.c (.int .i64 0)), none⟩] [0, 1, 5])
  (.blk 0 (.loop (.seq (.kp [0, 1, 5] (.seq (.reg [⟨some 6, .mv (.t 5), none⟩,
    ⟨some 7, .mv (.t 0), none⟩,
    ⟨some 8, .len false (.t 7), none⟩,
    ⟨some 9, .bin .lss (.t 6) (.t 8), none⟩] [0, 1, 5, 9])
  (.cond (.t 9) (.skip) (.exit 0))))
  (.seq (.kp [0, 1, 5] (.blk 1 (.seq (.kp [0, 1, 5] (.seq (.reg [⟨some 12, .mv (.t 0), none⟩,
    ⟨some 13, .mv (.t 5), none⟩,
    ⟨some 14, .ia 12 (.t 13) 1, none⟩,
    ⟨some 15, .ld 14 1 false, none⟩,
    ⟨some 16, .mv (.t 1), none⟩,
    ⟨some 17, .bin .neq (.t 15) (.t 16), none⟩] [0, 1, 5, 17])
  (.cond (.t 17) (.seq (.reg [⟨some 4, .asg (.c (.int .i64 (-1))), none⟩] [4])
  (.ret)) (.skip))))
  (.reg [⟨some 18, .mv (.t 1), none⟩,
    ⟨some 19, .bin .add (.t 18) (.c (.int .i64 1)), none⟩,
    ⟨some 1, .asg (.t 19), none⟩] [0, 1, 5]))))
  (.reg [⟨some 10, .mv (.t 5), none⟩,
    ⟨some 11, .bin .add (.t 10) (.c (.int .i64 1)), none⟩,
    ⟨some 5, .asg (.t 11), none⟩] [0, 1, 5])))))))
  (.seq (.reg [⟨some 20, .mv (.t 1), none⟩,
    ⟨some 4, .asg (.t 20), none⟩] [4])
  (.ret)))
theorem con_laws_heldIntS {v0 : (List Int)} {v1 : Int} {r : Int} (h : sh_laws_heldIntS v0 v1 = some r) : Con Tryd.prog 47 [(cLs cI rfl).enc v0, cI.enc v1] [] (rs_laws_heldIntS r) := by
  delta sh_laws_heldIntS at h
  refine top (out := none) (f := Tryd.f47) (m := m47) (rs := [.t 4]) (by kernel_rfl) rfl (by kernel_rfl) (by kernel_rfl) (by kernel_rfl) (by kernel_rfl) (by kernel_rfl) ?_
  exact
   ini [(0, .d ((cLs cI rfl).enc v0)), (1, .d (cI.enc v1))] rfl <| wpC_seq <| reg_s <| x_asg (sc cI (0 : Int) rfl) <| seqN [(0, .d ((cLs cI rfl).enc v0)), (1, .d (cI.enc v1))] (by kernel_rfl) <|
    xn <| wpC_seq <| wpC_kp <| wpC_seq <| reg_s <| x_asg (sc cI (0 : Int) rfl) <| seqN [(0, .d ((cLs cI rfl).enc v0)), (1, .d (cI.enc v1)), (5, .d (cI.enc (0 : Int)))] (by kernel_rfl) <|
    xn <| wpC_blk <| lpF (fun (s120 : (Int × Int)) => [(0, .d ((cLs cI rfl).enc v0)), (1, .d (cI.enc s120.1)), (5, .d (cI.enc s120.2))]) (v1, (0 : Int)) rfl h
    fun G201 nx199 s120 hn200 h => wpC_seq <| wpC_kp <| wpC_seq <| reg_s <| st rfl <| mvd rfl rfl <| st rfl <| mvd rfl rfl <| stw rfl <| lens rfl fun l206 => st rfl <| b_lss (k := .i64) rfl rfl <| seqN [(0, .d ((cLs cI rfl).enc v0)), (1, .d (cI.enc s120.1)), (5, .d (cI.enc s120.2)), (9, .d (cB.enc (decide (s120.2 < (v0.length : Int)))))] (by kernel_rfl) <|
    xn <| cnd rfl h (fun b207 h => wpC_skip <| kpN [(0, .d ((cLs cI rfl).enc v0)), (1, .d (cI.enc s120.1)), (5, .d (cI.enc s120.2))] (by kernel_rfl) <| xn <| wpC_seq <| wpC_kp <| wpC_blk <| wpC_seq <| wpC_kp <| wpC_seq <| reg_s <| st rfl <| mvd rfl rfl <| st rfl <| mvd rfl rfl <| getO_k h fun x233 i234 g235 h => st rfl <| ias rfl rfl i234 g235 rfl <| st rfl <| ldi rfl rfl rfl rfl <| st rfl <| mvd rfl rfl <| st rfl <| b_neq (k := .i64) rfl rfl <| seqN [(0, .d ((cLs cI rfl).enc v0)), (1, .d (cI.enc s120.1)), (5, .d (cI.enc s120.2)), (17, .d (cB.enc (decide (x233 ≠ s120.1))))] (by kernel_rfl) <|
    xn <| cnd rfl h (fun b236 h => wpC_seq <| reg_s <| x_asg (sc cI (-1 : Int) rfl) <| seqN [(4, .d (cI.enc (-1 : Int)))] (by kernel_rfl) <|
    xn <| wpC_ret <| rt <| rt <| rb <| rt <| rt <| rt <| rb <| rt <| rt <| re <| fin h (r1 (ss rfl rfl) <| r0) rfl)
    (fun b236 h => wpC_skip <| kpN [(0, .d ((cLs cI rfl).enc v0)), (1, .d (cI.enc s120.1)), (5, .d (cI.enc s120.2))] (by kernel_rfl) <| xn <| reg_s <| st rfl <| mvd rfl rfl <| ckI_k h fun i237 h => st rfl <| b_add (k := .i64) rfl rfl i237 <| x_asg (ss rfl rfl) <| seqN [(0, .d ((cLs cI rfl).enc v0)), (1, .d (cI.enc (s120.1 + (1 : Int)))), (5, .d (cI.enc s120.2))] (by kernel_rfl) <|
    xbb <| kpN [(0, .d ((cLs cI rfl).enc v0)), (1, .d (cI.enc (s120.1 + (1 : Int)))), (5, .d (cI.enc s120.2))] (by kernel_rfl) <| xn <| reg_s <| st rfl <| mvd rfl rfl <| ckI_k h fun i238 h => st rfl <| b_add (k := .i64) rfl rfl i238 <| x_asg (ss rfl rfl) <| seqN [(0, .d ((cLs cI rfl).enc v0)), (1, .d (cI.enc (s120.1 + (1 : Int)))), (5, .d (cI.enc (s120.2 + (1 : Int))))] (by kernel_rfl) <|
    xn <| hn200 ((s120.1 + (1 : Int)), (s120.2 + (1 : Int))) h))
    (fun b207 h => wpC_exit <| xt <| xt <| xt <| xb <| kpN [(1, .d (cI.enc s120.1))] (by kernel_rfl) <| xn <| wpC_seq <| reg_s <| st rfl <| mvd rfl rfl <| x_asg (ss rfl rfl) <| seqN [(4, .d (cI.enc s120.1))] (by kernel_rfl) <|
    xn <| wpC_ret <| re <| fin h (r1 (ss rfl rfl) <| r0) rfl)

def rs_laws_heldEdit (r : Int) : List D := [cI.enc r]
def m23 : MC := .seq (.reg [⟨some 2, .box (.t 0), none⟩,
    ⟨some 4, .asg (.c (.int .i64 0)), none⟩] [1, 2])
  (.seq (.reg [⟨some 5, .fa 2 0 0, none⟩,
    ⟨some 6, .ld 5 1 false, none⟩,
    ⟨some 7, .mv (.t 1), none⟩,
    ⟨some 8, .call 47 [(.t 6), (.t 7)], none⟩,
    ⟨some 1, .asg (.t 8), none⟩] [1])
  (.seq (.kp [1] (.seq (.reg [⟨some 9, .mv (.t 1), none⟩,
    ⟨some 10, .bin .lss (.t 9) (.c (.int .i64 0)), none⟩] [1, 10])
  (.cond (.t 10) (.seq (.reg [⟨some 4, .asg (.c (.int .i64 (-1))), none⟩] [4])
  (.ret)) (.skip))))
  (.seq (.reg [⟨some 11, .mv (.t 1), none⟩,
    ⟨some 4, .asg (.t 11), none⟩] [4])
  (.ret))))
theorem con_laws_heldEdit {v0 : XEdit} {v1 : Int} {r : Int} (h : sh_laws_heldEdit v0 v1 = some r) : Con Tryd.prog 23 [(cXEdit (cLs cI rfl)).enc v0, cI.enc v1] [] (rs_laws_heldEdit r) := by
  delta sh_laws_heldEdit at h
  refine top (out := none) (f := Tryd.f23) (m := m23) (rs := [.t 4]) (by kernel_rfl) rfl (by kernel_rfl) (by kernel_rfl) (by kernel_rfl) (by kernel_rfl) (by kernel_rfl) ?_
  exact
   ini [(0, .d ((cXEdit (cLs cI rfl)).enc v0)), (1, .d (cI.enc v1))] rfl <| wpC_seq <| reg_s <| x_box (ss rfl rfl) <| x_asg (sc cI (0 : Int) rfl) <| seqN [(1, .d (cI.enc v1)), (2, .box ((cXEdit (cLs cI rfl)).enc v0))] (by kernel_rfl) <|
    xn <| wpC_seq <| reg_s <| st rfl <| fab rfl rfl rfl rfl <| st rfl <| lda rfl rfl rfl rfl rfl rfl <| st rfl <| mvd rfl rfl <| bnd h fun x3 e4 h => st rfl <| o_call (a1 (c := (cLs cI rfl)) (tLs tK) rfl (a1 (c := cI) tK rfl a0)) (con_laws_heldIntS e4) (.inl (so1 sK so0)) <| x_asg (ss rfl rfl) <| seqN [(1, .d (cI.enc x3))] (by kernel_rfl) <|
    xn <| wpC_seq <| wpC_kp <| wpC_seq <| reg_s <| st rfl <| mvd rfl rfl <| st rfl <| b_lss (k := .i64) rfl rfl <| seqN [(1, .d (cI.enc x3)), (10, .d (cB.enc (decide (x3 < (0 : Int)))))] (by kernel_rfl) <|
    xn <| cnd rfl h (fun b6 h => wpC_seq <| reg_s <| x_asg (sc cI (-1 : Int) rfl) <| seqN [(4, .d (cI.enc (-1 : Int)))] (by kernel_rfl) <|
    xn <| wpC_ret <| rt <| rt <| re <| fin h (r1 (ss rfl rfl) <| r0) rfl)
    (fun b6 h => wpC_skip <| kpN [(1, .d (cI.enc x3))] (by kernel_rfl) <| xn <| wpC_seq <| reg_s <| st rfl <| mvd rfl rfl <| x_asg (ss rfl rfl) <| seqN [(4, .d (cI.enc x3))] (by kernel_rfl) <|
    xn <| wpC_ret <| re <| fin h (r1 (ss rfl rfl) <| r0) rfl)

def rs_laws_FnExactParseEdit (r : Bool) : List D := [cB.enc r]
def m4 : MC := .seq (.reg [⟨some 4, .asg (.c (.bool false)), none⟩] [0, 1])
  (.seq (.kp [0, 1] (.seq (.reg [⟨some 16, .mv (.t 1), none⟩,
    ⟨some 17, .len true (.t 16), none⟩,
    ⟨some 18, .bin .gtr (.t 17) (.c (.int .i64 1048576)), none⟩] [0, 1, 18])
  (.cond (.t 18) (.seq (.reg [⟨some 4, .asg (.c (.bool true)), none⟩] [4])
  (.ret)) (.skip))))
  (.seq (.reg [⟨some 5, .asg (.c (.int .i64 1048576)), none⟩] [0, 1, 5])
  (.seq (.reg [⟨some 19, .mv (.t 0), none⟩,
    ⟨some 20, .mv (.t 5), none⟩,
    ⟨some 21, .call 6 [(.t 19), (.t 20)], none⟩,
    ⟨some 5, .asg (.t 21), none⟩] [0, 1, 5])
  (.seq (.kp [0, 1] (.seq (.reg [⟨some 22, .mv (.t 5), none⟩,
    ⟨some 23, .bin .lss (.t 22) (.c (.int .i64 0)), none⟩] [0, 1, 23])
  (.cond (.t 23) (.seq (.reg [⟨some 4, .asg (.c (.bool true)), none⟩] [4])
  (.ret)) (.skip))))
  (.seq (.reg [⟨some 25, .mv (.t 0), none⟩,
    ⟨some 26, .call 10 [(.t 25)], none⟩,
    ⟨some 27, .mv (.t 1), none⟩,
    ⟨some 28, .call 18 [(.t 26), (.t 27)], none⟩,
    ⟨some 24, .mvt 28, none⟩,
    ⟨some 29, .ext 24 0, none⟩,
    ⟨some 30, .ext 24 1, none⟩,
    ⟨some 6, .alloc (.agg [.slice true []]), none⟩,
    ⟨none, .st 6 (.t 29) 1, none⟩,
    ⟨some 7, .asg (.t 30), none⟩] [0, 1, 6, 7])
  (.seq (.reg [⟨some 31, .mv (.t 0), none⟩,
    ⟨some 32, .call 10 [(.t 31)], none⟩,
    ⟨some 8, .asg (.t 32), none⟩] [0, 1, 6, 7, 8])
  (.seq (.reg [⟨some 34, .mv (.t 8), none⟩,
    ⟨some 35, .mv (.t 1), none⟩,
    ⟨some 36, .call 19 [(.t 34), (.t 35)], none⟩,
    ⟨some 33, .mvt 36, none⟩,
    ⟨some 37, .ext 33 0, none⟩,
    ⟨some 38, .ext 33 1, none⟩,
    ⟨some 9, .alloc (.agg [.slice true []]), none⟩,
    ⟨none, .st 9 (.t 37) 1, none⟩,
    ⟨some 10, .asg (.t 38), none⟩] [0, 1, 6, 7, 8, 9, 10])
  (.seq (.kp [0, 1, 6, 7, 8, 9, 10] (.seq (.reg [⟨some 39, .ld 9 1 true, none⟩,
    ⟨some 40, .ld 6 1 true, none⟩,
    ⟨some 41, .call 20 [(.t 39), (.t 40)], none⟩,
    ⟨some 42, .nt (.t 41), none⟩,
    ⟨some 43, .mv (.t 42), none⟩,
    ⟨some 44, .mv (.t 10), some (43, false)⟩,
    ⟨some 45, .mv (.t 7), some (43, false)⟩,
    ⟨some 46, .eqb true (.t 44) (.t 45), some (43, false)⟩,
    ⟨some 47, .pick (.t 43) (.c (.bool true)) (.t 46), none⟩] [0, 1, 6, 7, 8, 9, 10, 47])
  (.cond (.t 47) (.seq (.reg [⟨some 4, .asg (.c (.bool false)), none⟩] [4])
  (.ret)) (.skip))))
  (.seq (.kp [0, 1, 6, 7, 8, 9, 10] (.seq (.reg [⟨some 48, .mv (.t 8), none⟩,
    ⟨some 49, .mv (.t 0), none⟩,
    ⟨some 50, .call 10 [(.t 49)], none⟩,
    ⟨some 51, .call 15 [(.t 48), (.t 50)], none⟩,
    ⟨some 52, .nt (.t 51), none⟩] [0, 1, 6, 7, 8, 9, 10, 52])
  (.cond (.t 52) (.seq (.reg [⟨some 4, .asg (.c (.bool false)), none⟩] [4])
  (.ret)) (.skip))))
  (.seq (.reg [⟨some 11, .asg (.c (.int .i64 1)), none⟩] [0, 1, 6, 7, 8, 9, 10, 11])
  (.seq (.reg [⟨some 53, .mv (.t 8), none⟩,
    ⟨some 54, .mv (.t 11), none⟩,
    ⟨some 55, .callO 21 [(.t 53), (.t 54)], none⟩,
    ⟨some 11, .asg (.t 55), none⟩] [0, 1, 6, 7, 9, 10, 11])
  (.seq (.kp [0, 1, 6, 7, 9] (.seq (.reg [⟨some 56, .mv (.t 11), none⟩,
    ⟨some 57, .bin .lss (.t 56) (.c (.int .i64 0)), none⟩,
    ⟨some 58, .mv (.t 57), none⟩,
    ⟨some 59, .ld 9 1 true, some (58, false)⟩,
    ⟨some 60, .ld 6 1 true, some (58, false)⟩,
    ⟨some 61, .call 20 [(.t 59), (.t 60)], some (58, false)⟩,
    ⟨some 62, .nt (.t 61), some (58, false)⟩,
    ⟨some 63, .pick (.t 58) (.c (.bool true)) (.t 62), none⟩,
    ⟨some 64, .mv (.t 63), none⟩,
    ⟨some 65, .mv (.t 10), some (64, false)⟩,
    ⟨some 66, .mv (.t 7), some (64, false)⟩,
    ⟨some 67, .eqb true (.t 65) (.t 66), some (64, false)⟩,
    ⟨some 68, .pick (.t 64) (.c (.bool true)) (.t 67), none⟩] [0, 1, 6, 7, 9, 68])
  (.cond (.t 68) (.seq (.reg [⟨some 4, .asg (.c (.bool false)), none⟩] [4])
  (.ret)) (.skip))))
  (.seq (.reg [⟨some 12, .asg (.c (.int .i64 1)), none⟩] [0, 1, 6, 7, 9, 12])
  (.seq (.reg [⟨some 69, .ld 9 1 true, none⟩,
    ⟨some 70, .mv (.t 12), none⟩,
    ⟨some 71, .callO 22 [(.t 69), (.t 70)], none⟩,
    ⟨some 12, .asg (.t 71), none⟩] [0, 1, 6, 7, 9, 12])
  (.seq (.reg [⟨some 13, .asg (.c (.int .i64 1)), none⟩] [0, 1, 6, 7, 9, 12, 13])
  (.seq (.reg [⟨some 72, .ld 9 1 true, none⟩,
    ⟨some 73, .mv (.t 13), none⟩,
    ⟨some 74, .call 23 [(.t 72), (.t 73)], none⟩,
    ⟨some 13, .asg (.t 74), none⟩] [0, 1, 6, 7, 9, 12, 13])
  (.seq (.kp [0, 1, 6, 7, 9, 12, 13] (.seq (.reg [⟨some 75, .mv (.t 13), none⟩,
    ⟨some 76, .bin .lss (.t 75) (.c (.int .i64 0)), none⟩] [0, 1, 6, 7, 9, 12, 13, 76])
  (.cond (.t 76) (.seq (.reg [⟨some 4, .asg (.c (.bool false)), none⟩] [4])
  (.ret)) (.skip))))
  (.seq (.kp [0, 1, 6, 7, 9, 12] (.seq (.reg [⟨some 77, .mv (.t 13), none⟩,
    ⟨some 78, .mv (.t 12), none⟩,
    ⟨some 79, .bin .neq (.t 77) (.t 78), none⟩] [0, 1, 6, 7, 9, 12, 79])
  (.cond (.t 79) (.seq (.reg [⟨some 4, .asg (.c (.bool false)), none⟩] [4])
  (.ret)) (.skip))))
  (.seq (.reg [⟨some 81, .mv (.t 0), none⟩,
    ⟨some 82, .call 10 [(.t 81)], none⟩,
    ⟨some 83, .mv (.t 1), none⟩,
    ⟨some 84, .call 19 [(.t 82), (.t 83)], none⟩,
    ⟨some 80, .mvt 84, none⟩,
    ⟨some 85, .ext 80 0, none⟩,
    ⟨some 86, .ext 80 1, none⟩,
    ⟨some 14, .alloc (.agg [.slice true []]), none⟩,
    ⟨none, .st 14 (.t 85) 1, none⟩,
    ⟨some 15, .asg (.t 86), none⟩] [6, 7, 9, 12, 14, 15])
  (.seq (.kp [9, 12] (.seq (.reg [⟨some 87, .ld 14 1 true, none⟩,
    ⟨some 88, .ld 6 1 true, none⟩,
    ⟨some 89, .call 20 [(.t 87), (.t 88)], none⟩,
    ⟨some 90, .nt (.t 89), none⟩,
    ⟨some 91, .mv (.t 90), none⟩,
    ⟨some 92, .mv (.t 15), some (91, false)⟩,
    ⟨some 93, .mv (.t 7), some (91, false)⟩,
    ⟨some 94, .eqb true (.t 92) (.t 93), some (91, false)⟩,
    ⟨some 95, .pick (.t 91) (.c (.bool true)) (.t 94), none⟩] [9, 12, 95])
  (.cond (.t 95) (.seq (.reg [⟨some 4, .asg (.c (.bool false)), none⟩] [4])
  (.ret)) (.skip))))
  (.seq (.reg [⟨some 13, .asg (.c (.int .i64 1)), none⟩] [9, 12, 13])
  (.seq (.reg [⟨some 96, .ld 9 1 true, none⟩,
    ⟨some 97, .mv (.t 13), none⟩,
    ⟨some 98, .call 23 [(.t 96), (.t 97)], none⟩,
    ⟨some 13, .asg (.t 98), none⟩] [12, 13])
  (.seq (.kp [12, 13] (.seq (.reg [⟨some 99, .mv (.t 13), none⟩,
    ⟨some 100, .bin .lss (.t 99) (.c (.int .i64 0)), none⟩] [12, 13, 100])
  (.cond (.t 100) (.seq (.reg [⟨some 4, .asg (.c (.bool false)), none⟩] [4])
  (.ret)) (.skip))))
  (.seq (.kp [] (.seq (.reg [⟨some 101, .mv (.t 13), none⟩,
    ⟨some 102, .mv (.t 12), none⟩,
    ⟨some 103, .bin .neq (.t 101) (.t 102), none⟩] [103])
  (.cond (.t 103) (.seq (.reg [⟨some 4, .asg (.c (.bool false)), none⟩] [4])
  (.ret)) (.skip))))
  (.seq (.reg [⟨some 4, .asg (.c (.bool true)), none⟩] [4])
  (.ret))))))))))))))))))))))))))
theorem con_laws_FnExactParseEdit {v0 : (List XVariable)} {v1 : (List UInt8)} {r : Bool} (h : sh_laws_FnExactParseEdit v0 v1 = some r) : Con Tryd.prog 4 [(cLs (cXVariable cS cI) rfl).enc v0, cS.enc v1] [] (rs_laws_FnExactParseEdit r) := by
  delta sh_laws_FnExactParseEdit at h
  refine top (out := none) (f := Tryd.f4) (m := m4) (rs := [.t 4]) (by kernel_rfl) rfl (by kernel_rfl) (by kernel_rfl) (by kernel_rfl) (by kernel_rfl) (by kernel_rfl) ?_
  exact
   ini [(0, .d ((cLs (cXVariable cS cI) rfl).enc v0)), (1, .d (cS.enc v1))] rfl <| wpC_seq <| reg_s <| x_asg (sc cB false rfl) <| seqN [(0, .d ((cLs (cXVariable cS cI) rfl).enc v0)), (1, .d (cS.enc v1))] (by kernel_rfl) <|
    xn <| wpC_seq <| wpC_kp <| wpC_seq <| reg_s <| st rfl <| mvd rfl rfl <| stw rfl <| lent rfl fun l5 => st rfl <| b_gtr (k := .i64) rfl rfl <| seqN [(0, .d ((cLs (cXVariable cS cI) rfl).enc v0)), (1, .d (cS.enc v1)), (18, .d (cB.enc (decide ((1048576 : Int) < (v1.length : Int)))))] (by kernel_rfl) <|
    xn <| cnd rfl h (fun b6 h => wpC_seq <| reg_s <| x_asg (sc cB true rfl) <| seqN [(4, .d (cB.enc true))] (by kernel_rfl) <|
    xn <| wpC_ret <| rt <| rt <| re <| fin h (r1 (ss rfl rfl) <| r0) rfl)
    (fun b6 h => wpC_skip <| kpN [(0, .d ((cLs (cXVariable cS cI) rfl).enc v0)), (1, .d (cS.enc v1))] (by kernel_rfl) <| xn <| wpC_seq <| reg_s <| x_asg (sc cI (1048576 : Int) rfl) <| seqN [(0, .d ((cLs (cXVariable cS cI) rfl).enc v0)), (1, .d (cS.enc v1)), (5, .d (cI.enc (1048576 : Int)))] (by kernel_rfl) <|
    xn <| wpC_seq <| reg_s <| st rfl <| mvd rfl rfl <| st rfl <| mvd rfl rfl <| bnd h fun x9 e10 h => st rfl <| o_call (a1 (c := (cLs (cXVariable cS cI) rfl)) (tLs (tXVariable tS tK)) rfl (a1 (c := cI) tK rfl a0)) (con_laws_szVariableS e10) (.inl (so1 sK so0)) <| x_asg (ss rfl rfl) <| seqN [(0, .d ((cLs (cXVariable cS cI) rfl).enc v0)), (1, .d (cS.enc v1)), (5, .d (cI.enc x9))] (by kernel_rfl) <|
    xn <| wpC_seq <| wpC_kp <| wpC_seq <| reg_s <| st rfl <| mvd rfl rfl <| st rfl <| b_lss (k := .i64) rfl rfl <| seqN [(0, .d ((cLs (cXVariable cS cI) rfl).enc v0)), (1, .d (cS.enc v1)), (23, .d (cB.enc (decide (x9 < (0 : Int)))))] (by kernel_rfl) <|
    xn <| cnd rfl h (fun b12 h => wpC_seq <| reg_s <| x_asg (sc cB true rfl) <| seqN [(4, .d (cB.enc true))] (by kernel_rfl) <|
    xn <| wpC_ret <| rt <| rt <| re <| fin h (r1 (ss rfl rfl) <| r0) rfl)
    (fun b12 h => wpC_skip <| kpN [(0, .d ((cLs (cXVariable cS cI) rfl).enc v0)), (1, .d (cS.enc v1))] (by kernel_rfl) <| xn <| wpC_seq <| reg_s <| st rfl <| mvd rfl rfl <| bnd h fun x17 e18 h => st rfl <| o_call (a1 (c := (cLs (cXVariable cS cI) rfl)) (tLs (tXVariable tS tK)) rfl a0) (con_laws_toVariableS e18) (.inl (so1 (sLo (sXVariable sS sK)) so0)) <| st rfl <| mvd rfl rfl <| bnd h fun x19 e20 h => st rfl <| o_call (a1 (c := (cLo (cXVariable cS cI))) (tLo (tXVariable tS tK)) rfl (a1 (c := cS) tS rfl a0)) (con_spec_ParseEdit e20) (.inl (so1 (sXEdit (sLo sK)) (so1 sB so0))) <| x_mvt rfl <| x_ext rfl rfl <| x_ext rfl rfl <| x_all (cXEdit (cLo cI)) (⟨([] : List Int)⟩ : XEdit) rfl <| x_stb (so rfl rfl) rfl (Cd.h_sz _ _) rfl <| x_asg (ss rfl rfl) <| seqN [(0, .d ((cLs (cXVariable cS cI) rfl).enc v0)), (1, .d (cS.enc v1)), (6, .box ((cXEdit (cLo cI)).enc x19.1)), (7, .d (cB.enc x19.2))] (by kernel_rfl) <|
    xn <| wpC_seq <| reg_s <| st rfl <| mvd rfl rfl <| bnd h fun x23 e24 h => st rfl <| o_call (a1 (c := (cLs (cXVariable cS cI) rfl)) (tLs (tXVariable tS tK)) rfl a0) (con_laws_toVariableS e24) (.inl (so1 (sLo (sXVariable sS sK)) so0)) <| x_asg (so rfl rfl) <| seqN [(0, .d ((cLs (cXVariable cS cI) rfl).enc v0)), (1, .d (cS.enc v1)), (6, .box ((cXEdit (cLo cI)).enc x19.1)), (7, .d (cB.enc x19.2)), (8, .d ((cLo (cXVariable cS cI)).enc x23))] (by kernel_rfl) <|
    xn <| wpC_seq <| reg_s <| st rfl <| mvo rfl rfl <| st rfl <| mvd rfl rfl <| bnd h fun x27 e28 h => st rfl <| o_call (a1 (c := (cLo (cXVariable cS cI))) (tLo (tXVariable tS tK)) rfl (a1 (c := cS) tS rfl a0)) (con_impl_ParseEdit e28) (.inl (so1 (sXEdit (sLo sK)) (so1 sB so0))) <| x_mvt rfl <| x_ext rfl rfl <| x_ext rfl rfl <| x_all (cXEdit (cLo cI)) (⟨([] : List Int)⟩ : XEdit) rfl <| x_stb (so rfl rfl) rfl (Cd.h_sz _ _) rfl <| x_asg (ss rfl rfl) <| seqN [(0, .d ((cLs (cXVariable cS cI) rfl).enc v0)), (1, .d (cS.enc v1)), (6, .box ((cXEdit (cLo cI)).enc x19.1)), (7, .d (cB.enc x19.2)), (8, .d ((cLo (cXVariable cS cI)).enc x23)), (9, .box ((cXEdit (cLo cI)).enc x27.1)), (10, .d (cB.enc x27.2))] (by kernel_rfl) <|
    xn <| wpC_seq <| wpC_kp <| wpC_seq <| reg_s <| st rfl <| ldbo rfl rfl rfl rfl <| st rfl <| ldbo rfl rfl rfl rfl <| bnd h fun x39 e40 h => st rfl <| o_call (a1 (c := (cXEdit (cLo cI))) (tXEdit (tLo tK)) rfl (a1 (c := (cXEdit (cLo cI))) (tXEdit (tLo tK)) rfl a0)) (con_laws_eqEdit e40) (.inl (so1 sB so0)) <| st rfl <| o_nt rfl <| st rfl <| mvd rfl rfl <| ite_k h (fun b41 h => gf rfl b41 <| gf rfl b41 <| gf rfl b41 <| st rfl <| pick1 rfl b41 (cd := cB) (v := true) rfl rfl <| seqN [(0, .d ((cLs (cXVariable cS cI) rfl).enc v0)), (1, .d (cS.enc v1)), (6, .box ((cXEdit (cLo cI)).enc x19.1)), (7, .d (cB.enc x19.2)), (8, .d ((cLo (cXVariable cS cI)).enc x23)), (9, .box ((cXEdit (cLo cI)).enc x27.1)), (10, .d (cB.enc x27.2)), (47, .d (cB.enc true))] (by kernel_rfl) <|
    xn <| cnd1 rfl rfl <| wpC_seq <| reg_s <| x_asg (sc cB false rfl) <| seqN [(4, .d (cB.enc false))] (by kernel_rfl) <|
    xn <| wpC_ret <| rt <| rt <| re <| fin h (r1 (ss rfl rfl) <| r0) rfl)
    (fun b41 h => gt' rfl b41 <| st rfl <| mvd rfl rfl <| gt' rfl b41 <| st rfl <| mvd rfl rfl <| gt' rfl b41 <| st rfl <| eqb1 rfl rfl <| st rfl <| pick0 rfl b41 (cd := cB) (v := (x27.2 != x19.2)) rfl rfl <| seqN [(0, .d ((cLs (cXVariable cS cI) rfl).enc v0)), (1, .d (cS.enc v1)), (6, .box ((cXEdit (cLo cI)).enc x19.1)), (7, .d (cB.enc x19.2)), (8, .d ((cLo (cXVariable cS cI)).enc x23)), (9, .box ((cXEdit (cLo cI)).enc x27.1)), (10, .d (cB.enc x27.2)), (47, .d (cB.enc (x27.2 != x19.2)))] (by kernel_rfl) <|
    xn <| cnd rfl h (fun b42 h => wpC_seq <| reg_s <| x_asg (sc cB false rfl) <| seqN [(4, .d (cB.enc false))] (by kernel_rfl) <|
    xn <| wpC_ret <| rt <| rt <| re <| fin h (r1 (ss rfl rfl) <| r0) rfl)
    (fun b42 h => wpC_skip <| kpN [(0, .d ((cLs (cXVariable cS cI) rfl).enc v0)), (1, .d (cS.enc v1)), (6, .box ((cXEdit (cLo cI)).enc x19.1)), (7, .d (cB.enc x19.2)), (8, .d ((cLo (cXVariable cS cI)).enc x23)), (9, .box ((cXEdit (cLo cI)).enc x27.1)), (10, .d (cB.enc x27.2))] (by kernel_rfl) <| xn <| wpC_seq <| wpC_kp <| wpC_seq <| reg_s <| st rfl <| mvo rfl rfl <| st rfl <| mvd rfl rfl <| bnd h fun x56 e57 h => st rfl <| o_call (a1 (c := (cLs (cXVariable cS cI) rfl)) (tLs (tXVariable tS tK)) rfl a0) (con_laws_toVariableS e57) (.inl (so1 (sLo (sXVariable sS sK)) so0)) <| bnd h fun x58 e59 h => st rfl <| o_call (a1 (c := (cLo (cXVariable cS cI))) (tLo (tXVariable tS tK)) rfl (a1 (c := (cLo (cXVariable cS cI))) (tLo (tXVariable tS tK)) rfl a0)) (con_laws_eqVariableS e59) (.inl (so1 sB so0)) <| st rfl <| o_nt rfl <| seqN [(0, .d ((cLs (cXVariable cS cI) rfl).enc v0)), (1, .d (cS.enc v1)), (6, .box ((cXEdit (cLo cI)).enc x19.1)), (7, .d (cB.enc x19.2)), (8, .d ((cLo (cXVariable cS cI)).enc x23)), (9, .box ((cXEdit (cLo cI)).enc x27.1)), (10, .d (cB.enc x27.2)), (52, .d (cB.enc (!x58)))] (by kernel_rfl) <|
    xn <| cnd rfl h (fun b60 h => wpC_seq <| reg_s <| x_asg (sc cB false rfl) <| seqN [(4, .d (cB.enc false))] (by kernel_rfl) <|
    xn <| wpC_ret <| rt <| rt <| re <| fin h (r1 (ss rfl rfl) <| r0) rfl)
    (fun b60 h => wpC_skip <| kpN [(0, .d ((cLs (cXVariable cS cI) rfl).enc v0)), (1, .d (cS.enc v1)), (6, .box ((cXEdit (cLo cI)).enc x19.1)), (7, .d (cB.enc x19.2)), (8, .d ((cLo (cXVariable cS cI)).enc x23)), (9, .box ((cXEdit (cLo cI)).enc x27.1)), (10, .d (cB.enc x27.2))] (by kernel_rfl) <| xn <| wpC_seq <| reg_s <| x_asg (sc cI (1 : Int) rfl) <| seqN [(0, .d ((cLs (cXVariable cS cI) rfl).enc v0)), (1, .d (cS.enc v1)), (6, .box ((cXEdit (cLo cI)).enc x19.1)), (7, .d (cB.enc x19.2)), (8, .d ((cLo (cXVariable cS cI)).enc x23)), (9, .box ((cXEdit (cLo cI)).enc x27.1)), (10, .d (cB.enc x27.2)), (11, .d (cI.enc (1 : Int)))] (by kernel_rfl) <|
    xn <| wpC_seq <| reg_s <| st rfl <| mvo rfl rfl <| st rfl <| mvd rfl rfl <| bnd h fun x63 e64 h => x_clr (c := (cLo (cXVariable cS cI))) (c' := (cLo (cXVariable cS cI))) ((cLo (cXVariable cS cI)).enc x63.1) (sLo (sXVariable sS sK)) rfl (a1 (c := cI) tK rfl a0) rfl Ln.nil (con_laws_markVariableS e64) rfl rfl (so1 sK so0) <| x_asg (ss rfl rfl) <| seqN [(0, .d ((cLs (cXVariable cS cI) rfl).enc v0)), (1, .d (cS.enc v1)), (6, .box ((cXEdit (cLo cI)).enc x19.1)), (7, .d (cB.enc x19.2)), (9, .box ((cXEdit (cLo cI)).enc x27.1)), (10, .d (cB.enc x27.2)), (11, .d (cI.enc x63.2))] (by kernel_rfl) <|
    xn <| wpC_seq <| wpC_kp <| wpC_seq <| reg_s <| st rfl <| mvd rfl rfl <| st rfl <| b_lss (k := .i64) rfl rfl <| st rfl <| mvd rfl rfl <| ite_k h (fun b77 h => gf rfl b77 <| gf rfl b77 <| gf rfl b77 <| gf rfl b77 <| st rfl <| pick1 rfl b77 (cd := cB) (v := true) rfl rfl <| st rfl <| mvd rfl rfl <| gf rfl rfl <| gf rfl rfl <| gf rfl rfl <| st rfl <| pick1 rfl rfl (cd := cB) (v := true) rfl rfl <| seqN [(0, .d ((cLs (cXVariable cS cI) rfl).enc v0)), (1, .d (cS.enc v1)), (6, .box ((cXEdit (cLo cI)).enc x19.1)), (7, .d (cB.enc x19.2)), (9, .box ((cXEdit (cLo cI)).enc x27.1)), (68, .d (cB.enc true))] (by kernel_rfl) <|
    xn <| cnd1 rfl rfl <| wpC_seq <| reg_s <| x_asg (sc cB false rfl) <| seqN [(4, .d (cB.enc false))] (by kernel_rfl) <|
    xn <| wpC_ret <| rt <| rt <| re <| fin h (r1 (ss rfl rfl) <| r0) rfl)
    (fun b77 h => gt' rfl b77 <| st rfl <| ldbo rfl rfl rfl rfl <| gt' rfl b77 <| st rfl <| ldbo rfl rfl rfl rfl <| gt' rfl b77 <| bnd h fun x78 e79 h => st rfl <| o_call (a1 (c := (cXEdit (cLo cI))) (tXEdit (tLo tK)) rfl (a1 (c := (cXEdit (cLo cI))) (tXEdit (tLo tK)) rfl a0)) (con_laws_eqEdit e79) (.inl (so1 sB so0)) <| gt' rfl b77 <| st rfl <| o_nt rfl <| st rfl <| pick0 rfl b77 (cd := cB) (v := (!x78)) rfl rfl <| st rfl <| mvd rfl rfl <| ite_k h (fun b80 h => gf rfl b80 <| gf rfl b80 <| gf rfl b80 <| st rfl <| pick1 rfl b80 (cd := cB) (v := true) rfl rfl <| seqN [(0, .d ((cLs (cXVariable cS cI) rfl).enc v0)), (1, .d (cS.enc v1)), (6, .box ((cXEdit (cLo cI)).enc x19.1)), (7, .d (cB.enc x19.2)), (9, .box ((cXEdit (cLo cI)).enc x27.1)), (68, .d (cB.enc true))] (by kernel_rfl) <|
    xn <| cnd1 rfl rfl <| wpC_seq <| reg_s <| x_asg (sc cB false rfl) <| seqN [(4, .d (cB.enc false))] (by kernel_rfl) <|
    xn <| wpC_ret <| rt <| rt <| re <| fin h (r1 (ss rfl rfl) <| r0) rfl)
    (fun b80 h => gt' rfl b80 <| st rfl <| mvd rfl rfl <| gt' rfl b80 <| st rfl <| mvd rfl rfl <| gt' rfl b80 <| st rfl <| eqb1 rfl rfl <| st rfl <| pick0 rfl b80 (cd := cB) (v := (x27.2 != x19.2)) rfl rfl <| seqN [(0, .d ((cLs (cXVariable cS cI) rfl).enc v0)), (1, .d (cS.enc v1)), (6, .box ((cXEdit (cLo cI)).enc x19.1)), (7, .d (cB.enc x19.2)), (9, .box ((cXEdit (cLo cI)).enc x27.1)), (68, .d (cB.enc (x27.2 != x19.2)))] (by kernel_rfl) <|
    xn <| cnd0 rfl b42 <| wpC_skip <| kpN [(0, .d ((cLs (cXVariable cS cI) rfl).enc v0)), (1, .d (cS.enc v1)), (6, .box ((cXEdit (cLo cI)).enc x19.1)), (7, .d (cB.enc x19.2)), (9, .box ((cXEdit (cLo cI)).enc x27.1))] (by kernel_rfl) <| xn <| wpC_seq <| reg_s <| x_asg (sc cI (1 : Int) rfl) <| seqN [(0, .d ((cLs (cXVariable cS cI) rfl).enc v0)), (1, .d (cS.enc v1)), (6, .box ((cXEdit (cLo cI)).enc x19.1)), (7, .d (cB.enc x19.2)), (9, .box ((cXEdit (cLo cI)).enc x27.1)), (12, .d (cI.enc (1 : Int)))] (by kernel_rfl) <|
    xn <| wpC_seq <| reg_s <| st rfl <| ldbo rfl rfl rfl rfl <| st rfl <| mvd rfl rfl <| bnd h fun x83 e84 h => x_clr (c := (cXEdit (cLo cI))) (c' := (cXEdit (cLo cI))) ((cXEdit (cLo cI)).enc x83.1) (sXEdit (sLo sK)) rfl (a1 (c := cI) tK rfl a0) rfl Ln.nil (con_laws_markEdit e84) rfl rfl (so1 sK so0) <| x_asg (ss rfl rfl) <| seqN [(0, .d ((cLs (cXVariable cS cI) rfl).enc v0)), (1, .d (cS.enc v1)), (6, .box ((cXEdit (cLo cI)).enc x19.1)), (7, .d (cB.enc x19.2)), (9, .box ((cXEdit (cLo cI)).enc x83.1)), (12, .d (cI.enc x83.2))] (by kernel_rfl) <|
    xn <| wpC_seq <| reg_s <| x_asg (sc cI (1 : Int) rfl) <| seqN [(0, .d ((cLs (cXVariable cS cI) rfl).enc v0)), (1, .d (cS.enc v1)), (6, .box ((cXEdit (cLo cI)).enc x19.1)), (7, .d (cB.enc x19.2)), (9, .box ((cXEdit (cLo cI)).enc x83.1)), (12, .d (cI.enc x83.2)), (13, .d (cI.enc (1 : Int)))] (by kernel_rfl) <|
    xn <| wpC_seq <| reg_s <| st rfl <| ldbo rfl rfl rfl rfl <| st rfl <| mvd rfl rfl <| bnd h fun x87 e88 h => st rfl <| o_call (a1 (c := (cXEdit (cLo cI))) (tXEdit (tLo tK)) rfl (a1 (c := cI) tK rfl a0)) (con_laws_heldEdit e88) (.inl (so1 sK so0)) <| x_asg (ss rfl rfl) <| seqN [(0, .d ((cLs (cXVariable cS cI) rfl).enc v0)), (1, .d (cS.enc v1)), (6, .box ((cXEdit (cLo cI)).enc x19.1)), (7, .d (cB.enc x19.2)), (9, .box ((cXEdit (cLo cI)).enc x83.1)), (12, .d (cI.enc x83.2)), (13, .d (cI.enc x87))] (by kernel_rfl) <|
    xn <| wpC_seq <| wpC_kp <| wpC_seq <| reg_s <| st rfl <| mvd rfl rfl <| st rfl <| b_lss (k := .i64) rfl rfl <| seqN [(0, .d ((cLs (cXVariable cS cI) rfl).enc v0)), (1, .d (cS.enc v1)), (6, .box ((cXEdit (cLo cI)).enc x19.1)), (7, .d (cB.enc x19.2)), (9, .box ((cXEdit (cLo cI)).enc x83.1)), (12, .d (cI.enc x83.2)), (13, .d (cI.enc x87)), (76, .d (cB.enc (decide (x87 < (0 : Int)))))] (by kernel_rfl) <|
    xn <| cnd rfl h (fun b90 h => wpC_seq <| reg_s <| x_asg (sc cB false rfl) <| seqN [(4, .d (cB.enc false))] (by kernel_rfl) <|
    xn <| wpC_ret <| rt <| rt <| re <| fin h (r1 (ss rfl rfl) <| r0) rfl)
    (fun b90 h => wpC_skip <| kpN [(0, .d ((cLs (cXVariable cS cI) rfl).enc v0)), (1, .d (cS.enc v1)), (6, .box ((cXEdit (cLo cI)).enc x19.1)), (7, .d (cB.enc x19.2)), (9, .box ((cXEdit (cLo cI)).enc x83.1)), (12, .d (cI.enc x83.2)), (13, .d (cI.enc x87))] (by kernel_rfl) <| xn <| wpC_seq <| wpC_kp <| wpC_seq <| reg_s <| st rfl <| mvd rfl rfl <| st rfl <| mvd rfl rfl <| st rfl <| b_neq (k := .i64) rfl rfl <| seqN [(0, .d ((cLs (cXVariable cS cI) rfl).enc v0)), (1, .d (cS.enc v1)), (6, .box ((cXEdit (cLo cI)).enc x19.1)), (7, .d (cB.enc x19.2)), (9, .box ((cXEdit (cLo cI)).enc x83.1)), (12, .d (cI.enc x83.2)), (79, .d (cB.enc (decide (x87 ≠ x83.2))))] (by kernel_rfl) <|
    xn <| cnd rfl h (fun b92 h => wpC_seq <| reg_s <| x_asg (sc cB false rfl) <| seqN [(4, .d (cB.enc false))] (by kernel_rfl) <|
    xn <| wpC_ret <| rt <| rt <| re <| fin h (r1 (ss rfl rfl) <| r0) rfl)
    (fun b92 h => wpC_skip <| kpN [(0, .d ((cLs (cXVariable cS cI) rfl).enc v0)), (1, .d (cS.enc v1)), (6, .box ((cXEdit (cLo cI)).enc x19.1)), (7, .d (cB.enc x19.2)), (9, .box ((cXEdit (cLo cI)).enc x83.1)), (12, .d (cI.enc x83.2))] (by kernel_rfl) <| xn <| wpC_seq <| reg_s <| st rfl <| mvd rfl rfl <| bnd h fun x97 e98 h => st rfl <| o_call (a1 (c := (cLs (cXVariable cS cI) rfl)) (tLs (tXVariable tS tK)) rfl a0) (con_laws_toVariableS e98) (.inl (so1 (sLo (sXVariable sS sK)) so0)) <| st rfl <| mvd rfl rfl <| bnd h fun x99 e100 h => st rfl <| o_call (a1 (c := (cLo (cXVariable cS cI))) (tLo (tXVariable tS tK)) rfl (a1 (c := cS) tS rfl a0)) (con_impl_ParseEdit e100) (.inl (so1 (sXEdit (sLo sK)) (so1 sB so0))) <| x_mvt rfl <| x_ext rfl rfl <| x_ext rfl rfl <| x_all (cXEdit (cLo cI)) (⟨([] : List Int)⟩ : XEdit) rfl <| x_stb (so rfl rfl) rfl (Cd.h_sz _ _) rfl <| x_asg (ss rfl rfl) <| seqN [(6, .box ((cXEdit (cLo cI)).enc x19.1)), (7, .d (cB.enc x19.2)), (9, .box ((cXEdit (cLo cI)).enc x83.1)), (12, .d (cI.enc x83.2)), (14, .box ((cXEdit (cLo cI)).enc x99.1)), (15, .d (cB.enc x99.2))] (by kernel_rfl) <|
    xn <| wpC_seq <| wpC_kp <| wpC_seq <| reg_s <| st rfl <| ldbo rfl rfl rfl rfl <| st rfl <| ldbo rfl rfl rfl rfl <| bnd h fun x111 e112 h => st rfl <| o_call (a1 (c := (cXEdit (cLo cI))) (tXEdit (tLo tK)) rfl (a1 (c := (cXEdit (cLo cI))) (tXEdit (tLo tK)) rfl a0)) (con_laws_eqEdit e112) (.inl (so1 sB so0)) <| st rfl <| o_nt rfl <| st rfl <| mvd rfl rfl <| ite_k h (fun b113 h => gf rfl b113 <| gf rfl b113 <| gf rfl b113 <| st rfl <| pick1 rfl b113 (cd := cB) (v := true) rfl rfl <| seqN [(9, .box ((cXEdit (cLo cI)).enc x83.1)), (12, .d (cI.enc x83.2)), (95, .d (cB.enc true))] (by kernel_rfl) <|
    xn <| cnd1 rfl rfl <| wpC_seq <| reg_s <| x_asg (sc cB false rfl) <| seqN [(4, .d (cB.enc false))] (by kernel_rfl) <|
    xn <| wpC_ret <| rt <| rt <| re <| fin h (r1 (ss rfl rfl) <| r0) rfl)
    (fun b113 h => gt' rfl b113 <| st rfl <| mvd rfl rfl <| gt' rfl b113 <| st rfl <| mvd rfl rfl <| gt' rfl b113 <| st rfl <| eqb1 rfl rfl <| st rfl <| pick0 rfl b113 (cd := cB) (v := (x99.2 != x19.2)) rfl rfl <| seqN [(9, .box ((cXEdit (cLo cI)).enc x83.1)), (12, .d (cI.enc x83.2)), (95, .d (cB.enc (x99.2 != x19.2)))] (by kernel_rfl) <|
    xn <| cnd rfl h (fun b114 h => wpC_seq <| reg_s <| x_asg (sc cB false rfl) <| seqN [(4, .d (cB.enc false))] (by kernel_rfl) <|
    xn <| wpC_ret <| rt <| rt <| re <| fin h (r1 (ss rfl rfl) <| r0) rfl)
    (fun b114 h => wpC_skip <| kpN [(9, .box ((cXEdit (cLo cI)).enc x83.1)), (12, .d (cI.enc x83.2))] (by kernel_rfl) <| xn <| wpC_seq <| reg_s <| x_asg (sc cI (1 : Int) rfl) <| seqN [(9, .box ((cXEdit (cLo cI)).enc x83.1)), (12, .d (cI.enc x83.2)), (13, .d (cI.enc (1 : Int)))] (by kernel_rfl) <|
    xn <| wpC_seq <| reg_s <| st rfl <| ldbo rfl rfl rfl rfl <| st rfl <| mvd rfl rfl <| bnd h fun x117 e118 h => st rfl <| o_call (a1 (c := (cXEdit (cLo cI))) (tXEdit (tLo tK)) rfl (a1 (c := cI) tK rfl a0)) (con_laws_heldEdit e118) (.inl (so1 sK so0)) <| x_asg (ss rfl rfl) <| seqN [(12, .d (cI.enc x83.2)), (13, .d (cI.enc x117))] (by kernel_rfl) <|
    xn <| wpC_seq <| wpC_kp <| wpC_seq <| reg_s <| st rfl <| mvd rfl rfl <| st rfl <| b_lss (k := .i64) rfl rfl <| seqN [(12, .d (cI.enc x83.2)), (13, .d (cI.enc x117)), (100, .d (cB.enc (decide (x117 < (0 : Int)))))] (by kernel_rfl) <|
    xn <| cnd rfl h (fun b120 h => wpC_seq <| reg_s <| x_asg (sc cB false rfl) <| seqN [(4, .d (cB.enc false))] (by kernel_rfl) <|
    xn <| wpC_ret <| rt <| rt <| re <| fin h (r1 (ss rfl rfl) <| r0) rfl)
    (fun b120 h => wpC_skip <| kpN [(12, .d (cI.enc x83.2)), (13, .d (cI.enc x117))] (by kernel_rfl) <| xn <| wpC_seq <| wpC_kp <| wpC_seq <| reg_s <| st rfl <| mvd rfl rfl <| st rfl <| mvd rfl rfl <| st rfl <| b_neq (k := .i64) rfl rfl <| seqN [(103, .d (cB.enc (decide (x117 ≠ x83.2))))] (by kernel_rfl) <|
    xn <| cnd rfl h (fun b122 h => wpC_seq <| reg_s <| x_asg (sc cB false rfl) <| seqN [(4, .d (cB.enc false))] (by kernel_rfl) <|
    xn <| wpC_ret <| rt <| rt <| re <| fin h (r1 (ss rfl rfl) <| r0) rfl)
    (fun b122 h => wpC_skip <| kpN [] (by kernel_rfl) <| xn <| wpC_seq <| reg_s <| x_asg (sc cB true rfl) <| seqN [(4, .d (cB.enc true))] (by kernel_rfl) <|
    xn <| wpC_ret <| re <| fin h (r1 (ss rfl rfl) <| r0) rfl)))))))))))))
end AS.W
