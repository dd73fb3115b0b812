/- The program computes the plain functions. No condition. -/
import Derived.Test.YtpllepipjbiefaaGreatDoorQParseTableS
import Derived.Test.YtpllepipjbiefaaGreatDoorProg
import Derived.Test.YtpllepipjbiefaaGreatDoorQParseTableX
import Derived.Test.YtpllepipjbiefaaGreatDoorQParseTableL2
set_option maxRecDepth 100000
set_option linter.unusedVariables false
set_option linter.unusedSimpArgs false
namespace AS.W
open Go Go.Proofs
def rs_impl_tableText (r : (List UInt8)) : List D := [cS.enc r]
def m33 : MC := .seq (.reg [q1 3 (.box (.t 1)),q1 4 (.asg (.c (.str [])))] [0, 3])
 (.seq (.reg [q1 5 (.asg (.c (.str [99, 111, 117, 110, 116])))] [0, 3, 5])
 (.seq (.kp [0, 3, 5] (.seq (.reg [q1 12 (.fa 3 3 3),q1 13 (.ld 12 1 false),q1 14 (.bin .geq (.t 13) (.c (.int .i64 0)))] [0, 3, 5, 14])
 (.cond (.t 14) (.reg [q1 15 (.mv (.t 0)),q1 16 (.fa 3 3 3),q1 17 (.ld 16 1 false),q1 18 (.ia 15 (.t 17) 2),q1 19 (.fa 18 0 0),q1 20 (.ld 19 1 false),q1 21 (.bin .add (.c (.str [115, 117, 109, 32])) (.t 20)),q1 5 (.asg (.t 21))] [0, 3, 5]) (.skip))))
 (.seq (.reg [q1 22 (.mv (.t 5)),q1 23 (.fa 3 0 0),q1 24 (.ld 23 1 false),q1 25 (.call 56 [(.t 24)]),q1 26 (.bin .add (.c (.str [32, 108, 101, 118, 101, 108, 32])) (.t 25)),q1 27 (.bin .add (.t 22) (.t 26)),q1 5 (.asg (.t 27))] [0, 3, 5])
 (.seq (.kp [0, 3, 5] (.seq (.reg [q1 28 (.fa 3 1 1),q1 29 (.ld 28 1 false),q1 30 (.len false (.t 29)),q1 31 (.bin .gtr (.t 30) (.c (.int .i64 0)))] [0, 3, 5, 31])
 (.cond (.t 31) (.seq (.reg [q1 6 (.asg (.c (.slice true [])))] [0, 3, 5, 6])
 (.seq (.kp [0, 3, 5, 6] (.seq (.reg [q1 32 (.fa 3 1 1),q1 33 (.ld 32 1 false),q1 34 (.len false (.t 33)),q1 35 (.mv (.c (.int .i64 0)))] [0, 3, 5, 6, 32, 33, 34, 35])
 (.blk 0 (.loop (.seq (.reg [q1 36 (.bin .lss (.t 35) (.t 34))] [0, 3, 5, 6, 32, 33, 34, 35, 36])
 (.seq (.kp [0, 3, 5, 6, 32, 33, 34, 35] (.cond (.t 36) (.skip) (.exit 0)))
 (.seq (.kp [0, 3, 5, 6, 32, 33, 34, 35] (.blk 1 (.seq (.reg [q1 37 (.ia 33 (.t 35) 1),q1 38 (.ld 37 1 false),q1 8 (.asg (.t 38))] [0, 3, 5, 6, 8, 32, 33, 34, 35])
 (.reg [q1 39 (.mv (.t 6)),q1 40 (.mv (.t 0)),q1 41 (.mv (.t 8)),q1 42 (.ia 40 (.t 41) 2),q1 43 (.fa 42 0 0),q1 44 (.ld 43 1 false),q1 45 (.bsl [(.t 44)] 1),q1 46 (.app (.t 39) (.t 45) 1),q1 6 (.asg (.t 46))] [0, 3, 5, 6, 32, 33, 34, 35]))))
 (.reg [q1 47 (.bin .add (.t 35) (.c (.int .i64 1))),q1 35 (.mv (.t 47))] [0, 3, 5, 6, 32, 33, 34, 35]))))))))
 (.reg [q1 48 (.mv (.t 5)),q1 49 (.mv (.t 6)),q1 50 (.call 57 [(.t 49), (.c (.str [44]))]),q1 51 (.bin .add (.c (.str [32, 98, 121, 32])) (.t 50)),q1 52 (.bin .add (.t 48) (.t 51)),q1 5 (.asg (.t 52))] [0, 3, 5]))) (.skip))))
 (.seq (.reg [q1 9 (.asg (.c (.str [32, 119, 104, 101, 114, 101, 32])))] [0, 3, 5, 9])
 (.seq (.kp [5] (.seq (.reg [q1 53 (.fa 3 2 2),q1 54 (.ld 53 1 false),q1 55 (.len false (.t 54)),q1 56 (.mv (.c (.int .i64 0)))] [0, 3, 5, 9, 53, 54, 55, 56])
 (.blk 2 (.loop (.seq (.reg [q1 57 (.bin .lss (.t 56) (.t 55))] [0, 3, 5, 9, 53, 54, 55, 56, 57])
 (.seq (.kp [0, 3, 5, 9, 53, 54, 55, 56] (.cond (.t 57) (.skip) (.exit 2)))
 (.seq (.kp [0, 3, 5, 9, 53, 54, 55, 56] (.blk 3 (.seq (.reg [q1 58 (.mv (.t 56)),q1 59 (.ia 54 (.t 56) 1),q1 60 (.ld 59 1 false),q1 10 (.asg (.t 58)),q1 11 (.asg (.t 60))] [0, 3, 5, 9, 10, 11, 53, 54, 55, 56])
 (.seq (.reg [q1 61 (.mv (.t 11)),q1 62 (.bin .neq (.t 61) (.c (.int .i64 0)))] [0, 3, 5, 9, 10, 11, 53, 54, 55, 56, 62])
 (.cond (.t 62) (.seq (.drw [⟨0, q1 63 (.mv (.t 5)), [64, 65, 66, 67, 68, 69, 70, 71, 72, 73, 74, 75]⟩,
  ⟨1, q1 64 (.mv (.t 9)), [63, 65, 66, 67, 68, 69, 70, 71, 72, 73, 74, 75]⟩,
  ⟨2, q1 65 (.mv (.t 0)), [63, 64, 66, 67, 68, 69, 70, 71, 72, 73, 74, 75]⟩,
  ⟨3, q1 66 (.mv (.t 10)), [63, 64, 65, 67, 68, 69, 70, 71, 72, 73, 74, 75]⟩,
  ⟨4, q1 67 (.ia 65 (.t 66) 2), [63, 64, 68, 69, 70, 71, 72, 73, 74, 75]⟩,
  ⟨5, q1 68 (.fa 67 0 0), [63, 64, 69, 70, 71, 72, 73, 74, 75]⟩,
  ⟨6, q1 69 (.ld 68 1 false), [63, 64, 70, 71, 72, 73, 74, 75]⟩,
  ⟨7, q1 70 (.bin .add (.t 64) (.t 69)), [63, 71, 72, 73, 74, 75]⟩,
  ⟨8, q1 71 (.bin .add (.t 70) (.c (.str [61]))), [63, 72, 73, 74, 75]⟩,
  ⟨9, q1 72 (.mv (.t 11)), [63, 64, 65, 66, 67, 68, 69, 70, 71, 73, 74, 75]⟩,
  ⟨10, q1 73 (.call 58 [(.t 72)]), [63, 64, 65, 66, 67, 68, 69, 70, 71, 74, 75]⟩,
  ⟨11, q1 74 (.bin .add (.t 71) (.t 73)), [63, 75]⟩,
  ⟨12, q1 75 (.bin .add (.t 63) (.t 74)), []⟩]
  [(13, q1 5 (.asg (.t 75)))] [0, 3, 5, 53, 54, 55, 56])
 (.reg [q1 9 (.asg (.c (.str [32])))] [0, 3, 5, 9, 53, 54, 55, 56])) (.skip))))))
 (.reg [q1 76 (.bin .add (.t 56) (.c (.int .i64 1))),q1 56 (.mv (.t 76))] [0, 3, 5, 9, 53, 54, 55, 56]))))))))
 (.seq (.reg [q1 77 (.mv (.t 5)),q1 4 (.asg (.t 77))] [4])
 (.ret))))))))
theorem con_impl_tableText {v0 : (List XVariable)} {v1 : XTable} {r : (List UInt8)} (h : sh_impl_tableText v0 v1 = some r) : Con Tryz.prog 33 [cc2.enc v0, cc0.enc v1] [] (rs_impl_tableText r) := by
 delta sh_impl_tableText at h
 refine top (out := none) (f := Tryz.f33) (m := m33) (rs := [.t 4]) (by kernel_rfl) rfl (by kernel_rfl) (by kernel_rfl) (by kernel_rfl) (by kernel_rfl) (by kernel_rfl) ?_
 exact
  ini [q2 0 cc2 v0, q2 1 cc0 v1] rfl <| wpC_seq <| reg_s <| x_box (ss rfl rfl) <| x_asg (sc cS ([] : List UInt8) rfl) <| sq [q2 0 cc2 v0, q3 3 cc0 v1] <|
  xn <| wpC_seq <| reg_s <| x_asg (sc cS ([99, 111, 117, 110, 116] : List UInt8) rfl) <| sq [q2 0 cc2 v0, q3 3 cc0 v1, q2 5 cS ([99, 111, 117, 110, 116] : List UInt8)] <|
  xn <| wpC_seq <| jw (fun (s6 : (List UInt8)) => [q2 0 cc2 v0, q3 3 cc0 v1, q2 5 cS s6]) h (fun s6 h => xn <| wpC_seq <| reg_s <| st rfl <| mvd rfl rfl <| st rfl <| fab rfl rfl rfl rfl <| st rfl <| lda rfl rfl rfl rfl rfl rfl <| bnd h fun x12 e13 h => st rfl <| o_call (a1 (c := cI) tK rfl a0) (con_strconv_Itoa e13) (.inl (so1 sS so0)) <| lnO_k h fun l14 h => st rfl <| b_cat rfl rfl l14 <| lnO_k h fun l15 h => st rfl <| b_cat rfl rfl l15 <| x_asg (ss rfl rfl) <| sq [q2 0 cc2 v0, q3 3 cc0 v1, q2 5 cS (s6 ++ (([32, 108, 101, 118, 101, 108, 32] : List UInt8) ++ x12))] <|
  xn <| wpC_seq <| jw (fun (s91 : (List UInt8)) => [q2 0 cc2 v0, q3 3 cc0 v1, q2 5 cS s91]) h (fun s91 h => xn <| wpC_seq <| reg_s <| x_asg (sc cS ([32, 119, 104, 101, 114, 101, 32] : List UInt8) rfl) <| sq [q2 0 cc2 v0, q3 3 cc0 v1, q2 5 cS s91, q2 9 cS ([32, 119, 104, 101, 114, 101, 32] : List UInt8)] <|
  xn <| wpC_seq <| wpC_kp <| wpC_seq <| reg_s <| st rfl <| fab rfl rfl rfl rfl <| st rfl <| lda rfl rfl rfl rfl rfl rfl <| stw rfl <| lens rfl fun l218 => st rfl <| mvc cI (0 : Int) rfl <| sq [q2 0 cc2 v0, q3 3 cc0 v1, q2 5 cS s91, q2 9 cS ([32, 119, 104, 101, 114, 101, 32] : List UInt8), (53, .adr 3 [.fld 2]), q2 54 cc7 v1.Where, q2 55 cI (v1.Where.length : Int), q2 56 cI (0 : Int)] <|
  xn <| wpC_blk <| lpR (fun (k220 : Nat) (s219 : ((List UInt8) × (List UInt8))) => [q2 0 cc2 v0, q3 3 cc0 v1, q2 5 cS s219.1, q2 9 cS s219.2, (53, .adr 3 [.fld 2]), q2 54 cc7 v1.Where, q2 55 cI (v1.Where.length : Int), q2 56 cI (k220 : Int)]) (s91, ([32, 119, 104, 101, 114, 101, 32] : List UInt8)) rfl h
  (fun G302 s219 h => wpC_seq <| reg_s <| st rfl <| b_lss (k := .i64) rfl rfl <| sq [q2 0 cc2 v0, q3 3 cc0 v1, q2 5 cS s219.1, q2 9 cS s219.2, (53, .adr 3 [.fld 2]), q2 54 cc7 v1.Where, q2 55 cI (v1.Where.length : Int), q2 56 cI (v1.Where.length : Int), q2 57 cB (decide ((v1.Where.length : Int) < (v1.Where.length : Int)))] <|
  xn <| wpC_seq <| wpC_kp <| cnd0 rfl (dlf _) <| wpC_exit <| xt <| xt <| xt <| xb <| kpN [q2 5 cS s219.1] (by kernel_rfl) <| xn <| wpC_seq <| reg_s <| st rfl <| mvd rfl rfl <| x_asg (ss rfl rfl) <| sq [q2 4 cS s219.1] <|
  xn <| wpC_ret <| re <| fin h (r1 (ss rfl rfl) <| r0) rfl)
  (fun G302 nx300 k220 s219 x221 hk222 hx223 hn301 h => wpC_seq <| reg_s <| st rfl <| b_lss (k := .i64) rfl rfl <| sq [q2 0 cc2 v0, q3 3 cc0 v1, q2 5 cS s219.1, q2 9 cS s219.2, (53, .adr 3 [.fld 2]), q2 54 cc7 v1.Where, q2 55 cI (v1.Where.length : Int), q2 56 cI (k220 : Int), q2 57 cB (decide ((k220 : Int) < (v1.Where.length : Int)))] <|
  xn <| wpC_seq <| wpC_kp <| cnd1 rfl (dlt hk222) <| wpC_skip <| kpN [q2 0 cc2 v0, q3 3 cc0 v1, q2 5 cS s219.1, q2 9 cS s219.2, (53, .adr 3 [.fld 2]), q2 54 cc7 v1.Where, q2 55 cI (v1.Where.length : Int), q2 56 cI (k220 : Int)] (by kernel_rfl) <| xn <| wpC_seq <| wpC_kp <| wpC_blk <| wpC_seq <| reg_s <| st rfl <| mvd rfl rfl <| st rfl <| ias rfl rfl (Int.natCast_nonneg _) hx223 rfl <| st rfl <| ldi rfl rfl rfl rfl <| x_asg (ss rfl rfl) <| x_asg (ss rfl rfl) <| sq [q2 0 cc2 v0, q3 3 cc0 v1, q2 5 cS s219.1, q2 9 cS s219.2, q2 10 cI (k220 : Int), q2 11 cI x221, (53, .adr 3 [.fld 2]), q2 54 cc7 v1.Where, q2 55 cI (v1.Where.length : Int), q2 56 cI (k220 : Int)] <|
  xn <| wpC_seq <| reg_s <| st rfl <| mvd rfl rfl <| st rfl <| b_neq (k := .i64) rfl rfl <| sq [q2 0 cc2 v0, q3 3 cc0 v1, q2 5 cS s219.1, q2 9 cS s219.2, q2 10 cI (k220 : Int), q2 11 cI x221, (53, .adr 3 [.fld 2]), q2 54 cc7 v1.Where, q2 55 cI (v1.Where.length : Int), q2 56 cI (k220 : Int), q2 62 cB (decide (x221 ≠ (0 : Int)))] <|
  xn <| cnd rfl h (fun b322 h => wpC_seq <| drw_s <| pst rfl <| mvd rfl rfl ⟨rfl, pst rfl <| mvd rfl rfl ⟨rfl, pst rfl <| mvd rfl rfl ⟨rfl, pst rfl <| mvd rfl rfl ⟨rfl, getO_kp h fun x332 i333 g334 h => pst rfl <| ias rfl rfl i333 g334 rfl ⟨rfl, pst rfl <| fai rfl rfl rfl rfl ⟨rfl, pst rfl <| ldi rfl rfl rfl rfl ⟨rfl, lnO_kp h fun l335 h => pst rfl <| b_cat rfl rfl l335 ⟨rfl, lnO_kp h fun l336 h => pst rfl <| b_cat rfl rfl l336 ⟨rfl, pst rfl <| mvd rfl rfl ⟨rfl, bndp h fun x337 e338 h => pst rfl <| o_call (a1 (c := cI) tK rfl a0) (con_impl_setText e338) (.inl (so1 sS so0)) ⟨rfl, lnO_kp h fun l339 h => pst rfl <| b_cat rfl rfl l339 ⟨rfl, lnO_kp h fun l340 h => pst rfl <| b_cat rfl rfl l340 ⟨rfl, preN <| x_asg (ss rfl rfl) <| sq [q2 0 cc2 v0, q3 3 cc0 v1, q2 5 cS (s219.1 ++ (((s219.2 ++ x332.Name) ++ ([61] : List UInt8)) ++ x337)), (53, .adr 3 [.fld 2]), q2 54 cc7 v1.Where, q2 55 cI (v1.Where.length : Int), q2 56 cI (k220 : Int)] <|
  xn <| reg_s <| x_asg (sc cS ([32] : List UInt8) rfl) <| sq [q2 0 cc2 v0, q3 3 cc0 v1, q2 5 cS (s219.1 ++ (((s219.2 ++ x332.Name) ++ ([61] : List UInt8)) ++ x337)), q2 9 cS ([32] : List UInt8), (53, .adr 3 [.fld 2]), q2 54 cc7 v1.Where, q2 55 cI (v1.Where.length : Int), q2 56 cI (k220 : Int)] <|
  xbb <| kpN [q2 0 cc2 v0, q3 3 cc0 v1, q2 5 cS (s219.1 ++ (((s219.2 ++ x332.Name) ++ ([61] : List UInt8)) ++ x337)), q2 9 cS ([32] : List UInt8), (53, .adr 3 [.fld 2]), q2 54 cc7 v1.Where, q2 55 cI (v1.Where.length : Int), q2 56 cI (k220 : Int)] (by kernel_rfl) <| xn <| reg_s <| st rfl <| b_inc rfl rfl l218 hk222 <| st rfl <| mvd rfl rfl <| sq [q2 0 cc2 v0, q3 3 cc0 v1, q2 5 cS (s219.1 ++ (((s219.2 ++ x332.Name) ++ ([61] : List UInt8)) ++ x337)), q2 9 cS ([32] : List UInt8), (53, .adr 3 [.fld 2]), q2 54 cc7 v1.Where, q2 55 cI (v1.Where.length : Int), q2 56 cI ((k220 + 1 : Nat) : Int)] <|
  xn <| hn301 ((s219.1 ++ (((s219.2 ++ x332.Name) ++ ([61] : List UInt8)) ++ x337)), ([32] : List UInt8)) h⟩⟩⟩⟩⟩⟩⟩⟩⟩⟩⟩⟩⟩)
  (fun b322 h => wpC_skip <| xbb <| kpN [q2 0 cc2 v0, q3 3 cc0 v1, q2 5 cS s219.1, q2 9 cS s219.2, (53, .adr 3 [.fld 2]), q2 54 cc7 v1.Where, q2 55 cI (v1.Where.length : Int), q2 56 cI (k220 : Int)] (by kernel_rfl) <| xn <| reg_s <| st rfl <| b_inc rfl rfl l218 hk222 <| st rfl <| mvd rfl rfl <| sq [q2 0 cc2 v0, q3 3 cc0 v1, q2 5 cS s219.1, q2 9 cS s219.2, (53, .adr 3 [.fld 2]), q2 54 cc7 v1.Where, q2 55 cI (v1.Where.length : Int), q2 56 cI ((k220 + 1 : Nat) : Int)] <|
  xn <| hn301 (s219.1, s219.2) h)))
  fun s91' q92 h => wpC_kp <| wpC_seq <| reg_s <| st rfl <| fab rfl rfl rfl rfl <| st rfl <| lda rfl rfl rfl rfl rfl rfl <| stw rfl <| lens rfl fun l342 => st rfl <| b_gtr (k := .i64) rfl rfl <| sq [q2 0 cc2 v0, q3 3 cc0 v1, q2 5 cS (s6 ++ (([32, 108, 101, 118, 101, 108, 32] : List UInt8) ++ x12)), q2 31 cB (decide ((0 : Int) < (v1.Vars.length : Int)))] <|
  xn <| cnd rfl h (fun b343 h => wpC_seq <| reg_s <| x_asg (sc cc10 ([] : List (List UInt8)) rfl) <| sq [q2 0 cc2 v0, q3 3 cc0 v1, q2 5 cS (s6 ++ (([32, 108, 101, 118, 101, 108, 32] : List UInt8) ++ x12)), q2 6 cc10 ([] : List (List UInt8))] <|
  xn <| wpC_seq <| wpC_kp <| wpC_seq <| reg_s <| st rfl <| fab rfl rfl rfl rfl <| st rfl <| lda rfl rfl rfl rfl rfl rfl <| stw rfl <| lens rfl fun l379 => st rfl <| mvc cI (0 : Int) rfl <| sq [q2 0 cc2 v0, q3 3 cc0 v1, q2 5 cS (s6 ++ (([32, 108, 101, 118, 101, 108, 32] : List UInt8) ++ x12)), q2 6 cc10 ([] : List (List UInt8)), (32, .adr 3 [.fld 1]), q2 33 cc7 v1.Vars, q2 34 cI (v1.Vars.length : Int), q2 35 cI (0 : Int)] <|
  xn <| wpC_blk <| lpR (fun (k381 : Nat) (s380 : (List (List UInt8))) => [q2 0 cc2 v0, q3 3 cc0 v1, q2 5 cS (s6 ++ (([32, 108, 101, 118, 101, 108, 32] : List UInt8) ++ x12)), q2 6 cc10 s380, (32, .adr 3 [.fld 1]), q2 33 cc7 v1.Vars, q2 34 cI (v1.Vars.length : Int), q2 35 cI (k381 : Int)]) ([] : List (List UInt8)) rfl h
  (fun G403 s380 h => wpC_seq <| reg_s <| st rfl <| b_lss (k := .i64) rfl rfl <| sq [q2 0 cc2 v0, q3 3 cc0 v1, q2 5 cS (s6 ++ (([32, 108, 101, 118, 101, 108, 32] : List UInt8) ++ x12)), q2 6 cc10 s380, (32, .adr 3 [.fld 1]), q2 33 cc7 v1.Vars, q2 34 cI (v1.Vars.length : Int), q2 35 cI (v1.Vars.length : Int), q2 36 cB (decide ((v1.Vars.length : Int) < (v1.Vars.length : Int)))] <|
  xn <| wpC_seq <| wpC_kp <| cnd0 rfl (dlf _) <| wpC_exit <| xt <| xt <| xt <| xb <| kpN [q2 0 cc2 v0, q3 3 cc0 v1, q2 5 cS (s6 ++ (([32, 108, 101, 118, 101, 108, 32] : List UInt8) ++ x12)), q2 6 cc10 s380] (by kernel_rfl) <| xn <| reg_s <| st rfl <| mvd rfl rfl <| st rfl <| mvo rfl rfl <| bnd h fun x404 e405 h => st rfl <| o_call (a1 (c := cc10) (tLo tS) rfl (a1 (c := cS) tS rfl a0)) (con_strings_Join e405) (.inl (so1 sS so0)) <| lnO_k h fun l406 h => st rfl <| b_cat rfl rfl l406 <| lnO_k h fun l407 h => st rfl <| b_cat rfl rfl l407 <| x_asg (ss rfl rfl) <| sq [q2 0 cc2 v0, q3 3 cc0 v1, q2 5 cS ((s6 ++ (([32, 108, 101, 118, 101, 108, 32] : List UInt8) ++ x12)) ++ (([32, 98, 121, 32] : List UInt8) ++ x404))] <|
  kpN [q2 0 cc2 v0, q3 3 cc0 v1, q2 5 cS ((s6 ++ (([32, 108, 101, 118, 101, 108, 32] : List UInt8) ++ x12)) ++ (([32, 98, 121, 32] : List UInt8) ++ x404))] (by kernel_rfl) <| lfn (S := (fun (s91 : (List UInt8)) => [q2 0 cc2 v0, q3 3 cc0 v1, q2 5 cS s91])) h q92 rfl)
  (fun G403 nx401 k381 s380 x382 hk383 hx384 hn402 h => wpC_seq <| reg_s <| st rfl <| b_lss (k := .i64) rfl rfl <| sq [q2 0 cc2 v0, q3 3 cc0 v1, q2 5 cS (s6 ++ (([32, 108, 101, 118, 101, 108, 32] : List UInt8) ++ x12)), q2 6 cc10 s380, (32, .adr 3 [.fld 1]), q2 33 cc7 v1.Vars, q2 34 cI (v1.Vars.length : Int), q2 35 cI (k381 : Int), q2 36 cB (decide ((k381 : Int) < (v1.Vars.length : Int)))] <|
  xn <| wpC_seq <| wpC_kp <| cnd1 rfl (dlt hk383) <| wpC_skip <| kpN [q2 0 cc2 v0, q3 3 cc0 v1, q2 5 cS (s6 ++ (([32, 108, 101, 118, 101, 108, 32] : List UInt8) ++ x12)), q2 6 cc10 s380, (32, .adr 3 [.fld 1]), q2 33 cc7 v1.Vars, q2 34 cI (v1.Vars.length : Int), q2 35 cI (k381 : Int)] (by kernel_rfl) <| xn <| wpC_seq <| wpC_kp <| wpC_blk <| wpC_seq <| reg_s <| st rfl <| ias rfl rfl (Int.natCast_nonneg _) hx384 rfl <| st rfl <| ldi rfl rfl rfl rfl <| x_asg (ss rfl rfl) <| sq [q2 0 cc2 v0, q3 3 cc0 v1, q2 5 cS (s6 ++ (([32, 108, 101, 118, 101, 108, 32] : List UInt8) ++ x12)), q2 6 cc10 s380, q2 8 cI x382, (32, .adr 3 [.fld 1]), q2 33 cc7 v1.Vars, q2 34 cI (v1.Vars.length : Int), q2 35 cI (k381 : Int)] <|
  xn <| reg_s <| st rfl <| mvo rfl rfl <| st rfl <| mvd rfl rfl <| st rfl <| mvd rfl rfl <| getO_k h fun x412 i413 g414 h => st rfl <| ias rfl rfl i413 g414 rfl <| st rfl <| fai rfl rfl rfl rfl <| st rfl <| ldi rfl rfl rfl rfl <| x_bsl cS [x412.Name] (t1 (ss rfl rfl) rfl t0) rfl rfl <| lnO_k h fun l415 h => x_app (sr rfl rfl) (tow rfl rfl) l415 rfl <| x_asg (so rfl rfl) <| sq [q2 0 cc2 v0, q3 3 cc0 v1, q2 5 cS (s6 ++ (([32, 108, 101, 118, 101, 108, 32] : List UInt8) ++ x12)), q2 6 cc10 (s380 ++ [x412.Name]), (32, .adr 3 [.fld 1]), q2 33 cc7 v1.Vars, q2 34 cI (v1.Vars.length : Int), q2 35 cI (k381 : Int)] <|
  xbb <| kpN [q2 0 cc2 v0, q3 3 cc0 v1, q2 5 cS (s6 ++ (([32, 108, 101, 118, 101, 108, 32] : List UInt8) ++ x12)), q2 6 cc10 (s380 ++ [x412.Name]), (32, .adr 3 [.fld 1]), q2 33 cc7 v1.Vars, q2 34 cI (v1.Vars.length : Int), q2 35 cI (k381 : Int)] (by kernel_rfl) <| xn <| reg_s <| st rfl <| b_inc rfl rfl l379 hk383 <| st rfl <| mvd rfl rfl <| sq [q2 0 cc2 v0, q3 3 cc0 v1, q2 5 cS (s6 ++ (([32, 108, 101, 118, 101, 108, 32] : List UInt8) ++ x12)), q2 6 cc10 (s380 ++ [x412.Name]), (32, .adr 3 [.fld 1]), q2 33 cc7 v1.Vars, q2 34 cI (v1.Vars.length : Int), q2 35 cI ((k381 + 1 : Nat) : Int)] <|
  xn <| hn402 (s380 ++ [x412.Name]) h))
  (fun b343 h => wpC_skip <| kpN [q2 0 cc2 v0, q3 3 cc0 v1, q2 5 cS (s6 ++ (([32, 108, 101, 118, 101, 108, 32] : List UInt8) ++ x12))] (by kernel_rfl) <| lfn (S := (fun (s91 : (List UInt8)) => [q2 0 cc2 v0, q3 3 cc0 v1, q2 5 cS s91])) h q92 rfl))
  fun s6' q7 h => wpC_kp <| wpC_seq <| reg_s <| st rfl <| fab rfl rfl rfl rfl <| st rfl <| lda rfl rfl rfl rfl rfl rfl <| st rfl <| b_geq (k := .i64) rfl rfl <| sq [q2 0 cc2 v0, q3 3 cc0 v1, q2 5 cS ([99, 111, 117, 110, 116] : List UInt8), q2 14 cB (decide ((0 : Int) ≤ v1.Sum))] <|
  xn <| cnd rfl h (fun b416 h => reg_s <| st rfl <| mvd rfl rfl <| st rfl <| fab rfl rfl rfl rfl <| st rfl <| lda rfl rfl rfl rfl rfl rfl <| getO_k h fun x417 i418 g419 h => st rfl <| ias rfl rfl i418 g419 rfl <| st rfl <| fai rfl rfl rfl rfl <| st rfl <| ldi rfl rfl rfl rfl <| lnO_k h fun l420 h => st rfl <| b_cat rfl rfl l420 <| x_asg (ss rfl rfl) <| sq [q2 0 cc2 v0, q3 3 cc0 v1, q2 5 cS (([115, 117, 109, 32] : List UInt8) ++ x417.Name)] <|
  kpN [q2 0 cc2 v0, q3 3 cc0 v1, q2 5 cS (([115, 117, 109, 32] : List UInt8) ++ x417.Name)] (by kernel_rfl) <| lfn (S := (fun (s6 : (List UInt8)) => [q2 0 cc2 v0, q3 3 cc0 v1, q2 5 cS s6])) h q7 rfl)
  (fun b416 h => wpC_skip <| kpN [q2 0 cc2 v0, q3 3 cc0 v1, q2 5 cS ([99, 111, 117, 110, 116] : List UInt8)] (by kernel_rfl) <| lfn (S := (fun (s6 : (List UInt8)) => [q2 0 cc2 v0, q3 3 cc0 v1, q2 5 cS s6])) h q7 rfl)

def rs_impl_ParseTable (r : (XTable × Bool)) : List D := [cc1.enc r.1, cB.enc r.2]
def m10 : MC := .seq (.reg [q1 3 (.box (.t 0)),q1 6 (.alloc (.agg [.int .i64 0, .slice true [], .slice true [], .int .i64 0])),q1 7 (.asg (.c (.bool false)))] [1, 2, 3, 6])
 (.seq (.kp [1, 2, 3, 6] (.seq (.reg [q1 10 (.ld 3 1 true),q1 11 (.call 29 [(.t 10)]),q1 12 (.nt (.t 11)),q1 13 (.mv (.t 12)),
  ⟨some 14, .mv (.t 1), some (13, false)⟩,
  ⟨some 15, .call 30 [(.t 14)], some (13, false)⟩,
  ⟨some 16, .nt (.t 15), some (13, false)⟩,q1 17 (.pick (.t 13) (.c (.bool true)) (.t 16))] [1, 2, 3, 6, 17])
 (.cond (.t 17) (.seq (.reg [q1 18 (.bld [.int .i64 0, .slice true [], .slice true [], .int .i64 0] []),q0 (.st 6 (.t 18) 4),q1 7 (.asg (.c (.bool false)))] [6, 7])
 (.ret)) (.skip))))
 (.seq (.reg [q1 20 (.mv (.t 1)),q1 21 (.mv (.t 2)),q1 22 (.call 31 [(.t 20), (.t 21)]),q1 19 (.mvt 22),q1 23 (.ext 19 0),q1 24 (.ext 19 1),q1 8 (.alloc (.agg [.int .i64 0, .slice true [], .slice true [], .int .i64 0])),q0 (.st 8 (.t 23) 4),q1 9 (.asg (.t 24))] [1, 2, 3, 6, 8, 9])
 (.seq (.kp [6, 8] (.seq (.reg [q1 25 (.mv (.t 9)),q1 26 (.nt (.t 25)),q1 27 (.mv (.t 26)),
  ⟨some 28, .ld 3 1 true, some (27, false)⟩,
  ⟨some 29, .mv (.t 1), some (27, false)⟩,
  ⟨some 30, .ld 8 4 true, some (27, false)⟩,
  ⟨some 31, .call 32 [(.t 28), (.t 29), (.t 30)], some (27, false)⟩,
  ⟨some 32, .nt (.t 31), some (27, false)⟩,q1 33 (.pick (.t 27) (.c (.bool true)) (.t 32)),q1 34 (.mv (.t 33)),
  ⟨some 35, .mv (.t 1), some (34, false)⟩,
  ⟨some 36, .ld 8 4 true, some (34, false)⟩,
  ⟨some 37, .call 33 [(.t 35), (.t 36)], some (34, false)⟩,
  ⟨some 38, .mv (.t 2), some (34, false)⟩,
  ⟨some 39, .bin .neq (.t 37) (.t 38), some (34, false)⟩,q1 40 (.pick (.t 34) (.c (.bool true)) (.t 39))] [6, 8, 40])
 (.cond (.t 40) (.seq (.reg [q1 41 (.bld [.int .i64 0, .slice true [], .slice true [], .int .i64 0] []),q0 (.st 6 (.t 41) 4),q1 7 (.asg (.c (.bool false)))] [6, 7])
 (.ret)) (.skip))))
 (.seq (.reg [q1 42 (.ld 8 4 true),q0 (.st 6 (.t 42) 4),q1 7 (.asg (.c (.bool true)))] [6, 7])
 (.ret)))))
theorem con_impl_ParseTable {v0 : XGeo} {v1 : (List XVariable)} {v2 : (List UInt8)} {r : (XTable × Bool)} (h : sh_impl_ParseTable v0 v1 v2 = some r) : Con Tryz.prog 10 [cc4.enc v0, cc2.enc v1, cS.enc v2] [] (rs_impl_ParseTable r) := by
 delta sh_impl_ParseTable at h
 refine top (out := none) (f := Tryz.f10) (m := m10) (rs := [.c 6 4 true, .t 7]) (by kernel_rfl) rfl (by kernel_rfl) (by kernel_rfl) (by kernel_rfl) (by kernel_rfl) (by kernel_rfl) ?_
 exact
  ini [q2 0 cc4 v0, q2 1 cc2 v1, q2 2 cS v2] rfl <| wpC_seq <| reg_s <| x_box (ss rfl rfl) <| x_all cc1 (⟨(0 : Int), ([] : List Int), ([] : List Int), (0 : Int)⟩ : XTable) rfl <| x_asg (sc cB false rfl) <| sq [q2 1 cc2 v1, q2 2 cS v2, q3 3 cc4 v0, q3 6 cc1 (⟨(0 : Int), ([] : List Int), ([] : List Int), (0 : Int)⟩ : XTable)] <|
  xn <| wpC_seq <| wpC_kp <| wpC_seq <| reg_s <| st rfl <| ldb rfl rfl rfl rfl <| bnd h fun x17 e18 h => st rfl <| o_call (a1 (c := cc4) (tXGeo (tLs tK)) rfl a0) (con_impl_IsGeo e18) (.inl (so1 sB so0)) <| st rfl <| o_nt rfl <| st rfl <| mvd rfl rfl <| ite_k h (fun b19 h => gf rfl b19 <| gf rfl b19 <| gf rfl b19 <| st rfl <| pick1 rfl b19 (cd := cB) (v := true) rfl rfl <| sq [q2 1 cc2 v1, q2 2 cS v2, q3 3 cc4 v0, q3 6 cc1 (⟨(0 : Int), ([] : List Int), ([] : List Int), (0 : Int)⟩ : XTable), q2 17 cB true] <|
  xn <| cnd1 rfl rfl <| wpC_seq <| reg_s <| x_bld (cc1.enc (⟨(0 : Int), ([] : List Int), ([] : List Int), (0 : Int)⟩ : XTable)) t0 rfl rfl <| x_stb (so rfl rfl) rfl (Cd.h_sz _ _) rfl <| x_asg (sc cB false rfl) <| sq [q3 6 cc1 (⟨(0 : Int), ([] : List Int), ([] : List Int), (0 : Int)⟩ : XTable), q2 7 cB false] <|
  xn <| wpC_ret <| rt <| rt <| re <| fin h (r2 rfl rfl rfl <| r1 (ss rfl rfl) <| r0) rfl)
  (fun b19 h => gt' rfl b19 <| st rfl <| mvd rfl rfl <| gt' rfl b19 <| bnd h fun x20 e21 h => st rfl <| o_call (a1 (c := cc2) (tLs (tXVariable tS tK)) rfl a0) (con_impl_IsSchema e21) (.inl (so1 sB so0)) <| gt' rfl b19 <| st rfl <| o_nt rfl <| st rfl <| pick0 rfl b19 (cd := cB) (v := (!x20)) rfl rfl <| sq [q2 1 cc2 v1, q2 2 cS v2, q3 3 cc4 v0, q3 6 cc1 (⟨(0 : Int), ([] : List Int), ([] : List Int), (0 : Int)⟩ : XTable), q2 17 cB (!x20)] <|
  xn <| cnd rfl h (fun b22 h => wpC_seq <| reg_s <| x_bld (cc1.enc (⟨(0 : Int), ([] : List Int), ([] : List Int), (0 : Int)⟩ : XTable)) t0 rfl rfl <| x_stb (so rfl rfl) rfl (Cd.h_sz _ _) rfl <| x_asg (sc cB false rfl) <| sq [q3 6 cc1 (⟨(0 : Int), ([] : List Int), ([] : List Int), (0 : Int)⟩ : XTable), q2 7 cB false] <|
  xn <| wpC_ret <| rt <| rt <| re <| fin h (r2 rfl rfl rfl <| r1 (ss rfl rfl) <| r0) rfl)
  (fun b22 h => wpC_skip <| kpN [q2 1 cc2 v1, q2 2 cS v2, q3 3 cc4 v0, q3 6 cc1 (⟨(0 : Int), ([] : List Int), ([] : List Int), (0 : Int)⟩ : XTable)] (by kernel_rfl) <| xn <| wpC_seq <| reg_s <| st rfl <| mvd rfl rfl <| st rfl <| mvd rfl rfl <| bnd h fun x25 e26 h => st rfl <| o_call (a1 (c := cc2) (tLs (tXVariable tS tK)) rfl (a1 (c := cS) tS rfl a0)) (con_impl_parseTable e26) (.inl (so1 (sXTable sK (sLo sK) (sLo sK) sK) (so1 sB so0))) <| x_mvt rfl <| x_ext rfl rfl <| x_ext rfl rfl <| x_all cc1 (⟨(0 : Int), ([] : List Int), ([] : List Int), (0 : Int)⟩ : XTable) rfl <| x_stb (so rfl rfl) rfl (Cd.h_sz _ _) rfl <| x_asg (ss rfl rfl) <| sq [q2 1 cc2 v1, q2 2 cS v2, q3 3 cc4 v0, q3 6 cc1 (⟨(0 : Int), ([] : List Int), ([] : List Int), (0 : Int)⟩ : XTable), q3 8 cc1 x25.1, q2 9 cB x25.2] <|
  xn <| wpC_seq <| wpC_kp <| wpC_seq <| reg_s <| st rfl <| mvd rfl rfl <| st rfl <| o_nt rfl <| st rfl <| mvd rfl rfl <| ite_k h (fun b46 h => gf rfl b46 <| gf rfl b46 <| gf rfl b46 <| gf rfl b46 <| gf rfl b46 <| st rfl <| pick1 rfl b46 (cd := cB) (v := true) rfl rfl <| st rfl <| mvd rfl rfl <| gf rfl rfl <| gf rfl rfl <| gf rfl rfl <| gf rfl rfl <| gf rfl rfl <| st rfl <| pick1 rfl rfl (cd := cB) (v := true) rfl rfl <| sq [q3 6 cc1 (⟨(0 : Int), ([] : List Int), ([] : List Int), (0 : Int)⟩ : XTable), q3 8 cc1 x25.1, q2 40 cB true] <|
  xn <| cnd1 rfl rfl <| wpC_seq <| reg_s <| x_bld (cc1.enc (⟨(0 : Int), ([] : List Int), ([] : List Int), (0 : Int)⟩ : XTable)) t0 rfl rfl <| x_stb (so rfl rfl) rfl (Cd.h_sz _ _) rfl <| x_asg (sc cB false rfl) <| sq [q3 6 cc1 (⟨(0 : Int), ([] : List Int), ([] : List Int), (0 : Int)⟩ : XTable), q2 7 cB false] <|
  xn <| wpC_ret <| rt <| rt <| re <| fin h (r2 rfl rfl rfl <| r1 (ss rfl rfl) <| r0) rfl)
  (fun b46 h => gt' rfl b46 <| st rfl <| ldb rfl rfl rfl rfl <| gt' rfl b46 <| st rfl <| mvd rfl rfl <| gt' rfl b46 <| st rfl <| ldbo rfl rfl rfl rfl <| gt' rfl b46 <| bnd h fun x47 e48 h => st rfl <| o_call (a1 (c := cc4) (tXGeo (tLs tK)) rfl (a1 (c := cc2) (tLs (tXVariable tS tK)) rfl (a1 (c := cc1) (tXTable tK (tLo tK) (tLo tK) tK) rfl a0))) (con_impl_isTable e48) (.inl (so1 sB so0)) <| gt' rfl b46 <| st rfl <| o_nt rfl <| st rfl <| pick0 rfl b46 (cd := cB) (v := (!x47)) rfl rfl <| st rfl <| mvd rfl rfl <| ite_k h (fun b49 h => gf rfl b49 <| gf rfl b49 <| gf rfl b49 <| gf rfl b49 <| gf rfl b49 <| st rfl <| pick1 rfl b49 (cd := cB) (v := true) rfl rfl <| sq [q3 6 cc1 (⟨(0 : Int), ([] : List Int), ([] : List Int), (0 : Int)⟩ : XTable), q3 8 cc1 x25.1, q2 40 cB true] <|
  xn <| cnd1 rfl rfl <| wpC_seq <| reg_s <| x_bld (cc1.enc (⟨(0 : Int), ([] : List Int), ([] : List Int), (0 : Int)⟩ : XTable)) t0 rfl rfl <| x_stb (so rfl rfl) rfl (Cd.h_sz _ _) rfl <| x_asg (sc cB false rfl) <| sq [q3 6 cc1 (⟨(0 : Int), ([] : List Int), ([] : List Int), (0 : Int)⟩ : XTable), q2 7 cB false] <|
  xn <| wpC_ret <| rt <| rt <| re <| fin h (r2 rfl rfl rfl <| r1 (ss rfl rfl) <| r0) rfl)
  (fun b49 h => gt' rfl b49 <| st rfl <| mvd rfl rfl <| gt' rfl b49 <| st rfl <| ldbo rfl rfl rfl rfl <| gt' rfl b49 <| bnd h fun x50 e51 h => st rfl <| o_call (a1 (c := cc2) (tLs (tXVariable tS tK)) rfl (a1 (c := cc1) (tXTable tK (tLo tK) (tLo tK) tK) rfl a0)) (con_impl_tableText e51) (.inl (so1 sS so0)) <| gt' rfl b49 <| st rfl <| mvd rfl rfl <| gt' rfl b49 <| st rfl <| b_sne rfl rfl <| st rfl <| pick0 rfl b49 (cd := cB) (v := (decide (x50 ≠ v2))) rfl rfl <| sq [q3 6 cc1 (⟨(0 : Int), ([] : List Int), ([] : List Int), (0 : Int)⟩ : XTable), q3 8 cc1 x25.1, q2 40 cB (decide (x50 ≠ v2))] <|
  xn <| cnd rfl h (fun b52 h => wpC_seq <| reg_s <| x_bld (cc1.enc (⟨(0 : Int), ([] : List Int), ([] : List Int), (0 : Int)⟩ : XTable)) t0 rfl rfl <| x_stb (so rfl rfl) rfl (Cd.h_sz _ _) rfl <| x_asg (sc cB false rfl) <| sq [q3 6 cc1 (⟨(0 : Int), ([] : List Int), ([] : List Int), (0 : Int)⟩ : XTable), q2 7 cB false] <|
  xn <| wpC_ret <| rt <| rt <| re <| fin h (r2 rfl rfl rfl <| r1 (ss rfl rfl) <| r0) rfl)
  (fun b52 h => wpC_skip <| kpN [q3 6 cc1 (⟨(0 : Int), ([] : List Int), ([] : List Int), (0 : Int)⟩ : XTable), q3 8 cc1 x25.1] (by kernel_rfl) <| xn <| wpC_seq <| reg_s <| st rfl <| ldbo rfl rfl rfl rfl <| x_stb (sb rfl rfl) rfl (Cd.h_sz _ _) rfl <| x_asg (sc cB true rfl) <| sq [q3 6 cc1 x25.1, q2 7 cB true] <|
  xn <| wpC_ret <| re <| fin h (r2 rfl rfl rfl <| r1 (ss rfl rfl) <| r0) rfl)))))

def rs_laws_eqIntS (r : Bool) : List D := [cB.enc r]
def m34 : MC := .seq (.reg [q1 4 (.asg (.c (.bool false)))] [0, 1])
 (.seq (.kp [0, 1] (.seq (.reg [q1 6 (.mv (.t 0)),q1 7 (.len false (.t 6)),q1 8 (.mv (.t 1)),q1 9 (.len false (.t 8)),q1 10 (.bin .neq (.t 7) (.t 9))] [0, 1, 10])
 (.cond (.t 10) (.seq (.reg [q1 4 (.asg (.c (.bool false)))] [4])
 (.ret)) (.skip))))
 (.seq (.kp [] (.seq (.reg [q1 5 (.asg (.c (.int .i64 0)))] [0, 1, 5])
 (.blk 0 (.loop (.seq (.kp [0, 1, 5] (.seq (.reg [q1 11 (.mv (.t 5)),q1 12 (.mv (.t 0)),q1 13 (.len false (.t 12)),q1 14 (.bin .lss (.t 11) (.t 13))] [0, 1, 5, 14])
 (.cond (.t 14) (.skip) (.exit 0))))
 (.seq (.kp [0, 1, 5] (.blk 1 (.seq (.drw [⟨0, q1 17 (.mv (.t 0)), [18, 19, 20, 21, 22, 23, 24, 25]⟩,
  ⟨1, q1 18 (.mv (.t 5)), [17, 19, 20, 21, 22, 23, 24, 25]⟩,
  ⟨2, q1 19 (.ia 17 (.t 18) 1), [20, 21, 22, 23, 24, 25]⟩,
  ⟨3, q1 20 (.ld 19 1 false), [21, 22, 23, 24, 25]⟩,
  ⟨4, q1 21 (.mv (.t 1)), [17, 18, 19, 20, 22, 23, 24, 25]⟩,
  ⟨5, q1 22 (.mv (.t 5)), [17, 18, 19, 20, 21, 23, 24, 25]⟩,
  ⟨6, q1 23 (.ia 21 (.t 22) 1), [17, 18, 19, 20, 24, 25]⟩,
  ⟨7, q1 24 (.ld 23 1 false), [17, 18, 19, 20, 25]⟩,
  ⟨8, q1 25 (.bin .neq (.t 20) (.t 24)), []⟩]
  [] [0, 1, 5, 25])
 (.cond (.t 25) (.seq (.reg [q1 4 (.asg (.c (.bool false)))] [4])
 (.ret)) (.skip)))))
 (.reg [q1 15 (.mv (.t 5)),q1 16 (.bin .add (.t 15) (.c (.int .i64 1))),q1 5 (.asg (.t 16))] [0, 1, 5])))))))
 (.seq (.reg [q1 4 (.asg (.c (.bool true)))] [4])
 (.ret))))
theorem con_laws_eqIntS {v0 : (List Int)} {v1 : (List Int)} {r : Bool} (h : sh_laws_eqIntS v0 v1 = some r) : Con Tryz.prog 34 [cc7.enc v0, cc7.enc v1] [] (rs_laws_eqIntS r) := by
 delta sh_laws_eqIntS at h
 refine top (out := none) (f := Tryz.f34) (m := m34) (rs := [.t 4]) (by kernel_rfl) rfl (by kernel_rfl) (by kernel_rfl) (by kernel_rfl) (by kernel_rfl) (by kernel_rfl) ?_
 exact
  ini [q2 0 cc7 v0, q2 1 cc7 v1] rfl <| wpC_seq <| reg_s <| x_asg (sc cB false rfl) <| sq [q2 0 cc7 v0, q2 1 cc7 v1] <|
  xn <| wpC_seq <| wpC_kp <| wpC_seq <| reg_s <| st rfl <| mvd rfl rfl <| stw rfl <| lens rfl fun l8 => st rfl <| mvd rfl rfl <| stw rfl <| lens rfl fun l9 => st rfl <| b_neq (k := .i64) rfl rfl <| sq [q2 0 cc7 v0, q2 1 cc7 v1, q2 10 cB (decide ((v0.length : Int) ≠ (v1.length : Int)))] <|
  xn <| cnd rfl h (fun b10 h => wpC_seq <| reg_s <| x_asg (sc cB false rfl) <| sq [q2 4 cB false] <|
  xn <| wpC_ret <| rt <| rt <| re <| fin h (r1 (ss rfl rfl) <| r0) rfl)
  (fun b10 h => wpC_skip <| kpN [q2 0 cc7 v0, q2 1 cc7 v1] (by kernel_rfl) <| xn <| wpC_seq <| wpC_kp <| wpC_seq <| reg_s <| x_asg (sc cI (0 : Int) rfl) <| sq [q2 0 cc7 v0, q2 1 cc7 v1, q2 5 cI (0 : Int)] <|
  xn <| wpC_blk <| lpF (fun (s118 : Int) => [q2 0 cc7 v0, q2 1 cc7 v1, q2 5 cI s118]) (0 : Int) rfl h
  fun G191 nx189 s118 hn190 h => wpC_seq <| wpC_kp <| wpC_seq <| reg_s <| st rfl <| mvd rfl rfl <| st rfl <| mvd rfl rfl <| stw rfl <| lens rfl fun l196 => st rfl <| b_lss (k := .i64) rfl rfl <| sq [q2 0 cc7 v0, q2 1 cc7 v1, q2 5 cI s118, q2 14 cB (decide (s118 < (v0.length : Int)))] <|
  xn <| cnd rfl h (fun b197 h => wpC_skip <| kpN [q2 0 cc7 v0, q2 1 cc7 v1, q2 5 cI s118] (by kernel_rfl) <| xn <| wpC_seq <| wpC_kp <| wpC_blk <| wpC_seq <| drw_s <| pst rfl <| mvd rfl rfl ⟨rfl, pst rfl <| mvd rfl rfl ⟨rfl, getO_kp h fun x217 i218 g219 h => pst rfl <| ias rfl rfl i218 g219 rfl ⟨rfl, pst rfl <| ldi rfl rfl rfl rfl ⟨rfl, pst rfl <| mvd rfl rfl ⟨rfl, pst rfl <| mvd rfl rfl ⟨rfl, getO_kp h fun x220 i221 g222 h => pst rfl <| ias rfl rfl i221 g222 rfl ⟨rfl, pst rfl <| ldi rfl rfl rfl rfl ⟨rfl, pst rfl <| b_neq (k := .i64) rfl rfl ⟨rfl, preN <| sq [q2 0 cc7 v0, q2 1 cc7 v1, q2 5 cI s118, q2 25 cB (decide (x217 ≠ x220))] <|
  xn <| cnd rfl h (fun b223 h => wpC_seq <| reg_s <| x_asg (sc cB false rfl) <| sq [q2 4 cB false] <|
  xn <| wpC_ret <| rb <| rt <| rt <| rt <| rb <| rt <| rt <| re <| fin h (r1 (ss rfl rfl) <| r0) rfl)
  (fun b223 h => wpC_skip <| xbb <| kpN [q2 0 cc7 v0, q2 1 cc7 v1, q2 5 cI s118] (by kernel_rfl) <| xn <| reg_s <| st rfl <| mvd rfl rfl <| ckI_k h fun i224 h => st rfl <| b_add (k := .i64) rfl rfl i224 <| x_asg (ss rfl rfl) <| sq [q2 0 cc7 v0, q2 1 cc7 v1, q2 5 cI (s118 + (1 : Int))] <|
  xn <| hn190 (s118 + (1 : Int)) h)⟩⟩⟩⟩⟩⟩⟩⟩⟩)
  (fun b197 h => wpC_exit <| xt <| xt <| xt <| xb <| kpN [] (by kernel_rfl) <| xn <| wpC_seq <| reg_s <| x_asg (sc cB true rfl) <| sq [q2 4 cB true] <|
  xn <| wpC_ret <| re <| fin h (r1 (ss rfl rfl) <| r0) rfl))

def rs_laws_eqTable (r : Bool) : List D := [cB.enc r]
def m11 : MC := .seq (.reg [q1 2 (.box (.t 0)),q1 3 (.box (.t 1)),q1 4 (.asg (.c (.bool false)))] [2, 3])
 (.seq (.kp [2, 3] (.seq (.reg [q1 5 (.fa 2 0 0),q1 6 (.ld 5 1 false),q1 7 (.fa 3 0 0),q1 8 (.ld 7 1 false),q1 9 (.bin .neq (.t 6) (.t 8))] [2, 3, 9])
 (.cond (.t 9) (.seq (.reg [q1 4 (.asg (.c (.bool false)))] [4])
 (.ret)) (.skip))))
 (.seq (.kp [2, 3] (.seq (.reg [q1 10 (.fa 2 1 1),q1 11 (.ld 10 1 false),q1 12 (.fa 3 1 1),q1 13 (.ld 12 1 false),q1 14 (.call 34 [(.t 11), (.t 13)]),q1 15 (.nt (.t 14))] [2, 3, 15])
 (.cond (.t 15) (.seq (.reg [q1 4 (.asg (.c (.bool false)))] [4])
 (.ret)) (.skip))))
 (.seq (.kp [2, 3] (.seq (.reg [q1 16 (.fa 2 2 2),q1 17 (.ld 16 1 false),q1 18 (.fa 3 2 2),q1 19 (.ld 18 1 false),q1 20 (.call 34 [(.t 17), (.t 19)]),q1 21 (.nt (.t 20))] [2, 3, 21])
 (.cond (.t 21) (.seq (.reg [q1 4 (.asg (.c (.bool false)))] [4])
 (.ret)) (.skip))))
 (.seq (.kp [] (.seq (.reg [q1 22 (.fa 2 3 3),q1 23 (.ld 22 1 false),q1 24 (.fa 3 3 3),q1 25 (.ld 24 1 false),q1 26 (.bin .neq (.t 23) (.t 25))] [26])
 (.cond (.t 26) (.seq (.reg [q1 4 (.asg (.c (.bool false)))] [4])
 (.ret)) (.skip))))
 (.seq (.reg [q1 4 (.asg (.c (.bool true)))] [4])
 (.ret))))))
theorem con_laws_eqTable {v0 : XTable} {v1 : XTable} {r : Bool} (h : sh_laws_eqTable v0 v1 = some r) : Con Tryz.prog 11 [cc0.enc v0, cc0.enc v1] [] (rs_laws_eqTable r) := by
 delta sh_laws_eqTable at h
 refine top (out := none) (f := Tryz.f11) (m := m11) (rs := [.t 4]) (by kernel_rfl) rfl (by kernel_rfl) (by kernel_rfl) (by kernel_rfl) (by kernel_rfl) (by kernel_rfl) ?_
 exact
  ini [q2 0 cc0 v0, q2 1 cc0 v1] rfl <| wpC_seq <| reg_s <| x_box (ss rfl rfl) <| x_box (ss rfl rfl) <| x_asg (sc cB false rfl) <| sq [q3 2 cc0 v0, q3 3 cc0 v1] <|
  xn <| wpC_seq <| wpC_kp <| wpC_seq <| reg_s <| st rfl <| fab rfl rfl rfl rfl <| st rfl <| lda rfl rfl rfl rfl rfl rfl <| st rfl <| fab rfl rfl rfl rfl <| st rfl <| lda rfl rfl rfl rfl rfl rfl <| st rfl <| b_neq (k := .i64) rfl rfl <| sq [q3 2 cc0 v0, q3 3 cc0 v1, q2 9 cB (decide (v0.Level ≠ v1.Level))] <|
  xn <| cnd rfl h (fun b2 h => wpC_seq <| reg_s <| x_asg (sc cB false rfl) <| sq [q2 4 cB false] <|
  xn <| wpC_ret <| rt <| rt <| re <| fin h (r1 (ss rfl rfl) <| r0) rfl)
  (fun b2 h => wpC_skip <| kpN [q3 2 cc0 v0, q3 3 cc0 v1] (by kernel_rfl) <| xn <| wpC_seq <| wpC_kp <| wpC_seq <| reg_s <| st rfl <| fab rfl rfl rfl rfl <| st rfl <| lda rfl rfl rfl rfl rfl rfl <| st rfl <| fab rfl rfl rfl rfl <| st rfl <| lda rfl rfl rfl rfl rfl rfl <| bnd h fun x10 e11 h => st rfl <| o_call (a1 (c := cc7) (tLs tK) rfl (a1 (c := cc7) (tLs tK) rfl a0)) (con_laws_eqIntS e11) (.inl (so1 sB so0)) <| st rfl <| o_nt rfl <| sq [q3 2 cc0 v0, q3 3 cc0 v1, q2 15 cB (!x10)] <|
  xn <| cnd rfl h (fun b12 h => wpC_seq <| reg_s <| x_asg (sc cB false rfl) <| sq [q2 4 cB false] <|
  xn <| wpC_ret <| rt <| rt <| re <| fin h (r1 (ss rfl rfl) <| r0) rfl)
  (fun b12 h => wpC_skip <| kpN [q3 2 cc0 v0, q3 3 cc0 v1] (by kernel_rfl) <| xn <| wpC_seq <| wpC_kp <| wpC_seq <| reg_s <| st rfl <| fab rfl rfl rfl rfl <| st rfl <| lda rfl rfl rfl rfl rfl rfl <| st rfl <| fab rfl rfl rfl rfl <| st rfl <| lda rfl rfl rfl rfl rfl rfl <| bnd h fun x20 e21 h => st rfl <| o_call (a1 (c := cc7) (tLs tK) rfl (a1 (c := cc7) (tLs tK) rfl a0)) (con_laws_eqIntS e21) (.inl (so1 sB so0)) <| st rfl <| o_nt rfl <| sq [q3 2 cc0 v0, q3 3 cc0 v1, q2 21 cB (!x20)] <|
  xn <| cnd rfl h (fun b22 h => wpC_seq <| reg_s <| x_asg (sc cB false rfl) <| sq [q2 4 cB false] <|
  xn <| wpC_ret <| rt <| rt <| re <| fin h (r1 (ss rfl rfl) <| r0) rfl)
  (fun b22 h => wpC_skip <| kpN [q3 2 cc0 v0, q3 3 cc0 v1] (by kernel_rfl) <| xn <| wpC_seq <| wpC_kp <| wpC_seq <| reg_s <| st rfl <| fab rfl rfl rfl rfl <| st rfl <| lda rfl rfl rfl rfl rfl rfl <| st rfl <| fab rfl rfl rfl rfl <| st rfl <| lda rfl rfl rfl rfl rfl rfl <| st rfl <| b_neq (k := .i64) rfl rfl <| sq [q2 26 cB (decide (v0.Sum ≠ v1.Sum))] <|
  xn <| cnd rfl h (fun b24 h => wpC_seq <| reg_s <| x_asg (sc cB false rfl) <| sq [q2 4 cB false] <|
  xn <| wpC_ret <| rt <| rt <| re <| fin h (r1 (ss rfl rfl) <| r0) rfl)
  (fun b24 h => wpC_skip <| kpN [] (by kernel_rfl) <| xn <| wpC_seq <| reg_s <| x_asg (sc cB true rfl) <| sq [q2 4 cB true] <|
  xn <| wpC_ret <| re <| fin h (r1 (ss rfl rfl) <| r0) rfl))))

def rs_laws_eqGeo (r : Bool) : List D := [cB.enc r]
def m12 : MC := .seq (.reg [q1 2 (.box (.t 0)),q1 3 (.box (.t 1)),q1 4 (.asg (.c (.bool false)))] [2, 3])
 (.seq (.kp [] (.seq (.reg [q1 5 (.fa 2 0 0),q1 6 (.ld 5 1 false),q1 7 (.fa 3 0 0),q1 8 (.ld 7 1 false),q1 9 (.call 34 [(.t 6), (.t 8)]),q1 10 (.nt (.t 9))] [10])
 (.cond (.t 10) (.seq (.reg [q1 4 (.asg (.c (.bool false)))] [4])
 (.ret)) (.skip))))
 (.seq (.reg [q1 4 (.asg (.c (.bool true)))] [4])
 (.ret)))
theorem con_laws_eqGeo {v0 : XGeo} {v1 : XGeo} {r : Bool} (h : sh_laws_eqGeo v0 v1 = some r) : Con Tryz.prog 12 [cc4.enc v0, cc4.enc v1] [] (rs_laws_eqGeo r) := by
 delta sh_laws_eqGeo at h
 refine top (out := none) (f := Tryz.f12) (m := m12) (rs := [.t 4]) (by kernel_rfl) rfl (by kernel_rfl) (by kernel_rfl) (by kernel_rfl) (by kernel_rfl) (by kernel_rfl) ?_
 exact
  ini [q2 0 cc4 v0, q2 1 cc4 v1] rfl <| wpC_seq <| reg_s <| x_box (ss rfl rfl) <| x_box (ss rfl rfl) <| x_asg (sc cB false rfl) <| sq [q3 2 cc4 v0, q3 3 cc4 v1] <|
  xn <| wpC_seq <| wpC_kp <| wpC_seq <| reg_s <| st rfl <| fab rfl rfl rfl rfl <| st rfl <| lda rfl rfl rfl rfl rfl rfl <| st rfl <| fab rfl rfl rfl rfl <| st rfl <| lda rfl rfl rfl rfl rfl rfl <| bnd h fun x8 e9 h => st rfl <| o_call (a1 (c := cc7) (tLs tK) rfl (a1 (c := cc7) (tLs tK) rfl a0)) (con_laws_eqIntS e9) (.inl (so1 sB so0)) <| st rfl <| o_nt rfl <| sq [q2 10 cB (!x8)] <|
  xn <| cnd rfl h (fun b10 h => wpC_seq <| reg_s <| x_asg (sc cB false rfl) <| sq [q2 4 cB false] <|
  xn <| wpC_ret <| rt <| rt <| re <| fin h (r1 (ss rfl rfl) <| r0) rfl)
  (fun b10 h => wpC_skip <| kpN [] (by kernel_rfl) <| xn <| wpC_seq <| reg_s <| x_asg (sc cB true rfl) <| sq [q2 4 cB true] <|
  xn <| wpC_ret <| re <| fin h (r1 (ss rfl rfl) <| r0) rfl)

def rs_laws_eqVariable (r : Bool) : List D := [cB.enc r]
def m35 : MC := .seq (.reg [q1 2 (.box (.t 0)),q1 3 (.box (.t 1)),q1 4 (.asg (.c (.bool false)))] [2, 3])
 (.seq (.kp [2, 3] (.seq (.reg [q1 5 (.fa 2 0 0),q1 6 (.ld 5 1 false),q1 7 (.fa 3 0 0),q1 8 (.ld 7 1 false),q1 9 (.bin .neq (.t 6) (.t 8))] [2, 3, 9])
 (.cond (.t 9) (.seq (.reg [q1 4 (.asg (.c (.bool false)))] [4])
 (.ret)) (.skip))))
 (.seq (.kp [] (.seq (.reg [q1 10 (.fa 2 1 1),q1 11 (.ld 10 1 false),q1 12 (.fa 3 1 1),q1 13 (.ld 12 1 false),q1 14 (.bin .neq (.t 11) (.t 13))] [14])
 (.cond (.t 14) (.seq (.reg [q1 4 (.asg (.c (.bool false)))] [4])
 (.ret)) (.skip))))
 (.seq (.reg [q1 4 (.asg (.c (.bool true)))] [4])
 (.ret))))
theorem con_laws_eqVariable {v0 : XVariable} {v1 : XVariable} {r : Bool} (h : sh_laws_eqVariable v0 v1 = some r) : Con Tryz.prog 35 [cc5.enc v0, cc5.enc v1] [] (rs_laws_eqVariable r) := by
 delta sh_laws_eqVariable at h
 refine top (out := none) (f := Tryz.f35) (m := m35) (rs := [.t 4]) (by kernel_rfl) rfl (by kernel_rfl) (by kernel_rfl) (by kernel_rfl) (by kernel_rfl) (by kernel_rfl) ?_
 exact
  ini [q2 0 cc5 v0, q2 1 cc5 v1] rfl <| wpC_seq <| reg_s <| x_box (ss rfl rfl) <| x_box (ss rfl rfl) <| x_asg (sc cB false rfl) <| sq [q3 2 cc5 v0, q3 3 cc5 v1] <|
  xn <| wpC_seq <| wpC_kp <| wpC_seq <| reg_s <| st rfl <| fab rfl rfl rfl rfl <| st rfl <| lda rfl rfl rfl rfl rfl rfl <| st rfl <| fab rfl rfl rfl rfl <| st rfl <| lda rfl rfl rfl rfl rfl rfl <| st rfl <| b_sne rfl rfl <| sq [q3 2 cc5 v0, q3 3 cc5 v1, q2 9 cB (decide (v0.Name ≠ v1.Name))] <|
  xn <| cnd rfl h (fun b2 h => wpC_seq <| reg_s <| x_asg (sc cB false rfl) <| sq [q2 4 cB false] <|
  xn <| wpC_ret <| rt <| rt <| re <| fin h (r1 (ss rfl rfl) <| r0) rfl)
  (fun b2 h => wpC_skip <| kpN [q3 2 cc5 v0, q3 3 cc5 v1] (by kernel_rfl) <| xn <| wpC_seq <| wpC_kp <| wpC_seq <| reg_s <| st rfl <| fab rfl rfl rfl rfl <| st rfl <| lda rfl rfl rfl rfl rfl rfl <| st rfl <| fab rfl rfl rfl rfl <| st rfl <| lda rfl rfl rfl rfl rfl rfl <| st rfl <| b_neq (k := .i64) rfl rfl <| sq [q2 14 cB (decide (v0.Levels ≠ v1.Levels))] <|
  xn <| cnd rfl h (fun b4 h => wpC_seq <| reg_s <| x_asg (sc cB false rfl) <| sq [q2 4 cB false] <|
  xn <| wpC_ret <| rt <| rt <| re <| fin h (r1 (ss rfl rfl) <| r0) rfl)
  (fun b4 h => wpC_skip <| kpN [] (by kernel_rfl) <| xn <| wpC_seq <| reg_s <| x_asg (sc cB true rfl) <| sq [q2 4 cB true] <|
  xn <| wpC_ret <| re <| fin h (r1 (ss rfl rfl) <| r0) rfl))

def rs_laws_eqVariableS (r : Bool) : List D := [cB.enc r]
def m13 : MC := .seq (.reg [q1 4 (.asg (.c (.bool false)))] [0, 1])
 (.seq (.kp [0, 1] (.seq (.reg [q1 6 (.mv (.t 0)),q1 7 (.len false (.t 6)),q1 8 (.mv (.t 1)),q1 9 (.len false (.t 8)),q1 10 (.bin .neq (.t 7) (.t 9))] [0, 1, 10])
 (.cond (.t 10) (.seq (.reg [q1 4 (.asg (.c (.bool false)))] [4])
 (.ret)) (.skip))))
 (.seq (.kp [] (.seq (.reg [q1 5 (.asg (.c (.int .i64 0)))] [0, 1, 5])
 (.blk 0 (.loop (.seq (.kp [0, 1, 5] (.seq (.reg [q1 11 (.mv (.t 5)),q1 12 (.mv (.t 0)),q1 13 (.len false (.t 12)),q1 14 (.bin .lss (.t 11) (.t 13))] [0, 1, 5, 14])
 (.cond (.t 14) (.skip) (.exit 0))))
 (.seq (.kp [0, 1, 5] (.blk 1 (.seq (.drw [⟨0, q1 17 (.mv (.t 0)), [18, 19, 20, 21, 22, 23, 24, 25, 26]⟩,
  ⟨1, q1 18 (.mv (.t 5)), [17, 19, 20, 21, 22, 23, 24, 25, 26]⟩,
  ⟨2, q1 19 (.ia 17 (.t 18) 2), [20, 21, 22, 23, 24, 25, 26]⟩,
  ⟨3, q1 20 (.ld 19 2 true), [21, 22, 23, 24, 25, 26]⟩,
  ⟨4, q1 21 (.mv (.t 1)), [17, 18, 19, 20, 22, 23, 24, 25, 26]⟩,
  ⟨5, q1 22 (.mv (.t 5)), [17, 18, 19, 20, 21, 23, 24, 25, 26]⟩,
  ⟨6, q1 23 (.ia 21 (.t 22) 2), [17, 18, 19, 20, 24, 25, 26]⟩,
  ⟨7, q1 24 (.ld 23 2 true), [17, 18, 19, 20, 25, 26]⟩,
  ⟨8, q1 25 (.call 35 [(.t 20), (.t 24)]), [26]⟩,
  ⟨9, q1 26 (.nt (.t 25)), []⟩]
  [] [0, 1, 5, 26])
 (.cond (.t 26) (.seq (.reg [q1 4 (.asg (.c (.bool false)))] [4])
 (.ret)) (.skip)))))
 (.reg [q1 15 (.mv (.t 5)),q1 16 (.bin .add (.t 15) (.c (.int .i64 1))),q1 5 (.asg (.t 16))] [0, 1, 5])))))))
 (.seq (.reg [q1 4 (.asg (.c (.bool true)))] [4])
 (.ret))))
theorem con_laws_eqVariableS {v0 : (List XVariable)} {v1 : (List XVariable)} {r : Bool} (h : sh_laws_eqVariableS v0 v1 = some r) : Con Tryz.prog 13 [cc2.enc v0, cc2.enc v1] [] (rs_laws_eqVariableS r) := by
 delta sh_laws_eqVariableS at h
 refine top (out := none) (f := Tryz.f13) (m := m13) (rs := [.t 4]) (by kernel_rfl) rfl (by kernel_rfl) (by kernel_rfl) (by kernel_rfl) (by kernel_rfl) (by kernel_rfl) ?_
 exact
  ini [q2 0 cc2 v0, q2 1 cc2 v1] rfl <| wpC_seq <| reg_s <| x_asg (sc cB false rfl) <| sq [q2 0 cc2 v0, q2 1 cc2 v1] <|
  xn <| wpC_seq <| wpC_kp <| wpC_seq <| reg_s <| st rfl <| mvd rfl rfl <| stw rfl <| lens rfl fun l8 => st rfl <| mvd rfl rfl <| stw rfl <| lens rfl fun l9 => st rfl <| b_neq (k := .i64) rfl rfl <| sq [q2 0 cc2 v0, q2 1 cc2 v1, q2 10 cB (decide ((v0.length : Int) ≠ (v1.length : Int)))] <|
  xn <| cnd rfl h (fun b10 h => wpC_seq <| reg_s <| x_asg (sc cB false rfl) <| sq [q2 4 cB false] <|
  xn <| wpC_ret <| rt <| rt <| re <| fin h (r1 (ss rfl rfl) <| r0) rfl)
  (fun b10 h => wpC_skip <| kpN [q2 0 cc2 v0, q2 1 cc2 v1] (by kernel_rfl) <| xn <| wpC_seq <| wpC_kp <| wpC_seq <| reg_s <| x_asg (sc cI (0 : Int) rfl) <| sq [q2 0 cc2 v0, q2 1 cc2 v1, q2 5 cI (0 : Int)] <|
  xn <| wpC_blk <| lpF (fun (s142 : Int) => [q2 0 cc2 v0, q2 1 cc2 v1, q2 5 cI s142]) (0 : Int) rfl h
  fun G231 nx229 s142 hn230 h => wpC_seq <| wpC_kp <| wpC_seq <| reg_s <| st rfl <| mvd rfl rfl <| st rfl <| mvd rfl rfl <| stw rfl <| lens rfl fun l236 => st rfl <| b_lss (k := .i64) rfl rfl <| sq [q2 0 cc2 v0, q2 1 cc2 v1, q2 5 cI s142, q2 14 cB (decide (s142 < (v0.length : Int)))] <|
  xn <| cnd rfl h (fun b237 h => wpC_skip <| kpN [q2 0 cc2 v0, q2 1 cc2 v1, q2 5 cI s142] (by kernel_rfl) <| xn <| wpC_seq <| wpC_kp <| wpC_blk <| wpC_seq <| drw_s <| pst rfl <| mvd rfl rfl ⟨rfl, pst rfl <| mvd rfl rfl ⟨rfl, getO_kp h fun x263 i264 g265 h => pst rfl <| ias rfl rfl i264 g265 rfl ⟨rfl, pst rfl <| ldi rfl rfl rfl rfl ⟨rfl, pst rfl <| mvd rfl rfl ⟨rfl, pst rfl <| mvd rfl rfl ⟨rfl, getO_kp h fun x266 i267 g268 h => pst rfl <| ias rfl rfl i267 g268 rfl ⟨rfl, pst rfl <| ldi rfl rfl rfl rfl ⟨rfl, bndp h fun x269 e270 h => pst rfl <| o_call (a1 (c := cc5) (tXVariable tS tK) rfl (a1 (c := cc5) (tXVariable tS tK) rfl a0)) (con_laws_eqVariable e270) (.inl (so1 sB so0)) ⟨rfl, pst rfl <| o_nt rfl ⟨rfl, preN <| sq [q2 0 cc2 v0, q2 1 cc2 v1, q2 5 cI s142, q2 26 cB (!x269)] <|
  xn <| cnd rfl h (fun b271 h => wpC_seq <| reg_s <| x_asg (sc cB false rfl) <| sq [q2 4 cB false] <|
  xn <| wpC_ret <| rb <| rt <| rt <| rt <| rb <| rt <| rt <| re <| fin h (r1 (ss rfl rfl) <| r0) rfl)
  (fun b271 h => wpC_skip <| xbb <| kpN [q2 0 cc2 v0, q2 1 cc2 v1, q2 5 cI s142] (by kernel_rfl) <| xn <| reg_s <| st rfl <| mvd rfl rfl <| ckI_k h fun i272 h => st rfl <| b_add (k := .i64) rfl rfl i272 <| x_asg (ss rfl rfl) <| sq [q2 0 cc2 v0, q2 1 cc2 v1, q2 5 cI (s142 + (1 : Int))] <|
  xn <| hn230 (s142 + (1 : Int)) h)⟩⟩⟩⟩⟩⟩⟩⟩⟩⟩)
  (fun b237 h => wpC_exit <| xt <| xt <| xt <| xb <| kpN [] (by kernel_rfl) <| xn <| wpC_seq <| reg_s <| x_asg (sc cB true rfl) <| sq [q2 4 cB true] <|
  xn <| wpC_ret <| re <| fin h (r1 (ss rfl rfl) <| r0) rfl))

def os_laws_markIntS (r : ((List Int) × Int)) : D := cc9.enc r.1
def rs_laws_markIntS (r : ((List Int) × Int)) : List D := [cI.enc r.2]
def m36 : MC := .seq (.reg [q1 4 (.asg (.c (.int .i64 0)))] [0, 1])
 (.seq (.kp [0, 1] (.seq (.reg [q1 5 (.asg (.c (.int .i64 0)))] [0, 1, 5])
 (.blk 0 (.loop (.seq (.kp [0, 1, 5] (.seq (.reg [q1 6 (.mv (.t 5)),q1 7 (.mv (.t 0)),q1 8 (.len false (.t 7)),q1 9 (.bin .lss (.t 6) (.t 8))] [0, 1, 5, 9])
 (.cond (.t 9) (.skip) (.exit 0))))
 (.seq (.kp [0, 1, 5] (.blk 1 (.seq (.reg [q1 12 (.mv (.t 0)),q1 13 (.mv (.t 5)),q1 14 (.mv (.t 1)),q1 15 (.ia 12 (.t 13) 1),q0 (.st 15 (.t 14) 1)] [0, 1, 5])
 (.reg [q1 16 (.mv (.t 1)),q1 17 (.bin .add (.t 16) (.c (.int .i64 1))),q1 1 (.asg (.t 17))] [0, 1, 5]))))
 (.reg [q1 10 (.mv (.t 5)),q1 11 (.bin .add (.t 10) (.c (.int .i64 1))),q1 5 (.asg (.t 11))] [0, 1, 5])))))))
 (.seq (.reg [q1 18 (.mv (.t 1)),q1 4 (.asg (.t 18))] [0, 4])
 (.ret)))
theorem con_laws_markIntS {v0 : (List Int)} {v1 : Int} {r : ((List Int) × Int)} (h : sh_laws_markIntS v0 v1 = some r) : Con Tryz.prog 36 [cc9.enc v0, cI.enc v1] (outsOf (some (0, os_laws_markIntS r))) (rs_laws_markIntS r) := by
 delta sh_laws_markIntS at h
 refine top (out := some (0, os_laws_markIntS r)) (f := Tryz.f36) (m := m36) (rs := [.t 4]) (by kernel_rfl) rfl (by kernel_rfl) (by kernel_rfl) (by kernel_rfl) (by kernel_rfl) (by kernel_rfl) ?_
 exact
  ini [q2 0 cc9 v0, q2 1 cI v1] rfl <| wpC_seq <| reg_s <| x_asg (sc cI (0 : Int) rfl) <| sq [q2 0 cc9 v0, q2 1 cI v1] <|
  xn <| wpC_seq <| wpC_kp <| wpC_seq <| reg_s <| x_asg (sc cI (0 : Int) rfl) <| sq [q2 0 cc9 v0, q2 1 cI v1, q2 5 cI (0 : Int)] <|
  xn <| wpC_blk <| lpF (fun (s72 : ((List Int) × Int × Int)) => [q2 0 cc9 s72.1, q2 1 cI s72.2.1, q2 5 cI s72.2.2]) (v0, v1, (0 : Int)) rfl h
  fun G121 nx119 s72 hn120 h => wpC_seq <| wpC_kp <| wpC_seq <| reg_s <| st rfl <| mvd rfl rfl <| st rfl <| mvo rfl rfl <| stw rfl <| leno rfl fun l126 => st rfl <| b_lss (k := .i64) rfl rfl <| sq [q2 0 cc9 s72.1, q2 1 cI s72.2.1, q2 5 cI s72.2.2, q2 9 cB (decide (s72.2.2 < (s72.1.length : Int)))] <|
  xn <| cnd rfl h (fun b127 h => wpC_skip <| kpN [q2 0 cc9 s72.1, q2 1 cI s72.2.1, q2 5 cI s72.2.2] (by kernel_rfl) <| xn <| wpC_seq <| wpC_kp <| wpC_blk <| wpC_seq <| reg_s <| st rfl <| mvo rfl rfl <| st rfl <| mvd rfl rfl <| st rfl <| mvd rfl rfl <| getO_k h fun x138 i139 g140 h => st rfl <| iar rfl rfl rfl rfl i139 g140 rfl <| x_sta (cc9.enc (s72.1.set (s72.2.2).toNat s72.2.1)) (ss rfl rfl) rfl rfl (Ln.idx g140 Ln.nil) (Cd.h_sz cI _) rfl <| sq [q2 0 cc9 (s72.1.set (s72.2.2).toNat s72.2.1), q2 1 cI s72.2.1, q2 5 cI s72.2.2] <|
  xn <| reg_s <| st rfl <| mvd rfl rfl <| ckI_k h fun i141 h => st rfl <| b_add (k := .i64) rfl rfl i141 <| x_asg (ss rfl rfl) <| sq [q2 0 cc9 (s72.1.set (s72.2.2).toNat s72.2.1), q2 1 cI (s72.2.1 + (1 : Int)), q2 5 cI s72.2.2] <|
  xbb <| kpN [q2 0 cc9 (s72.1.set (s72.2.2).toNat s72.2.1), q2 1 cI (s72.2.1 + (1 : Int)), q2 5 cI s72.2.2] (by kernel_rfl) <| xn <| reg_s <| st rfl <| mvd rfl rfl <| ckI_k h fun i142 h => st rfl <| b_add (k := .i64) rfl rfl i142 <| x_asg (ss rfl rfl) <| sq [q2 0 cc9 (s72.1.set (s72.2.2).toNat s72.2.1), q2 1 cI (s72.2.1 + (1 : Int)), q2 5 cI (s72.2.2 + (1 : Int))] <|
  xn <| hn120 ((s72.1.set (s72.2.2).toNat s72.2.1), (s72.2.1 + (1 : Int)), (s72.2.2 + (1 : Int))) h)
  (fun b127 h => wpC_exit <| xt <| xt <| xt <| xb <| kpN [q2 0 cc9 s72.1, q2 1 cI s72.2.1] (by kernel_rfl) <| xn <| wpC_seq <| reg_s <| st rfl <| mvd rfl rfl <| x_asg (ss rfl rfl) <| sq [q2 0 cc9 s72.1, q2 4 cI s72.2.1] <|
  xn <| wpC_ret <| re <| finO h (r1 (ss rfl rfl) <| r0) rfl rfl)

def os_laws_markGeo (r : (XGeo × Int)) : D := cc6.enc r.1
def rs_laws_markGeo (r : (XGeo × Int)) : List D := [cI.enc r.2]
def m14 : MC := .seq (.reg [q1 2 (.boxm 0),q1 4 (.asg (.c (.int .i64 0)))] [0, 1, 2])
 (.seq (.reg [q1 5 (.fa 2 0 0),q1 6 (.ld 5 1 false),q1 7 (.mv (.t 1)),q1 8 (.callO 36 [(.t 6), (.t 7)]),q1 1 (.asg (.t 8))] [0, 1])
 (.seq (.reg [q1 9 (.mv (.t 1)),q1 4 (.asg (.t 9))] [0, 4])
 (.ret)))
theorem con_laws_markGeo {v0 : XGeo} {v1 : Int} {r : (XGeo × Int)} (h : sh_laws_markGeo v0 v1 = some r) : Con Tryz.prog 14 [cc6.enc v0, cI.enc v1] (outsOf (some (0, os_laws_markGeo r))) (rs_laws_markGeo r) := by
 delta sh_laws_markGeo at h
 refine top (out := some (0, os_laws_markGeo r)) (f := Tryz.f14) (m := m14) (rs := [.t 4]) (by kernel_rfl) rfl (by kernel_rfl) (by kernel_rfl) (by kernel_rfl) (by kernel_rfl) (by kernel_rfl) ?_
 exact
  ini [q2 0 cc6 v0, q2 1 cI v1] rfl <| wpC_seq <| reg_s <| x_boxm rfl rfl <| x_asg (sc cI (0 : Int) rfl) <| sq [q2 0 cc6 v0, q2 1 cI v1, (2, .mad 0 [])] <|
  xn <| wpC_seq <| reg_s <| st rfl <| fam rfl rfl rfl rfl rfl rfl <| st rfl <| ldmo rfl rfl rfl rfl rfl rfl <| st rfl <| mvd rfl rfl <| bnd h fun x3 e4 h => x_clr (c := cc9) (c' := cc9) (cc6.enc (⟨x3.1⟩ : XGeo)) (sLo sK) rfl (a1 (c := cI) tK rfl a0) rfl (Ln.fld rfl rfl Ln.nil rfl) (con_laws_markIntS e4) rfl rfl (so1 sK so0) <| x_asg (ss rfl rfl) <| sq [q2 0 cc6 (⟨x3.1⟩ : XGeo), q2 1 cI x3.2] <|
  xn <| wpC_seq <| reg_s <| st rfl <| mvd rfl rfl <| x_asg (ss rfl rfl) <| sq [q2 0 cc6 (⟨x3.1⟩ : XGeo), q2 4 cI x3.2] <|
  xn <| wpC_ret <| re <| finO h (r1 (ss rfl rfl) <| r0) rfl rfl

def rs_laws_markText (r : (List UInt8)) : List D := [cS.enc r]
def m37 : MC := .seq (.reg [q1 2 (.asg (.c (.str [])))] [0])
 (.seq (.kp [0] (.seq (.reg [q1 4 (.mv (.t 0)),q1 5 (.bin .leq (.t 4) (.c (.int .i64 0)))] [0, 5])
 (.cond (.t 5) (.seq (.reg [q1 2 (.asg (.c (.str [109, 48])))] [2])
 (.ret)) (.skip))))
 (.seq (.reg [q1 3 (.asg (.c (.str [])))] [0, 3])
 (.seq (.kp [3] (.blk 0 (.loop (.kp [0, 3] (.seq (.kp [0, 3] (.seq (.reg [q1 6 (.mv (.t 0)),q1 7 (.bin .gtr (.t 6) (.c (.int .i64 0)))] [0, 3, 7])
 (.cond (.t 7) (.skip) (.exit 0))))
 (.blk 1 (.seq (.reg [q1 8 (.mv (.t 0)),q1 9 (.bin .rem (.t 8) (.c (.int .i64 10))),q1 10 (.bin .add (.c (.int .i64 48)) (.t 9)),q1 11 (.cvi .u8 (.t 10)),q1 12 (.bsl [(.t 11)] 1),q1 13 (.b2s (.t 12)),q1 14 (.mv (.t 3)),q1 15 (.bin .add (.t 13) (.t 14)),q1 3 (.asg (.t 15))] [0, 3])
 (.reg [q1 16 (.mv (.t 0)),q1 17 (.bin .quo (.t 16) (.c (.int .i64 10))),q1 0 (.asg (.t 17))] [0, 3]))))))))
 (.seq (.reg [q1 18 (.mv (.t 3)),q1 19 (.bin .add (.c (.str [109])) (.t 18)),q1 2 (.asg (.t 19))] [2])
 (.ret)))))
theorem con_laws_markText {v0 : Int} {r : (List UInt8)} (h : sh_laws_markText v0 = some r) : Con Tryz.prog 37 [cI.enc v0] [] (rs_laws_markText r) := by
 delta sh_laws_markText at h
 refine top (out := none) (f := Tryz.f37) (m := m37) (rs := [.t 2]) (by kernel_rfl) rfl (by kernel_rfl) (by kernel_rfl) (by kernel_rfl) (by kernel_rfl) (by kernel_rfl) ?_
 exact
  ini [q2 0 cI v0] rfl <| wpC_seq <| reg_s <| x_asg (sc cS ([] : List UInt8) rfl) <| sq [q2 0 cI v0] <|
  xn <| wpC_seq <| wpC_kp <| wpC_seq <| reg_s <| st rfl <| mvd rfl rfl <| st rfl <| b_leq (k := .i64) rfl rfl <| sq [q2 0 cI v0, q2 5 cB (decide (v0 ≤ (0 : Int)))] <|
  xn <| cnd rfl h (fun b2 h => wpC_seq <| reg_s <| x_asg (sc cS ([109, 48] : List UInt8) rfl) <| sq [q2 2 cS ([109, 48] : List UInt8)] <|
  xn <| wpC_ret <| rt <| rt <| re <| fin h (r1 (ss rfl rfl) <| r0) rfl)
  (fun b2 h => wpC_skip <| kpN [q2 0 cI v0] (by kernel_rfl) <| xn <| wpC_seq <| reg_s <| x_asg (sc cS ([] : List UInt8) rfl) <| sq [q2 0 cI v0, q2 3 cS ([] : List UInt8)] <|
  xn <| wpC_seq <| wpC_kp <| wpC_blk <| lpF (fun (s59 : (Int × (List UInt8))) => [q2 0 cI s59.1, q2 3 cS s59.2]) (v0, ([] : List UInt8)) rfl h
  fun G98 nx96 s59 hn97 h => wpC_kp <| wpC_seq <| wpC_kp <| wpC_seq <| reg_s <| st rfl <| mvd rfl rfl <| st rfl <| b_gtr (k := .i64) rfl rfl <| sq [q2 0 cI s59.1, q2 3 cS s59.2, q2 7 cB (decide ((0 : Int) < s59.1))] <|
  xn <| cnd rfl h (fun b100 h => wpC_skip <| kpN [q2 0 cI s59.1, q2 3 cS s59.2] (by kernel_rfl) <| xn <| wpC_blk <| wpC_seq <| reg_s <| st rfl <| mvd rfl rfl <| ck_k h fun i107 h => st rfl <| b_rem (k := .i64) rfl rfl i107 <| ckI_k h fun i108 h => st rfl <| b_add (k := .i64) rfl rfl i108 <| ckU_k h fun i109 h => st rfl <| o_cvi (k := .i64) (k' := .u8) rfl i109 <| x_bsl cU [((48 : Int) + (s59.1.tmod (10 : Int)))] (t1 (ss rfl rfl) rfl t0) rfl rfl <| ck_k h fun i110 h => st rfl <| o_b2s rfl rfl i110 <| st rfl <| mvd rfl rfl <| lnO_k h fun l112 h => st rfl <| b_cat rfl rfl l112 <| x_asg (ss rfl rfl) <| sq [q2 0 cI s59.1, q2 3 cS ((bytesOf [((48 : Int) + (s59.1.tmod (10 : Int)))]) ++ s59.2)] <|
  xn <| reg_s <| st rfl <| mvd rfl rfl <| ck_k h fun i113 h => ckI_k h fun i114 h => st rfl <| b_quo (k := .i64) rfl rfl i113 i114 <| x_asg (ss rfl rfl) <| sq [q2 0 cI (s59.1.tdiv (10 : Int)), q2 3 cS ((bytesOf [((48 : Int) + (s59.1.tmod (10 : Int)))]) ++ s59.2)] <|
  xbb <| kpN [q2 0 cI (s59.1.tdiv (10 : Int)), q2 3 cS ((bytesOf [((48 : Int) + (s59.1.tmod (10 : Int)))]) ++ s59.2)] (by kernel_rfl) <| xn <| hn97 ((s59.1.tdiv (10 : Int)), ((bytesOf [((48 : Int) + (s59.1.tmod (10 : Int)))]) ++ s59.2)) h)
  (fun b100 h => wpC_exit <| xt <| xt <| xt <| xt <| xb <| kpN [q2 3 cS s59.2] (by kernel_rfl) <| xn <| wpC_seq <| reg_s <| st rfl <| mvd rfl rfl <| lnO_k h fun l116 h => st rfl <| b_cat rfl rfl l116 <| x_asg (ss rfl rfl) <| sq [q2 2 cS (([109] : List UInt8) ++ s59.2)] <|
  xn <| wpC_ret <| re <| fin h (r1 (ss rfl rfl) <| r0) rfl))

def os_laws_markVariableS (r : ((List XVariable) × Int)) : D := cc3.enc r.1
def rs_laws_markVariableS (r : ((List XVariable) × Int)) : List D := [cI.enc r.2]
def m15 : MC := .seq (.reg [q1 4 (.asg (.c (.int .i64 0)))] [0, 1])
 (.seq (.kp [0, 1] (.seq (.reg [q1 5 (.asg (.c (.int .i64 0)))] [0, 1, 5])
 (.blk 0 (.loop (.seq (.kp [0, 1, 5] (.seq (.reg [q1 6 (.mv (.t 5)),q1 7 (.mv (.t 0)),q1 8 (.len false (.t 7)),q1 9 (.bin .lss (.t 6) (.t 8))] [0, 1, 5, 9])
 (.cond (.t 9) (.skip) (.exit 0))))
 (.seq (.kp [0, 1, 5] (.blk 1 (.seq (.reg [q1 12 (.mv (.t 0)),q1 13 (.mv (.t 5)),q1 14 (.mv (.t 1)),q1 15 (.call 37 [(.t 14)]),q1 16 (.ia 12 (.t 13) 2),q1 17 (.fa 16 0 0),q0 (.st 17 (.t 15) 1)] [0, 1, 5])
 (.seq (.reg [q1 18 (.mv (.t 1)),q1 19 (.bin .add (.t 18) (.c (.int .i64 1))),q1 1 (.asg (.t 19))] [0, 1, 5])
 (.seq (.reg [q1 20 (.mv (.t 0)),q1 21 (.mv (.t 5)),q1 22 (.mv (.t 1)),q1 23 (.ia 20 (.t 21) 2),q1 24 (.fa 23 1 1),q0 (.st 24 (.t 22) 1)] [0, 1, 5])
 (.reg [q1 25 (.mv (.t 1)),q1 26 (.bin .add (.t 25) (.c (.int .i64 1))),q1 1 (.asg (.t 26))] [0, 1, 5]))))))
 (.reg [q1 10 (.mv (.t 5)),q1 11 (.bin .add (.t 10) (.c (.int .i64 1))),q1 5 (.asg (.t 11))] [0, 1, 5])))))))
 (.seq (.reg [q1 27 (.mv (.t 1)),q1 4 (.asg (.t 27))] [0, 4])
 (.ret)))
theorem con_laws_markVariableS {v0 : (List XVariable)} {v1 : Int} {r : ((List XVariable) × Int)} (h : sh_laws_markVariableS v0 v1 = some r) : Con Tryz.prog 15 [cc3.enc v0, cI.enc v1] (outsOf (some (0, os_laws_markVariableS r))) (rs_laws_markVariableS r) := by
 delta sh_laws_markVariableS at h
 refine top (out := some (0, os_laws_markVariableS r)) (f := Tryz.f15) (m := m15) (rs := [.t 4]) (by kernel_rfl) rfl (by kernel_rfl) (by kernel_rfl) (by kernel_rfl) (by kernel_rfl) (by kernel_rfl) ?_
 exact
  ini [q2 0 cc3 v0, q2 1 cI v1] rfl <| wpC_seq <| reg_s <| x_asg (sc cI (0 : Int) rfl) <| sq [q2 0 cc3 v0, q2 1 cI v1] <|
  xn <| wpC_seq <| wpC_kp <| wpC_seq <| reg_s <| x_asg (sc cI (0 : Int) rfl) <| sq [q2 0 cc3 v0, q2 1 cI v1, q2 5 cI (0 : Int)] <|
  xn <| wpC_blk <| lpF (fun (s144 : ((List XVariable) × Int × Int)) => [q2 0 cc3 s144.1, q2 1 cI s144.2.1, q2 5 cI s144.2.2]) (v0, v1, (0 : Int)) rfl h
  fun G241 nx239 s144 hn240 h => wpC_seq <| wpC_kp <| wpC_seq <| reg_s <| st rfl <| mvd rfl rfl <| st rfl <| mvo rfl rfl <| stw rfl <| leno rfl fun l246 => st rfl <| b_lss (k := .i64) rfl rfl <| sq [q2 0 cc3 s144.1, q2 1 cI s144.2.1, q2 5 cI s144.2.2, q2 9 cB (decide (s144.2.2 < (s144.1.length : Int)))] <|
  xn <| cnd rfl h (fun b247 h => wpC_skip <| kpN [q2 0 cc3 s144.1, q2 1 cI s144.2.1, q2 5 cI s144.2.2] (by kernel_rfl) <| xn <| wpC_seq <| wpC_kp <| wpC_blk <| wpC_seq <| reg_s <| st rfl <| mvo rfl rfl <| st rfl <| mvd rfl rfl <| st rfl <| mvd rfl rfl <| bnd h fun x272 e273 h => st rfl <| o_call (a1 (c := cI) tK rfl a0) (con_laws_markText e273) (.inl (so1 sS so0)) <| getO_k h fun x274 i275 g276 h => st rfl <| iar rfl rfl rfl rfl i275 g276 rfl <| st rfl <| faa rfl rfl (Gt.idx g276 Gt.nil) rfl rfl rfl <| x_sta (cc3.enc (s144.1.set (s144.2.2).toNat (⟨x272, x274.Levels⟩ : XVariable))) (ss rfl rfl) rfl rfl (Ln.idx g276 (Ln.fld rfl rfl Ln.nil rfl)) (Cd.h_sz cS _) rfl <| sq [q2 0 cc3 (s144.1.set (s144.2.2).toNat (⟨x272, x274.Levels⟩ : XVariable)), q2 1 cI s144.2.1, q2 5 cI s144.2.2] <|
  xn <| wpC_seq <| reg_s <| st rfl <| mvd rfl rfl <| ckI_k h fun i278 h => st rfl <| b_add (k := .i64) rfl rfl i278 <| x_asg (ss rfl rfl) <| sq [q2 0 cc3 (s144.1.set (s144.2.2).toNat (⟨x272, x274.Levels⟩ : XVariable)), q2 1 cI (s144.2.1 + (1 : Int)), q2 5 cI s144.2.2] <|
  xn <| wpC_seq <| reg_s <| st rfl <| mvo rfl rfl <| st rfl <| mvd rfl rfl <| st rfl <| mvd rfl rfl <| getO_k h fun x282 i283 g284 h => st rfl <| iar rfl rfl rfl rfl i283 g284 rfl <| st rfl <| faa rfl rfl (Gt.idx g284 Gt.nil) rfl rfl rfl <| x_sta (cc3.enc ((s144.1.set (s144.2.2).toNat (⟨x272, x274.Levels⟩ : XVariable)).set (s144.2.2).toNat (⟨x282.Name, (s144.2.1 + (1 : Int))⟩ : XVariable))) (ss rfl rfl) rfl rfl (Ln.idx g284 (Ln.fld rfl rfl Ln.nil rfl)) (Cd.h_sz cI _) rfl <| sq [q2 0 cc3 ((s144.1.set (s144.2.2).toNat (⟨x272, x274.Levels⟩ : XVariable)).set (s144.2.2).toNat (⟨x282.Name, (s144.2.1 + (1 : Int))⟩ : XVariable)), q2 1 cI (s144.2.1 + (1 : Int)), q2 5 cI s144.2.2] <|
  xn <| reg_s <| st rfl <| mvd rfl rfl <| ckI_k h fun i285 h => st rfl <| b_add (k := .i64) rfl rfl i285 <| x_asg (ss rfl rfl) <| sq [q2 0 cc3 ((s144.1.set (s144.2.2).toNat (⟨x272, x274.Levels⟩ : XVariable)).set (s144.2.2).toNat (⟨x282.Name, (s144.2.1 + (1 : Int))⟩ : XVariable)), q2 1 cI ((s144.2.1 + (1 : Int)) + (1 : Int)), q2 5 cI s144.2.2] <|
  xbb <| kpN [q2 0 cc3 ((s144.1.set (s144.2.2).toNat (⟨x272, x274.Levels⟩ : XVariable)).set (s144.2.2).toNat (⟨x282.Name, (s144.2.1 + (1 : Int))⟩ : XVariable)), q2 1 cI ((s144.2.1 + (1 : Int)) + (1 : Int)), q2 5 cI s144.2.2] (by kernel_rfl) <| xn <| reg_s <| st rfl <| mvd rfl rfl <| ckI_k h fun i286 h => st rfl <| b_add (k := .i64) rfl rfl i286 <| x_asg (ss rfl rfl) <| sq [q2 0 cc3 ((s144.1.set (s144.2.2).toNat (⟨x272, x274.Levels⟩ : XVariable)).set (s144.2.2).toNat (⟨x282.Name, (s144.2.1 + (1 : Int))⟩ : XVariable)), q2 1 cI ((s144.2.1 + (1 : Int)) + (1 : Int)), q2 5 cI (s144.2.2 + (1 : Int))] <|
  xn <| hn240 (((s144.1.set (s144.2.2).toNat (⟨x272, x274.Levels⟩ : XVariable)).set (s144.2.2).toNat (⟨x282.Name, (s144.2.1 + (1 : Int))⟩ : XVariable)), ((s144.2.1 + (1 : Int)) + (1 : Int)), (s144.2.2 + (1 : Int))) h)
  (fun b247 h => wpC_exit <| xt <| xt <| xt <| xb <| kpN [q2 0 cc3 s144.1, q2 1 cI s144.2.1] (by kernel_rfl) <| xn <| wpC_seq <| reg_s <| st rfl <| mvd rfl rfl <| x_asg (ss rfl rfl) <| sq [q2 0 cc3 s144.1, q2 4 cI s144.2.1] <|
  xn <| wpC_ret <| re <| finO h (r1 (ss rfl rfl) <| r0) rfl rfl)

def os_laws_markTable (r : (XTable × Int)) : D := cc1.enc r.1
def rs_laws_markTable (r : (XTable × Int)) : List D := [cI.enc r.2]
def m16 : MC := .seq (.reg [q1 2 (.boxm 0),q1 4 (.asg (.c (.int .i64 0)))] [0, 1, 2])
 (.seq (.reg [q1 5 (.fa 2 1 1),q1 6 (.ld 5 1 false),q1 7 (.mv (.t 1)),q1 8 (.callO 36 [(.t 6), (.t 7)]),q1 1 (.asg (.t 8))] [0, 1, 2])
 (.seq (.reg [q1 9 (.fa 2 2 2),q1 10 (.ld 9 1 false),q1 11 (.mv (.t 1)),q1 12 (.callO 36 [(.t 10), (.t 11)]),q1 1 (.asg (.t 12))] [0, 1])
 (.seq (.reg [q1 13 (.mv (.t 1)),q1 4 (.asg (.t 13))] [0, 4])
 (.ret))))
theorem con_laws_markTable {v0 : XTable} {v1 : Int} {r : (XTable × Int)} (h : sh_laws_markTable v0 v1 = some r) : Con Tryz.prog 16 [cc1.enc v0, cI.enc v1] (outsOf (some (0, os_laws_markTable r))) (rs_laws_markTable r) := by
 delta sh_laws_markTable at h
 refine top (out := some (0, os_laws_markTable r)) (f := Tryz.f16) (m := m16) (rs := [.t 4]) (by kernel_rfl) rfl (by kernel_rfl) (by kernel_rfl) (by kernel_rfl) (by kernel_rfl) (by kernel_rfl) ?_
 exact
  ini [q2 0 cc1 v0, q2 1 cI v1] rfl <| wpC_seq <| reg_s <| x_boxm rfl rfl <| x_asg (sc cI (0 : Int) rfl) <| sq [q2 0 cc1 v0, q2 1 cI v1, (2, .mad 0 [])] <|
  xn <| wpC_seq <| reg_s <| st rfl <| fam rfl rfl rfl rfl rfl rfl <| st rfl <| ldmo rfl rfl rfl rfl rfl rfl <| st rfl <| mvd rfl rfl <| bnd h fun x3 e4 h => x_clr (c := cc9) (c' := cc9) (cc1.enc (⟨v0.Level, x3.1, v0.Where, v0.Sum⟩ : XTable)) (sLo sK) rfl (a1 (c := cI) tK rfl a0) rfl (Ln.fld rfl rfl Ln.nil rfl) (con_laws_markIntS e4) rfl rfl (so1 sK so0) <| x_asg (ss rfl rfl) <| sq [q2 0 cc1 (⟨v0.Level, x3.1, v0.Where, v0.Sum⟩ : XTable), q2 1 cI x3.2, (2, .mad 0 [])] <|
  xn <| wpC_seq <| reg_s <| st rfl <| fam rfl rfl rfl rfl rfl rfl <| st rfl <| ldmo rfl rfl rfl rfl rfl rfl <| st rfl <| mvd rfl rfl <| bnd h fun x7 e8 h => x_clr (c := cc9) (c' := cc9) (cc1.enc (⟨v0.Level, x3.1, x7.1, v0.Sum⟩ : XTable)) (sLo sK) rfl (a1 (c := cI) tK rfl a0) rfl (Ln.fld rfl rfl Ln.nil rfl) (con_laws_markIntS e8) rfl rfl (so1 sK so0) <| x_asg (ss rfl rfl) <| sq [q2 0 cc1 (⟨v0.Level, x3.1, x7.1, v0.Sum⟩ : XTable), q2 1 cI x7.2] <|
  xn <| wpC_seq <| reg_s <| st rfl <| mvd rfl rfl <| x_asg (ss rfl rfl) <| sq [q2 0 cc1 (⟨v0.Level, x3.1, x7.1, v0.Sum⟩ : XTable), q2 4 cI x7.2] <|
  xn <| wpC_ret <| re <| finO h (r1 (ss rfl rfl) <| r0) rfl rfl

def rs_laws_heldIntS (r : Int) : List D := [cI.enc r]
def m38 : MC := .seq (.reg [q1 4 (.asg (.c (.int .i64 0)))] [0, 1])
 (.seq (.kp [1] (.seq (.reg [q1 5 (.asg (.c (.int .i64 0)))] [0, 1, 5])
 (.blk 0 (.loop (.seq (.kp [0, 1, 5] (.seq (.reg [q1 6 (.mv (.t 5)),q1 7 (.mv (.t 0)),q1 8 (.len false (.t 7)),q1 9 (.bin .lss (.t 6) (.t 8))] [0, 1, 5, 9])
 (.cond (.t 9) (.skip) (.exit 0))))
 (.seq (.kp [0, 1, 5] (.blk 1 (.seq (.kp [0, 1, 5] (.seq (.reg [q1 12 (.mv (.t 0)),q1 13 (.mv (.t 5)),q1 14 (.ia 12 (.t 13) 1),q1 15 (.ld 14 1 false),q1 16 (.mv (.t 1)),q1 17 (.bin .neq (.t 15) (.t 16))] [0, 1, 5, 17])
 (.cond (.t 17) (.seq (.reg [q1 4 (.asg (.c (.int .i64 (-1))))] [4])
 (.ret)) (.skip))))
 (.reg [q1 18 (.mv (.t 1)),q1 19 (.bin .add (.t 18) (.c (.int .i64 1))),q1 1 (.asg (.t 19))] [0, 1, 5]))))
 (.reg [q1 10 (.mv (.t 5)),q1 11 (.bin .add (.t 10) (.c (.int .i64 1))),q1 5 (.asg (.t 11))] [0, 1, 5])))))))
 (.seq (.reg [q1 20 (.mv (.t 1)),q1 4 (.asg (.t 20))] [4])
 (.ret)))
theorem con_laws_heldIntS {v0 : (List Int)} {v1 : Int} {r : Int} (h : sh_laws_heldIntS v0 v1 = some r) : Con Tryz.prog 38 [cc7.enc v0, cI.enc v1] [] (rs_laws_heldIntS r) := by
 delta sh_laws_heldIntS at h
 refine top (out := none) (f := Tryz.f38) (m := m38) (rs := [.t 4]) (by kernel_rfl) rfl (by kernel_rfl) (by kernel_rfl) (by kernel_rfl) (by kernel_rfl) (by kernel_rfl) ?_
 exact
  ini [q2 0 cc7 v0, q2 1 cI v1] rfl <| wpC_seq <| reg_s <| x_asg (sc cI (0 : Int) rfl) <| sq [q2 0 cc7 v0, q2 1 cI v1] <|
  xn <| wpC_seq <| wpC_kp <| wpC_seq <| reg_s <| x_asg (sc cI (0 : Int) rfl) <| sq [q2 0 cc7 v0, q2 1 cI v1, q2 5 cI (0 : Int)] <|
  xn <| wpC_blk <| lpF (fun (s120 : (Int × Int)) => [q2 0 cc7 v0, q2 1 cI s120.1, q2 5 cI s120.2]) (v1, (0 : Int)) rfl h
  fun G201 nx199 s120 hn200 h => wpC_seq <| wpC_kp <| wpC_seq <| reg_s <| st rfl <| mvd rfl rfl <| st rfl <| mvd rfl rfl <| stw rfl <| lens rfl fun l206 => st rfl <| b_lss (k := .i64) rfl rfl <| sq [q2 0 cc7 v0, q2 1 cI s120.1, q2 5 cI s120.2, q2 9 cB (decide (s120.2 < (v0.length : Int)))] <|
  xn <| cnd rfl h (fun b207 h => wpC_skip <| kpN [q2 0 cc7 v0, q2 1 cI s120.1, q2 5 cI s120.2] (by kernel_rfl) <| xn <| wpC_seq <| wpC_kp <| wpC_blk <| wpC_seq <| wpC_kp <| wpC_seq <| reg_s <| st rfl <| mvd rfl rfl <| st rfl <| mvd rfl rfl <| getO_k h fun x233 i234 g235 h => st rfl <| ias rfl rfl i234 g235 rfl <| st rfl <| ldi rfl rfl rfl rfl <| st rfl <| mvd rfl rfl <| st rfl <| b_neq (k := .i64) rfl rfl <| sq [q2 0 cc7 v0, q2 1 cI s120.1, q2 5 cI s120.2, q2 17 cB (decide (x233 ≠ s120.1))] <|
  xn <| cnd rfl h (fun b236 h => wpC_seq <| reg_s <| x_asg (sc cI (-1 : Int) rfl) <| sq [q2 4 cI (-1 : Int)] <|
  xn <| wpC_ret <| rt <| rt <| rb <| rt <| rt <| rt <| rb <| rt <| rt <| re <| fin h (r1 (ss rfl rfl) <| r0) rfl)
  (fun b236 h => wpC_skip <| kpN [q2 0 cc7 v0, q2 1 cI s120.1, q2 5 cI s120.2] (by kernel_rfl) <| xn <| reg_s <| st rfl <| mvd rfl rfl <| ckI_k h fun i237 h => st rfl <| b_add (k := .i64) rfl rfl i237 <| x_asg (ss rfl rfl) <| sq [q2 0 cc7 v0, q2 1 cI (s120.1 + (1 : Int)), q2 5 cI s120.2] <|
  xbb <| kpN [q2 0 cc7 v0, q2 1 cI (s120.1 + (1 : Int)), q2 5 cI s120.2] (by kernel_rfl) <| xn <| reg_s <| st rfl <| mvd rfl rfl <| ckI_k h fun i238 h => st rfl <| b_add (k := .i64) rfl rfl i238 <| x_asg (ss rfl rfl) <| sq [q2 0 cc7 v0, q2 1 cI (s120.1 + (1 : Int)), q2 5 cI (s120.2 + (1 : Int))] <|
  xn <| hn200 ((s120.1 + (1 : Int)), (s120.2 + (1 : Int))) h))
  (fun b207 h => wpC_exit <| xt <| xt <| xt <| xb <| kpN [q2 1 cI s120.1] (by kernel_rfl) <| xn <| wpC_seq <| reg_s <| st rfl <| mvd rfl rfl <| x_asg (ss rfl rfl) <| sq [q2 4 cI s120.1] <|
  xn <| wpC_ret <| re <| fin h (r1 (ss rfl rfl) <| r0) rfl)

def rs_laws_heldTable (r : Int) : List D := [cI.enc r]
def m17 : MC := .seq (.reg [q1 2 (.box (.t 0)),q1 4 (.asg (.c (.int .i64 0)))] [1, 2])
 (.seq (.reg [q1 5 (.fa 2 1 1),q1 6 (.ld 5 1 false),q1 7 (.mv (.t 1)),q1 8 (.call 38 [(.t 6), (.t 7)]),q1 1 (.asg (.t 8))] [1, 2])
 (.seq (.kp [1, 2] (.seq (.reg [q1 9 (.mv (.t 1)),q1 10 (.bin .lss (.t 9) (.c (.int .i64 0)))] [1, 2, 10])
 (.cond (.t 10) (.seq (.reg [q1 4 (.asg (.c (.int .i64 (-1))))] [4])
 (.ret)) (.skip))))
 (.seq (.reg [q1 11 (.fa 2 2 2),q1 12 (.ld 11 1 false),q1 13 (.mv (.t 1)),q1 14 (.call 38 [(.t 12), (.t 13)]),q1 1 (.asg (.t 14))] [1])
 (.seq (.kp [1] (.seq (.reg [q1 15 (.mv (.t 1)),q1 16 (.bin .lss (.t 15) (.c (.int .i64 0)))] [1, 16])
 (.cond (.t 16) (.seq (.reg [q1 4 (.asg (.c (.int .i64 (-1))))] [4])
 (.ret)) (.skip))))
 (.seq (.reg [q1 17 (.mv (.t 1)),q1 4 (.asg (.t 17))] [4])
 (.ret))))))
theorem con_laws_heldTable {v0 : XTable} {v1 : Int} {r : Int} (h : sh_laws_heldTable v0 v1 = some r) : Con Tryz.prog 17 [cc0.enc v0, cI.enc v1] [] (rs_laws_heldTable r) := by
 delta sh_laws_heldTable at h
 refine top (out := none) (f := Tryz.f17) (m := m17) (rs := [.t 4]) (by kernel_rfl) rfl (by kernel_rfl) (by kernel_rfl) (by kernel_rfl) (by kernel_rfl) (by kernel_rfl) ?_
 exact
  ini [q2 0 cc0 v0, q2 1 cI v1] rfl <| wpC_seq <| reg_s <| x_box (ss rfl rfl) <| x_asg (sc cI (0 : Int) rfl) <| sq [q2 1 cI v1, q3 2 cc0 v0] <|
  xn <| wpC_seq <| reg_s <| st rfl <| fab rfl rfl rfl rfl <| st rfl <| lda rfl rfl rfl rfl rfl rfl <| st rfl <| mvd rfl rfl <| bnd h fun x3 e4 h => st rfl <| o_call (a1 (c := cc7) (tLs tK) rfl (a1 (c := cI) tK rfl a0)) (con_laws_heldIntS e4) (.inl (so1 sK so0)) <| x_asg (ss rfl rfl) <| sq [q2 1 cI x3, q3 2 cc0 v0] <|
  xn <| wpC_seq <| wpC_kp <| wpC_seq <| reg_s <| st rfl <| mvd rfl rfl <| st rfl <| b_lss (k := .i64) rfl rfl <| sq [q2 1 cI x3, q3 2 cc0 v0, q2 10 cB (decide (x3 < (0 : Int)))] <|
  xn <| cnd rfl h (fun b6 h => wpC_seq <| reg_s <| x_asg (sc cI (-1 : Int) rfl) <| sq [q2 4 cI (-1 : Int)] <|
  xn <| wpC_ret <| rt <| rt <| re <| fin h (r1 (ss rfl rfl) <| r0) rfl)
  (fun b6 h => wpC_skip <| kpN [q2 1 cI x3, q3 2 cc0 v0] (by kernel_rfl) <| xn <| wpC_seq <| reg_s <| st rfl <| fab rfl rfl rfl rfl <| st rfl <| lda rfl rfl rfl rfl rfl rfl <| st rfl <| mvd rfl rfl <| bnd h fun x9 e10 h => st rfl <| o_call (a1 (c := cc7) (tLs tK) rfl (a1 (c := cI) tK rfl a0)) (con_laws_heldIntS e10) (.inl (so1 sK so0)) <| x_asg (ss rfl rfl) <| sq [q2 1 cI x9] <|
  xn <| wpC_seq <| wpC_kp <| wpC_seq <| reg_s <| st rfl <| mvd rfl rfl <| st rfl <| b_lss (k := .i64) rfl rfl <| sq [q2 1 cI x9, q2 16 cB (decide (x9 < (0 : Int)))] <|
  xn <| cnd rfl h (fun b12 h => wpC_seq <| reg_s <| x_asg (sc cI (-1 : Int) rfl) <| sq [q2 4 cI (-1 : Int)] <|
  xn <| wpC_ret <| rt <| rt <| re <| fin h (r1 (ss rfl rfl) <| r0) rfl)
  (fun b12 h => wpC_skip <| kpN [q2 1 cI x9] (by kernel_rfl) <| xn <| wpC_seq <| reg_s <| st rfl <| mvd rfl rfl <| x_asg (ss rfl rfl) <| sq [q2 4 cI x9] <|
  xn <| wpC_ret <| re <| fin h (r1 (ss rfl rfl) <| r0) rfl))

def rs_laws_FnExactParseTable (r : Bool) : List D := [cB.enc r]
def m3 : MC := .seq (.reg [q1 3 (.box (.t 0)),q1 6 (.asg (.c (.bool false)))] [1, 2, 3])
 (.seq (.kp [1, 2, 3] (.seq (.reg [q1 19 (.mv (.t 2)),q1 20 (.len true (.t 19)),q1 21 (.bin .gtr (.t 20) (.c (.int .i64 1048576)))] [1, 2, 3, 21])
 (.cond (.t 21) (.seq (.reg [q1 6 (.asg (.c (.bool true)))] [6])
 (.ret)) (.skip))))
 (.seq (.reg [q1 7 (.asg (.c (.int .i64 1048576)))] [1, 2, 3, 7])
 (.seq (.reg [q1 22 (.ld 3 1 true),q1 23 (.mv (.t 7)),q1 24 (.call 5 [(.t 22), (.t 23)]),q1 7 (.asg (.t 24))] [1, 2, 3, 7])
 (.seq (.kp [1, 2, 3, 7] (.seq (.reg [q1 25 (.mv (.t 7)),q1 26 (.bin .lss (.t 25) (.c (.int .i64 0)))] [1, 2, 3, 7, 26])
 (.cond (.t 26) (.seq (.reg [q1 6 (.asg (.c (.bool true)))] [6])
 (.ret)) (.skip))))
 (.seq (.reg [q1 27 (.mv (.t 1)),q1 28 (.mv (.t 7)),q1 29 (.call 6 [(.t 27), (.t 28)]),q1 7 (.asg (.t 29))] [1, 2, 3, 7])
 (.seq (.kp [1, 2, 3] (.seq (.reg [q1 30 (.mv (.t 7)),q1 31 (.bin .lss (.t 30) (.c (.int .i64 0)))] [1, 2, 3, 31])
 (.cond (.t 31) (.seq (.reg [q1 6 (.asg (.c (.bool true)))] [6])
 (.ret)) (.skip))))
 (.seq (.reg [q1 33 (.ld 3 1 true),q1 34 (.call 8 [(.t 33)]),q1 35 (.mv (.t 1)),q1 36 (.call 9 [(.t 35)]),q1 37 (.mv (.t 2)),q1 38 (.call 7 [(.t 34), (.t 36), (.t 37)]),q1 32 (.mvt 38),q1 39 (.ext 32 0),q1 40 (.ext 32 1),q1 8 (.alloc (.agg [.int .i64 0, .slice true [], .slice true [], .int .i64 0])),q0 (.st 8 (.t 39) 4),q1 9 (.asg (.t 40))] [1, 2, 3, 8, 9])
 (.seq (.reg [q1 41 (.ld 3 1 true),q1 42 (.call 8 [(.t 41)]),q1 10 (.alloc (.agg [.slice true []])),q0 (.st 10 (.t 42) 1)] [1, 2, 3, 8, 9, 10])
 (.seq (.reg [q1 43 (.mv (.t 1)),q1 44 (.call 9 [(.t 43)]),q1 11 (.asg (.t 44))] [1, 2, 3, 8, 9, 10, 11])
 (.seq (.reg [q1 46 (.ld 10 1 true),q1 47 (.mv (.t 11)),q1 48 (.mv (.t 2)),q1 49 (.call 10 [(.t 46), (.t 47), (.t 48)]),q1 45 (.mvt 49),q1 50 (.ext 45 0),q1 51 (.ext 45 1),q1 12 (.alloc (.agg [.int .i64 0, .slice true [], .slice true [], .int .i64 0])),q0 (.st 12 (.t 50) 4),q1 13 (.asg (.t 51))] [1, 2, 3, 8, 9, 10, 11, 12, 13])
 (.seq (.kp [1, 2, 3, 8, 9, 10, 11, 12, 13] (.seq (.reg [q1 52 (.ld 12 4 true),q1 53 (.ld 8 4 true),q1 54 (.call 11 [(.t 52), (.t 53)]),q1 55 (.nt (.t 54)),q1 56 (.mv (.t 55)),
  ⟨some 57, .mv (.t 13), some (56, false)⟩,
  ⟨some 58, .mv (.t 9), some (56, false)⟩,
  ⟨some 59, .eqb true (.t 57) (.t 58), some (56, false)⟩,q1 60 (.pick (.t 56) (.c (.bool true)) (.t 59))] [1, 2, 3, 8, 9, 10, 11, 12, 13, 60])
 (.cond (.t 60) (.seq (.reg [q1 6 (.asg (.c (.bool false)))] [6])
 (.ret)) (.skip))))
 (.seq (.kp [1, 2, 3, 8, 9, 10, 11, 12, 13] (.seq (.drw [⟨0, q1 61 (.ld 10 1 true), [62, 63, 64, 65]⟩,
  ⟨1, q1 62 (.ld 3 1 true), [61, 63, 64, 65]⟩,
  ⟨2, q1 63 (.call 8 [(.t 62)]), [61, 64, 65]⟩,
  ⟨3, q1 64 (.call 12 [(.t 61), (.t 63)]), [65]⟩,
  ⟨4, q1 65 (.nt (.t 64)), []⟩]
  [] [1, 2, 3, 8, 9, 10, 11, 12, 13, 65])
 (.cond (.t 65) (.seq (.reg [q1 6 (.asg (.c (.bool false)))] [6])
 (.ret)) (.skip))))
 (.seq (.kp [1, 2, 3, 8, 9, 10, 11, 12, 13] (.seq (.reg [q1 66 (.mv (.t 11)),q1 67 (.mv (.t 1)),q1 68 (.call 9 [(.t 67)]),q1 69 (.call 13 [(.t 66), (.t 68)]),q1 70 (.nt (.t 69))] [1, 2, 3, 8, 9, 10, 11, 12, 13, 70])
 (.cond (.t 70) (.seq (.reg [q1 6 (.asg (.c (.bool false)))] [6])
 (.ret)) (.skip))))
 (.seq (.reg [q1 14 (.asg (.c (.int .i64 1)))] [1, 2, 3, 8, 9, 10, 11, 12, 13, 14])
 (.seq (.reg [q1 71 (.ld 10 1 true),q1 72 (.mv (.t 14)),q1 73 (.callO 14 [(.t 71), (.t 72)]),q1 14 (.asg (.t 73))] [1, 2, 3, 8, 9, 11, 12, 13, 14])
 (.seq (.reg [q1 74 (.mv (.t 11)),q1 75 (.mv (.t 14)),q1 76 (.callO 15 [(.t 74), (.t 75)]),q1 14 (.asg (.t 76))] [1, 2, 3, 8, 9, 12, 13, 14])
 (.seq (.kp [1, 2, 3, 8, 9, 12] (.seq (.reg [q1 77 (.mv (.t 14)),q1 78 (.bin .lss (.t 77) (.c (.int .i64 0))),q1 79 (.mv (.t 78)),
  ⟨some 80, .ld 12 4 true, some (79, false)⟩,
  ⟨some 81, .ld 8 4 true, some (79, false)⟩,
  ⟨some 82, .call 11 [(.t 80), (.t 81)], some (79, false)⟩,
  ⟨some 83, .nt (.t 82), some (79, false)⟩,q1 84 (.pick (.t 79) (.c (.bool true)) (.t 83)),q1 85 (.mv (.t 84)),
  ⟨some 86, .mv (.t 13), some (85, false)⟩,
  ⟨some 87, .mv (.t 9), some (85, false)⟩,
  ⟨some 88, .eqb true (.t 86) (.t 87), some (85, false)⟩,q1 89 (.pick (.t 85) (.c (.bool true)) (.t 88))] [1, 2, 3, 8, 9, 12, 89])
 (.cond (.t 89) (.seq (.reg [q1 6 (.asg (.c (.bool false)))] [6])
 (.ret)) (.skip))))
 (.seq (.reg [q1 15 (.asg (.c (.int .i64 1)))] [1, 2, 3, 8, 9, 12, 15])
 (.seq (.reg [q1 90 (.ld 12 4 true),q1 91 (.mv (.t 15)),q1 92 (.callO 16 [(.t 90), (.t 91)]),q1 15 (.asg (.t 92))] [1, 2, 3, 8, 9, 12, 15])
 (.seq (.reg [q1 16 (.asg (.c (.int .i64 1)))] [1, 2, 3, 8, 9, 12, 15, 16])
 (.seq (.reg [q1 93 (.ld 12 4 true),q1 94 (.mv (.t 16)),q1 95 (.call 17 [(.t 93), (.t 94)]),q1 16 (.asg (.t 95))] [1, 2, 3, 8, 9, 12, 15, 16])
 (.seq (.kp [1, 2, 3, 8, 9, 12, 15, 16] (.seq (.reg [q1 96 (.mv (.t 16)),q1 97 (.bin .lss (.t 96) (.c (.int .i64 0)))] [1, 2, 3, 8, 9, 12, 15, 16, 97])
 (.cond (.t 97) (.seq (.reg [q1 6 (.asg (.c (.bool false)))] [6])
 (.ret)) (.skip))))
 (.seq (.kp [1, 2, 3, 8, 9, 12, 15] (.seq (.reg [q1 98 (.mv (.t 16)),q1 99 (.mv (.t 15)),q1 100 (.bin .neq (.t 98) (.t 99))] [1, 2, 3, 8, 9, 12, 15, 100])
 (.cond (.t 100) (.seq (.reg [q1 6 (.asg (.c (.bool false)))] [6])
 (.ret)) (.skip))))
 (.seq (.reg [q1 102 (.ld 3 1 true),q1 103 (.call 8 [(.t 102)]),q1 104 (.mv (.t 1)),q1 105 (.call 9 [(.t 104)]),q1 106 (.mv (.t 2)),q1 107 (.call 10 [(.t 103), (.t 105), (.t 106)]),q1 101 (.mvt 107),q1 108 (.ext 101 0),q1 109 (.ext 101 1),q1 17 (.alloc (.agg [.int .i64 0, .slice true [], .slice true [], .int .i64 0])),q0 (.st 17 (.t 108) 4),q1 18 (.asg (.t 109))] [8, 9, 12, 15, 17, 18])
 (.seq (.kp [12, 15] (.seq (.reg [q1 110 (.ld 17 4 true),q1 111 (.ld 8 4 true),q1 112 (.call 11 [(.t 110), (.t 111)]),q1 113 (.nt (.t 112)),q1 114 (.mv (.t 113)),
  ⟨some 115, .mv (.t 18), some (114, false)⟩,
  ⟨some 116, .mv (.t 9), some (114, false)⟩,
  ⟨some 117, .eqb true (.t 115) (.t 116), some (114, false)⟩,q1 118 (.pick (.t 114) (.c (.bool true)) (.t 117))] [12, 15, 118])
 (.cond (.t 118) (.seq (.reg [q1 6 (.asg (.c (.bool false)))] [6])
 (.ret)) (.skip))))
 (.seq (.reg [q1 16 (.asg (.c (.int .i64 1)))] [12, 15, 16])
 (.seq (.reg [q1 119 (.ld 12 4 true),q1 120 (.mv (.t 16)),q1 121 (.call 17 [(.t 119), (.t 120)]),q1 16 (.asg (.t 121))] [15, 16])
 (.seq (.kp [15, 16] (.seq (.reg [q1 122 (.mv (.t 16)),q1 123 (.bin .lss (.t 122) (.c (.int .i64 0)))] [15, 16, 123])
 (.cond (.t 123) (.seq (.reg [q1 6 (.asg (.c (.bool false)))] [6])
 (.ret)) (.skip))))
 (.seq (.kp [] (.seq (.reg [q1 124 (.mv (.t 16)),q1 125 (.mv (.t 15)),q1 126 (.bin .neq (.t 124) (.t 125))] [126])
 (.cond (.t 126) (.seq (.reg [q1 6 (.asg (.c (.bool false)))] [6])
 (.ret)) (.skip))))
 (.seq (.reg [q1 6 (.asg (.c (.bool true)))] [6])
 (.ret)))))))))))))))))))))))))))))))
theorem con_laws_FnExactParseTable {v0 : XGeo} {v1 : (List XVariable)} {v2 : (List UInt8)} {r : Bool} (h : sh_laws_FnExactParseTable v0 v1 v2 = some r) : Con Tryz.prog 3 [cc4.enc v0, cc2.enc v1, cS.enc v2] [] (rs_laws_FnExactParseTable r) := by
 delta sh_laws_FnExactParseTable at h
 refine top (out := none) (f := Tryz.f3) (m := m3) (rs := [.t 6]) (by kernel_rfl) rfl (by kernel_rfl) (by kernel_rfl) (by kernel_rfl) (by kernel_rfl) (by kernel_rfl) ?_
 exact
  ini [q2 0 cc4 v0, q2 1 cc2 v1, q2 2 cS v2] rfl <| wpC_seq <| reg_s <| x_box (ss rfl rfl) <| x_asg (sc cB false rfl) <| sq [q2 1 cc2 v1, q2 2 cS v2, q3 3 cc4 v0] <|
  xn <| wpC_seq <| wpC_kp <| wpC_seq <| reg_s <| st rfl <| mvd rfl rfl <| stw rfl <| lent rfl fun l5 => st rfl <| b_gtr (k := .i64) rfl rfl <| sq [q2 1 cc2 v1, q2 2 cS v2, q3 3 cc4 v0, q2 21 cB (decide ((1048576 : Int) < (v2.length : Int)))] <|
  xn <| cnd rfl h (fun b6 h => wpC_seq <| reg_s <| x_asg (sc cB true rfl) <| sq [q2 6 cB true] <|
  xn <| wpC_ret <| rt <| rt <| re <| fin h (r1 (ss rfl rfl) <| r0) rfl)
  (fun b6 h => wpC_skip <| kpN [q2 1 cc2 v1, q2 2 cS v2, q3 3 cc4 v0] (by kernel_rfl) <| xn <| wpC_seq <| reg_s <| x_asg (sc cI (1048576 : Int) rfl) <| sq [q2 1 cc2 v1, q2 2 cS v2, q3 3 cc4 v0, q2 7 cI (1048576 : Int)] <|
  xn <| wpC_seq <| reg_s <| st rfl <| ldb rfl rfl rfl rfl <| st rfl <| mvd rfl rfl <| bnd h fun x9 e10 h => st rfl <| o_call (a1 (c := cc4) (tXGeo (tLs tK)) rfl (a1 (c := cI) tK rfl a0)) (con_laws_szGeo e10) (.inl (so1 sK so0)) <| x_asg (ss rfl rfl) <| sq [q2 1 cc2 v1, q2 2 cS v2, q3 3 cc4 v0, q2 7 cI x9] <|
  xn <| wpC_seq <| wpC_kp <| wpC_seq <| reg_s <| st rfl <| mvd rfl rfl <| st rfl <| b_lss (k := .i64) rfl rfl <| sq [q2 1 cc2 v1, q2 2 cS v2, q3 3 cc4 v0, q2 7 cI x9, q2 26 cB (decide (x9 < (0 : Int)))] <|
  xn <| cnd rfl h (fun b12 h => wpC_seq <| reg_s <| x_asg (sc cB true rfl) <| sq [q2 6 cB true] <|
  xn <| wpC_ret <| rt <| rt <| re <| fin h (r1 (ss rfl rfl) <| r0) rfl)
  (fun b12 h => wpC_skip <| kpN [q2 1 cc2 v1, q2 2 cS v2, q3 3 cc4 v0, q2 7 cI x9] (by kernel_rfl) <| xn <| wpC_seq <| reg_s <| st rfl <| mvd rfl rfl <| st rfl <| mvd rfl rfl <| bnd h fun x15 e16 h => st rfl <| o_call (a1 (c := cc2) (tLs (tXVariable tS tK)) rfl (a1 (c := cI) tK rfl a0)) (con_laws_szVariableS e16) (.inl (so1 sK so0)) <| x_asg (ss rfl rfl) <| sq [q2 1 cc2 v1, q2 2 cS v2, q3 3 cc4 v0, q2 7 cI x15] <|
  xn <| wpC_seq <| wpC_kp <| wpC_seq <| reg_s <| st rfl <| mvd rfl rfl <| st rfl <| b_lss (k := .i64) rfl rfl <| sq [q2 1 cc2 v1, q2 2 cS v2, q3 3 cc4 v0, q2 31 cB (decide (x15 < (0 : Int)))] <|
  xn <| cnd rfl h (fun b18 h => wpC_seq <| reg_s <| x_asg (sc cB true rfl) <| sq [q2 6 cB true] <|
  xn <| wpC_ret <| rt <| rt <| re <| fin h (r1 (ss rfl rfl) <| r0) rfl)
  (fun b18 h => wpC_skip <| kpN [q2 1 cc2 v1, q2 2 cS v2, q3 3 cc4 v0] (by kernel_rfl) <| xn <| wpC_seq <| reg_s <| st rfl <| ldb rfl rfl rfl rfl <| bnd h fun x25 e26 h => st rfl <| o_call (a1 (c := cc4) (tXGeo (tLs tK)) rfl a0) (con_laws_toGeo e26) (.inl (so1 (sXGeo (sLo sK)) so0)) <| st rfl <| mvd rfl rfl <| bnd h fun x27 e28 h => st rfl <| o_call (a1 (c := cc2) (tLs (tXVariable tS tK)) rfl a0) (con_laws_toVariableS e28) (.inl (so1 (sLo (sXVariable sS sK)) so0)) <| st rfl <| mvd rfl rfl <| bnd h fun x29 e30 h => st rfl <| o_call (a1 (c := cc6) (tXGeo (tLo tK)) rfl (a1 (c := cc3) (tLo (tXVariable tS tK)) rfl (a1 (c := cS) tS rfl a0))) (con_spec_ParseTable e30) (.inl (so1 (sXTable sK (sLo sK) (sLo sK) sK) (so1 sB so0))) <| x_mvt rfl <| x_ext rfl rfl <| x_ext rfl rfl <| x_all cc1 (⟨(0 : Int), ([] : List Int), ([] : List Int), (0 : Int)⟩ : XTable) rfl <| x_stb (so rfl rfl) rfl (Cd.h_sz _ _) rfl <| x_asg (ss rfl rfl) <| sq [q2 1 cc2 v1, q2 2 cS v2, q3 3 cc4 v0, q3 8 cc1 x29.1, q2 9 cB x29.2] <|
  xn <| wpC_seq <| reg_s <| st rfl <| ldb rfl rfl rfl rfl <| bnd h fun x33 e34 h => st rfl <| o_call (a1 (c := cc4) (tXGeo (tLs tK)) rfl a0) (con_laws_toGeo e34) (.inl (so1 (sXGeo (sLo sK)) so0)) <| x_all cc6 (⟨([] : List Int)⟩ : XGeo) rfl <| x_stb (so rfl rfl) rfl (Cd.h_sz _ _) rfl <| sq [q2 1 cc2 v1, q2 2 cS v2, q3 3 cc4 v0, q3 8 cc1 x29.1, q2 9 cB x29.2, q3 10 cc6 x33] <|
  xn <| wpC_seq <| reg_s <| st rfl <| mvd rfl rfl <| bnd h fun x37 e38 h => st rfl <| o_call (a1 (c := cc2) (tLs (tXVariable tS tK)) rfl a0) (con_laws_toVariableS e38) (.inl (so1 (sLo (sXVariable sS sK)) so0)) <| x_asg (so rfl rfl) <| sq [q2 1 cc2 v1, q2 2 cS v2, q3 3 cc4 v0, q3 8 cc1 x29.1, q2 9 cB x29.2, q3 10 cc6 x33, q2 11 cc3 x37] <|
  xn <| wpC_seq <| reg_s <| st rfl <| ldbo rfl rfl rfl rfl <| st rfl <| mvo rfl rfl <| st rfl <| mvd rfl rfl <| bnd h fun x41 e42 h => st rfl <| o_call (a1 (c := cc6) (tXGeo (tLo tK)) rfl (a1 (c := cc3) (tLo (tXVariable tS tK)) rfl (a1 (c := cS) tS rfl a0))) (con_impl_ParseTable e42) (.inl (so1 (sXTable sK (sLo sK) (sLo sK) sK) (so1 sB so0))) <| x_mvt rfl <| x_ext rfl rfl <| x_ext rfl rfl <| x_all cc1 (⟨(0 : Int), ([] : List Int), ([] : List Int), (0 : Int)⟩ : XTable) rfl <| x_stb (so rfl rfl) rfl (Cd.h_sz _ _) rfl <| x_asg (ss rfl rfl) <| sq [q2 1 cc2 v1, q2 2 cS v2, q3 3 cc4 v0, q3 8 cc1 x29.1, q2 9 cB x29.2, q3 10 cc6 x33, q2 11 cc3 x37, q3 12 cc1 x41.1, q2 13 cB x41.2] <|
  xn <| wpC_seq <| wpC_kp <| wpC_seq <| reg_s <| st rfl <| ldbo rfl rfl rfl rfl <| st rfl <| ldbo rfl rfl rfl rfl <| bnd h fun x53 e54 h => st rfl <| o_call (a1 (c := cc1) (tXTable tK (tLo tK) (tLo tK) tK) rfl (a1 (c := cc1) (tXTable tK (tLo tK) (tLo tK) tK) rfl a0)) (con_laws_eqTable e54) (.inl (so1 sB so0)) <| st rfl <| o_nt rfl <| st rfl <| mvd rfl rfl <| ite_k h (fun b55 h => gf rfl b55 <| gf rfl b55 <| gf rfl b55 <| st rfl <| pick1 rfl b55 (cd := cB) (v := true) rfl rfl <| sq [q2 1 cc2 v1, q2 2 cS v2, q3 3 cc4 v0, q3 8 cc1 x29.1, q2 9 cB x29.2, q3 10 cc6 x33, q2 11 cc3 x37, q3 12 cc1 x41.1, q2 13 cB x41.2, q2 60 cB true] <|
  xn <| cnd1 rfl rfl <| wpC_seq <| reg_s <| x_asg (sc cB false rfl) <| sq [q2 6 cB false] <|
  xn <| wpC_ret <| rt <| rt <| re <| fin h (r1 (ss rfl rfl) <| r0) rfl)
  (fun b55 h => gt' rfl b55 <| st rfl <| mvd rfl rfl <| gt' rfl b55 <| st rfl <| mvd rfl rfl <| gt' rfl b55 <| st rfl <| eqb1 rfl rfl <| st rfl <| pick0 rfl b55 (cd := cB) (v := (x41.2 != x29.2)) rfl rfl <| sq [q2 1 cc2 v1, q2 2 cS v2, q3 3 cc4 v0, q3 8 cc1 x29.1, q2 9 cB x29.2, q3 10 cc6 x33, q2 11 cc3 x37, q3 12 cc1 x41.1, q2 13 cB x41.2, q2 60 cB (x41.2 != x29.2)] <|
  xn <| cnd rfl h (fun b56 h => wpC_seq <| reg_s <| x_asg (sc cB false rfl) <| sq [q2 6 cB false] <|
  xn <| wpC_ret <| rt <| rt <| re <| fin h (r1 (ss rfl rfl) <| r0) rfl)
  (fun b56 h => wpC_skip <| kpN [q2 1 cc2 v1, q2 2 cS v2, q3 3 cc4 v0, q3 8 cc1 x29.1, q2 9 cB x29.2, q3 10 cc6 x33, q2 11 cc3 x37, q3 12 cc1 x41.1, q2 13 cB x41.2] (by kernel_rfl) <| xn <| wpC_seq <| wpC_kp <| wpC_seq <| drw_s <| pst rfl <| ldbo rfl rfl rfl rfl ⟨rfl, pst rfl <| ldb rfl rfl rfl rfl ⟨rfl, bndp h fun x70 e71 h => pst rfl <| o_call (a1 (c := cc4) (tXGeo (tLs tK)) rfl a0) (con_laws_toGeo e71) (.inl (so1 (sXGeo (sLo sK)) so0)) ⟨rfl, bndp h fun x72 e73 h => pst rfl <| o_call (a1 (c := cc6) (tXGeo (tLo tK)) rfl (a1 (c := cc6) (tXGeo (tLo tK)) rfl a0)) (con_laws_eqGeo e73) (.inl (so1 sB so0)) ⟨rfl, pst rfl <| o_nt rfl ⟨rfl, preN <| sq [q2 1 cc2 v1, q2 2 cS v2, q3 3 cc4 v0, q3 8 cc1 x29.1, q2 9 cB x29.2, q3 10 cc6 x33, q2 11 cc3 x37, q3 12 cc1 x41.1, q2 13 cB x41.2, q2 65 cB (!x72)] <|
  xn <| cnd rfl h (fun b74 h => wpC_seq <| reg_s <| x_asg (sc cB false rfl) <| sq [q2 6 cB false] <|
  xn <| wpC_ret <| rt <| rt <| re <| fin h (r1 (ss rfl rfl) <| r0) rfl)
  (fun b74 h => wpC_skip <| kpN [q2 1 cc2 v1, q2 2 cS v2, q3 3 cc4 v0, q3 8 cc1 x29.1, q2 9 cB x29.2, q3 10 cc6 x33, q2 11 cc3 x37, q3 12 cc1 x41.1, q2 13 cB x41.2] (by kernel_rfl) <| xn <| wpC_seq <| wpC_kp <| wpC_seq <| reg_s <| st rfl <| mvo rfl rfl <| st rfl <| mvd rfl rfl <| bnd h fun x88 e89 h => st rfl <| o_call (a1 (c := cc2) (tLs (tXVariable tS tK)) rfl a0) (con_laws_toVariableS e89) (.inl (so1 (sLo (sXVariable sS sK)) so0)) <| bnd h fun x90 e91 h => st rfl <| o_call (a1 (c := cc3) (tLo (tXVariable tS tK)) rfl (a1 (c := cc3) (tLo (tXVariable tS tK)) rfl a0)) (con_laws_eqVariableS e91) (.inl (so1 sB so0)) <| st rfl <| o_nt rfl <| sq [q2 1 cc2 v1, q2 2 cS v2, q3 3 cc4 v0, q3 8 cc1 x29.1, q2 9 cB x29.2, q3 10 cc6 x33, q2 11 cc3 x37, q3 12 cc1 x41.1, q2 13 cB x41.2, q2 70 cB (!x90)] <|
  xn <| cnd rfl h (fun b92 h => wpC_seq <| reg_s <| x_asg (sc cB false rfl) <| sq [q2 6 cB false] <|
  xn <| wpC_ret <| rt <| rt <| re <| fin h (r1 (ss rfl rfl) <| r0) rfl)
  (fun b92 h => wpC_skip <| kpN [q2 1 cc2 v1, q2 2 cS v2, q3 3 cc4 v0, q3 8 cc1 x29.1, q2 9 cB x29.2, q3 10 cc6 x33, q2 11 cc3 x37, q3 12 cc1 x41.1, q2 13 cB x41.2] (by kernel_rfl) <| xn <| wpC_seq <| reg_s <| x_asg (sc cI (1 : Int) rfl) <| sq [q2 1 cc2 v1, q2 2 cS v2, q3 3 cc4 v0, q3 8 cc1 x29.1, q2 9 cB x29.2, q3 10 cc6 x33, q2 11 cc3 x37, q3 12 cc1 x41.1, q2 13 cB x41.2, q2 14 cI (1 : Int)] <|
  xn <| wpC_seq <| reg_s <| st rfl <| ldbo rfl rfl rfl rfl <| st rfl <| mvd rfl rfl <| bnd h fun x95 e96 h => x_clr (c := cc6) (c' := cc6) (cc6.enc x95.1) (sXGeo (sLo sK)) rfl (a1 (c := cI) tK rfl a0) rfl Ln.nil (con_laws_markGeo e96) rfl rfl (so1 sK so0) <| x_asg (ss rfl rfl) <| sq [q2 1 cc2 v1, q2 2 cS v2, q3 3 cc4 v0, q3 8 cc1 x29.1, q2 9 cB x29.2, q2 11 cc3 x37, q3 12 cc1 x41.1, q2 13 cB x41.2, q2 14 cI x95.2] <|
  xn <| wpC_seq <| reg_s <| st rfl <| mvo rfl rfl <| st rfl <| mvd rfl rfl <| bnd h fun x99 e100 h => x_clr (c := cc3) (c' := cc3) (cc3.enc x99.1) (sLo (sXVariable sS sK)) rfl (a1 (c := cI) tK rfl a0) rfl Ln.nil (con_laws_markVariableS e100) rfl rfl (so1 sK so0) <| x_asg (ss rfl rfl) <| sq [q2 1 cc2 v1, q2 2 cS v2, q3 3 cc4 v0, q3 8 cc1 x29.1, q2 9 cB x29.2, q3 12 cc1 x41.1, q2 13 cB x41.2, q2 14 cI x99.2] <|
  xn <| wpC_seq <| wpC_kp <| wpC_seq <| reg_s <| st rfl <| mvd rfl rfl <| st rfl <| b_lss (k := .i64) rfl rfl <| st rfl <| mvd rfl rfl <| ite_k h (fun b113 h => gf rfl b113 <| gf rfl b113 <| gf rfl b113 <| gf rfl b113 <| st rfl <| pick1 rfl b113 (cd := cB) (v := true) rfl rfl <| st rfl <| mvd rfl rfl <| gf rfl rfl <| gf rfl rfl <| gf rfl rfl <| st rfl <| pick1 rfl rfl (cd := cB) (v := true) rfl rfl <| sq [q2 1 cc2 v1, q2 2 cS v2, q3 3 cc4 v0, q3 8 cc1 x29.1, q2 9 cB x29.2, q3 12 cc1 x41.1, q2 89 cB true] <|
  xn <| cnd1 rfl rfl <| wpC_seq <| reg_s <| x_asg (sc cB false rfl) <| sq [q2 6 cB false] <|
  xn <| wpC_ret <| rt <| rt <| re <| fin h (r1 (ss rfl rfl) <| r0) rfl)
  (fun b113 h => gt' rfl b113 <| st rfl <| ldbo rfl rfl rfl rfl <| gt' rfl b113 <| st rfl <| ldbo rfl rfl rfl rfl <| gt' rfl b113 <| bnd h fun x114 e115 h => st rfl <| o_call (a1 (c := cc1) (tXTable tK (tLo tK) (tLo tK) tK) rfl (a1 (c := cc1) (tXTable tK (tLo tK) (tLo tK) tK) rfl a0)) (con_laws_eqTable e115) (.inl (so1 sB so0)) <| gt' rfl b113 <| st rfl <| o_nt rfl <| st rfl <| pick0 rfl b113 (cd := cB) (v := (!x114)) rfl rfl <| st rfl <| mvd rfl rfl <| ite_k h (fun b116 h => gf rfl b116 <| gf rfl b116 <| gf rfl b116 <| st rfl <| pick1 rfl b116 (cd := cB) (v := true) rfl rfl <| sq [q2 1 cc2 v1, q2 2 cS v2, q3 3 cc4 v0, q3 8 cc1 x29.1, q2 9 cB x29.2, q3 12 cc1 x41.1, q2 89 cB true] <|
  xn <| cnd1 rfl rfl <| wpC_seq <| reg_s <| x_asg (sc cB false rfl) <| sq [q2 6 cB false] <|
  xn <| wpC_ret <| rt <| rt <| re <| fin h (r1 (ss rfl rfl) <| r0) rfl)
  (fun b116 h => gt' rfl b116 <| st rfl <| mvd rfl rfl <| gt' rfl b116 <| st rfl <| mvd rfl rfl <| gt' rfl b116 <| st rfl <| eqb1 rfl rfl <| st rfl <| pick0 rfl b116 (cd := cB) (v := (x41.2 != x29.2)) rfl rfl <| sq [q2 1 cc2 v1, q2 2 cS v2, q3 3 cc4 v0, q3 8 cc1 x29.1, q2 9 cB x29.2, q3 12 cc1 x41.1, q2 89 cB (x41.2 != x29.2)] <|
  xn <| cnd0 rfl b56 <| wpC_skip <| kpN [q2 1 cc2 v1, q2 2 cS v2, q3 3 cc4 v0, q3 8 cc1 x29.1, q2 9 cB x29.2, q3 12 cc1 x41.1] (by kernel_rfl) <| xn <| wpC_seq <| reg_s <| x_asg (sc cI (1 : Int) rfl) <| sq [q2 1 cc2 v1, q2 2 cS v2, q3 3 cc4 v0, q3 8 cc1 x29.1, q2 9 cB x29.2, q3 12 cc1 x41.1, q2 15 cI (1 : Int)] <|
  xn <| wpC_seq <| reg_s <| st rfl <| ldbo rfl rfl rfl rfl <| st rfl <| mvd rfl rfl <| bnd h fun x119 e120 h => x_clr (c := cc1) (c' := cc1) (cc1.enc x119.1) (sXTable sK (sLo sK) (sLo sK) sK) rfl (a1 (c := cI) tK rfl a0) rfl Ln.nil (con_laws_markTable e120) rfl rfl (so1 sK so0) <| x_asg (ss rfl rfl) <| sq [q2 1 cc2 v1, q2 2 cS v2, q3 3 cc4 v0, q3 8 cc1 x29.1, q2 9 cB x29.2, q3 12 cc1 x119.1, q2 15 cI x119.2] <|
  xn <| wpC_seq <| reg_s <| x_asg (sc cI (1 : Int) rfl) <| sq [q2 1 cc2 v1, q2 2 cS v2, q3 3 cc4 v0, q3 8 cc1 x29.1, q2 9 cB x29.2, q3 12 cc1 x119.1, q2 15 cI x119.2, q2 16 cI (1 : Int)] <|
  xn <| wpC_seq <| reg_s <| st rfl <| ldbo rfl rfl rfl rfl <| st rfl <| mvd rfl rfl <| bnd h fun x123 e124 h => st rfl <| o_call (a1 (c := cc1) (tXTable tK (tLo tK) (tLo tK) tK) rfl (a1 (c := cI) tK rfl a0)) (con_laws_heldTable e124) (.inl (so1 sK so0)) <| x_asg (ss rfl rfl) <| sq [q2 1 cc2 v1, q2 2 cS v2, q3 3 cc4 v0, q3 8 cc1 x29.1, q2 9 cB x29.2, q3 12 cc1 x119.1, q2 15 cI x119.2, q2 16 cI x123] <|
  xn <| wpC_seq <| wpC_kp <| wpC_seq <| reg_s <| st rfl <| mvd rfl rfl <| st rfl <| b_lss (k := .i64) rfl rfl <| sq [q2 1 cc2 v1, q2 2 cS v2, q3 3 cc4 v0, q3 8 cc1 x29.1, q2 9 cB x29.2, q3 12 cc1 x119.1, q2 15 cI x119.2, q2 16 cI x123, q2 97 cB (decide (x123 < (0 : Int)))] <|
  xn <| cnd rfl h (fun b126 h => wpC_seq <| reg_s <| x_asg (sc cB false rfl) <| sq [q2 6 cB false] <|
  xn <| wpC_ret <| rt <| rt <| re <| fin h (r1 (ss rfl rfl) <| r0) rfl)
  (fun b126 h => wpC_skip <| kpN [q2 1 cc2 v1, q2 2 cS v2, q3 3 cc4 v0, q3 8 cc1 x29.1, q2 9 cB x29.2, q3 12 cc1 x119.1, q2 15 cI x119.2, q2 16 cI x123] (by kernel_rfl) <| xn <| wpC_seq <| wpC_kp <| wpC_seq <| reg_s <| st rfl <| mvd rfl rfl <| st rfl <| mvd rfl rfl <| st rfl <| b_neq (k := .i64) rfl rfl <| sq [q2 1 cc2 v1, q2 2 cS v2, q3 3 cc4 v0, q3 8 cc1 x29.1, q2 9 cB x29.2, q3 12 cc1 x119.1, q2 15 cI x119.2, q2 100 cB (decide (x123 ≠ x119.2))] <|
  xn <| cnd rfl h (fun b128 h => wpC_seq <| reg_s <| x_asg (sc cB false rfl) <| sq [q2 6 cB false] <|
  xn <| wpC_ret <| rt <| rt <| re <| fin h (r1 (ss rfl rfl) <| r0) rfl)
  (fun b128 h => wpC_skip <| kpN [q2 1 cc2 v1, q2 2 cS v2, q3 3 cc4 v0, q3 8 cc1 x29.1, q2 9 cB x29.2, q3 12 cc1 x119.1, q2 15 cI x119.2] (by kernel_rfl) <| xn <| wpC_seq <| reg_s <| st rfl <| ldb rfl rfl rfl rfl <| bnd h fun x135 e136 h => st rfl <| o_call (a1 (c := cc4) (tXGeo (tLs tK)) rfl a0) (con_laws_toGeo e136) (.inl (so1 (sXGeo (sLo sK)) so0)) <| st rfl <| mvd rfl rfl <| bnd h fun x137 e138 h => st rfl <| o_call (a1 (c := cc2) (tLs (tXVariable tS tK)) rfl a0) (con_laws_toVariableS e138) (.inl (so1 (sLo (sXVariable sS sK)) so0)) <| st rfl <| mvd rfl rfl <| bnd h fun x139 e140 h => st rfl <| o_call (a1 (c := cc6) (tXGeo (tLo tK)) rfl (a1 (c := cc3) (tLo (tXVariable tS tK)) rfl (a1 (c := cS) tS rfl a0))) (con_impl_ParseTable e140) (.inl (so1 (sXTable sK (sLo sK) (sLo sK) sK) (so1 sB so0))) <| x_mvt rfl <| x_ext rfl rfl <| x_ext rfl rfl <| x_all cc1 (⟨(0 : Int), ([] : List Int), ([] : List Int), (0 : Int)⟩ : XTable) rfl <| x_stb (so rfl rfl) rfl (Cd.h_sz _ _) rfl <| x_asg (ss rfl rfl) <| sq [q3 8 cc1 x29.1, q2 9 cB x29.2, q3 12 cc1 x119.1, q2 15 cI x119.2, q3 17 cc1 x139.1, q2 18 cB x139.2] <|
  xn <| wpC_seq <| wpC_kp <| wpC_seq <| reg_s <| st rfl <| ldbo rfl rfl rfl rfl <| st rfl <| ldbo rfl rfl rfl rfl <| bnd h fun x151 e152 h => st rfl <| o_call (a1 (c := cc1) (tXTable tK (tLo tK) (tLo tK) tK) rfl (a1 (c := cc1) (tXTable tK (tLo tK) (tLo tK) tK) rfl a0)) (con_laws_eqTable e152) (.inl (so1 sB so0)) <| st rfl <| o_nt rfl <| st rfl <| mvd rfl rfl <| ite_k h (fun b153 h => gf rfl b153 <| gf rfl b153 <| gf rfl b153 <| st rfl <| pick1 rfl b153 (cd := cB) (v := true) rfl rfl <| sq [q3 12 cc1 x119.1, q2 15 cI x119.2, q2 118 cB true] <|
  xn <| cnd1 rfl rfl <| wpC_seq <| reg_s <| x_asg (sc cB false rfl) <| sq [q2 6 cB false] <|
  xn <| wpC_ret <| rt <| rt <| re <| fin h (r1 (ss rfl rfl) <| r0) rfl)
  (fun b153 h => gt' rfl b153 <| st rfl <| mvd rfl rfl <| gt' rfl b153 <| st rfl <| mvd rfl rfl <| gt' rfl b153 <| st rfl <| eqb1 rfl rfl <| st rfl <| pick0 rfl b153 (cd := cB) (v := (x139.2 != x29.2)) rfl rfl <| sq [q3 12 cc1 x119.1, q2 15 cI x119.2, q2 118 cB (x139.2 != x29.2)] <|
  xn <| cnd rfl h (fun b154 h => wpC_seq <| reg_s <| x_asg (sc cB false rfl) <| sq [q2 6 cB false] <|
  xn <| wpC_ret <| rt <| rt <| re <| fin h (r1 (ss rfl rfl) <| r0) rfl)
  (fun b154 h => wpC_skip <| kpN [q3 12 cc1 x119.1, q2 15 cI x119.2] (by kernel_rfl) <| xn <| wpC_seq <| reg_s <| x_asg (sc cI (1 : Int) rfl) <| sq [q3 12 cc1 x119.1, q2 15 cI x119.2, q2 16 cI (1 : Int)] <|
  xn <| wpC_seq <| reg_s <| st rfl <| ldbo rfl rfl rfl rfl <| st rfl <| mvd rfl rfl <| bnd h fun x157 e158 h => st rfl <| o_call (a1 (c := cc1) (tXTable tK (tLo tK) (tLo tK) tK) rfl (a1 (c := cI) tK rfl a0)) (con_laws_heldTable e158) (.inl (so1 sK so0)) <| x_asg (ss rfl rfl) <| sq [q2 15 cI x119.2, q2 16 cI x157] <|
  xn <| wpC_seq <| wpC_kp <| wpC_seq <| reg_s <| st rfl <| mvd rfl rfl <| st rfl <| b_lss (k := .i64) rfl rfl <| sq [q2 15 cI x119.2, q2 16 cI x157, q2 123 cB (decide (x157 < (0 : Int)))] <|
  xn <| cnd rfl h (fun b160 h => wpC_seq <| reg_s <| x_asg (sc cB false rfl) <| sq [q2 6 cB false] <|
  xn <| wpC_ret <| rt <| rt <| re <| fin h (r1 (ss rfl rfl) <| r0) rfl)
  (fun b160 h => wpC_skip <| kpN [q2 15 cI x119.2, q2 16 cI x157] (by kernel_rfl) <| xn <| wpC_seq <| wpC_kp <| wpC_seq <| reg_s <| st rfl <| mvd rfl rfl <| st rfl <| mvd rfl rfl <| st rfl <| b_neq (k := .i64) rfl rfl <| sq [q2 126 cB (decide (x157 ≠ x119.2))] <|
  xn <| cnd rfl h (fun b162 h => wpC_seq <| reg_s <| x_asg (sc cB false rfl) <| sq [q2 6 cB false] <|
  xn <| wpC_ret <| rt <| rt <| re <| fin h (r1 (ss rfl rfl) <| r0) rfl)
  (fun b162 h => wpC_skip <| kpN [] (by kernel_rfl) <| xn <| wpC_seq <| reg_s <| x_asg (sc cB true rfl) <| sq [q2 6 cB true] <|
  xn <| wpC_ret <| re <| fin h (r1 (ss rfl rfl) <| r0) rfl))))))))))⟩⟩⟩⟩⟩)))))
end AS.W
