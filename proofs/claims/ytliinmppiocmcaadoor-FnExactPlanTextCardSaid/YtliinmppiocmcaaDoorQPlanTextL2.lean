/- The program computes the plain functions. No condition. -/
import Derived.Test.YtliinmppiocmcaaDoorQPlanTextS
import Derived.Test.YtliinmppiocmcaaDoorProg
import Derived.Test.YtliinmppiocmcaaDoorQPlanTextX
import Derived.Test.YtliinmppiocmcaaDoorQPlanTextL1
set_option maxRecDepth 100000
set_option linter.unusedVariables false
set_option linter.unusedSimpArgs false
namespace AS.W
open Go Go.Proofs
def rs_impl_tableText (r : (List UInt8)) : List D := [cS.enc r]
def m49 : MC := .seq (.reg [⟨some 3, .box (.t 1), none⟩,
    ⟨some 4, .asg (.c (.str [])), none⟩] [0, 3])
  (.seq (.reg [⟨some 5, .asg (.c (.str [99, 111, 117, 110, 116])), none⟩] [0, 3, 5])
  (.seq (.kp [0, 3, 5] (.seq (.reg [⟨some 12, .fa 3 3 3, none⟩,
    ⟨some 13, .ld 12 1 false, none⟩,
    ⟨some 14, .bin .geq (.t 13) (.c (.int .i64 0)), none⟩] [0, 3, 5, 14])
  (.cond (.t 14) (.reg [⟨some 15, .mv (.t 0), none⟩,
    ⟨some 16, .fa 3 3 3, none⟩,
    ⟨some 17, .ld 16 1 false, none⟩,
    ⟨some 18, .ia 15 (.t 17) 2, none⟩,
    ⟨some 19, .fa 18 0 0, none⟩,
    ⟨some 20, .ld 19 1 false, none⟩,
    ⟨some 21, .bin .add (.c (.str [115, 117, 109, 32])) (.t 20), none⟩,
    ⟨some 5, .asg (.t 21), none⟩] [0, 3, 5]) (.skip))))
  (.seq (.reg [⟨some 22, .mv (.t 5), none⟩,
    ⟨some 23, .fa 3 0 0, none⟩,
    ⟨some 24, .ld 23 1 false, none⟩,
    ⟨some 25, .call 63 [(.t 24)], none⟩,
    ⟨some 26, .bin .add (.c (.str [32, 108, 101, 118, 101, 108, 32])) (.t 25), none⟩,
    ⟨some 27, .bin .add (.t 22) (.t 26), none⟩,
    ⟨some 5, .asg (.t 27), none⟩] [0, 3, 5])
  (.seq (.kp [0, 3, 5] (.seq (.reg [⟨some 28, .fa 3 1 1, none⟩,
    ⟨some 29, .ld 28 1 false, none⟩,
    ⟨some 30, .len false (.t 29), none⟩,
    ⟨some 31, .bin .gtr (.t 30) (.c (.int .i64 0)), none⟩] [0, 3, 5, 31])
  (.cond (.t 31) (.seq (.reg [⟨some 6, .asg (.c (.slice true [])), none⟩] [0, 3, 5, 6])
  (.seq (.kp [0, 3, 5, 6] (.seq (.reg [⟨some 32, .fa 3 1 1, none⟩,
    ⟨some 33, .ld 32 1 false, none⟩,
    ⟨some 34, .len false (.t 33), none⟩,
    ⟨some 35, .mv (.c (.int .i64 0)), none⟩] [0, 3, 5, 6, 32, 33, 34, 35])
  (.blk 0 (.loop (.seq (.reg [⟨some 36, .bin .lss (.t 35) (.t 34), none⟩] [0, 3, 5, 6, 32, 33, 34, 35, 36])
  (.seq (.kp [0, 3, 5, 6, 32, 33, 34, 35] (.cond (.t 36) (.skip) (.exit 0)))
  (.seq (.kp [0, 3, 5, 6, 32, 33, 34, 35] (.blk 1 (.seq (.reg [⟨some 37, .ia 33 (.t 35) 1, none⟩,
    ⟨some 38, .ld 37 1 false, none⟩,
    ⟨some 8, .asg (.t 38), none⟩] [0, 3, 5, 6, 8, 32, 33, 34, 35])
  (.reg [⟨some 39, .mv (.t 6), none⟩,
    ⟨some 40, .mv (.t 0), none⟩,
    ⟨some 41, .mv (.t 8), none⟩,
    ⟨some 42, .ia 40 (.t 41) 2, none⟩,
    ⟨some 43, .fa 42 0 0, none⟩,
    ⟨some 44, .ld 43 1 false, none⟩,
    ⟨some 45, .bsl [(.t 44)] 1, none⟩,
    ⟨some 46, .app (.t 39) (.t 45) 1, none⟩,
    ⟨some 6, .asg (.t 46), none⟩] [0, 3, 5, 6, 32, 33, 34, 35]))))
  (.reg [⟨some 47, .bin .add (.t 35) (.c (.int .i64 1)), none⟩,
    ⟨some 35, .mv (.t 47), none⟩] [0, 3, 5, 6, 32, 33, 34, 35]))))))))
  (.reg [⟨some 48, .mv (.t 5), none⟩,
    ⟨some 49, .mv (.t 6), none⟩,
    ⟨some 50, .call 87 [(.t 49), (.c (.str [44]))], none⟩,
    ⟨some 51, .bin .add (.c (.str [32, 98, 121, 32])) (.t 50), none⟩,
    ⟨some 52, .bin .add (.t 48) (.t 51), none⟩,
    ⟨some 5, .asg (.t 52), none⟩] [0, 3, 5]))) (.skip))))
  (.seq (.reg [⟨some 9, .asg (.c (.str [32, 119, 104, 101, 114, 101, 32])), none⟩] [0, 3, 5, 9])
  (.seq (.kp [5] (.seq (.reg [⟨some 53, .fa 3 2 2, none⟩,
    ⟨some 54, .ld 53 1 false, none⟩,
    ⟨some 55, .len false (.t 54), none⟩,
    ⟨some 56, .mv (.c (.int .i64 0)), none⟩] [0, 3, 5, 9, 53, 54, 55, 56])
  (.blk 2 (.loop (.seq (.reg [⟨some 57, .bin .lss (.t 56) (.t 55), none⟩] [0, 3, 5, 9, 53, 54, 55, 56, 57])
  (.seq (.kp [0, 3, 5, 9, 53, 54, 55, 56] (.cond (.t 57) (.skip) (.exit 2)))
  (.seq (.kp [0, 3, 5, 9, 53, 54, 55, 56] (.blk 3 (.seq (.reg [⟨some 58, .mv (.t 56), none⟩,
    ⟨some 59, .ia 54 (.t 56) 1, none⟩,
    ⟨some 60, .ld 59 1 false, none⟩,
    ⟨some 10, .asg (.t 58), none⟩,
    ⟨some 11, .asg (.t 60), none⟩] [0, 3, 5, 9, 10, 11, 53, 54, 55, 56])
  (.seq (.reg [⟨some 61, .mv (.t 11), none⟩,
    ⟨some 62, .bin .neq (.t 61) (.c (.int .i64 0)), none⟩] [0, 3, 5, 9, 10, 11, 53, 54, 55, 56, 62])
  (.cond (.t 62) (.seq (.drw [⟨0, ⟨some 63, .mv (.t 5), none⟩, [64, 65, 66, 67, 68, 69, 70, 71, 72, 73, 74, 75]⟩,
    ⟨1, ⟨some 64, .mv (.t 9), none⟩, [63, 65, 66, 67, 68, 69, 70, 71, 72, 73, 74, 75]⟩,
    ⟨2, ⟨some 65, .mv (.t 0), none⟩, [63, 64, 66, 67, 68, 69, 70, 71, 72, 73, 74, 75]⟩,
    ⟨3, ⟨some 66, .mv (.t 10), none⟩, [63, 64, 65, 67, 68, 69, 70, 71, 72, 73, 74, 75]⟩,
    ⟨4, ⟨some 67, .ia 65 (.t 66) 2, none⟩, [63, 64, 68, 69, 70, 71, 72, 73, 74, 75]⟩,
    ⟨5, ⟨some 68, .fa 67 0 0, none⟩, [63, 64, 69, 70, 71, 72, 73, 74, 75]⟩,
    ⟨6, ⟨some 69, .ld 68 1 false, none⟩, [63, 64, 70, 71, 72, 73, 74, 75]⟩,
    ⟨7, ⟨some 70, .bin .add (.t 64) (.t 69), none⟩, [63, 71, 72, 73, 74, 75]⟩,
    ⟨8, ⟨some 71, .bin .add (.t 70) (.c (.str [61])), none⟩, [63, 72, 73, 74, 75]⟩,
    ⟨9, ⟨some 72, .mv (.t 11), none⟩, [63, 64, 65, 66, 67, 68, 69, 70, 71, 73, 74, 75]⟩,
    ⟨10, ⟨some 73, .call 88 [(.t 72)], none⟩, [63, 64, 65, 66, 67, 68, 69, 70, 71, 74, 75]⟩,
    ⟨11, ⟨some 74, .bin .add (.t 71) (.t 73), none⟩, [63, 75]⟩,
    ⟨12, ⟨some 75, .bin .add (.t 63) (.t 74), none⟩, []⟩]
    [(13, ⟨some 5, .asg (.t 75), none⟩)] [0, 3, 5, 53, 54, 55, 56])
  (.reg [⟨some 9, .asg (.c (.str [32])), none⟩] [0, 3, 5, 9, 53, 54, 55, 56])) (.skip))))))
  (.reg [⟨some 76, .bin .add (.t 56) (.c (.int .i64 1)), none⟩,
    ⟨some 56, .mv (.t 76), none⟩] [0, 3, 5, 9, 53, 54, 55, 56]))))))))
  (.seq (.reg [⟨some 77, .mv (.t 5), none⟩,
    ⟨some 4, .asg (.t 77), none⟩] [4])
  (.ret))))))))
theorem con_impl_tableText {v0 : (List XVariable)} {v1 : XTable} {r : (List UInt8)} (h : sh_impl_tableText v0 v1 = some r) : Con Tryd.prog 49 [(cLs (cXVariable cS cI) rfl).enc v0, (cXTable cI (cLs cI rfl) (cLs cI rfl) cI).enc v1] [] (rs_impl_tableText r) := by
  delta sh_impl_tableText at h
  refine top (out := none) (f := Tryd.f49) (m := m49) (rs := [.t 4]) (by kernel_rfl) rfl (by kernel_rfl) (by kernel_rfl) (by kernel_rfl) (by kernel_rfl) (by kernel_rfl) ?_
  exact
   ini [(0, .d ((cLs (cXVariable cS cI) rfl).enc v0)), (1, .d ((cXTable cI (cLs cI rfl) (cLs cI rfl) cI).enc v1))] rfl <| wpC_seq <| reg_s <| x_box (ss rfl rfl) <| x_asg (sc cS ([] : List UInt8) rfl) <| seqN [(0, .d ((cLs (cXVariable cS cI) rfl).enc v0)), (3, .box ((cXTable cI (cLs cI rfl) (cLs cI rfl) cI).enc v1))] (by kernel_rfl) <|
    xn <| wpC_seq <| reg_s <| x_asg (sc cS ([99, 111, 117, 110, 116] : List UInt8) rfl) <| seqN [(0, .d ((cLs (cXVariable cS cI) rfl).enc v0)), (3, .box ((cXTable cI (cLs cI rfl) (cLs cI rfl) cI).enc v1)), (5, .d (cS.enc ([99, 111, 117, 110, 116] : List UInt8)))] (by kernel_rfl) <|
    xn <| wpC_seq <| jw (fun (s6 : (List UInt8)) => [(0, .d ((cLs (cXVariable cS cI) rfl).enc v0)), (3, .box ((cXTable cI (cLs cI rfl) (cLs cI rfl) cI).enc v1)), (5, .d (cS.enc s6))]) h (fun s6 h => xn <| wpC_seq <| reg_s <| st rfl <| mvd rfl rfl <| st rfl <| fab rfl rfl rfl rfl <| st rfl <| lda rfl rfl rfl rfl rfl rfl <| bnd h fun x12 e13 h => st rfl <| o_call (a1 (c := cI) tK rfl a0) (con_strconv_Itoa e13) (.inl (so1 sS so0)) <| lnO_k h fun l14 h => st rfl <| b_cat rfl rfl l14 <| lnO_k h fun l15 h => st rfl <| b_cat rfl rfl l15 <| x_asg (ss rfl rfl) <| seqN [(0, .d ((cLs (cXVariable cS cI) rfl).enc v0)), (3, .box ((cXTable cI (cLs cI rfl) (cLs cI rfl) cI).enc v1)), (5, .d (cS.enc (s6 ++ (([32, 108, 101, 118, 101, 108, 32] : List UInt8) ++ x12))))] (by kernel_rfl) <|
    xn <| wpC_seq <| jw (fun (s91 : (List UInt8)) => [(0, .d ((cLs (cXVariable cS cI) rfl).enc v0)), (3, .box ((cXTable cI (cLs cI rfl) (cLs cI rfl) cI).enc v1)), (5, .d (cS.enc s91))]) h (fun s91 h => xn <| wpC_seq <| reg_s <| x_asg (sc cS ([32, 119, 104, 101, 114, 101, 32] : List UInt8) rfl) <| seqN [(0, .d ((cLs (cXVariable cS cI) rfl).enc v0)), (3, .box ((cXTable cI (cLs cI rfl) (cLs cI rfl) cI).enc v1)), (5, .d (cS.enc s91)), (9, .d (cS.enc ([32, 119, 104, 101, 114, 101, 32] : List UInt8)))] (by kernel_rfl) <|
    xn <| wpC_seq <| wpC_kp <| wpC_seq <| reg_s <| st rfl <| fab rfl rfl rfl rfl <| st rfl <| lda rfl rfl rfl rfl rfl rfl <| stw rfl <| lens rfl fun l218 => st rfl <| mvc cI (0 : Int) rfl <| seqN [(0, .d ((cLs (cXVariable cS cI) rfl).enc v0)), (3, .box ((cXTable cI (cLs cI rfl) (cLs cI rfl) cI).enc v1)), (5, .d (cS.enc s91)), (9, .d (cS.enc ([32, 119, 104, 101, 114, 101, 32] : List UInt8))), (53, .adr 3 [.fld 2]), (54, .d ((cLs cI rfl).enc v1.Where)), (55, .d (cI.enc (v1.Where.length : Int))), (56, .d (cI.enc (0 : Int)))] (by kernel_rfl) <|
    xn <| wpC_blk <| lpR (fun (k220 : Nat) (s219 : ((List UInt8) × (List UInt8))) => [(0, .d ((cLs (cXVariable cS cI) rfl).enc v0)), (3, .box ((cXTable cI (cLs cI rfl) (cLs cI rfl) cI).enc v1)), (5, .d (cS.enc s219.1)), (9, .d (cS.enc s219.2)), (53, .adr 3 [.fld 2]), (54, .d ((cLs cI rfl).enc v1.Where)), (55, .d (cI.enc (v1.Where.length : Int))), (56, .d (cI.enc (k220 : Int)))]) (s91, ([32, 119, 104, 101, 114, 101, 32] : List UInt8)) rfl h
    (fun G302 s219 h => wpC_seq <| reg_s <| st rfl <| b_lss (k := .i64) rfl rfl <| seqN [(0, .d ((cLs (cXVariable cS cI) rfl).enc v0)), (3, .box ((cXTable cI (cLs cI rfl) (cLs cI rfl) cI).enc v1)), (5, .d (cS.enc s219.1)), (9, .d (cS.enc s219.2)), (53, .adr 3 [.fld 2]), (54, .d ((cLs cI rfl).enc v1.Where)), (55, .d (cI.enc (v1.Where.length : Int))), (56, .d (cI.enc (v1.Where.length : Int))), (57, .d (cB.enc (decide ((v1.Where.length : Int) < (v1.Where.length : Int)))))] (by kernel_rfl) <|
    xn <| wpC_seq <| wpC_kp <| cnd0 rfl (dlf _) <| wpC_exit <| xt <| xt <| xt <| xb <| kpN [(5, .d (cS.enc s219.1))] (by kernel_rfl) <| xn <| wpC_seq <| reg_s <| st rfl <| mvd rfl rfl <| x_asg (ss rfl rfl) <| seqN [(4, .d (cS.enc s219.1))] (by kernel_rfl) <|
    xn <| wpC_ret <| re <| fin h (r1 (ss rfl rfl) <| r0) rfl)
    (fun G302 nx300 k220 s219 x221 hk222 hx223 hn301 h => wpC_seq <| reg_s <| st rfl <| b_lss (k := .i64) rfl rfl <| seqN [(0, .d ((cLs (cXVariable cS cI) rfl).enc v0)), (3, .box ((cXTable cI (cLs cI rfl) (cLs cI rfl) cI).enc v1)), (5, .d (cS.enc s219.1)), (9, .d (cS.enc s219.2)), (53, .adr 3 [.fld 2]), (54, .d ((cLs cI rfl).enc v1.Where)), (55, .d (cI.enc (v1.Where.length : Int))), (56, .d (cI.enc (k220 : Int))), (57, .d (cB.enc (decide ((k220 : Int) < (v1.Where.length : Int)))))] (by kernel_rfl) <|
    xn <| wpC_seq <| wpC_kp <| cnd1 rfl (dlt hk222) <| wpC_skip <| kpN [(0, .d ((cLs (cXVariable cS cI) rfl).enc v0)), (3, .box ((cXTable cI (cLs cI rfl) (cLs cI rfl) cI).enc v1)), (5, .d (cS.enc s219.1)), (9, .d (cS.enc s219.2)), (53, .adr 3 [.fld 2]), (54, .d ((cLs cI rfl).enc v1.Where)), (55, .d (cI.enc (v1.Where.length : Int))), (56, .d (cI.enc (k220 : Int)))] (by kernel_rfl) <| xn <| wpC_seq <| wpC_kp <| wpC_blk <| wpC_seq <| reg_s <| st rfl <| mvd rfl rfl <| st rfl <| ias rfl rfl (Int.natCast_nonneg _) hx223 rfl <| st rfl <| ldi rfl rfl rfl rfl <| x_asg (ss rfl rfl) <| x_asg (ss rfl rfl) <| seqN [(0, .d ((cLs (cXVariable cS cI) rfl).enc v0)), (3, .box ((cXTable cI (cLs cI rfl) (cLs cI rfl) cI).enc v1)), (5, .d (cS.enc s219.1)), (9, .d (cS.enc s219.2)), (10, .d (cI.enc (k220 : Int))), (11, .d (cI.enc x221)), (53, .adr 3 [.fld 2]), (54, .d ((cLs cI rfl).enc v1.Where)), (55, .d (cI.enc (v1.Where.length : Int))), (56, .d (cI.enc (k220 : Int)))] (by kernel_rfl) <|
    xn <| wpC_seq <| reg_s <| st rfl <| mvd rfl rfl <| st rfl <| b_neq (k := .i64) rfl rfl <| seqN [(0, .d ((cLs (cXVariable cS cI) rfl).enc v0)), (3, .box ((cXTable cI (cLs cI rfl) (cLs cI rfl) cI).enc v1)), (5, .d (cS.enc s219.1)), (9, .d (cS.enc s219.2)), (10, .d (cI.enc (k220 : Int))), (11, .d (cI.enc x221)), (53, .adr 3 [.fld 2]), (54, .d ((cLs cI rfl).enc v1.Where)), (55, .d (cI.enc (v1.Where.length : Int))), (56, .d (cI.enc (k220 : Int))), (62, .d (cB.enc (decide (x221 ≠ (0 : Int)))))] (by kernel_rfl) <|
    xn <| cnd rfl h (fun b322 h => wpC_seq <| drw_s <| pst rfl <| mvd rfl rfl ⟨rfl, pst rfl <| mvd rfl rfl ⟨rfl, pst rfl <| mvd rfl rfl ⟨rfl, pst rfl <| mvd rfl rfl ⟨rfl, getO_kp h fun x332 i333 g334 h => pst rfl <| ias rfl rfl i333 g334 rfl ⟨rfl, pst rfl <| fai rfl rfl rfl rfl ⟨rfl, pst rfl <| ldi rfl rfl rfl rfl ⟨rfl, lnO_kp h fun l335 h => pst rfl <| b_cat rfl rfl l335 ⟨rfl, lnO_kp h fun l336 h => pst rfl <| b_cat rfl rfl l336 ⟨rfl, pst rfl <| mvd rfl rfl ⟨rfl, bndp h fun x337 e338 h => pst rfl <| o_call (a1 (c := cI) tK rfl a0) (con_impl_setText e338) (.inl (so1 sS so0)) ⟨rfl, lnO_kp h fun l339 h => pst rfl <| b_cat rfl rfl l339 ⟨rfl, lnO_kp h fun l340 h => pst rfl <| b_cat rfl rfl l340 ⟨rfl, preN <| x_asg (ss rfl rfl) <| seqN [(0, .d ((cLs (cXVariable cS cI) rfl).enc v0)), (3, .box ((cXTable cI (cLs cI rfl) (cLs cI rfl) cI).enc v1)), (5, .d (cS.enc (s219.1 ++ (((s219.2 ++ x332.Name) ++ ([61] : List UInt8)) ++ x337)))), (53, .adr 3 [.fld 2]), (54, .d ((cLs cI rfl).enc v1.Where)), (55, .d (cI.enc (v1.Where.length : Int))), (56, .d (cI.enc (k220 : Int)))] (by kernel_rfl) <|
    xn <| reg_s <| x_asg (sc cS ([32] : List UInt8) rfl) <| seqN [(0, .d ((cLs (cXVariable cS cI) rfl).enc v0)), (3, .box ((cXTable cI (cLs cI rfl) (cLs cI rfl) cI).enc v1)), (5, .d (cS.enc (s219.1 ++ (((s219.2 ++ x332.Name) ++ ([61] : List UInt8)) ++ x337)))), (9, .d (cS.enc ([32] : List UInt8))), (53, .adr 3 [.fld 2]), (54, .d ((cLs cI rfl).enc v1.Where)), (55, .d (cI.enc (v1.Where.length : Int))), (56, .d (cI.enc (k220 : Int)))] (by kernel_rfl) <|
    xbb <| kpN [(0, .d ((cLs (cXVariable cS cI) rfl).enc v0)), (3, .box ((cXTable cI (cLs cI rfl) (cLs cI rfl) cI).enc v1)), (5, .d (cS.enc (s219.1 ++ (((s219.2 ++ x332.Name) ++ ([61] : List UInt8)) ++ x337)))), (9, .d (cS.enc ([32] : List UInt8))), (53, .adr 3 [.fld 2]), (54, .d ((cLs cI rfl).enc v1.Where)), (55, .d (cI.enc (v1.Where.length : Int))), (56, .d (cI.enc (k220 : Int)))] (by kernel_rfl) <| xn <| reg_s <| st rfl <| b_inc rfl rfl l218 hk222 <| st rfl <| mvd rfl rfl <| seqN [(0, .d ((cLs (cXVariable cS cI) rfl).enc v0)), (3, .box ((cXTable cI (cLs cI rfl) (cLs cI rfl) cI).enc v1)), (5, .d (cS.enc (s219.1 ++ (((s219.2 ++ x332.Name) ++ ([61] : List UInt8)) ++ x337)))), (9, .d (cS.enc ([32] : List UInt8))), (53, .adr 3 [.fld 2]), (54, .d ((cLs cI rfl).enc v1.Where)), (55, .d (cI.enc (v1.Where.length : Int))), (56, .d (cI.enc ((k220 + 1 : Nat) : Int)))] (by kernel_rfl) <|
    xn <| hn301 ((s219.1 ++ (((s219.2 ++ x332.Name) ++ ([61] : List UInt8)) ++ x337)), ([32] : List UInt8)) h⟩⟩⟩⟩⟩⟩⟩⟩⟩⟩⟩⟩⟩)
    (fun b322 h => wpC_skip <| xbb <| kpN [(0, .d ((cLs (cXVariable cS cI) rfl).enc v0)), (3, .box ((cXTable cI (cLs cI rfl) (cLs cI rfl) cI).enc v1)), (5, .d (cS.enc s219.1)), (9, .d (cS.enc s219.2)), (53, .adr 3 [.fld 2]), (54, .d ((cLs cI rfl).enc v1.Where)), (55, .d (cI.enc (v1.Where.length : Int))), (56, .d (cI.enc (k220 : Int)))] (by kernel_rfl) <| xn <| reg_s <| st rfl <| b_inc rfl rfl l218 hk222 <| st rfl <| mvd rfl rfl <| seqN [(0, .d ((cLs (cXVariable cS cI) rfl).enc v0)), (3, .box ((cXTable cI (cLs cI rfl) (cLs cI rfl) cI).enc v1)), (5, .d (cS.enc s219.1)), (9, .d (cS.enc s219.2)), (53, .adr 3 [.fld 2]), (54, .d ((cLs cI rfl).enc v1.Where)), (55, .d (cI.enc (v1.Where.length : Int))), (56, .d (cI.enc ((k220 + 1 : Nat) : Int)))] (by kernel_rfl) <|
    xn <| hn301 (s219.1, s219.2) h)))
    fun s91' q92 h => wpC_kp <| wpC_seq <| reg_s <| st rfl <| fab rfl rfl rfl rfl <| st rfl <| lda rfl rfl rfl rfl rfl rfl <| stw rfl <| lens rfl fun l342 => st rfl <| b_gtr (k := .i64) rfl rfl <| seqN [(0, .d ((cLs (cXVariable cS cI) rfl).enc v0)), (3, .box ((cXTable cI (cLs cI rfl) (cLs cI rfl) cI).enc v1)), (5, .d (cS.enc (s6 ++ (([32, 108, 101, 118, 101, 108, 32] : List UInt8) ++ x12)))), (31, .d (cB.enc (decide ((0 : Int) < (v1.Vars.length : Int)))))] (by kernel_rfl) <|
    xn <| cnd rfl h (fun b343 h => wpC_seq <| reg_s <| x_asg (sc (cLo cS) ([] : List (List UInt8)) rfl) <| seqN [(0, .d ((cLs (cXVariable cS cI) rfl).enc v0)), (3, .box ((cXTable cI (cLs cI rfl) (cLs cI rfl) cI).enc v1)), (5, .d (cS.enc (s6 ++ (([32, 108, 101, 118, 101, 108, 32] : List UInt8) ++ x12)))), (6, .d ((cLo cS).enc ([] : List (List UInt8))))] (by kernel_rfl) <|
    xn <| wpC_seq <| wpC_kp <| wpC_seq <| reg_s <| st rfl <| fab rfl rfl rfl rfl <| st rfl <| lda rfl rfl rfl rfl rfl rfl <| stw rfl <| lens rfl fun l379 => st rfl <| mvc cI (0 : Int) rfl <| seqN [(0, .d ((cLs (cXVariable cS cI) rfl).enc v0)), (3, .box ((cXTable cI (cLs cI rfl) (cLs cI rfl) cI).enc v1)), (5, .d (cS.enc (s6 ++ (([32, 108, 101, 118, 101, 108, 32] : List UInt8) ++ x12)))), (6, .d ((cLo cS).enc ([] : List (List UInt8)))), (32, .adr 3 [.fld 1]), (33, .d ((cLs cI rfl).enc v1.Vars)), (34, .d (cI.enc (v1.Vars.length : Int))), (35, .d (cI.enc (0 : Int)))] (by kernel_rfl) <|
    xn <| wpC_blk <| lpR (fun (k381 : Nat) (s380 : (List (List UInt8))) => [(0, .d ((cLs (cXVariable cS cI) rfl).enc v0)), (3, .box ((cXTable cI (cLs cI rfl) (cLs cI rfl) cI).enc v1)), (5, .d (cS.enc (s6 ++ (([32, 108, 101, 118, 101, 108, 32] : List UInt8) ++ x12)))), (6, .d ((cLo cS).enc s380)), (32, .adr 3 [.fld 1]), (33, .d ((cLs cI rfl).enc v1.Vars)), (34, .d (cI.enc (v1.Vars.length : Int))), (35, .d (cI.enc (k381 : Int)))]) ([] : List (List UInt8)) rfl h
    (fun G403 s380 h => wpC_seq <| reg_s <| st rfl <| b_lss (k := .i64) rfl rfl <| seqN [(0, .d ((cLs (cXVariable cS cI) rfl).enc v0)), (3, .box ((cXTable cI (cLs cI rfl) (cLs cI rfl) cI).enc v1)), (5, .d (cS.enc (s6 ++ (([32, 108, 101, 118, 101, 108, 32] : List UInt8) ++ x12)))), (6, .d ((cLo cS).enc s380)), (32, .adr 3 [.fld 1]), (33, .d ((cLs cI rfl).enc v1.Vars)), (34, .d (cI.enc (v1.Vars.length : Int))), (35, .d (cI.enc (v1.Vars.length : Int))), (36, .d (cB.enc (decide ((v1.Vars.length : Int) < (v1.Vars.length : Int)))))] (by kernel_rfl) <|
    xn <| wpC_seq <| wpC_kp <| cnd0 rfl (dlf _) <| wpC_exit <| xt <| xt <| xt <| xb <| kpN [(0, .d ((cLs (cXVariable cS cI) rfl).enc v0)), (3, .box ((cXTable cI (cLs cI rfl) (cLs cI rfl) cI).enc v1)), (5, .d (cS.enc (s6 ++ (([32, 108, 101, 118, 101, 108, 32] : List UInt8) ++ x12)))), (6, .d ((cLo cS).enc s380))] (by kernel_rfl) <| xn <| reg_s <| st rfl <| mvd rfl rfl <| st rfl <| mvo rfl rfl <| bnd h fun x404 e405 h => st rfl <| o_call (a1 (c := (cLo cS)) (tLo tS) rfl (a1 (c := cS) tS rfl a0)) (con_strings_Join e405) (.inl (so1 sS so0)) <| lnO_k h fun l406 h => st rfl <| b_cat rfl rfl l406 <| lnO_k h fun l407 h => st rfl <| b_cat rfl rfl l407 <| x_asg (ss rfl rfl) <| seqN [(0, .d ((cLs (cXVariable cS cI) rfl).enc v0)), (3, .box ((cXTable cI (cLs cI rfl) (cLs cI rfl) cI).enc v1)), (5, .d (cS.enc ((s6 ++ (([32, 108, 101, 118, 101, 108, 32] : List UInt8) ++ x12)) ++ (([32, 98, 121, 32] : List UInt8) ++ x404))))] (by kernel_rfl) <|
    kpN [(0, .d ((cLs (cXVariable cS cI) rfl).enc v0)), (3, .box ((cXTable cI (cLs cI rfl) (cLs cI rfl) cI).enc v1)), (5, .d (cS.enc ((s6 ++ (([32, 108, 101, 118, 101, 108, 32] : List UInt8) ++ x12)) ++ (([32, 98, 121, 32] : List UInt8) ++ x404))))] (by kernel_rfl) <| lfn (S := (fun (s91 : (List UInt8)) => [(0, .d ((cLs (cXVariable cS cI) rfl).enc v0)), (3, .box ((cXTable cI (cLs cI rfl) (cLs cI rfl) cI).enc v1)), (5, .d (cS.enc s91))])) h q92 rfl)
    (fun G403 nx401 k381 s380 x382 hk383 hx384 hn402 h => wpC_seq <| reg_s <| st rfl <| b_lss (k := .i64) rfl rfl <| seqN [(0, .d ((cLs (cXVariable cS cI) rfl).enc v0)), (3, .box ((cXTable cI (cLs cI rfl) (cLs cI rfl) cI).enc v1)), (5, .d (cS.enc (s6 ++ (([32, 108, 101, 118, 101, 108, 32] : List UInt8) ++ x12)))), (6, .d ((cLo cS).enc s380)), (32, .adr 3 [.fld 1]), (33, .d ((cLs cI rfl).enc v1.Vars)), (34, .d (cI.enc (v1.Vars.length : Int))), (35, .d (cI.enc (k381 : Int))), (36, .d (cB.enc (decide ((k381 : Int) < (v1.Vars.length : Int)))))] (by kernel_rfl) <|
    xn <| wpC_seq <| wpC_kp <| cnd1 rfl (dlt hk383) <| wpC_skip <| kpN [(0, .d ((cLs (cXVariable cS cI) rfl).enc v0)), (3, .box ((cXTable cI (cLs cI rfl) (cLs cI rfl) cI).enc v1)), (5, .d (cS.enc (s6 ++ (([32, 108, 101, 118, 101, 108, 32] : List UInt8) ++ x12)))), (6, .d ((cLo cS).enc s380)), (32, .adr 3 [.fld 1]), (33, .d ((cLs cI rfl).enc v1.Vars)), (34, .d (cI.enc (v1.Vars.length : Int))), (35, .d (cI.enc (k381 : Int)))] (by kernel_rfl) <| xn <| wpC_seq <| wpC_kp <| wpC_blk <| wpC_seq <| reg_s <| st rfl <| ias rfl rfl (Int.natCast_nonneg _) hx384 rfl <| st rfl <| ldi rfl rfl rfl rfl <| x_asg (ss rfl rfl) <| seqN [(0, .d ((cLs (cXVariable cS cI) rfl).enc v0)), (3, .box ((cXTable cI (cLs cI rfl) (cLs cI rfl) cI).enc v1)), (5, .d (cS.enc (s6 ++ (([32, 108, 101, 118, 101, 108, 32] : List UInt8) ++ x12)))), (6, .d ((cLo cS).enc s380)), (8, .d (cI.enc x382)), (32, .adr 3 [.fld 1]), (33, .d ((cLs cI rfl).enc v1.Vars)), (34, .d (cI.enc (v1.Vars.length : Int))), (35, .d (cI.enc (k381 : Int)))] (by kernel_rfl) <|
    xn <| reg_s <| st rfl <| mvo rfl rfl <| st rfl <| mvd rfl rfl <| st rfl <| mvd rfl rfl <| getO_k h fun x412 i413 g414 h => st rfl <| ias rfl rfl i413 g414 rfl <| st rfl <| fai rfl rfl rfl rfl <| st rfl <| ldi rfl rfl rfl rfl <| x_bsl cS [x412.Name] (t1 (ss rfl rfl) rfl t0) rfl rfl <| lnO_k h fun l415 h => x_app (sr rfl rfl) (to rfl rfl) l415 rfl <| x_asg (so rfl rfl) <| seqN [(0, .d ((cLs (cXVariable cS cI) rfl).enc v0)), (3, .box ((cXTable cI (cLs cI rfl) (cLs cI rfl) cI).enc v1)), (5, .d (cS.enc (s6 ++ (([32, 108, 101, 118, 101, 108, 32] : List UInt8) ++ x12)))), (6, .d ((cLo cS).enc (s380 ++ [x412.Name]))), (32, .adr 3 [.fld 1]), (33, .d ((cLs cI rfl).enc v1.Vars)), (34, .d (cI.enc (v1.Vars.length : Int))), (35, .d (cI.enc (k381 : Int)))] (by kernel_rfl) <|
    xbb <| kpN [(0, .d ((cLs (cXVariable cS cI) rfl).enc v0)), (3, .box ((cXTable cI (cLs cI rfl) (cLs cI rfl) cI).enc v1)), (5, .d (cS.enc (s6 ++ (([32, 108, 101, 118, 101, 108, 32] : List UInt8) ++ x12)))), (6, .d ((cLo cS).enc (s380 ++ [x412.Name]))), (32, .adr 3 [.fld 1]), (33, .d ((cLs cI rfl).enc v1.Vars)), (34, .d (cI.enc (v1.Vars.length : Int))), (35, .d (cI.enc (k381 : Int)))] (by kernel_rfl) <| xn <| reg_s <| st rfl <| b_inc rfl rfl l379 hk383 <| st rfl <| mvd rfl rfl <| seqN [(0, .d ((cLs (cXVariable cS cI) rfl).enc v0)), (3, .box ((cXTable cI (cLs cI rfl) (cLs cI rfl) cI).enc v1)), (5, .d (cS.enc (s6 ++ (([32, 108, 101, 118, 101, 108, 32] : List UInt8) ++ x12)))), (6, .d ((cLo cS).enc (s380 ++ [x412.Name]))), (32, .adr 3 [.fld 1]), (33, .d ((cLs cI rfl).enc v1.Vars)), (34, .d (cI.enc (v1.Vars.length : Int))), (35, .d (cI.enc ((k381 + 1 : Nat) : Int)))] (by kernel_rfl) <|
    xn <| hn402 (s380 ++ [x412.Name]) h))
    (fun b343 h => wpC_skip <| kpN [(0, .d ((cLs (cXVariable cS cI) rfl).enc v0)), (3, .box ((cXTable cI (cLs cI rfl) (cLs cI rfl) cI).enc v1)), (5, .d (cS.enc (s6 ++ (([32, 108, 101, 118, 101, 108, 32] : List UInt8) ++ x12))))] (by kernel_rfl) <| lfn (S := (fun (s91 : (List UInt8)) => [(0, .d ((cLs (cXVariable cS cI) rfl).enc v0)), (3, .box ((cXTable cI (cLs cI rfl) (cLs cI rfl) cI).enc v1)), (5, .d (cS.enc s91))])) h q92 rfl))
    fun s6' q7 h => wpC_kp <| wpC_seq <| reg_s <| st rfl <| fab rfl rfl rfl rfl <| st rfl <| lda rfl rfl rfl rfl rfl rfl <| st rfl <| b_geq (k := .i64) rfl rfl <| seqN [(0, .d ((cLs (cXVariable cS cI) rfl).enc v0)), (3, .box ((cXTable cI (cLs cI rfl) (cLs cI rfl) cI).enc v1)), (5, .d (cS.enc ([99, 111, 117, 110, 116] : List UInt8))), (14, .d (cB.enc (decide ((0 : Int) ≤ v1.Sum))))] (by kernel_rfl) <|
    xn <| cnd rfl h (fun b416 h => reg_s <| st rfl <| mvd rfl rfl <| st rfl <| fab rfl rfl rfl rfl <| st rfl <| lda rfl rfl rfl rfl rfl rfl <| getO_k h fun x417 i418 g419 h => st rfl <| ias rfl rfl i418 g419 rfl <| st rfl <| fai rfl rfl rfl rfl <| st rfl <| ldi rfl rfl rfl rfl <| lnO_k h fun l420 h => st rfl <| b_cat rfl rfl l420 <| x_asg (ss rfl rfl) <| seqN [(0, .d ((cLs (cXVariable cS cI) rfl).enc v0)), (3, .box ((cXTable cI (cLs cI rfl) (cLs cI rfl) cI).enc v1)), (5, .d (cS.enc (([115, 117, 109, 32] : List UInt8) ++ x417.Name)))] (by kernel_rfl) <|
    kpN [(0, .d ((cLs (cXVariable cS cI) rfl).enc v0)), (3, .box ((cXTable cI (cLs cI rfl) (cLs cI rfl) cI).enc v1)), (5, .d (cS.enc (([115, 117, 109, 32] : List UInt8) ++ x417.Name)))] (by kernel_rfl) <| lfn (S := (fun (s6 : (List UInt8)) => [(0, .d ((cLs (cXVariable cS cI) rfl).enc v0)), (3, .box ((cXTable cI (cLs cI rfl) (cLs cI rfl) cI).enc v1)), (5, .d (cS.enc s6))])) h q7 rfl)
    (fun b416 h => wpC_skip <| kpN [(0, .d ((cLs (cXVariable cS cI) rfl).enc v0)), (3, .box ((cXTable cI (cLs cI rfl) (cLs cI rfl) cI).enc v1)), (5, .d (cS.enc ([99, 111, 117, 110, 116] : List UInt8)))] (by kernel_rfl) <| lfn (S := (fun (s6 : (List UInt8)) => [(0, .d ((cLs (cXVariable cS cI) rfl).enc v0)), (3, .box ((cXTable cI (cLs cI rfl) (cLs cI rfl) cI).enc v1)), (5, .d (cS.enc s6))])) h q7 rfl)

def rs_laws_eqGeo (r : Bool) : List D := [cB.enc r]
def m17 : MC := .seq (.reg [⟨some 2, .box (.t 0), none⟩,
    ⟨some 3, .box (.t 1), none⟩,
    ⟨some 4, .asg (.c (.bool false)), none⟩] [2, 3])
  (.seq (.kp [] (.seq (.reg [⟨some 5, .fa 2 0 0, none⟩,
    ⟨some 6, .ld 5 1 false, none⟩,
    ⟨some 7, .fa 3 0 0, none⟩,
    ⟨some 8, .ld 7 1 false, none⟩,
    ⟨some 9, .call 30 [(.t 6), (.t 8)], none⟩,
    ⟨some 10, .nt (.t 9), none⟩] [10])
  (.cond (.t 10) (.seq (.reg [⟨some 4, .asg (.c (.bool false)), none⟩] [4])
  (.ret)) (.skip))))
  (.seq (.reg [⟨some 4, .asg (.c (.bool true)), none⟩] [4])
  (.ret)))
theorem con_laws_eqGeo {v0 : XGeo} {v1 : XGeo} {r : Bool} (h : sh_laws_eqGeo v0 v1 = some r) : Con Tryd.prog 17 [(cXGeo (cLs cI rfl)).enc v0, (cXGeo (cLs cI rfl)).enc v1] [] (rs_laws_eqGeo r) := by
  delta sh_laws_eqGeo at h
  refine top (out := none) (f := Tryd.f17) (m := m17) (rs := [.t 4]) (by kernel_rfl) rfl (by kernel_rfl) (by kernel_rfl) (by kernel_rfl) (by kernel_rfl) (by kernel_rfl) ?_
  exact
   ini [(0, .d ((cXGeo (cLs cI rfl)).enc v0)), (1, .d ((cXGeo (cLs cI rfl)).enc v1))] rfl <| wpC_seq <| reg_s <| x_box (ss rfl rfl) <| x_box (ss rfl rfl) <| x_asg (sc cB false rfl) <| seqN [(2, .box ((cXGeo (cLs cI rfl)).enc v0)), (3, .box ((cXGeo (cLs cI rfl)).enc v1))] (by kernel_rfl) <|
    xn <| wpC_seq <| wpC_kp <| wpC_seq <| reg_s <| st rfl <| fab rfl rfl rfl rfl <| st rfl <| lda rfl rfl rfl rfl rfl rfl <| st rfl <| fab rfl rfl rfl rfl <| st rfl <| lda rfl rfl rfl rfl rfl rfl <| bnd h fun x8 e9 h => st rfl <| o_call (a1 (c := (cLs cI rfl)) (tLs tK) rfl (a1 (c := (cLs cI rfl)) (tLs tK) rfl a0)) (con_laws_eqIntS e9) (.inl (so1 sB so0)) <| st rfl <| o_nt rfl <| seqN [(10, .d (cB.enc (!x8)))] (by kernel_rfl) <|
    xn <| cnd rfl h (fun b10 h => wpC_seq <| reg_s <| x_asg (sc cB false rfl) <| seqN [(4, .d (cB.enc false))] (by kernel_rfl) <|
    xn <| wpC_ret <| rt <| rt <| re <| fin h (r1 (ss rfl rfl) <| r0) rfl)
    (fun b10 h => wpC_skip <| kpN [] (by kernel_rfl) <| xn <| wpC_seq <| reg_s <| x_asg (sc cB true rfl) <| seqN [(4, .d (cB.enc true))] (by kernel_rfl) <|
    xn <| wpC_ret <| re <| fin h (r1 (ss rfl rfl) <| r0) rfl)

def rs_laws_eqTable (r : Bool) : List D := [cB.enc r]
def m19 : MC := .seq (.reg [⟨some 2, .box (.t 0), none⟩,
    ⟨some 3, .box (.t 1), none⟩,
    ⟨some 4, .asg (.c (.bool false)), none⟩] [2, 3])
  (.seq (.kp [2, 3] (.seq (.reg [⟨some 5, .fa 2 0 0, none⟩,
    ⟨some 6, .ld 5 1 false, none⟩,
    ⟨some 7, .fa 3 0 0, none⟩,
    ⟨some 8, .ld 7 1 false, none⟩,
    ⟨some 9, .bin .neq (.t 6) (.t 8), none⟩] [2, 3, 9])
  (.cond (.t 9) (.seq (.reg [⟨some 4, .asg (.c (.bool false)), none⟩] [4])
  (.ret)) (.skip))))
  (.seq (.kp [2, 3] (.seq (.reg [⟨some 10, .fa 2 1 1, none⟩,
    ⟨some 11, .ld 10 1 false, none⟩,
    ⟨some 12, .fa 3 1 1, none⟩,
    ⟨some 13, .ld 12 1 false, none⟩,
    ⟨some 14, .call 30 [(.t 11), (.t 13)], none⟩,
    ⟨some 15, .nt (.t 14), none⟩] [2, 3, 15])
  (.cond (.t 15) (.seq (.reg [⟨some 4, .asg (.c (.bool false)), none⟩] [4])
  (.ret)) (.skip))))
  (.seq (.kp [2, 3] (.seq (.reg [⟨some 16, .fa 2 2 2, none⟩,
    ⟨some 17, .ld 16 1 false, none⟩,
    ⟨some 18, .fa 3 2 2, none⟩,
    ⟨some 19, .ld 18 1 false, none⟩,
    ⟨some 20, .call 30 [(.t 17), (.t 19)], none⟩,
    ⟨some 21, .nt (.t 20), none⟩] [2, 3, 21])
  (.cond (.t 21) (.seq (.reg [⟨some 4, .asg (.c (.bool false)), none⟩] [4])
  (.ret)) (.skip))))
  (.seq (.kp [] (.seq (.reg [⟨some 22, .fa 2 3 3, none⟩,
    ⟨some 23, .ld 22 1 false, none⟩,
    ⟨some 24, .fa 3 3 3, none⟩,
    ⟨some 25, .ld 24 1 false, none⟩,
    ⟨some 26, .bin .neq (.t 23) (.t 25), none⟩] [26])
  (.cond (.t 26) (.seq (.reg [⟨some 4, .asg (.c (.bool false)), none⟩] [4])
  (.ret)) (.skip))))
  (.seq (.reg [⟨some 4, .asg (.c (.bool true)), none⟩] [4])
  (.ret))))))
theorem con_laws_eqTable {v0 : XTable} {v1 : XTable} {r : Bool} (h : sh_laws_eqTable v0 v1 = some r) : Con Tryd.prog 19 [(cXTable cI (cLs cI rfl) (cLs cI rfl) cI).enc v0, (cXTable cI (cLs cI rfl) (cLs cI rfl) cI).enc v1] [] (rs_laws_eqTable r) := by
  delta sh_laws_eqTable at h
  refine top (out := none) (f := Tryd.f19) (m := m19) (rs := [.t 4]) (by kernel_rfl) rfl (by kernel_rfl) (by kernel_rfl) (by kernel_rfl) (by kernel_rfl) (by kernel_rfl) ?_
  exact
   ini [(0, .d ((cXTable cI (cLs cI rfl) (cLs cI rfl) cI).enc v0)), (1, .d ((cXTable cI (cLs cI rfl) (cLs cI rfl) cI).enc v1))] rfl <| wpC_seq <| reg_s <| x_box (ss rfl rfl) <| x_box (ss rfl rfl) <| x_asg (sc cB false rfl) <| seqN [(2, .box ((cXTable cI (cLs cI rfl) (cLs cI rfl) cI).enc v0)), (3, .box ((cXTable cI (cLs cI rfl) (cLs cI rfl) cI).enc v1))] (by kernel_rfl) <|
    xn <| wpC_seq <| wpC_kp <| wpC_seq <| reg_s <| st rfl <| fab rfl rfl rfl rfl <| st rfl <| lda rfl rfl rfl rfl rfl rfl <| st rfl <| fab rfl rfl rfl rfl <| st rfl <| lda rfl rfl rfl rfl rfl rfl <| st rfl <| b_neq (k := .i64) rfl rfl <| seqN [(2, .box ((cXTable cI (cLs cI rfl) (cLs cI rfl) cI).enc v0)), (3, .box ((cXTable cI (cLs cI rfl) (cLs cI rfl) cI).enc v1)), (9, .d (cB.enc (decide (v0.Level ≠ v1.Level))))] (by kernel_rfl) <|
    xn <| cnd rfl h (fun b2 h => wpC_seq <| reg_s <| x_asg (sc cB false rfl) <| seqN [(4, .d (cB.enc false))] (by kernel_rfl) <|
    xn <| wpC_ret <| rt <| rt <| re <| fin h (r1 (ss rfl rfl) <| r0) rfl)
    (fun b2 h => wpC_skip <| kpN [(2, .box ((cXTable cI (cLs cI rfl) (cLs cI rfl) cI).enc v0)), (3, .box ((cXTable cI (cLs cI rfl) (cLs cI rfl) cI).enc v1))] (by kernel_rfl) <| xn <| wpC_seq <| wpC_kp <| wpC_seq <| reg_s <| st rfl <| fab rfl rfl rfl rfl <| st rfl <| lda rfl rfl rfl rfl rfl rfl <| st rfl <| fab rfl rfl rfl rfl <| st rfl <| lda rfl rfl rfl rfl rfl rfl <| bnd h fun x10 e11 h => st rfl <| o_call (a1 (c := (cLs cI rfl)) (tLs tK) rfl (a1 (c := (cLs cI rfl)) (tLs tK) rfl a0)) (con_laws_eqIntS e11) (.inl (so1 sB so0)) <| st rfl <| o_nt rfl <| seqN [(2, .box ((cXTable cI (cLs cI rfl) (cLs cI rfl) cI).enc v0)), (3, .box ((cXTable cI (cLs cI rfl) (cLs cI rfl) cI).enc v1)), (15, .d (cB.enc (!x10)))] (by kernel_rfl) <|
    xn <| cnd rfl h (fun b12 h => wpC_seq <| reg_s <| x_asg (sc cB false rfl) <| seqN [(4, .d (cB.enc false))] (by kernel_rfl) <|
    xn <| wpC_ret <| rt <| rt <| re <| fin h (r1 (ss rfl rfl) <| r0) rfl)
    (fun b12 h => wpC_skip <| kpN [(2, .box ((cXTable cI (cLs cI rfl) (cLs cI rfl) cI).enc v0)), (3, .box ((cXTable cI (cLs cI rfl) (cLs cI rfl) cI).enc v1))] (by kernel_rfl) <| xn <| wpC_seq <| wpC_kp <| wpC_seq <| reg_s <| st rfl <| fab rfl rfl rfl rfl <| st rfl <| lda rfl rfl rfl rfl rfl rfl <| st rfl <| fab rfl rfl rfl rfl <| st rfl <| lda rfl rfl rfl rfl rfl rfl <| bnd h fun x20 e21 h => st rfl <| o_call (a1 (c := (cLs cI rfl)) (tLs tK) rfl (a1 (c := (cLs cI rfl)) (tLs tK) rfl a0)) (con_laws_eqIntS e21) (.inl (so1 sB so0)) <| st rfl <| o_nt rfl <| seqN [(2, .box ((cXTable cI (cLs cI rfl) (cLs cI rfl) cI).enc v0)), (3, .box ((cXTable cI (cLs cI rfl) (cLs cI rfl) cI).enc v1)), (21, .d (cB.enc (!x20)))] (by kernel_rfl) <|
    xn <| cnd rfl h (fun b22 h => wpC_seq <| reg_s <| x_asg (sc cB false rfl) <| seqN [(4, .d (cB.enc false))] (by kernel_rfl) <|
    xn <| wpC_ret <| rt <| rt <| re <| fin h (r1 (ss rfl rfl) <| r0) rfl)
    (fun b22 h => wpC_skip <| kpN [(2, .box ((cXTable cI (cLs cI rfl) (cLs cI rfl) cI).enc v0)), (3, .box ((cXTable cI (cLs cI rfl) (cLs cI rfl) cI).enc v1))] (by kernel_rfl) <| xn <| wpC_seq <| wpC_kp <| wpC_seq <| reg_s <| st rfl <| fab rfl rfl rfl rfl <| st rfl <| lda rfl rfl rfl rfl rfl rfl <| st rfl <| fab rfl rfl rfl rfl <| st rfl <| lda rfl rfl rfl rfl rfl rfl <| st rfl <| b_neq (k := .i64) rfl rfl <| seqN [(26, .d (cB.enc (decide (v0.Sum ≠ v1.Sum))))] (by kernel_rfl) <|
    xn <| cnd rfl h (fun b24 h => wpC_seq <| reg_s <| x_asg (sc cB false rfl) <| seqN [(4, .d (cB.enc false))] (by kernel_rfl) <|
    xn <| wpC_ret <| rt <| rt <| re <| fin h (r1 (ss rfl rfl) <| r0) rfl)
    (fun b24 h => wpC_skip <| kpN [] (by kernel_rfl) <| xn <| wpC_seq <| reg_s <| x_asg (sc cB true rfl) <| seqN [(4, .d (cB.enc true))] (by kernel_rfl) <|
    xn <| wpC_ret <| re <| fin h (r1 (ss rfl rfl) <| r0) rfl))))

def rs_laws_szTableS (r : Int) : List D := [cI.enc r]
def m22 : MC := .seq (.reg [⟨some 4, .asg (.c (.int .i64 0)), none⟩] [0, 1])
  (.seq (.reg [⟨some 6, .mv (.t 1), none⟩,
    ⟨some 7, .mv (.t 0), none⟩,
    ⟨some 8, .len false (.t 7), none⟩,
    ⟨some 9, .bin .sub (.t 6) (.t 8), none⟩,
    ⟨some 1, .asg (.t 9), none⟩] [0, 1])
  (.seq (.kp [0, 1] (.seq (.reg [⟨some 10, .mv (.t 1), none⟩,
    ⟨some 11, .bin .lss (.t 10) (.c (.int .i64 0)), none⟩] [0, 1, 11])
  (.cond (.t 11) (.seq (.reg [⟨some 4, .asg (.c (.int .i64 (-1))), none⟩] [4])
  (.ret)) (.skip))))
  (.seq (.kp [1] (.seq (.reg [⟨some 5, .asg (.c (.int .i64 0)), none⟩] [0, 1, 5])
  (.blk 0 (.loop (.seq (.kp [0, 1, 5] (.seq (.reg [⟨some 12, .mv (.t 5), none⟩,
    ⟨some 13, .mv (.t 0), none⟩,
    ⟨some 14, .len false (.t 13), none⟩,
    ⟨some 15, .bin .lss (.t 12) (.t 14), none⟩] [0, 1, 5, 15])
  (.cond (.t 15) (.skip) (.exit 0))))
  (.seq (.kp [0, 1, 5] (.blk 1 (.seq (.reg [⟨some 18, .mv (.t 0), none⟩,
    ⟨some 19, .mv (.t 5), none⟩,
    ⟨some 20, .ia 18 (.t 19) 4, none⟩,
    ⟨some 21, .ld 20 4 true, none⟩,
    ⟨some 22, .mv (.t 1), none⟩,
    ⟨some 23, .call 11 [(.t 21), (.t 22)], none⟩,
    ⟨some 1, .asg (.t 23), none⟩] [0, 1, 5])
  (.seq (.reg [⟨some 24, .mv (.t 1), none⟩,
    ⟨some 25, .bin .lss (.t 24) (.c (.int .i64 0)), none⟩] [0, 1, 5, 25])
  (.cond (.t 25) (.seq (.reg [⟨some 4, .asg (.c (.int .i64 (-1))), none⟩] [4])
  (.ret)) (.skip))))))
  (.reg [⟨some 16, .mv (.t 5), none⟩,
    ⟨some 17, .bin .add (.t 16) (.c (.int .i64 1)), none⟩,
    ⟨some 5, .asg (.t 17), none⟩] [0, 1, 5])))))))
  (.seq (.reg [⟨some 26, .mv (.t 1), none⟩,
    ⟨some 4, .asg (.t 26), none⟩] [4])
  (.ret)))))
theorem con_laws_szTableS {v0 : (List XTable)} {v1 : Int} {r : Int} (h : sh_laws_szTableS v0 v1 = some r) : Con Tryd.prog 22 [(cLs (cXTable cI (cLs cI rfl) (cLs cI rfl) cI) rfl).enc v0, cI.enc v1] [] (rs_laws_szTableS r) := by
  delta sh_laws_szTableS at h
  refine top (out := none) (f := Tryd.f22) (m := m22) (rs := [.t 4]) (by kernel_rfl) rfl (by kernel_rfl) (by kernel_rfl) (by kernel_rfl) (by kernel_rfl) (by kernel_rfl) ?_
  exact
   ini [(0, .d ((cLs (cXTable cI (cLs cI rfl) (cLs cI rfl) cI) rfl).enc v0)), (1, .d (cI.enc v1))] rfl <| wpC_seq <| reg_s <| x_asg (sc cI (0 : Int) rfl) <| seqN [(0, .d ((cLs (cXTable cI (cLs cI rfl) (cLs cI rfl) cI) rfl).enc v0)), (1, .d (cI.enc v1))] (by kernel_rfl) <|
    xn <| wpC_seq <| reg_s <| st rfl <| mvd rfl rfl <| st rfl <| mvd rfl rfl <| stw rfl <| lens rfl fun l3 => ckI_k h fun i4 h => st rfl <| b_sub (k := .i64) rfl rfl i4 <| x_asg (ss rfl rfl) <| seqN [(0, .d ((cLs (cXTable cI (cLs cI rfl) (cLs cI rfl) cI) rfl).enc v0)), (1, .d (cI.enc (v1 - (v0.length : Int))))] (by kernel_rfl) <|
    xn <| wpC_seq <| wpC_kp <| wpC_seq <| reg_s <| st rfl <| mvd rfl rfl <| st rfl <| b_lss (k := .i64) rfl rfl <| seqN [(0, .d ((cLs (cXTable cI (cLs cI rfl) (cLs cI rfl) cI) rfl).enc v0)), (1, .d (cI.enc (v1 - (v0.length : Int)))), (11, .d (cB.enc (decide ((v1 - (v0.length : Int)) < (0 : Int)))))] (by kernel_rfl) <|
    xn <| cnd rfl h (fun b6 h => wpC_seq <| reg_s <| x_asg (sc cI (-1 : Int) rfl) <| seqN [(4, .d (cI.enc (-1 : Int)))] (by kernel_rfl) <|
    xn <| wpC_ret <| rt <| rt <| re <| fin h (r1 (ss rfl rfl) <| r0) rfl)
    (fun b6 h => wpC_skip <| kpN [(0, .d ((cLs (cXTable cI (cLs cI rfl) (cLs cI rfl) cI) rfl).enc v0)), (1, .d (cI.enc (v1 - (v0.length : Int))))] (by kernel_rfl) <| xn <| wpC_seq <| wpC_kp <| wpC_seq <| reg_s <| x_asg (sc cI (0 : Int) rfl) <| seqN [(0, .d ((cLs (cXTable cI (cLs cI rfl) (cLs cI rfl) cI) rfl).enc v0)), (1, .d (cI.enc (v1 - (v0.length : Int)))), (5, .d (cI.enc (0 : Int)))] (by kernel_rfl) <|
    xn <| wpC_blk <| lpF (fun (s102 : (Int × Int)) => [(0, .d ((cLs (cXTable cI (cLs cI rfl) (cLs cI rfl) cI) rfl).enc v0)), (1, .d (cI.enc s102.1)), (5, .d (cI.enc s102.2))]) ((v1 - (v0.length : Int)), (0 : Int)) rfl h
    fun G167 nx165 s102 hn166 h => wpC_seq <| wpC_kp <| wpC_seq <| reg_s <| st rfl <| mvd rfl rfl <| st rfl <| mvd rfl rfl <| stw rfl <| lens rfl fun l172 => st rfl <| b_lss (k := .i64) rfl rfl <| seqN [(0, .d ((cLs (cXTable cI (cLs cI rfl) (cLs cI rfl) cI) rfl).enc v0)), (1, .d (cI.enc s102.1)), (5, .d (cI.enc s102.2)), (15, .d (cB.enc (decide (s102.2 < (v0.length : Int)))))] (by kernel_rfl) <|
    xn <| cnd rfl h (fun b173 h => wpC_skip <| kpN [(0, .d ((cLs (cXTable cI (cLs cI rfl) (cLs cI rfl) cI) rfl).enc v0)), (1, .d (cI.enc s102.1)), (5, .d (cI.enc s102.2))] (by kernel_rfl) <| xn <| wpC_seq <| wpC_kp <| wpC_blk <| wpC_seq <| reg_s <| st rfl <| mvd rfl rfl <| st rfl <| mvd rfl rfl <| getO_k h fun x190 i191 g192 h => st rfl <| ias rfl rfl i191 g192 rfl <| st rfl <| ldi rfl rfl rfl rfl <| st rfl <| mvd rfl rfl <| bnd h fun x193 e194 h => st rfl <| o_call (a1 (c := (cXTable cI (cLs cI rfl) (cLs cI rfl) cI)) (tXTable tK (tLs tK) (tLs tK) tK) rfl (a1 (c := cI) tK rfl a0)) (con_laws_szTable e194) (.inl (so1 sK so0)) <| x_asg (ss rfl rfl) <| seqN [(0, .d ((cLs (cXTable cI (cLs cI rfl) (cLs cI rfl) cI) rfl).enc v0)), (1, .d (cI.enc x193)), (5, .d (cI.enc s102.2))] (by kernel_rfl) <|
    xn <| wpC_seq <| reg_s <| st rfl <| mvd rfl rfl <| st rfl <| b_lss (k := .i64) rfl rfl <| seqN [(0, .d ((cLs (cXTable cI (cLs cI rfl) (cLs cI rfl) cI) rfl).enc v0)), (1, .d (cI.enc x193)), (5, .d (cI.enc s102.2)), (25, .d (cB.enc (decide (x193 < (0 : Int)))))] (by kernel_rfl) <|
    xn <| cnd rfl h (fun b195 h => wpC_seq <| reg_s <| x_asg (sc cI (-1 : Int) rfl) <| seqN [(4, .d (cI.enc (-1 : Int)))] (by kernel_rfl) <|
    xn <| wpC_ret <| rb <| rt <| rt <| rt <| rb <| rt <| rt <| re <| fin h (r1 (ss rfl rfl) <| r0) rfl)
    (fun b195 h => wpC_skip <| xbb <| kpN [(0, .d ((cLs (cXTable cI (cLs cI rfl) (cLs cI rfl) cI) rfl).enc v0)), (1, .d (cI.enc x193)), (5, .d (cI.enc s102.2))] (by kernel_rfl) <| xn <| reg_s <| st rfl <| mvd rfl rfl <| ckI_k h fun i196 h => st rfl <| b_add (k := .i64) rfl rfl i196 <| x_asg (ss rfl rfl) <| seqN [(0, .d ((cLs (cXTable cI (cLs cI rfl) (cLs cI rfl) cI) rfl).enc v0)), (1, .d (cI.enc x193)), (5, .d (cI.enc (s102.2 + (1 : Int))))] (by kernel_rfl) <|
    xn <| hn166 (x193, (s102.2 + (1 : Int))) h))
    (fun b173 h => wpC_exit <| xt <| xt <| xt <| xb <| kpN [(1, .d (cI.enc s102.1))] (by kernel_rfl) <| xn <| wpC_seq <| reg_s <| st rfl <| mvd rfl rfl <| x_asg (ss rfl rfl) <| seqN [(4, .d (cI.enc s102.1))] (by kernel_rfl) <|
    xn <| wpC_ret <| re <| fin h (r1 (ss rfl rfl) <| r0) rfl))

def rs_laws_toTableS (r : (List XTable)) : List D := [(cLo (cXTable cI (cLo cI) (cLo cI) cI)).enc r]
def m24 : MC := .seq (.reg [⟨some 2, .asg (.c (.slice true [])), none⟩] [0])
  (.seq (.reg [⟨some 5, .mv (.t 0), none⟩,
    ⟨some 6, .len false (.t 5), none⟩,
    ⟨some 7, .mk (.agg [.int .i64 0, .slice true [], .slice true [], .int .i64 0]) (.t 6), none⟩,
    ⟨some 3, .asg (.t 7), none⟩] [0, 3])
  (.seq (.kp [3] (.seq (.reg [⟨some 4, .asg (.c (.int .i64 0)), none⟩] [0, 3, 4])
  (.blk 0 (.loop (.seq (.kp [0, 3, 4] (.seq (.reg [⟨some 8, .mv (.t 4), none⟩,
    ⟨some 9, .mv (.t 0), none⟩,
    ⟨some 10, .len false (.t 9), none⟩,
    ⟨some 11, .bin .lss (.t 8) (.t 10), none⟩] [0, 3, 4, 11])
  (.cond (.t 11) (.skip) (.exit 0))))
  (.seq (.kp [0, 3, 4] (.blk 1 (.reg [⟨some 14, .mv (.t 3), none⟩,
    ⟨some 15, .mv (.t 4), none⟩,
    ⟨some 16, .mv (.t 0), none⟩,
    ⟨some 17, .mv (.t 4), none⟩,
    ⟨some 18, .ia 16 (.t 17) 4, none⟩,
    ⟨some 19, .ld 18 4 true, none⟩,
    ⟨some 20, .call 15 [(.t 19)], none⟩,
    ⟨some 21, .ia 14 (.t 15) 4, none⟩,
    ⟨none, .st 21 (.t 20) 4, none⟩] [0, 3, 4])))
  (.reg [⟨some 12, .mv (.t 4), none⟩,
    ⟨some 13, .bin .add (.t 12) (.c (.int .i64 1)), none⟩,
    ⟨some 4, .asg (.t 13), none⟩] [0, 3, 4])))))))
  (.seq (.reg [⟨some 22, .mv (.t 3), none⟩,
    ⟨some 2, .asg (.t 22), none⟩] [2])
  (.ret))))
theorem con_laws_toTableS {v0 : (List XTable)} {r : (List XTable)} (h : sh_laws_toTableS v0 = some r) : Con Tryd.prog 24 [(cLs (cXTable cI (cLs cI rfl) (cLs cI rfl) cI) rfl).enc v0] [] (rs_laws_toTableS r) := by
  delta sh_laws_toTableS at h
  refine top (out := none) (f := Tryd.f24) (m := m24) (rs := [.t 2]) (by kernel_rfl) rfl (by kernel_rfl) (by kernel_rfl) (by kernel_rfl) (by kernel_rfl) (by kernel_rfl) ?_
  exact
   ini [(0, .d ((cLs (cXTable cI (cLs cI rfl) (cLs cI rfl) cI) rfl).enc v0))] rfl <| wpC_seq <| reg_s <| x_asg (sc (cLo (cXTable cI (cLo cI) (cLo cI) cI)) ([] : List XTable) rfl) <| seqN [(0, .d ((cLs (cXTable cI (cLs cI rfl) (cLs cI rfl) cI) rfl).enc v0))] (by kernel_rfl) <|
    xn <| wpC_seq <| reg_s <| st rfl <| mvd rfl rfl <| stw rfl <| lens rfl fun l4 => mkO_k h fun i5 l6 h => st rfl <| o_mk (c := (cXTable cI (cLo cI) (cLo cI) cI)) (a0 := (⟨(0 : Int), ([] : List Int), ([] : List Int), (0 : Int)⟩ : XTable)) rfl (k := .i64) rfl i5 l6 <| x_asg (so rfl rfl) <| seqN [(0, .d ((cLs (cXTable cI (cLs cI rfl) (cLs cI rfl) cI) rfl).enc v0)), (3, .d ((cLo (cXTable cI (cLo cI) (cLo cI) cI)).enc (List.replicate ((v0.length : Int)).toNat (⟨(0 : Int), ([] : List Int), ([] : List Int), (0 : Int)⟩ : XTable))))] (by kernel_rfl) <|
    xn <| wpC_seq <| wpC_kp <| wpC_seq <| reg_s <| x_asg (sc cI (0 : Int) rfl) <| seqN [(0, .d ((cLs (cXTable cI (cLs cI rfl) (cLs cI rfl) cI) rfl).enc v0)), (3, .d ((cLo (cXTable cI (cLo cI) (cLo cI) cI)).enc (List.replicate ((v0.length : Int)).toNat (⟨(0 : Int), ([] : List Int), ([] : List Int), (0 : Int)⟩ : XTable)))), (4, .d (cI.enc (0 : Int)))] (by kernel_rfl) <|
    xn <| wpC_blk <| lpF (fun (s84 : ((List XTable) × Int)) => [(0, .d ((cLs (cXTable cI (cLs cI rfl) (cLs cI rfl) cI) rfl).enc v0)), (3, .d ((cLo (cXTable cI (cLo cI) (cLo cI) cI)).enc s84.1)), (4, .d (cI.enc s84.2))]) ((List.replicate ((v0.length : Int)).toNat (⟨(0 : Int), ([] : List Int), ([] : List Int), (0 : Int)⟩ : XTable)), (0 : Int)) rfl h
    fun G137 nx135 s84 hn136 h => wpC_seq <| wpC_kp <| wpC_seq <| reg_s <| st rfl <| mvd rfl rfl <| st rfl <| mvd rfl rfl <| stw rfl <| lens rfl fun l142 => st rfl <| b_lss (k := .i64) rfl rfl <| seqN [(0, .d ((cLs (cXTable cI (cLs cI rfl) (cLs cI rfl) cI) rfl).enc v0)), (3, .d ((cLo (cXTable cI (cLo cI) (cLo cI) cI)).enc s84.1)), (4, .d (cI.enc s84.2)), (11, .d (cB.enc (decide (s84.2 < (v0.length : Int)))))] (by kernel_rfl) <|
    xn <| cnd rfl h (fun b143 h => wpC_skip <| kpN [(0, .d ((cLs (cXTable cI (cLs cI rfl) (cLs cI rfl) cI) rfl).enc v0)), (3, .d ((cLo (cXTable cI (cLo cI) (cLo cI) cI)).enc s84.1)), (4, .d (cI.enc s84.2))] (by kernel_rfl) <| xn <| wpC_seq <| wpC_kp <| wpC_blk <| reg_s <| st rfl <| mvo rfl rfl <| st rfl <| mvd rfl rfl <| st rfl <| mvd rfl rfl <| st rfl <| mvd rfl rfl <| getO_k h fun x152 i153 g154 h => st rfl <| ias rfl rfl i153 g154 rfl <| st rfl <| ldi rfl rfl rfl rfl <| bnd h fun x155 e156 h => st rfl <| o_call (a1 (c := (cXTable cI (cLs cI rfl) (cLs cI rfl) cI)) (tXTable tK (tLs tK) (tLs tK) tK) rfl a0) (con_laws_toTable e156) (.inl (so1 (sXTable sK (sLo sK) (sLo sK) sK) so0)) <| getO_k h fun x157 i158 g159 h => st rfl <| iar rfl rfl rfl rfl i158 g159 rfl <| x_sta ((cLo (cXTable cI (cLo cI) (cLo cI) cI)).enc (s84.1.set (s84.2).toNat x155)) (so rfl rfl) rfl rfl (Ln.idx g159 Ln.nil) (Cd.h_sz (cXTable cI (cLo cI) (cLo cI) cI) _) rfl <| seqN [(0, .d ((cLs (cXTable cI (cLs cI rfl) (cLs cI rfl) cI) rfl).enc v0)), (3, .d ((cLo (cXTable cI (cLo cI) (cLo cI) cI)).enc (s84.1.set (s84.2).toNat x155))), (4, .d (cI.enc s84.2))] (by kernel_rfl) <|
    xbb <| kpN [(0, .d ((cLs (cXTable cI (cLs cI rfl) (cLs cI rfl) cI) rfl).enc v0)), (3, .d ((cLo (cXTable cI (cLo cI) (cLo cI) cI)).enc (s84.1.set (s84.2).toNat x155))), (4, .d (cI.enc s84.2))] (by kernel_rfl) <| xn <| reg_s <| st rfl <| mvd rfl rfl <| ckI_k h fun i160 h => st rfl <| b_add (k := .i64) rfl rfl i160 <| x_asg (ss rfl rfl) <| seqN [(0, .d ((cLs (cXTable cI (cLs cI rfl) (cLs cI rfl) cI) rfl).enc v0)), (3, .d ((cLo (cXTable cI (cLo cI) (cLo cI) cI)).enc (s84.1.set (s84.2).toNat x155))), (4, .d (cI.enc (s84.2 + (1 : Int))))] (by kernel_rfl) <|
    xn <| hn136 ((s84.1.set (s84.2).toNat x155), (s84.2 + (1 : Int))) h)
    (fun b143 h => wpC_exit <| xt <| xt <| xt <| xb <| kpN [(3, .d ((cLo (cXTable cI (cLo cI) (cLo cI) cI)).enc s84.1))] (by kernel_rfl) <| xn <| wpC_seq <| reg_s <| st rfl <| mvo rfl rfl <| x_asg (sr rfl rfl) <| seqN [(2, .d ((cLo (cXTable cI (cLo cI) (cLo cI) cI)).enc s84.1))] (by kernel_rfl) <|
    xn <| wpC_ret <| re <| fin h (r1 (so rfl rfl) <| r0) rfl)

def rs_spec_nInput (r : Bool) : List D := [cB.enc r]
def m96 : MC := .seq (.reg [⟨some 2, .box (.t 0), none⟩,
    ⟨some 4, .asg (.c (.bool false)), none⟩] [1, 2])
  (.seq (.reg [⟨some 5, .ld 2 1 true, none⟩,
    ⟨some 6, .call 78 [(.t 5)], none⟩,
    ⟨some 7, .mv (.t 6), none⟩,
    ⟨some 8, .mv (.t 1), some (7, true)⟩,
    ⟨some 9, .call 70 [(.t 8)], some (7, true)⟩,
    ⟨some 10, .pick (.t 7) (.t 9) (.c (.bool false)), none⟩,
    ⟨some 4, .asg (.t 10), none⟩] [4])
  (.ret))
theorem con_spec_nInput {v0 : XGeo} {v1 : (List XVariable)} {r : Bool} (h : sh_spec_nInput v0 v1 = some r) : Con Tryd.prog 96 [(cXGeo (cLs cI rfl)).enc v0, (cLs (cXVariable cS cI) rfl).enc v1] [] (rs_spec_nInput r) := by
  delta sh_spec_nInput at h
  refine top (out := none) (f := Tryd.f96) (m := m96) (rs := [.t 4]) (by kernel_rfl) rfl (by kernel_rfl) (by kernel_rfl) (by kernel_rfl) (by kernel_rfl) (by kernel_rfl) ?_
  exact
   ini [(0, .d ((cXGeo (cLs cI rfl)).enc v0)), (1, .d ((cLs (cXVariable cS cI) rfl).enc v1))] rfl <| wpC_seq <| reg_s <| x_box (ss rfl rfl) <| x_asg (sc cB false rfl) <| seqN [(1, .d ((cLs (cXVariable cS cI) rfl).enc v1)), (2, .box ((cXGeo (cLs cI rfl)).enc v0))] (by kernel_rfl) <|
    xn <| wpC_seq <| reg_s <| st rfl <| ldb rfl rfl rfl rfl <| bnd h fun x6 e7 h => st rfl <| o_call (a1 (c := (cXGeo (cLs cI rfl))) (tXGeo (tLs tK)) rfl a0) (con_spec_gGood e7) (.inl (so1 sB so0)) <| st rfl <| mvd rfl rfl <| ite_k h (fun b8 h => gt' rfl b8 <| st rfl <| mvd rfl rfl <| gt' rfl b8 <| bnd h fun x9 e10 h => st rfl <| o_call (a1 (c := (cLs (cXVariable cS cI) rfl)) (tLs (tXVariable tS tK)) rfl a0) (con_spec_sGood e10) (.inl (so1 sB so0)) <| st rfl <| pick1 rfl b8 (cd := cB) (v := x9) rfl rfl <| x_asg (ss rfl rfl) <| seqN [(4, .d (cB.enc x9))] (by kernel_rfl) <|
    xn <| wpC_ret <| re <| fin h (r1 (ss rfl rfl) <| r0) rfl)
    (fun b8 h => gf rfl b8 <| gf rfl b8 <| st rfl <| pick0 rfl b8 (cd := cB) (v := false) rfl rfl <| x_asg (ss rfl rfl) <| seqN [(4, .d (cB.enc false))] (by kernel_rfl) <|
    xn <| wpC_ret <| re <| fin h (r1 (ss rfl rfl) <| r0) rfl)

def rs_spec_nPlan (r : Bool) : List D := [cB.enc r]
def m56 : MC := .seq (.reg [⟨some 3, .box (.t 0), none⟩,
    ⟨some 6, .asg (.c (.bool false)), none⟩] [1, 2, 3])
  (.seq (.kp [1, 2, 3] (.seq (.reg [⟨some 9, .ld 3 1 true, none⟩,
    ⟨some 10, .mv (.t 1), none⟩,
    ⟨some 11, .call 96 [(.t 9), (.t 10)], none⟩,
    ⟨some 12, .nt (.t 11), none⟩,
    ⟨some 13, .mv (.t 12), none⟩,
    ⟨some 14, .mv (.t 2), some (13, false)⟩,
    ⟨some 15, .len false (.t 14), some (13, false)⟩,
    ⟨some 16, .bin .gtr (.t 15) (.c (.int .i64 20)), some (13, false)⟩,
    ⟨some 17, .pick (.t 13) (.c (.bool true)) (.t 16), none⟩] [1, 2, 3, 17])
  (.cond (.t 17) (.seq (.reg [⟨some 6, .asg (.c (.bool false)), none⟩] [6])
  (.ret)) (.skip))))
  (.seq (.kp [] (.seq (.reg [⟨some 18, .mv (.t 2), none⟩,
    ⟨some 19, .len false (.t 18), none⟩,
    ⟨some 20, .mv (.c (.int .i64 0)), none⟩] [1, 2, 3, 18, 19, 20])
  (.blk 0 (.loop (.seq (.reg [⟨some 21, .bin .lss (.t 20) (.t 19), none⟩] [1, 2, 3, 18, 19, 20, 21])
  (.seq (.kp [1, 2, 3, 18, 19, 20] (.cond (.t 21) (.skip) (.exit 0)))
  (.seq (.kp [1, 2, 3, 18, 19, 20] (.blk 1 (.seq (.reg [⟨some 22, .ia 18 (.t 20) 4, none⟩,
    ⟨some 23, .ld 22 4 true, none⟩,
    ⟨some 8, .alloc (.agg [.int .i64 0, .slice true [], .slice true [], .int .i64 0]), none⟩,
    ⟨none, .st 8 (.t 23) 4, none⟩] [1, 2, 3, 8, 18, 19, 20])
  (.seq (.reg [⟨some 24, .ld 3 1 true, none⟩,
    ⟨some 25, .mv (.t 1), none⟩,
    ⟨some 26, .ld 8 4 true, none⟩,
    ⟨some 27, .call 45 [(.t 24), (.t 25), (.t 26)], none⟩,
    ⟨some 28, .nt (.t 27), none⟩] [1, 2, 3, 18, 19, 20, 28])
  (.cond (.t 28) (.seq (.reg [⟨some 6, .asg (.c (.bool false)), none⟩] [6])
  (.ret)) (.skip))))))
  (.reg [⟨some 29, .bin .add (.t 20) (.c (.int .i64 1)), none⟩,
    ⟨some 20, .mv (.t 29), none⟩] [1, 2, 3, 18, 19, 20]))))))))
  (.seq (.reg [⟨some 6, .asg (.c (.bool true)), none⟩] [6])
  (.ret))))
theorem con_spec_nPlan {v0 : XGeo} {v1 : (List XVariable)} {v2 : (List XTable)} {r : Bool} (h : sh_spec_nPlan v0 v1 v2 = some r) : Con Tryd.prog 56 [(cXGeo (cLs cI rfl)).enc v0, (cLs (cXVariable cS cI) rfl).enc v1, (cLs (cXTable cI (cLs cI rfl) (cLs cI rfl) cI) rfl).enc v2] [] (rs_spec_nPlan r) := by
  delta sh_spec_nPlan at h
  refine top (out := none) (f := Tryd.f56) (m := m56) (rs := [.t 6]) (by kernel_rfl) rfl (by kernel_rfl) (by kernel_rfl) (by kernel_rfl) (by kernel_rfl) (by kernel_rfl) ?_
  exact
   ini [(0, .d ((cXGeo (cLs cI rfl)).enc v0)), (1, .d ((cLs (cXVariable cS cI) rfl).enc v1)), (2, .d ((cLs (cXTable cI (cLs cI rfl) (cLs cI rfl) cI) rfl).enc v2))] rfl <| wpC_seq <| reg_s <| x_box (ss rfl rfl) <| x_asg (sc cB false rfl) <| seqN [(1, .d ((cLs (cXVariable cS cI) rfl).enc v1)), (2, .d ((cLs (cXTable cI (cLs cI rfl) (cLs cI rfl) cI) rfl).enc v2)), (3, .box ((cXGeo (cLs cI rfl)).enc v0))] (by kernel_rfl) <|
    xn <| wpC_seq <| wpC_kp <| wpC_seq <| reg_s <| st rfl <| ldb rfl rfl rfl rfl <| st rfl <| mvd rfl rfl <| bnd h fun x14 e15 h => st rfl <| o_call (a1 (c := (cXGeo (cLs cI rfl))) (tXGeo (tLs tK)) rfl (a1 (c := (cLs (cXVariable cS cI) rfl)) (tLs (tXVariable tS tK)) rfl a0)) (con_spec_nInput e15) (.inl (so1 sB so0)) <| st rfl <| o_nt rfl <| st rfl <| mvd rfl rfl <| ite_k h (fun b16 h => gf rfl b16 <| gf rfl b16 <| gf rfl b16 <| st rfl <| pick1 rfl b16 (cd := cB) (v := true) rfl rfl <| seqN [(1, .d ((cLs (cXVariable cS cI) rfl).enc v1)), (2, .d ((cLs (cXTable cI (cLs cI rfl) (cLs cI rfl) cI) rfl).enc v2)), (3, .box ((cXGeo (cLs cI rfl)).enc v0)), (17, .d (cB.enc true))] (by kernel_rfl) <|
    xn <| cnd1 rfl rfl <| wpC_seq <| reg_s <| x_asg (sc cB false rfl) <| seqN [(6, .d (cB.enc false))] (by kernel_rfl) <|
    xn <| wpC_ret <| rt <| rt <| re <| fin h (r1 (ss rfl rfl) <| r0) rfl)
    (fun b16 h => gt' rfl b16 <| st rfl <| mvd rfl rfl <| gt' rfl b16 <| stw rfl <| lens rfl fun l17 => gt' rfl b16 <| st rfl <| b_gtr (k := .i64) rfl rfl <| st rfl <| pick0 rfl b16 (cd := cB) (v := (decide ((20 : Int) < (v2.length : Int)))) rfl rfl <| seqN [(1, .d ((cLs (cXVariable cS cI) rfl).enc v1)), (2, .d ((cLs (cXTable cI (cLs cI rfl) (cLs cI rfl) cI) rfl).enc v2)), (3, .box ((cXGeo (cLs cI rfl)).enc v0)), (17, .d (cB.enc (decide ((20 : Int) < (v2.length : Int)))))] (by kernel_rfl) <|
    xn <| cnd rfl h (fun b18 h => wpC_seq <| reg_s <| x_asg (sc cB false rfl) <| seqN [(6, .d (cB.enc false))] (by kernel_rfl) <|
    xn <| wpC_ret <| rt <| rt <| re <| fin h (r1 (ss rfl rfl) <| r0) rfl)
    (fun b18 h => wpC_skip <| kpN [(1, .d ((cLs (cXVariable cS cI) rfl).enc v1)), (2, .d ((cLs (cXTable cI (cLs cI rfl) (cLs cI rfl) cI) rfl).enc v2)), (3, .box ((cXGeo (cLs cI rfl)).enc v0))] (by kernel_rfl) <| xn <| wpC_seq <| wpC_kp <| wpC_seq <| reg_s <| st rfl <| mvd rfl rfl <| stw rfl <| lens rfl fun l50 => st rfl <| mvc cI (0 : Int) rfl <| seqN [(1, .d ((cLs (cXVariable cS cI) rfl).enc v1)), (2, .d ((cLs (cXTable cI (cLs cI rfl) (cLs cI rfl) cI) rfl).enc v2)), (3, .box ((cXGeo (cLs cI rfl)).enc v0)), (18, .d ((cLs (cXTable cI (cLs cI rfl) (cLs cI rfl) cI) rfl).enc v2)), (19, .d (cI.enc (v2.length : Int))), (20, .d (cI.enc (0 : Int)))] (by kernel_rfl) <|
    xn <| wpC_blk <| lpR (fun (k52 : Nat) (s51 : Unit) => [(1, .d ((cLs (cXVariable cS cI) rfl).enc v1)), (2, .d ((cLs (cXTable cI (cLs cI rfl) (cLs cI rfl) cI) rfl).enc v2)), (3, .box ((cXGeo (cLs cI rfl)).enc v0)), (18, .d ((cLs (cXTable cI (cLs cI rfl) (cLs cI rfl) cI) rfl).enc v2)), (19, .d (cI.enc (v2.length : Int))), (20, .d (cI.enc (k52 : Int)))]) () rfl h
    (fun G68 s51 h => wpC_seq <| reg_s <| st rfl <| b_lss (k := .i64) rfl rfl <| seqN [(1, .d ((cLs (cXVariable cS cI) rfl).enc v1)), (2, .d ((cLs (cXTable cI (cLs cI rfl) (cLs cI rfl) cI) rfl).enc v2)), (3, .box ((cXGeo (cLs cI rfl)).enc v0)), (18, .d ((cLs (cXTable cI (cLs cI rfl) (cLs cI rfl) cI) rfl).enc v2)), (19, .d (cI.enc (v2.length : Int))), (20, .d (cI.enc (v2.length : Int))), (21, .d (cB.enc (decide ((v2.length : Int) < (v2.length : Int)))))] (by kernel_rfl) <|
    xn <| wpC_seq <| wpC_kp <| cnd0 rfl (dlf _) <| wpC_exit <| xt <| xt <| xt <| xb <| kpN [] (by kernel_rfl) <| xn <| wpC_seq <| reg_s <| x_asg (sc cB true rfl) <| seqN [(6, .d (cB.enc true))] (by kernel_rfl) <|
    xn <| wpC_ret <| re <| fin h (r1 (ss rfl rfl) <| r0) rfl)
    (fun G68 nx66 k52 s51 x53 hk54 hx55 hn67 h => wpC_seq <| reg_s <| st rfl <| b_lss (k := .i64) rfl rfl <| seqN [(1, .d ((cLs (cXVariable cS cI) rfl).enc v1)), (2, .d ((cLs (cXTable cI (cLs cI rfl) (cLs cI rfl) cI) rfl).enc v2)), (3, .box ((cXGeo (cLs cI rfl)).enc v0)), (18, .d ((cLs (cXTable cI (cLs cI rfl) (cLs cI rfl) cI) rfl).enc v2)), (19, .d (cI.enc (v2.length : Int))), (20, .d (cI.enc (k52 : Int))), (21, .d (cB.enc (decide ((k52 : Int) < (v2.length : Int)))))] (by kernel_rfl) <|
    xn <| wpC_seq <| wpC_kp <| cnd1 rfl (dlt hk54) <| wpC_skip <| kpN [(1, .d ((cLs (cXVariable cS cI) rfl).enc v1)), (2, .d ((cLs (cXTable cI (cLs cI rfl) (cLs cI rfl) cI) rfl).enc v2)), (3, .box ((cXGeo (cLs cI rfl)).enc v0)), (18, .d ((cLs (cXTable cI (cLs cI rfl) (cLs cI rfl) cI) rfl).enc v2)), (19, .d (cI.enc (v2.length : Int))), (20, .d (cI.enc (k52 : Int)))] (by kernel_rfl) <| xn <| wpC_seq <| wpC_kp <| wpC_blk <| wpC_seq <| reg_s <| st rfl <| ias rfl rfl (Int.natCast_nonneg _) hx55 rfl <| st rfl <| ldi rfl rfl rfl rfl <| x_all (cXTable cI (cLo cI) (cLo cI) cI) (⟨(0 : Int), ([] : List Int), ([] : List Int), (0 : Int)⟩ : XTable) rfl <| x_stb (ss rfl rfl) rfl (Cd.h_sz _ _) rfl <| seqN [(1, .d ((cLs (cXVariable cS cI) rfl).enc v1)), (2, .d ((cLs (cXTable cI (cLs cI rfl) (cLs cI rfl) cI) rfl).enc v2)), (3, .box ((cXGeo (cLs cI rfl)).enc v0)), (8, .box ((cXTable cI (cLs cI rfl) (cLs cI rfl) cI).enc x53)), (18, .d ((cLs (cXTable cI (cLs cI rfl) (cLs cI rfl) cI) rfl).enc v2)), (19, .d (cI.enc (v2.length : Int))), (20, .d (cI.enc (k52 : Int)))] (by kernel_rfl) <|
    xn <| wpC_seq <| reg_s <| st rfl <| ldb rfl rfl rfl rfl <| st rfl <| mvd rfl rfl <| st rfl <| ldb rfl rfl rfl rfl <| bnd h fun x76 e77 h => st rfl <| o_call (a1 (c := (cXGeo (cLs cI rfl))) (tXGeo (tLs tK)) rfl (a1 (c := (cLs (cXVariable cS cI) rfl)) (tLs (tXVariable tS tK)) rfl (a1 (c := (cXTable cI (cLs cI rfl) (cLs cI rfl) cI)) (tXTable tK (tLs tK) (tLs tK) tK) rfl a0))) (con_spec_uGood e77) (.inl (so1 sB so0)) <| st rfl <| o_nt rfl <| seqN [(1, .d ((cLs (cXVariable cS cI) rfl).enc v1)), (2, .d ((cLs (cXTable cI (cLs cI rfl) (cLs cI rfl) cI) rfl).enc v2)), (3, .box ((cXGeo (cLs cI rfl)).enc v0)), (18, .d ((cLs (cXTable cI (cLs cI rfl) (cLs cI rfl) cI) rfl).enc v2)), (19, .d (cI.enc (v2.length : Int))), (20, .d (cI.enc (k52 : Int))), (28, .d (cB.enc (!x76)))] (by kernel_rfl) <|
    xn <| cnd rfl h (fun b78 h => wpC_seq <| reg_s <| x_asg (sc cB false rfl) <| seqN [(6, .d (cB.enc false))] (by kernel_rfl) <|
    xn <| wpC_ret <| rb <| rt <| rt <| rt <| rb <| rt <| rt <| re <| fin h (r1 (ss rfl rfl) <| r0) rfl)
    (fun b78 h => wpC_skip <| xbb <| kpN [(1, .d ((cLs (cXVariable cS cI) rfl).enc v1)), (2, .d ((cLs (cXTable cI (cLs cI rfl) (cLs cI rfl) cI) rfl).enc v2)), (3, .box ((cXGeo (cLs cI rfl)).enc v0)), (18, .d ((cLs (cXTable cI (cLs cI rfl) (cLs cI rfl) cI) rfl).enc v2)), (19, .d (cI.enc (v2.length : Int))), (20, .d (cI.enc (k52 : Int)))] (by kernel_rfl) <| xn <| reg_s <| st rfl <| b_inc rfl rfl l50 hk54 <| st rfl <| mvd rfl rfl <| seqN [(1, .d ((cLs (cXVariable cS cI) rfl).enc v1)), (2, .d ((cLs (cXTable cI (cLs cI rfl) (cLs cI rfl) cI) rfl).enc v2)), (3, .box ((cXGeo (cLs cI rfl)).enc v0)), (18, .d ((cLs (cXTable cI (cLs cI rfl) (cLs cI rfl) cI) rfl).enc v2)), (19, .d (cI.enc (v2.length : Int))), (20, .d (cI.enc ((k52 + 1 : Nat) : Int)))] (by kernel_rfl) <|
    xn <| hn67 () h))))

def rs_spec_PlanText (r : ((List UInt8) × Bool)) : List D := [cS.enc r.1, cB.enc r.2]
def m23 : MC := .seq (.reg [⟨some 3, .box (.t 0), none⟩,
    ⟨some 6, .asg (.c (.str [])), none⟩,
    ⟨some 7, .asg (.c (.bool false)), none⟩] [1, 2, 3])
  (.seq (.kp [1, 2] (.seq (.reg [⟨some 11, .ld 3 1 true, none⟩,
    ⟨some 12, .mv (.t 1), none⟩,
    ⟨some 13, .mv (.t 2), none⟩,
    ⟨some 14, .call 56 [(.t 11), (.t 12), (.t 13)], none⟩,
    ⟨some 15, .nt (.t 14), none⟩] [1, 2, 15])
  (.cond (.t 15) (.seq (.reg [⟨some 6, .asg (.c (.str [])), none⟩,
    ⟨some 7, .asg (.c (.bool false)), none⟩] [6, 7])
  (.ret)) (.skip))))
  (.seq (.reg [⟨some 8, .asg (.c (.str [])), none⟩] [1, 2, 8])
  (.seq (.kp [8] (.seq (.reg [⟨some 16, .mv (.t 2), none⟩,
    ⟨some 17, .len false (.t 16), none⟩,
    ⟨some 18, .mv (.c (.int .i64 0)), none⟩] [1, 2, 8, 16, 17, 18])
  (.blk 0 (.loop (.seq (.reg [⟨some 19, .bin .lss (.t 18) (.t 17), none⟩] [1, 2, 8, 16, 17, 18, 19])
  (.seq (.kp [1, 2, 8, 16, 17, 18] (.cond (.t 19) (.skip) (.exit 0)))
  (.seq (.kp [1, 2, 8, 16, 17, 18] (.blk 1 (.seq (.reg [⟨some 20, .ia 16 (.t 18) 4, none⟩,
    ⟨some 21, .ld 20 4 true, none⟩,
    ⟨some 10, .alloc (.agg [.int .i64 0, .slice true [], .slice true [], .int .i64 0]), none⟩,
    ⟨none, .st 10 (.t 21) 4, none⟩] [1, 2, 8, 10, 16, 17, 18])
  (.reg [⟨some 22, .mv (.t 8), none⟩,
    ⟨some 23, .mv (.t 1), none⟩,
    ⟨some 24, .ld 10 4 true, none⟩,
    ⟨some 25, .call 46 [(.t 23), (.t 24)], none⟩,
    ⟨some 26, .bin .add (.t 25) (.c (.str [10])), none⟩,
    ⟨some 27, .bin .add (.t 22) (.t 26), none⟩,
    ⟨some 8, .asg (.t 27), none⟩] [1, 2, 8, 16, 17, 18]))))
  (.reg [⟨some 28, .bin .add (.t 18) (.c (.int .i64 1)), none⟩,
    ⟨some 18, .mv (.t 28), none⟩] [1, 2, 8, 16, 17, 18]))))))))
  (.seq (.reg [⟨some 29, .mv (.t 8), none⟩,
    ⟨some 6, .asg (.t 29), none⟩,
    ⟨some 7, .asg (.c (.bool true)), none⟩] [6, 7])
  (.ret)))))
theorem con_spec_PlanText {v0 : XGeo} {v1 : (List XVariable)} {v2 : (List XTable)} {r : ((List UInt8) × Bool)} (h : sh_spec_PlanText v0 v1 v2 = some r) : Con Tryd.prog 23 [(cXGeo (cLs cI rfl)).enc v0, (cLs (cXVariable cS cI) rfl).enc v1, (cLs (cXTable cI (cLs cI rfl) (cLs cI rfl) cI) rfl).enc v2] [] (rs_spec_PlanText r) := by
  delta sh_spec_PlanText at h
  refine top (out := none) (f := Tryd.f23) (m := m23) (rs := [.t 6, .t 7]) (by kernel_rfl) rfl (by kernel_rfl) (by kernel_rfl) (by kernel_rfl) (by kernel_rfl) (by kernel_rfl) ?_
  exact
   ini [(0, .d ((cXGeo (cLs cI rfl)).enc v0)), (1, .d ((cLs (cXVariable cS cI) rfl).enc v1)), (2, .d ((cLs (cXTable cI (cLs cI rfl) (cLs cI rfl) cI) rfl).enc v2))] rfl <| wpC_seq <| reg_s <| x_box (ss rfl rfl) <| x_asg (sc cS ([] : List UInt8) rfl) <| x_asg (sc cB false rfl) <| seqN [(1, .d ((cLs (cXVariable cS cI) rfl).enc v1)), (2, .d ((cLs (cXTable cI (cLs cI rfl) (cLs cI rfl) cI) rfl).enc v2)), (3, .box ((cXGeo (cLs cI rfl)).enc v0))] (by kernel_rfl) <|
    xn <| wpC_seq <| wpC_kp <| wpC_seq <| reg_s <| st rfl <| ldb rfl rfl rfl rfl <| st rfl <| mvd rfl rfl <| st rfl <| mvd rfl rfl <| bnd h fun x8 e9 h => st rfl <| o_call (a1 (c := (cXGeo (cLs cI rfl))) (tXGeo (tLs tK)) rfl (a1 (c := (cLs (cXVariable cS cI) rfl)) (tLs (tXVariable tS tK)) rfl (a1 (c := (cLs (cXTable cI (cLs cI rfl) (cLs cI rfl) cI) rfl)) (tLs (tXTable tK (tLs tK) (tLs tK) tK)) rfl a0))) (con_spec_nPlan e9) (.inl (so1 sB so0)) <| st rfl <| o_nt rfl <| seqN [(1, .d ((cLs (cXVariable cS cI) rfl).enc v1)), (2, .d ((cLs (cXTable cI (cLs cI rfl) (cLs cI rfl) cI) rfl).enc v2)), (15, .d (cB.enc (!x8)))] (by kernel_rfl) <|
    xn <| cnd rfl h (fun b10 h => wpC_seq <| reg_s <| x_asg (sc cS ([] : List UInt8) rfl) <| x_asg (sc cB false rfl) <| seqN [(6, .d (cS.enc ([] : List UInt8))), (7, .d (cB.enc false))] (by kernel_rfl) <|
    xn <| wpC_ret <| rt <| rt <| re <| fin h (r1 (ss rfl rfl) <| r1 (ss rfl rfl) <| r0) rfl)
    (fun b10 h => wpC_skip <| kpN [(1, .d ((cLs (cXVariable cS cI) rfl).enc v1)), (2, .d ((cLs (cXTable cI (cLs cI rfl) (cLs cI rfl) cI) rfl).enc v2))] (by kernel_rfl) <| xn <| wpC_seq <| reg_s <| x_asg (sc cS ([] : List UInt8) rfl) <| seqN [(1, .d ((cLs (cXVariable cS cI) rfl).enc v1)), (2, .d ((cLs (cXTable cI (cLs cI rfl) (cLs cI rfl) cI) rfl).enc v2)), (8, .d (cS.enc ([] : List UInt8)))] (by kernel_rfl) <|
    xn <| wpC_seq <| wpC_kp <| wpC_seq <| reg_s <| st rfl <| mvd rfl rfl <| stw rfl <| lens rfl fun l46 => st rfl <| mvc cI (0 : Int) rfl <| seqN [(1, .d ((cLs (cXVariable cS cI) rfl).enc v1)), (2, .d ((cLs (cXTable cI (cLs cI rfl) (cLs cI rfl) cI) rfl).enc v2)), (8, .d (cS.enc ([] : List UInt8))), (16, .d ((cLs (cXTable cI (cLs cI rfl) (cLs cI rfl) cI) rfl).enc v2)), (17, .d (cI.enc (v2.length : Int))), (18, .d (cI.enc (0 : Int)))] (by kernel_rfl) <|
    xn <| wpC_blk <| lpR (fun (k48 : Nat) (s47 : (List UInt8)) => [(1, .d ((cLs (cXVariable cS cI) rfl).enc v1)), (2, .d ((cLs (cXTable cI (cLs cI rfl) (cLs cI rfl) cI) rfl).enc v2)), (8, .d (cS.enc s47)), (16, .d ((cLs (cXTable cI (cLs cI rfl) (cLs cI rfl) cI) rfl).enc v2)), (17, .d (cI.enc (v2.length : Int))), (18, .d (cI.enc (k48 : Int)))]) ([] : List UInt8) rfl h
    (fun G70 s47 h => wpC_seq <| reg_s <| st rfl <| b_lss (k := .i64) rfl rfl <| seqN [(1, .d ((cLs (cXVariable cS cI) rfl).enc v1)), (2, .d ((cLs (cXTable cI (cLs cI rfl) (cLs cI rfl) cI) rfl).enc v2)), (8, .d (cS.enc s47)), (16, .d ((cLs (cXTable cI (cLs cI rfl) (cLs cI rfl) cI) rfl).enc v2)), (17, .d (cI.enc (v2.length : Int))), (18, .d (cI.enc (v2.length : Int))), (19, .d (cB.enc (decide ((v2.length : Int) < (v2.length : Int)))))] (by kernel_rfl) <|
    xn <| wpC_seq <| wpC_kp <| cnd0 rfl (dlf _) <| wpC_exit <| xt <| xt <| xt <| xb <| kpN [(8, .d (cS.enc s47))] (by kernel_rfl) <| xn <| wpC_seq <| reg_s <| st rfl <| mvd rfl rfl <| x_asg (ss rfl rfl) <| x_asg (sc cB true rfl) <| seqN [(6, .d (cS.enc s47)), (7, .d (cB.enc true))] (by kernel_rfl) <|
    xn <| wpC_ret <| re <| fin h (r1 (ss rfl rfl) <| r1 (ss rfl rfl) <| r0) rfl)
    (fun G70 nx68 k48 s47 x49 hk50 hx51 hn69 h => wpC_seq <| reg_s <| st rfl <| b_lss (k := .i64) rfl rfl <| seqN [(1, .d ((cLs (cXVariable cS cI) rfl).enc v1)), (2, .d ((cLs (cXTable cI (cLs cI rfl) (cLs cI rfl) cI) rfl).enc v2)), (8, .d (cS.enc s47)), (16, .d ((cLs (cXTable cI (cLs cI rfl) (cLs cI rfl) cI) rfl).enc v2)), (17, .d (cI.enc (v2.length : Int))), (18, .d (cI.enc (k48 : Int))), (19, .d (cB.enc (decide ((k48 : Int) < (v2.length : Int)))))] (by kernel_rfl) <|
    xn <| wpC_seq <| wpC_kp <| cnd1 rfl (dlt hk50) <| wpC_skip <| kpN [(1, .d ((cLs (cXVariable cS cI) rfl).enc v1)), (2, .d ((cLs (cXTable cI (cLs cI rfl) (cLs cI rfl) cI) rfl).enc v2)), (8, .d (cS.enc s47)), (16, .d ((cLs (cXTable cI (cLs cI rfl) (cLs cI rfl) cI) rfl).enc v2)), (17, .d (cI.enc (v2.length : Int))), (18, .d (cI.enc (k48 : Int)))] (by kernel_rfl) <| xn <| wpC_seq <| wpC_kp <| wpC_blk <| wpC_seq <| reg_s <| st rfl <| ias rfl rfl (Int.natCast_nonneg _) hx51 rfl <| st rfl <| ldi rfl rfl rfl rfl <| x_all (cXTable cI (cLo cI) (cLo cI) cI) (⟨(0 : Int), ([] : List Int), ([] : List Int), (0 : Int)⟩ : XTable) rfl <| x_stb (ss rfl rfl) rfl (Cd.h_sz _ _) rfl <| seqN [(1, .d ((cLs (cXVariable cS cI) rfl).enc v1)), (2, .d ((cLs (cXTable cI (cLs cI rfl) (cLs cI rfl) cI) rfl).enc v2)), (8, .d (cS.enc s47)), (10, .box ((cXTable cI (cLs cI rfl) (cLs cI rfl) cI).enc x49)), (16, .d ((cLs (cXTable cI (cLs cI rfl) (cLs cI rfl) cI) rfl).enc v2)), (17, .d (cI.enc (v2.length : Int))), (18, .d (cI.enc (k48 : Int)))] (by kernel_rfl) <|
    xn <| reg_s <| st rfl <| mvd rfl rfl <| st rfl <| mvd rfl rfl <| st rfl <| ldb rfl rfl rfl rfl <| bnd h fun x75 e76 h => st rfl <| o_call (a1 (c := (cLs (cXVariable cS cI) rfl)) (tLs (tXVariable tS tK)) rfl (a1 (c := (cXTable cI (cLs cI rfl) (cLs cI rfl) cI)) (tXTable tK (tLs tK) (tLs tK) tK) rfl a0)) (con_spec_nTable e76) (.inl (so1 sS so0)) <| lnO_k h fun l77 h => st rfl <| b_cat rfl rfl l77 <| lnO_k h fun l78 h => st rfl <| b_cat rfl rfl l78 <| x_asg (ss rfl rfl) <| seqN [(1, .d ((cLs (cXVariable cS cI) rfl).enc v1)), (2, .d ((cLs (cXTable cI (cLs cI rfl) (cLs cI rfl) cI) rfl).enc v2)), (8, .d (cS.enc (s47 ++ (x75 ++ ([10] : List UInt8))))), (16, .d ((cLs (cXTable cI (cLs cI rfl) (cLs cI rfl) cI) rfl).enc v2)), (17, .d (cI.enc (v2.length : Int))), (18, .d (cI.enc (k48 : Int)))] (by kernel_rfl) <|
    xbb <| kpN [(1, .d ((cLs (cXVariable cS cI) rfl).enc v1)), (2, .d ((cLs (cXTable cI (cLs cI rfl) (cLs cI rfl) cI) rfl).enc v2)), (8, .d (cS.enc (s47 ++ (x75 ++ ([10] : List UInt8))))), (16, .d ((cLs (cXTable cI (cLs cI rfl) (cLs cI rfl) cI) rfl).enc v2)), (17, .d (cI.enc (v2.length : Int))), (18, .d (cI.enc (k48 : Int)))] (by kernel_rfl) <| xn <| reg_s <| st rfl <| b_inc rfl rfl l46 hk50 <| st rfl <| mvd rfl rfl <| seqN [(1, .d ((cLs (cXVariable cS cI) rfl).enc v1)), (2, .d ((cLs (cXTable cI (cLs cI rfl) (cLs cI rfl) cI) rfl).enc v2)), (8, .d (cS.enc (s47 ++ (x75 ++ ([10] : List UInt8))))), (16, .d ((cLs (cXTable cI (cLs cI rfl) (cLs cI rfl) cI) rfl).enc v2)), (17, .d (cI.enc (v2.length : Int))), (18, .d (cI.enc ((k48 + 1 : Nat) : Int)))] (by kernel_rfl) <|
    xn <| hn69 (s47 ++ (x75 ++ ([10] : List UInt8))) h))

def rs_impl_isPlan (r : Bool) : List D := [cB.enc r]
def m57 : MC := .seq (.reg [⟨some 3, .box (.t 0), none⟩,
    ⟨some 6, .asg (.c (.bool false)), none⟩] [1, 2, 3])
  (.seq (.kp [1, 2, 3] (.seq (.reg [⟨some 9, .ld 3 1 true, none⟩,
    ⟨some 10, .call 85 [(.t 9)], none⟩,
    ⟨some 11, .nt (.t 10), none⟩,
    ⟨some 12, .mv (.t 11), none⟩,
    ⟨some 13, .mv (.t 1), some (12, false)⟩,
    ⟨some 14, .call 72 [(.t 13)], some (12, false)⟩,
    ⟨some 15, .nt (.t 14), some (12, false)⟩,
    ⟨some 16, .pick (.t 12) (.c (.bool true)) (.t 15), none⟩,
    ⟨some 17, .mv (.t 16), none⟩,
    ⟨some 18, .mv (.t 2), some (17, false)⟩,
    ⟨some 19, .len false (.t 18), some (17, false)⟩,
    ⟨some 20, .bin .gtr (.t 19) (.c (.int .i64 20)), some (17, false)⟩,
    ⟨some 21, .pick (.t 17) (.c (.bool true)) (.t 20), none⟩] [1, 2, 3, 21])
  (.cond (.t 21) (.seq (.reg [⟨some 6, .asg (.c (.bool false)), none⟩] [6])
  (.ret)) (.skip))))
  (.seq (.kp [] (.seq (.reg [⟨some 22, .mv (.t 2), none⟩,
    ⟨some 23, .len false (.t 22), none⟩,
    ⟨some 24, .mv (.c (.int .i64 0)), none⟩] [1, 2, 3, 22, 23, 24])
  (.blk 0 (.loop (.seq (.reg [⟨some 25, .bin .lss (.t 24) (.t 23), none⟩] [1, 2, 3, 22, 23, 24, 25])
  (.seq (.kp [1, 2, 3, 22, 23, 24] (.cond (.t 25) (.skip) (.exit 0)))
  (.seq (.kp [1, 2, 3, 22, 23, 24] (.blk 1 (.seq (.reg [⟨some 26, .ia 22 (.t 24) 4, none⟩,
    ⟨some 27, .ld 26 4 true, none⟩,
    ⟨some 8, .alloc (.agg [.int .i64 0, .slice true [], .slice true [], .int .i64 0]), none⟩,
    ⟨none, .st 8 (.t 27) 4, none⟩] [1, 2, 3, 8, 22, 23, 24])
  (.seq (.reg [⟨some 28, .ld 3 1 true, none⟩,
    ⟨some 29, .mv (.t 1), none⟩,
    ⟨some 30, .ld 8 4 true, none⟩,
    ⟨some 31, .call 86 [(.t 28), (.t 29), (.t 30)], none⟩,
    ⟨some 32, .nt (.t 31), none⟩] [1, 2, 3, 22, 23, 24, 32])
  (.cond (.t 32) (.seq (.reg [⟨some 6, .asg (.c (.bool false)), none⟩] [6])
  (.ret)) (.skip))))))
  (.reg [⟨some 33, .bin .add (.t 24) (.c (.int .i64 1)), none⟩,
    ⟨some 24, .mv (.t 33), none⟩] [1, 2, 3, 22, 23, 24]))))))))
  (.seq (.reg [⟨some 6, .asg (.c (.bool true)), none⟩] [6])
  (.ret))))
theorem con_impl_isPlan {v0 : XGeo} {v1 : (List XVariable)} {v2 : (List XTable)} {r : Bool} (h : sh_impl_isPlan v0 v1 v2 = some r) : Con Tryd.prog 57 [(cXGeo (cLs cI rfl)).enc v0, (cLs (cXVariable cS cI) rfl).enc v1, (cLs (cXTable cI (cLs cI rfl) (cLs cI rfl) cI) rfl).enc v2] [] (rs_impl_isPlan r) := by
  delta sh_impl_isPlan at h
  refine top (out := none) (f := Tryd.f57) (m := m57) (rs := [.t 6]) (by kernel_rfl) rfl (by kernel_rfl) (by kernel_rfl) (by kernel_rfl) (by kernel_rfl) (by kernel_rfl) ?_
  exact
   ini [(0, .d ((cXGeo (cLs cI rfl)).enc v0)), (1, .d ((cLs (cXVariable cS cI) rfl).enc v1)), (2, .d ((cLs (cXTable cI (cLs cI rfl) (cLs cI rfl) cI) rfl).enc v2))] rfl <| wpC_seq <| reg_s <| x_box (ss rfl rfl) <| x_asg (sc cB false rfl) <| seqN [(1, .d ((cLs (cXVariable cS cI) rfl).enc v1)), (2, .d ((cLs (cXTable cI (cLs cI rfl) (cLs cI rfl) cI) rfl).enc v2)), (3, .box ((cXGeo (cLs cI rfl)).enc v0))] (by kernel_rfl) <|
    xn <| wpC_seq <| wpC_kp <| wpC_seq <| reg_s <| st rfl <| ldb rfl rfl rfl rfl <| bnd h fun x23 e24 h => st rfl <| o_call (a1 (c := (cXGeo (cLs cI rfl))) (tXGeo (tLs tK)) rfl a0) (con_impl_IsGeo e24) (.inl (so1 sB so0)) <| st rfl <| o_nt rfl <| st rfl <| mvd rfl rfl <| ite_k h (fun b25 h => gf rfl b25 <| gf rfl b25 <| gf rfl b25 <| st rfl <| pick1 rfl b25 (cd := cB) (v := true) rfl rfl <| st rfl <| mvd rfl rfl <| gf rfl rfl <| gf rfl rfl <| gf rfl rfl <| st rfl <| pick1 rfl rfl (cd := cB) (v := true) rfl rfl <| seqN [(1, .d ((cLs (cXVariable cS cI) rfl).enc v1)), (2, .d ((cLs (cXTable cI (cLs cI rfl) (cLs cI rfl) cI) rfl).enc v2)), (3, .box ((cXGeo (cLs cI rfl)).enc v0)), (21, .d (cB.enc true))] (by kernel_rfl) <|
    xn <| cnd1 rfl rfl <| wpC_seq <| reg_s <| x_asg (sc cB false rfl) <| seqN [(6, .d (cB.enc false))] (by kernel_rfl) <|
    xn <| wpC_ret <| rt <| rt <| re <| fin h (r1 (ss rfl rfl) <| r0) rfl)
    (fun b25 h => gt' rfl b25 <| st rfl <| mvd rfl rfl <| gt' rfl b25 <| bnd h fun x26 e27 h => st rfl <| o_call (a1 (c := (cLs (cXVariable cS cI) rfl)) (tLs (tXVariable tS tK)) rfl a0) (con_impl_IsSchema e27) (.inl (so1 sB so0)) <| gt' rfl b25 <| st rfl <| o_nt rfl <| st rfl <| pick0 rfl b25 (cd := cB) (v := (!x26)) rfl rfl <| st rfl <| mvd rfl rfl <| ite_k h (fun b28 h => gf rfl b28 <| gf rfl b28 <| gf rfl b28 <| st rfl <| pick1 rfl b28 (cd := cB) (v := true) rfl rfl <| seqN [(1, .d ((cLs (cXVariable cS cI) rfl).enc v1)), (2, .d ((cLs (cXTable cI (cLs cI rfl) (cLs cI rfl) cI) rfl).enc v2)), (3, .box ((cXGeo (cLs cI rfl)).enc v0)), (21, .d (cB.enc true))] (by kernel_rfl) <|
    xn <| cnd1 rfl rfl <| wpC_seq <| reg_s <| x_asg (sc cB false rfl) <| seqN [(6, .d (cB.enc false))] (by kernel_rfl) <|
    xn <| wpC_ret <| rt <| rt <| re <| fin h (r1 (ss rfl rfl) <| r0) rfl)
    (fun b28 h => gt' rfl b28 <| st rfl <| mvd rfl rfl <| gt' rfl b28 <| stw rfl <| lens rfl fun l29 => gt' rfl b28 <| st rfl <| b_gtr (k := .i64) rfl rfl <| st rfl <| pick0 rfl b28 (cd := cB) (v := (decide ((20 : Int) < (v2.length : Int)))) rfl rfl <| seqN [(1, .d ((cLs (cXVariable cS cI) rfl).enc v1)), (2, .d ((cLs (cXTable cI (cLs cI rfl) (cLs cI rfl) cI) rfl).enc v2)), (3, .box ((cXGeo (cLs cI rfl)).enc v0)), (21, .d (cB.enc (decide ((20 : Int) < (v2.length : Int)))))] (by kernel_rfl) <|
    xn <| cnd rfl h (fun b30 h => wpC_seq <| reg_s <| x_asg (sc cB false rfl) <| seqN [(6, .d (cB.enc false))] (by kernel_rfl) <|
    xn <| wpC_ret <| rt <| rt <| re <| fin h (r1 (ss rfl rfl) <| r0) rfl)
    (fun b30 h => wpC_skip <| kpN [(1, .d ((cLs (cXVariable cS cI) rfl).enc v1)), (2, .d ((cLs (cXTable cI (cLs cI rfl) (cLs cI rfl) cI) rfl).enc v2)), (3, .box ((cXGeo (cLs cI rfl)).enc v0))] (by kernel_rfl) <| xn <| wpC_seq <| wpC_kp <| wpC_seq <| reg_s <| st rfl <| mvd rfl rfl <| stw rfl <| lens rfl fun l62 => st rfl <| mvc cI (0 : Int) rfl <| seqN [(1, .d ((cLs (cXVariable cS cI) rfl).enc v1)), (2, .d ((cLs (cXTable cI (cLs cI rfl) (cLs cI rfl) cI) rfl).enc v2)), (3, .box ((cXGeo (cLs cI rfl)).enc v0)), (22, .d ((cLs (cXTable cI (cLs cI rfl) (cLs cI rfl) cI) rfl).enc v2)), (23, .d (cI.enc (v2.length : Int))), (24, .d (cI.enc (0 : Int)))] (by kernel_rfl) <|
    xn <| wpC_blk <| lpR (fun (k64 : Nat) (s63 : Unit) => [(1, .d ((cLs (cXVariable cS cI) rfl).enc v1)), (2, .d ((cLs (cXTable cI (cLs cI rfl) (cLs cI rfl) cI) rfl).enc v2)), (3, .box ((cXGeo (cLs cI rfl)).enc v0)), (22, .d ((cLs (cXTable cI (cLs cI rfl) (cLs cI rfl) cI) rfl).enc v2)), (23, .d (cI.enc (v2.length : Int))), (24, .d (cI.enc (k64 : Int)))]) () rfl h
    (fun G80 s63 h => wpC_seq <| reg_s <| st rfl <| b_lss (k := .i64) rfl rfl <| seqN [(1, .d ((cLs (cXVariable cS cI) rfl).enc v1)), (2, .d ((cLs (cXTable cI (cLs cI rfl) (cLs cI rfl) cI) rfl).enc v2)), (3, .box ((cXGeo (cLs cI rfl)).enc v0)), (22, .d ((cLs (cXTable cI (cLs cI rfl) (cLs cI rfl) cI) rfl).enc v2)), (23, .d (cI.enc (v2.length : Int))), (24, .d (cI.enc (v2.length : Int))), (25, .d (cB.enc (decide ((v2.length : Int) < (v2.length : Int)))))] (by kernel_rfl) <|
    xn <| wpC_seq <| wpC_kp <| cnd0 rfl (dlf _) <| wpC_exit <| xt <| xt <| xt <| xb <| kpN [] (by kernel_rfl) <| xn <| wpC_seq <| reg_s <| x_asg (sc cB true rfl) <| seqN [(6, .d (cB.enc true))] (by kernel_rfl) <|
    xn <| wpC_ret <| re <| fin h (r1 (ss rfl rfl) <| r0) rfl)
    (fun G80 nx78 k64 s63 x65 hk66 hx67 hn79 h => wpC_seq <| reg_s <| st rfl <| b_lss (k := .i64) rfl rfl <| seqN [(1, .d ((cLs (cXVariable cS cI) rfl).enc v1)), (2, .d ((cLs (cXTable cI (cLs cI rfl) (cLs cI rfl) cI) rfl).enc v2)), (3, .box ((cXGeo (cLs cI rfl)).enc v0)), (22, .d ((cLs (cXTable cI (cLs cI rfl) (cLs cI rfl) cI) rfl).enc v2)), (23, .d (cI.enc (v2.length : Int))), (24, .d (cI.enc (k64 : Int))), (25, .d (cB.enc (decide ((k64 : Int) < (v2.length : Int)))))] (by kernel_rfl) <|
    xn <| wpC_seq <| wpC_kp <| cnd1 rfl (dlt hk66) <| wpC_skip <| kpN [(1, .d ((cLs (cXVariable cS cI) rfl).enc v1)), (2, .d ((cLs (cXTable cI (cLs cI rfl) (cLs cI rfl) cI) rfl).enc v2)), (3, .box ((cXGeo (cLs cI rfl)).enc v0)), (22, .d ((cLs (cXTable cI (cLs cI rfl) (cLs cI rfl) cI) rfl).enc v2)), (23, .d (cI.enc (v2.length : Int))), (24, .d (cI.enc (k64 : Int)))] (by kernel_rfl) <| xn <| wpC_seq <| wpC_kp <| wpC_blk <| wpC_seq <| reg_s <| st rfl <| ias rfl rfl (Int.natCast_nonneg _) hx67 rfl <| st rfl <| ldi rfl rfl rfl rfl <| x_all (cXTable cI (cLo cI) (cLo cI) cI) (⟨(0 : Int), ([] : List Int), ([] : List Int), (0 : Int)⟩ : XTable) rfl <| x_stb (ss rfl rfl) rfl (Cd.h_sz _ _) rfl <| seqN [(1, .d ((cLs (cXVariable cS cI) rfl).enc v1)), (2, .d ((cLs (cXTable cI (cLs cI rfl) (cLs cI rfl) cI) rfl).enc v2)), (3, .box ((cXGeo (cLs cI rfl)).enc v0)), (8, .box ((cXTable cI (cLs cI rfl) (cLs cI rfl) cI).enc x65)), (22, .d ((cLs (cXTable cI (cLs cI rfl) (cLs cI rfl) cI) rfl).enc v2)), (23, .d (cI.enc (v2.length : Int))), (24, .d (cI.enc (k64 : Int)))] (by kernel_rfl) <|
    xn <| wpC_seq <| reg_s <| st rfl <| ldb rfl rfl rfl rfl <| st rfl <| mvd rfl rfl <| st rfl <| ldb rfl rfl rfl rfl <| bnd h fun x88 e89 h => st rfl <| o_call (a1 (c := (cXGeo (cLs cI rfl))) (tXGeo (tLs tK)) rfl (a1 (c := (cLs (cXVariable cS cI) rfl)) (tLs (tXVariable tS tK)) rfl (a1 (c := (cXTable cI (cLs cI rfl) (cLs cI rfl) cI)) (tXTable tK (tLs tK) (tLs tK) tK) rfl a0))) (con_impl_isTable e89) (.inl (so1 sB so0)) <| st rfl <| o_nt rfl <| seqN [(1, .d ((cLs (cXVariable cS cI) rfl).enc v1)), (2, .d ((cLs (cXTable cI (cLs cI rfl) (cLs cI rfl) cI) rfl).enc v2)), (3, .box ((cXGeo (cLs cI rfl)).enc v0)), (22, .d ((cLs (cXTable cI (cLs cI rfl) (cLs cI rfl) cI) rfl).enc v2)), (23, .d (cI.enc (v2.length : Int))), (24, .d (cI.enc (k64 : Int))), (32, .d (cB.enc (!x88)))] (by kernel_rfl) <|
    xn <| cnd rfl h (fun b90 h => wpC_seq <| reg_s <| x_asg (sc cB false rfl) <| seqN [(6, .d (cB.enc false))] (by kernel_rfl) <|
    xn <| wpC_ret <| rb <| rt <| rt <| rt <| rb <| rt <| rt <| re <| fin h (r1 (ss rfl rfl) <| r0) rfl)
    (fun b90 h => wpC_skip <| xbb <| kpN [(1, .d ((cLs (cXVariable cS cI) rfl).enc v1)), (2, .d ((cLs (cXTable cI (cLs cI rfl) (cLs cI rfl) cI) rfl).enc v2)), (3, .box ((cXGeo (cLs cI rfl)).enc v0)), (22, .d ((cLs (cXTable cI (cLs cI rfl) (cLs cI rfl) cI) rfl).enc v2)), (23, .d (cI.enc (v2.length : Int))), (24, .d (cI.enc (k64 : Int)))] (by kernel_rfl) <| xn <| reg_s <| st rfl <| b_inc rfl rfl l62 hk66 <| st rfl <| mvd rfl rfl <| seqN [(1, .d ((cLs (cXVariable cS cI) rfl).enc v1)), (2, .d ((cLs (cXTable cI (cLs cI rfl) (cLs cI rfl) cI) rfl).enc v2)), (3, .box ((cXGeo (cLs cI rfl)).enc v0)), (22, .d ((cLs (cXTable cI (cLs cI rfl) (cLs cI rfl) cI) rfl).enc v2)), (23, .d (cI.enc (v2.length : Int))), (24, .d (cI.enc ((k64 + 1 : Nat) : Int)))] (by kernel_rfl) <|
    xn <| hn79 () h)))))

def rs_impl_planText (r : (List UInt8)) : List D := [cS.enc r]
def m58 : MC := .seq (.reg [⟨some 4, .asg (.c (.str [])), none⟩] [0, 1])
  (.seq (.reg [⟨some 5, .asg (.c (.str [])), none⟩] [0, 1, 5])
  (.seq (.kp [5] (.seq (.reg [⟨some 8, .mv (.t 1), none⟩,
    ⟨some 9, .len false (.t 8), none⟩,
    ⟨some 10, .mv (.c (.int .i64 0)), none⟩] [0, 1, 5, 8, 9, 10])
  (.blk 0 (.loop (.seq (.reg [⟨some 11, .bin .lss (.t 10) (.t 9), none⟩] [0, 1, 5, 8, 9, 10, 11])
  (.seq (.kp [0, 1, 5, 8, 9, 10] (.cond (.t 11) (.skip) (.exit 0)))
  (.seq (.kp [0, 1, 5, 8, 9, 10] (.blk 1 (.seq (.reg [⟨some 12, .ia 8 (.t 10) 4, none⟩,
    ⟨some 13, .ld 12 4 true, none⟩,
    ⟨some 7, .alloc (.agg [.int .i64 0, .slice true [], .slice true [], .int .i64 0]), none⟩,
    ⟨none, .st 7 (.t 13) 4, none⟩] [0, 1, 5, 7, 8, 9, 10])
  (.reg [⟨some 14, .mv (.t 5), none⟩,
    ⟨some 15, .mv (.t 0), none⟩,
    ⟨some 16, .ld 7 4 true, none⟩,
    ⟨some 17, .call 49 [(.t 15), (.t 16)], none⟩,
    ⟨some 18, .bin .add (.t 17) (.c (.str [10])), none⟩,
    ⟨some 19, .bin .add (.t 14) (.t 18), none⟩,
    ⟨some 5, .asg (.t 19), none⟩] [0, 1, 5, 8, 9, 10]))))
  (.reg [⟨some 20, .bin .add (.t 10) (.c (.int .i64 1)), none⟩,
    ⟨some 10, .mv (.t 20), none⟩] [0, 1, 5, 8, 9, 10]))))))))
  (.seq (.reg [⟨some 21, .mv (.t 5), none⟩,
    ⟨some 4, .asg (.t 21), none⟩] [4])
  (.ret))))
theorem con_impl_planText {v0 : (List XVariable)} {v1 : (List XTable)} {r : (List UInt8)} (h : sh_impl_planText v0 v1 = some r) : Con Tryd.prog 58 [(cLs (cXVariable cS cI) rfl).enc v0, (cLs (cXTable cI (cLs cI rfl) (cLs cI rfl) cI) rfl).enc v1] [] (rs_impl_planText r) := by
  delta sh_impl_planText at h
  refine top (out := none) (f := Tryd.f58) (m := m58) (rs := [.t 4]) (by kernel_rfl) rfl (by kernel_rfl) (by kernel_rfl) (by kernel_rfl) (by kernel_rfl) (by kernel_rfl) ?_
  exact
   ini [(0, .d ((cLs (cXVariable cS cI) rfl).enc v0)), (1, .d ((cLs (cXTable cI (cLs cI rfl) (cLs cI rfl) cI) rfl).enc v1))] rfl <| wpC_seq <| reg_s <| x_asg (sc cS ([] : List UInt8) rfl) <| seqN [(0, .d ((cLs (cXVariable cS cI) rfl).enc v0)), (1, .d ((cLs (cXTable cI (cLs cI rfl) (cLs cI rfl) cI) rfl).enc v1))] (by kernel_rfl) <|
    xn <| wpC_seq <| reg_s <| x_asg (sc cS ([] : List UInt8) rfl) <| seqN [(0, .d ((cLs (cXVariable cS cI) rfl).enc v0)), (1, .d ((cLs (cXTable cI (cLs cI rfl) (cLs cI rfl) cI) rfl).enc v1)), (5, .d (cS.enc ([] : List UInt8)))] (by kernel_rfl) <|
    xn <| wpC_seq <| wpC_kp <| wpC_seq <| reg_s <| st rfl <| mvd rfl rfl <| stw rfl <| lens rfl fun l36 => st rfl <| mvc cI (0 : Int) rfl <| seqN [(0, .d ((cLs (cXVariable cS cI) rfl).enc v0)), (1, .d ((cLs (cXTable cI (cLs cI rfl) (cLs cI rfl) cI) rfl).enc v1)), (5, .d (cS.enc ([] : List UInt8))), (8, .d ((cLs (cXTable cI (cLs cI rfl) (cLs cI rfl) cI) rfl).enc v1)), (9, .d (cI.enc (v1.length : Int))), (10, .d (cI.enc (0 : Int)))] (by kernel_rfl) <|
    xn <| wpC_blk <| lpR (fun (k38 : Nat) (s37 : (List UInt8)) => [(0, .d ((cLs (cXVariable cS cI) rfl).enc v0)), (1, .d ((cLs (cXTable cI (cLs cI rfl) (cLs cI rfl) cI) rfl).enc v1)), (5, .d (cS.enc s37)), (8, .d ((cLs (cXTable cI (cLs cI rfl) (cLs cI rfl) cI) rfl).enc v1)), (9, .d (cI.enc (v1.length : Int))), (10, .d (cI.enc (k38 : Int)))]) ([] : List UInt8) rfl h
    (fun G60 s37 h => wpC_seq <| reg_s <| st rfl <| b_lss (k := .i64) rfl rfl <| seqN [(0, .d ((cLs (cXVariable cS cI) rfl).enc v0)), (1, .d ((cLs (cXTable cI (cLs cI rfl) (cLs cI rfl) cI) rfl).enc v1)), (5, .d (cS.enc s37)), (8, .d ((cLs (cXTable cI (cLs cI rfl) (cLs cI rfl) cI) rfl).enc v1)), (9, .d (cI.enc (v1.length : Int))), (10, .d (cI.enc (v1.length : Int))), (11, .d (cB.enc (decide ((v1.length : Int) < (v1.length : Int)))))] (by kernel_rfl) <|
    xn <| wpC_seq <| wpC_kp <| cnd0 rfl (dlf _) <| wpC_exit <| xt <| xt <| xt <| xb <| kpN [(5, .d (cS.enc s37))] (by kernel_rfl) <| xn <| wpC_seq <| reg_s <| st rfl <| mvd rfl rfl <| x_asg (ss rfl rfl) <| seqN [(4, .d (cS.enc s37))] (by kernel_rfl) <|
    xn <| wpC_ret <| re <| fin h (r1 (ss rfl rfl) <| r0) rfl)
    (fun G60 nx58 k38 s37 x39 hk40 hx41 hn59 h => wpC_seq <| reg_s <| st rfl <| b_lss (k := .i64) rfl rfl <| seqN [(0, .d ((cLs (cXVariable cS cI) rfl).enc v0)), (1, .d ((cLs (cXTable cI (cLs cI rfl) (cLs cI rfl) cI) rfl).enc v1)), (5, .d (cS.enc s37)), (8, .d ((cLs (cXTable cI (cLs cI rfl) (cLs cI rfl) cI) rfl).enc v1)), (9, .d (cI.enc (v1.length : Int))), (10, .d (cI.enc (k38 : Int))), (11, .d (cB.enc (decide ((k38 : Int) < (v1.length : Int)))))] (by kernel_rfl) <|
    xn <| wpC_seq <| wpC_kp <| cnd1 rfl (dlt hk40) <| wpC_skip <| kpN [(0, .d ((cLs (cXVariable cS cI) rfl).enc v0)), (1, .d ((cLs (cXTable cI (cLs cI rfl) (cLs cI rfl) cI) rfl).enc v1)), (5, .d (cS.enc s37)), (8, .d ((cLs (cXTable cI (cLs cI rfl) (cLs cI rfl) cI) rfl).enc v1)), (9, .d (cI.enc (v1.length : Int))), (10, .d (cI.enc (k38 : Int)))] (by kernel_rfl) <| xn <| wpC_seq <| wpC_kp <| wpC_blk <| wpC_seq <| reg_s <| st rfl <| ias rfl rfl (Int.natCast_nonneg _) hx41 rfl <| st rfl <| ldi rfl rfl rfl rfl <| x_all (cXTable cI (cLo cI) (cLo cI) cI) (⟨(0 : Int), ([] : List Int), ([] : List Int), (0 : Int)⟩ : XTable) rfl <| x_stb (ss rfl rfl) rfl (Cd.h_sz _ _) rfl <| seqN [(0, .d ((cLs (cXVariable cS cI) rfl).enc v0)), (1, .d ((cLs (cXTable cI (cLs cI rfl) (cLs cI rfl) cI) rfl).enc v1)), (5, .d (cS.enc s37)), (7, .box ((cXTable cI (cLs cI rfl) (cLs cI rfl) cI).enc x39)), (8, .d ((cLs (cXTable cI (cLs cI rfl) (cLs cI rfl) cI) rfl).enc v1)), (9, .d (cI.enc (v1.length : Int))), (10, .d (cI.enc (k38 : Int)))] (by kernel_rfl) <|
    xn <| reg_s <| st rfl <| mvd rfl rfl <| st rfl <| mvd rfl rfl <| st rfl <| ldb rfl rfl rfl rfl <| bnd h fun x65 e66 h => st rfl <| o_call (a1 (c := (cLs (cXVariable cS cI) rfl)) (tLs (tXVariable tS tK)) rfl (a1 (c := (cXTable cI (cLs cI rfl) (cLs cI rfl) cI)) (tXTable tK (tLs tK) (tLs tK) tK) rfl a0)) (con_impl_tableText e66) (.inl (so1 sS so0)) <| lnO_k h fun l67 h => st rfl <| b_cat rfl rfl l67 <| lnO_k h fun l68 h => st rfl <| b_cat rfl rfl l68 <| x_asg (ss rfl rfl) <| seqN [(0, .d ((cLs (cXVariable cS cI) rfl).enc v0)), (1, .d ((cLs (cXTable cI (cLs cI rfl) (cLs cI rfl) cI) rfl).enc v1)), (5, .d (cS.enc (s37 ++ (x65 ++ ([10] : List UInt8))))), (8, .d ((cLs (cXTable cI (cLs cI rfl) (cLs cI rfl) cI) rfl).enc v1)), (9, .d (cI.enc (v1.length : Int))), (10, .d (cI.enc (k38 : Int)))] (by kernel_rfl) <|
    xbb <| kpN [(0, .d ((cLs (cXVariable cS cI) rfl).enc v0)), (1, .d ((cLs (cXTable cI (cLs cI rfl) (cLs cI rfl) cI) rfl).enc v1)), (5, .d (cS.enc (s37 ++ (x65 ++ ([10] : List UInt8))))), (8, .d ((cLs (cXTable cI (cLs cI rfl) (cLs cI rfl) cI) rfl).enc v1)), (9, .d (cI.enc (v1.length : Int))), (10, .d (cI.enc (k38 : Int)))] (by kernel_rfl) <| xn <| reg_s <| st rfl <| b_inc rfl rfl l36 hk40 <| st rfl <| mvd rfl rfl <| seqN [(0, .d ((cLs (cXVariable cS cI) rfl).enc v0)), (1, .d ((cLs (cXTable cI (cLs cI rfl) (cLs cI rfl) cI) rfl).enc v1)), (5, .d (cS.enc (s37 ++ (x65 ++ ([10] : List UInt8))))), (8, .d ((cLs (cXTable cI (cLs cI rfl) (cLs cI rfl) cI) rfl).enc v1)), (9, .d (cI.enc (v1.length : Int))), (10, .d (cI.enc ((k38 + 1 : Nat) : Int)))] (by kernel_rfl) <|
    xn <| hn59 (s37 ++ (x65 ++ ([10] : List UInt8))) h)

def rs_impl_PlanText (r : ((List UInt8) × Bool)) : List D := [cS.enc r.1, cB.enc r.2]
def m25 : MC := .seq (.reg [⟨some 3, .box (.t 0), none⟩,
    ⟨some 6, .asg (.c (.str [])), none⟩,
    ⟨some 7, .asg (.c (.bool false)), none⟩] [1, 2, 3])
  (.seq (.kp [1, 2] (.seq (.reg [⟨some 8, .ld 3 1 true, none⟩,
    ⟨some 9, .mv (.t 1), none⟩,
    ⟨some 10, .mv (.t 2), none⟩,
    ⟨some 11, .call 57 [(.t 8), (.t 9), (.t 10)], none⟩,
    ⟨some 12, .nt (.t 11), none⟩] [1, 2, 12])
  (.cond (.t 12) (.seq (.reg [⟨some 6, .asg (.c (.str [])), none⟩,
    ⟨some 7, .asg (.c (.bool false)), none⟩] [6, 7])
  (.ret)) (.skip))))
  (.seq (.reg [⟨some 13, .mv (.t 1), none⟩,
    ⟨some 14, .mv (.t 2), none⟩,
    ⟨some 15, .call 58 [(.t 13), (.t 14)], none⟩,
    ⟨some 6, .asg (.t 15), none⟩,
    ⟨some 7, .asg (.c (.bool true)), none⟩] [6, 7])
  (.ret)))
theorem con_impl_PlanText {v0 : XGeo} {v1 : (List XVariable)} {v2 : (List XTable)} {r : ((List UInt8) × Bool)} (h : sh_impl_PlanText v0 v1 v2 = some r) : Con Tryd.prog 25 [(cXGeo (cLs cI rfl)).enc v0, (cLs (cXVariable cS cI) rfl).enc v1, (cLs (cXTable cI (cLs cI rfl) (cLs cI rfl) cI) rfl).enc v2] [] (rs_impl_PlanText r) := by
  delta sh_impl_PlanText at h
  refine top (out := none) (f := Tryd.f25) (m := m25) (rs := [.t 6, .t 7]) (by kernel_rfl) rfl (by kernel_rfl) (by kernel_rfl) (by kernel_rfl) (by kernel_rfl) (by kernel_rfl) ?_
  exact
   ini [(0, .d ((cXGeo (cLs cI rfl)).enc v0)), (1, .d ((cLs (cXVariable cS cI) rfl).enc v1)), (2, .d ((cLs (cXTable cI (cLs cI rfl) (cLs cI rfl) cI) rfl).enc v2))] rfl <| wpC_seq <| reg_s <| x_box (ss rfl rfl) <| x_asg (sc cS ([] : List UInt8) rfl) <| x_asg (sc cB false rfl) <| seqN [(1, .d ((cLs (cXVariable cS cI) rfl).enc v1)), (2, .d ((cLs (cXTable cI (cLs cI rfl) (cLs cI rfl) cI) rfl).enc v2)), (3, .box ((cXGeo (cLs cI rfl)).enc v0))] (by kernel_rfl) <|
    xn <| wpC_seq <| wpC_kp <| wpC_seq <| reg_s <| st rfl <| ldb rfl rfl rfl rfl <| st rfl <| mvd rfl rfl <| st rfl <| mvd rfl rfl <| bnd h fun x8 e9 h => st rfl <| o_call (a1 (c := (cXGeo (cLs cI rfl))) (tXGeo (tLs tK)) rfl (a1 (c := (cLs (cXVariable cS cI) rfl)) (tLs (tXVariable tS tK)) rfl (a1 (c := (cLs (cXTable cI (cLs cI rfl) (cLs cI rfl) cI) rfl)) (tLs (tXTable tK (tLs tK) (tLs tK) tK)) rfl a0))) (con_impl_isPlan e9) (.inl (so1 sB so0)) <| st rfl <| o_nt rfl <| seqN [(1, .d ((cLs (cXVariable cS cI) rfl).enc v1)), (2, .d ((cLs (cXTable cI (cLs cI rfl) (cLs cI rfl) cI) rfl).enc v2)), (12, .d (cB.enc (!x8)))] (by kernel_rfl) <|
    xn <| cnd rfl h (fun b10 h => wpC_seq <| reg_s <| x_asg (sc cS ([] : List UInt8) rfl) <| x_asg (sc cB false rfl) <| seqN [(6, .d (cS.enc ([] : List UInt8))), (7, .d (cB.enc false))] (by kernel_rfl) <|
    xn <| wpC_ret <| rt <| rt <| re <| fin h (r1 (ss rfl rfl) <| r1 (ss rfl rfl) <| r0) rfl)
    (fun b10 h => wpC_skip <| kpN [(1, .d ((cLs (cXVariable cS cI) rfl).enc v1)), (2, .d ((cLs (cXTable cI (cLs cI rfl) (cLs cI rfl) cI) rfl).enc v2))] (by kernel_rfl) <| xn <| wpC_seq <| reg_s <| st rfl <| mvd rfl rfl <| st rfl <| mvd rfl rfl <| bnd h fun x13 e14 h => st rfl <| o_call (a1 (c := (cLs (cXVariable cS cI) rfl)) (tLs (tXVariable tS tK)) rfl (a1 (c := (cLs (cXTable cI (cLs cI rfl) (cLs cI rfl) cI) rfl)) (tLs (tXTable tK (tLs tK) (tLs tK) tK)) rfl a0)) (con_impl_planText e14) (.inl (so1 sS so0)) <| x_asg (ss rfl rfl) <| x_asg (sc cB true rfl) <| seqN [(6, .d (cS.enc x13)), (7, .d (cB.enc true))] (by kernel_rfl) <|
    xn <| wpC_ret <| re <| fin h (r1 (ss rfl rfl) <| r1 (ss rfl rfl) <| r0) rfl)

def rs_laws_eqTableS (r : Bool) : List D := [cB.enc r]
def m26 : MC := .seq (.reg [⟨some 4, .asg (.c (.bool false)), none⟩] [0, 1])
  (.seq (.kp [0, 1] (.seq (.reg [⟨some 6, .mv (.t 0), none⟩,
    ⟨some 7, .len false (.t 6), none⟩,
    ⟨some 8, .mv (.t 1), none⟩,
    ⟨some 9, .len false (.t 8), none⟩,
    ⟨some 10, .bin .neq (.t 7) (.t 9), none⟩] [0, 1, 10])
  (.cond (.t 10) (.seq (.reg [⟨some 4, .asg (.c (.bool false)), none⟩] [4])
  (.ret)) (.skip))))
  (.seq (.kp [] (.seq (.reg [⟨some 5, .asg (.c (.int .i64 0)), none⟩] [0, 1, 5])
  (.blk 0 (.loop (.seq (.kp [0, 1, 5] (.seq (.reg [⟨some 11, .mv (.t 5), none⟩,
    ⟨some 12, .mv (.t 0), none⟩,
    ⟨some 13, .len false (.t 12), none⟩,
    ⟨some 14, .bin .lss (.t 11) (.t 13), none⟩] [0, 1, 5, 14])
  (.cond (.t 14) (.skip) (.exit 0))))
  (.seq (.kp [0, 1, 5] (.blk 1 (.seq (.drw [⟨0, ⟨some 17, .mv (.t 0), none⟩, [18, 19, 20, 21, 22, 23, 24, 25, 26]⟩,
    ⟨1, ⟨some 18, .mv (.t 5), none⟩, [17, 19, 20, 21, 22, 23, 24, 25, 26]⟩,
    ⟨2, ⟨some 19, .ia 17 (.t 18) 4, none⟩, [20, 21, 22, 23, 24, 25, 26]⟩,
    ⟨3, ⟨some 20, .ld 19 4 true, none⟩, [21, 22, 23, 24, 25, 26]⟩,
    ⟨4, ⟨some 21, .mv (.t 1), none⟩, [17, 18, 19, 20, 22, 23, 24, 25, 26]⟩,
    ⟨5, ⟨some 22, .mv (.t 5), none⟩, [17, 18, 19, 20, 21, 23, 24, 25, 26]⟩,
    ⟨6, ⟨some 23, .ia 21 (.t 22) 4, none⟩, [17, 18, 19, 20, 24, 25, 26]⟩,
    ⟨7, ⟨some 24, .ld 23 4 true, none⟩, [17, 18, 19, 20, 25, 26]⟩,
    ⟨8, ⟨some 25, .call 19 [(.t 20), (.t 24)], none⟩, [26]⟩,
    ⟨9, ⟨some 26, .nt (.t 25), none⟩, []⟩]
    [] [0, 1, 5, 26])
  (.cond (.t 26) (.seq (.reg [⟨some 4, .asg (.c (.bool false)), none⟩] [4])
  (.ret)) (.skip)))))
  (.reg [⟨some 15, .mv (.t 5), none⟩,
    ⟨some 16, .bin .add (.t 15) (.c (.int .i64 1)), none⟩,
    ⟨some 5, .asg (.t 16), none⟩] [0, 1, 5])))))))
  (.seq (.reg [⟨some 4, .asg (.c (.bool true)), none⟩] [4])
  (.ret))))
theorem con_laws_eqTableS {v0 : (List XTable)} {v1 : (List XTable)} {r : Bool} (h : sh_laws_eqTableS v0 v1 = some r) : Con Tryd.prog 26 [(cLs (cXTable cI (cLs cI rfl) (cLs cI rfl) cI) rfl).enc v0, (cLs (cXTable cI (cLs cI rfl) (cLs cI rfl) cI) rfl).enc v1] [] (rs_laws_eqTableS r) := by
  delta sh_laws_eqTableS at h
  refine top (out := none) (f := Tryd.f26) (m := m26) (rs := [.t 4]) (by kernel_rfl) rfl (by kernel_rfl) (by kernel_rfl) (by kernel_rfl) (by kernel_rfl) (by kernel_rfl) ?_
  exact
   ini [(0, .d ((cLs (cXTable cI (cLs cI rfl) (cLs cI rfl) cI) rfl).enc v0)), (1, .d ((cLs (cXTable cI (cLs cI rfl) (cLs cI rfl) cI) rfl).enc v1))] rfl <| wpC_seq <| reg_s <| x_asg (sc cB false rfl) <| seqN [(0, .d ((cLs (cXTable cI (cLs cI rfl) (cLs cI rfl) cI) rfl).enc v0)), (1, .d ((cLs (cXTable cI (cLs cI rfl) (cLs cI rfl) cI) rfl).enc v1))] (by kernel_rfl) <|
    xn <| wpC_seq <| wpC_kp <| wpC_seq <| reg_s <| st rfl <| mvd rfl rfl <| stw rfl <| lens rfl fun l8 => st rfl <| mvd rfl rfl <| stw rfl <| lens rfl fun l9 => st rfl <| b_neq (k := .i64) rfl rfl <| seqN [(0, .d ((cLs (cXTable cI (cLs cI rfl) (cLs cI rfl) cI) rfl).enc v0)), (1, .d ((cLs (cXTable cI (cLs cI rfl) (cLs cI rfl) cI) rfl).enc v1)), (10, .d (cB.enc (decide ((v0.length : Int) ≠ (v1.length : Int)))))] (by kernel_rfl) <|
    xn <| cnd rfl h (fun b10 h => wpC_seq <| reg_s <| x_asg (sc cB false rfl) <| seqN [(4, .d (cB.enc false))] (by kernel_rfl) <|
    xn <| wpC_ret <| rt <| rt <| re <| fin h (r1 (ss rfl rfl) <| r0) rfl)
    (fun b10 h => wpC_skip <| kpN [(0, .d ((cLs (cXTable cI (cLs cI rfl) (cLs cI rfl) cI) rfl).enc v0)), (1, .d ((cLs (cXTable cI (cLs cI rfl) (cLs cI rfl) cI) rfl).enc v1))] (by kernel_rfl) <| xn <| wpC_seq <| wpC_kp <| wpC_seq <| reg_s <| x_asg (sc cI (0 : Int) rfl) <| seqN [(0, .d ((cLs (cXTable cI (cLs cI rfl) (cLs cI rfl) cI) rfl).enc v0)), (1, .d ((cLs (cXTable cI (cLs cI rfl) (cLs cI rfl) cI) rfl).enc v1)), (5, .d (cI.enc (0 : Int)))] (by kernel_rfl) <|
    xn <| wpC_blk <| lpF (fun (s142 : Int) => [(0, .d ((cLs (cXTable cI (cLs cI rfl) (cLs cI rfl) cI) rfl).enc v0)), (1, .d ((cLs (cXTable cI (cLs cI rfl) (cLs cI rfl) cI) rfl).enc v1)), (5, .d (cI.enc s142))]) (0 : Int) rfl h
    fun G231 nx229 s142 hn230 h => wpC_seq <| wpC_kp <| wpC_seq <| reg_s <| st rfl <| mvd rfl rfl <| st rfl <| mvd rfl rfl <| stw rfl <| lens rfl fun l236 => st rfl <| b_lss (k := .i64) rfl rfl <| seqN [(0, .d ((cLs (cXTable cI (cLs cI rfl) (cLs cI rfl) cI) rfl).enc v0)), (1, .d ((cLs (cXTable cI (cLs cI rfl) (cLs cI rfl) cI) rfl).enc v1)), (5, .d (cI.enc s142)), (14, .d (cB.enc (decide (s142 < (v0.length : Int)))))] (by kernel_rfl) <|
    xn <| cnd rfl h (fun b237 h => wpC_skip <| kpN [(0, .d ((cLs (cXTable cI (cLs cI rfl) (cLs cI rfl) cI) rfl).enc v0)), (1, .d ((cLs (cXTable cI (cLs cI rfl) (cLs cI rfl) cI) rfl).enc v1)), (5, .d (cI.enc s142))] (by kernel_rfl) <| xn <| wpC_seq <| wpC_kp <| wpC_blk <| wpC_seq <| drw_s <| pst rfl <| mvd rfl rfl ⟨rfl, pst rfl <| mvd rfl rfl ⟨rfl, getO_kp h fun x263 i264 g265 h => pst rfl <| ias rfl rfl i264 g265 rfl ⟨rfl, pst rfl <| ldi rfl rfl rfl rfl ⟨rfl, pst rfl <| mvd rfl rfl ⟨rfl, pst rfl <| mvd rfl rfl ⟨rfl, getO_kp h fun x266 i267 g268 h => pst rfl <| ias rfl rfl i267 g268 rfl ⟨rfl, pst rfl <| ldi rfl rfl rfl rfl ⟨rfl, bndp h fun x269 e270 h => pst rfl <| o_call (a1 (c := (cXTable cI (cLs cI rfl) (cLs cI rfl) cI)) (tXTable tK (tLs tK) (tLs tK) tK) rfl (a1 (c := (cXTable cI (cLs cI rfl) (cLs cI rfl) cI)) (tXTable tK (tLs tK) (tLs tK) tK) rfl a0)) (con_laws_eqTable e270) (.inl (so1 sB so0)) ⟨rfl, pst rfl <| o_nt rfl ⟨rfl, preN <| seqN [(0, .d ((cLs (cXTable cI (cLs cI rfl) (cLs cI rfl) cI) rfl).enc v0)), (1, .d ((cLs (cXTable cI (cLs cI rfl) (cLs cI rfl) cI) rfl).enc v1)), (5, .d (cI.enc s142)), (26, .d (cB.enc (!x269)))] (by kernel_rfl) <|
    xn <| cnd rfl h (fun b271 h => wpC_seq <| reg_s <| x_asg (sc cB false rfl) <| seqN [(4, .d (cB.enc false))] (by kernel_rfl) <|
    xn <| wpC_ret <| rb <| rt <| rt <| rt <| rb <| rt <| rt <| re <| fin h (r1 (ss rfl rfl) <| r0) rfl)
    (fun b271 h => wpC_skip <| xbb <| kpN [(0, .d ((cLs (cXTable cI (cLs cI rfl) (cLs cI rfl) cI) rfl).enc v0)), (1, .d ((cLs (cXTable cI (cLs cI rfl) (cLs cI rfl) cI) rfl).enc v1)), (5, .d (cI.enc s142))] (by kernel_rfl) <| xn <| reg_s <| st rfl <| mvd rfl rfl <| ckI_k h fun i272 h => st rfl <| b_add (k := .i64) rfl rfl i272 <| x_asg (ss rfl rfl) <| seqN [(0, .d ((cLs (cXTable cI (cLs cI rfl) (cLs cI rfl) cI) rfl).enc v0)), (1, .d ((cLs (cXTable cI (cLs cI rfl) (cLs cI rfl) cI) rfl).enc v1)), (5, .d (cI.enc (s142 + (1 : Int))))] (by kernel_rfl) <|
    xn <| hn230 (s142 + (1 : Int)) h)⟩⟩⟩⟩⟩⟩⟩⟩⟩⟩)
    (fun b237 h => wpC_exit <| xt <| xt <| xt <| xb <| kpN [] (by kernel_rfl) <| xn <| wpC_seq <| reg_s <| x_asg (sc cB true rfl) <| seqN [(4, .d (cB.enc true))] (by kernel_rfl) <|
    xn <| wpC_ret <| re <| fin h (r1 (ss rfl rfl) <| r0) rfl))

def rs_laws_FnExactPlanText (r : Bool) : List D := [cB.enc r]
def m5 : MC := .seq (.reg [⟨some 3, .box (.t 0), none⟩,
    ⟨some 6, .asg (.c (.bool false)), none⟩] [1, 2, 3])
  (.seq (.reg [⟨some 7, .asg (.c (.int .i64 1048576)), none⟩] [1, 2, 3, 7])
  (.seq (.reg [⟨some 15, .ld 3 1 true, none⟩,
    ⟨some 16, .mv (.t 7), none⟩,
    ⟨some 17, .call 9 [(.t 15), (.t 16)], none⟩,
    ⟨some 7, .asg (.t 17), none⟩] [1, 2, 3, 7])
  (.seq (.kp [1, 2, 3, 7] (.seq (.reg [⟨some 18, .mv (.t 7), none⟩,
    ⟨some 19, .bin .lss (.t 18) (.c (.int .i64 0)), none⟩] [1, 2, 3, 7, 19])
  (.cond (.t 19) (.seq (.reg [⟨some 6, .asg (.c (.bool true)), none⟩] [6])
  (.ret)) (.skip))))
  (.seq (.reg [⟨some 20, .mv (.t 1), none⟩,
    ⟨some 21, .mv (.t 7), none⟩,
    ⟨some 22, .call 10 [(.t 20), (.t 21)], none⟩,
    ⟨some 7, .asg (.t 22), none⟩] [1, 2, 3, 7])
  (.seq (.kp [1, 2, 3, 7] (.seq (.reg [⟨some 23, .mv (.t 7), none⟩,
    ⟨some 24, .bin .lss (.t 23) (.c (.int .i64 0)), none⟩] [1, 2, 3, 7, 24])
  (.cond (.t 24) (.seq (.reg [⟨some 6, .asg (.c (.bool true)), none⟩] [6])
  (.ret)) (.skip))))
  (.seq (.reg [⟨some 25, .mv (.t 2), none⟩,
    ⟨some 26, .mv (.t 7), none⟩,
    ⟨some 27, .call 22 [(.t 25), (.t 26)], none⟩,
    ⟨some 7, .asg (.t 27), none⟩] [1, 2, 3, 7])
  (.seq (.kp [1, 2, 3] (.seq (.reg [⟨some 28, .mv (.t 7), none⟩,
    ⟨some 29, .bin .lss (.t 28) (.c (.int .i64 0)), none⟩] [1, 2, 3, 29])
  (.cond (.t 29) (.seq (.reg [⟨some 6, .asg (.c (.bool true)), none⟩] [6])
  (.ret)) (.skip))))
  (.seq (.reg [⟨some 31, .ld 3 1 true, none⟩,
    ⟨some 32, .call 13 [(.t 31)], none⟩,
    ⟨some 33, .mv (.t 1), none⟩,
    ⟨some 34, .call 14 [(.t 33)], none⟩,
    ⟨some 35, .mv (.t 2), none⟩,
    ⟨some 36, .call 24 [(.t 35)], none⟩,
    ⟨some 37, .call 23 [(.t 32), (.t 34), (.t 36)], none⟩,
    ⟨some 30, .mvt 37, none⟩,
    ⟨some 38, .ext 30 0, none⟩,
    ⟨some 39, .ext 30 1, none⟩,
    ⟨some 8, .asg (.t 38), none⟩,
    ⟨some 9, .asg (.t 39), none⟩] [1, 2, 3, 8, 9])
  (.seq (.reg [⟨some 40, .ld 3 1 true, none⟩,
    ⟨some 41, .call 13 [(.t 40)], none⟩,
    ⟨some 10, .alloc (.agg [.slice true []]), none⟩,
    ⟨none, .st 10 (.t 41) 1, none⟩] [1, 2, 3, 8, 9, 10])
  (.seq (.reg [⟨some 42, .mv (.t 1), none⟩,
    ⟨some 43, .call 14 [(.t 42)], none⟩,
    ⟨some 11, .asg (.t 43), none⟩] [1, 2, 3, 8, 9, 10, 11])
  (.seq (.reg [⟨some 44, .mv (.t 2), none⟩,
    ⟨some 45, .call 24 [(.t 44)], none⟩,
    ⟨some 12, .asg (.t 45), none⟩] [1, 2, 3, 8, 9, 10, 11, 12])
  (.seq (.reg [⟨some 47, .ld 10 1 true, none⟩,
    ⟨some 48, .mv (.t 11), none⟩,
    ⟨some 49, .mv (.t 12), none⟩,
    ⟨some 50, .call 25 [(.t 47), (.t 48), (.t 49)], none⟩,
    ⟨some 46, .mvt 50, none⟩,
    ⟨some 51, .ext 46 0, none⟩,
    ⟨some 52, .ext 46 1, none⟩,
    ⟨some 13, .asg (.t 51), none⟩,
    ⟨some 14, .asg (.t 52), none⟩] [1, 2, 3, 8, 9, 10, 11, 12, 13, 14])
  (.seq (.kp [1, 2, 3, 10, 11, 12] (.seq (.reg [⟨some 53, .mv (.t 13), none⟩,
    ⟨some 54, .mv (.t 8), none⟩,
    ⟨some 55, .bin .neq (.t 53) (.t 54), none⟩,
    ⟨some 56, .mv (.t 55), none⟩,
    ⟨some 57, .mv (.t 14), some (56, false)⟩,
    ⟨some 58, .mv (.t 9), some (56, false)⟩,
    ⟨some 59, .eqb true (.t 57) (.t 58), some (56, false)⟩,
    ⟨some 60, .pick (.t 56) (.c (.bool true)) (.t 59), none⟩] [1, 2, 3, 10, 11, 12, 60])
  (.cond (.t 60) (.seq (.reg [⟨some 6, .asg (.c (.bool false)), none⟩] [6])
  (.ret)) (.skip))))
  (.seq (.kp [1, 2, 11, 12] (.seq (.drw [⟨0, ⟨some 61, .ld 10 1 true, none⟩, [62, 63, 64, 65]⟩,
    ⟨1, ⟨some 62, .ld 3 1 true, none⟩, [61, 63, 64, 65]⟩,
    ⟨2, ⟨some 63, .call 13 [(.t 62)], none⟩, [61, 64, 65]⟩,
    ⟨3, ⟨some 64, .call 17 [(.t 61), (.t 63)], none⟩, [65]⟩,
    ⟨4, ⟨some 65, .nt (.t 64), none⟩, []⟩]
    [] [1, 2, 11, 12, 65])
  (.cond (.t 65) (.seq (.reg [⟨some 6, .asg (.c (.bool false)), none⟩] [6])
  (.ret)) (.skip))))
  (.seq (.kp [2, 12] (.seq (.reg [⟨some 66, .mv (.t 11), none⟩,
    ⟨some 67, .mv (.t 1), none⟩,
    ⟨some 68, .call 14 [(.t 67)], none⟩,
    ⟨some 69, .call 18 [(.t 66), (.t 68)], none⟩,
    ⟨some 70, .nt (.t 69), none⟩] [2, 12, 70])
  (.cond (.t 70) (.seq (.reg [⟨some 6, .asg (.c (.bool false)), none⟩] [6])
  (.ret)) (.skip))))
  (.seq (.kp [] (.seq (.reg [⟨some 71, .mv (.t 12), none⟩,
    ⟨some 72, .mv (.t 2), none⟩,
    ⟨some 73, .call 24 [(.t 72)], none⟩,
    ⟨some 74, .call 26 [(.t 71), (.t 73)], none⟩,
    ⟨some 75, .nt (.t 74), none⟩] [75])
  (.cond (.t 75) (.seq (.reg [⟨some 6, .asg (.c (.bool false)), none⟩] [6])
  (.ret)) (.skip))))
  (.seq (.reg [⟨some 6, .asg (.c (.bool true)), none⟩] [6])
  (.ret))))))))))))))))))
theorem con_laws_FnExactPlanText {v0 : XGeo} {v1 : (List XVariable)} {v2 : (List XTable)} {r : Bool} (h : sh_laws_FnExactPlanText v0 v1 v2 = some r) : Con Tryd.prog 5 [(cXGeo (cLs cI rfl)).enc v0, (cLs (cXVariable cS cI) rfl).enc v1, (cLs (cXTable cI (cLs cI rfl) (cLs cI rfl) cI) rfl).enc v2] [] (rs_laws_FnExactPlanText r) := by
  delta sh_laws_FnExactPlanText at h
  refine top (out := none) (f := Tryd.f5) (m := m5) (rs := [.t 6]) (by kernel_rfl) rfl (by kernel_rfl) (by kernel_rfl) (by kernel_rfl) (by kernel_rfl) (by kernel_rfl) ?_
  exact
   ini [(0, .d ((cXGeo (cLs cI rfl)).enc v0)), (1, .d ((cLs (cXVariable cS cI) rfl).enc v1)), (2, .d ((cLs (cXTable cI (cLs cI rfl) (cLs cI rfl) cI) rfl).enc v2))] rfl <| wpC_seq <| reg_s <| x_box (ss rfl rfl) <| x_asg (sc cB false rfl) <| seqN [(1, .d ((cLs (cXVariable cS cI) rfl).enc v1)), (2, .d ((cLs (cXTable cI (cLs cI rfl) (cLs cI rfl) cI) rfl).enc v2)), (3, .box ((cXGeo (cLs cI rfl)).enc v0))] (by kernel_rfl) <|
    xn <| wpC_seq <| reg_s <| x_asg (sc cI (1048576 : Int) rfl) <| seqN [(1, .d ((cLs (cXVariable cS cI) rfl).enc v1)), (2, .d ((cLs (cXTable cI (cLs cI rfl) (cLs cI rfl) cI) rfl).enc v2)), (3, .box ((cXGeo (cLs cI rfl)).enc v0)), (7, .d (cI.enc (1048576 : Int)))] (by kernel_rfl) <|
    xn <| wpC_seq <| reg_s <| st rfl <| ldb rfl rfl rfl rfl <| st rfl <| mvd rfl rfl <| bnd h fun x3 e4 h => st rfl <| o_call (a1 (c := (cXGeo (cLs cI rfl))) (tXGeo (tLs tK)) rfl (a1 (c := cI) tK rfl a0)) (con_laws_szGeo e4) (.inl (so1 sK so0)) <| x_asg (ss rfl rfl) <| seqN [(1, .d ((cLs (cXVariable cS cI) rfl).enc v1)), (2, .d ((cLs (cXTable cI (cLs cI rfl) (cLs cI rfl) cI) rfl).enc v2)), (3, .box ((cXGeo (cLs cI rfl)).enc v0)), (7, .d (cI.enc x3))] (by kernel_rfl) <|
    xn <| wpC_seq <| wpC_kp <| wpC_seq <| reg_s <| st rfl <| mvd rfl rfl <| st rfl <| b_lss (k := .i64) rfl rfl <| seqN [(1, .d ((cLs (cXVariable cS cI) rfl).enc v1)), (2, .d ((cLs (cXTable cI (cLs cI rfl) (cLs cI rfl) cI) rfl).enc v2)), (3, .box ((cXGeo (cLs cI rfl)).enc v0)), (7, .d (cI.enc x3)), (19, .d (cB.enc (decide (x3 < (0 : Int)))))] (by kernel_rfl) <|
    xn <| cnd rfl h (fun b6 h => wpC_seq <| reg_s <| x_asg (sc cB true rfl) <| seqN [(6, .d (cB.enc true))] (by kernel_rfl) <|
    xn <| wpC_ret <| rt <| rt <| re <| fin h (r1 (ss rfl rfl) <| r0) rfl)
    (fun b6 h => wpC_skip <| kpN [(1, .d ((cLs (cXVariable cS cI) rfl).enc v1)), (2, .d ((cLs (cXTable cI (cLs cI rfl) (cLs cI rfl) cI) rfl).enc v2)), (3, .box ((cXGeo (cLs cI rfl)).enc v0)), (7, .d (cI.enc x3))] (by kernel_rfl) <| xn <| wpC_seq <| reg_s <| st rfl <| mvd rfl rfl <| st rfl <| mvd rfl rfl <| bnd h fun x9 e10 h => st rfl <| o_call (a1 (c := (cLs (cXVariable cS cI) rfl)) (tLs (tXVariable tS tK)) rfl (a1 (c := cI) tK rfl a0)) (con_laws_szVariableS e10) (.inl (so1 sK so0)) <| x_asg (ss rfl rfl) <| seqN [(1, .d ((cLs (cXVariable cS cI) rfl).enc v1)), (2, .d ((cLs (cXTable cI (cLs cI rfl) (cLs cI rfl) cI) rfl).enc v2)), (3, .box ((cXGeo (cLs cI rfl)).enc v0)), (7, .d (cI.enc x9))] (by kernel_rfl) <|
    xn <| wpC_seq <| wpC_kp <| wpC_seq <| reg_s <| st rfl <| mvd rfl rfl <| st rfl <| b_lss (k := .i64) rfl rfl <| seqN [(1, .d ((cLs (cXVariable cS cI) rfl).enc v1)), (2, .d ((cLs (cXTable cI (cLs cI rfl) (cLs cI rfl) cI) rfl).enc v2)), (3, .box ((cXGeo (cLs cI rfl)).enc v0)), (7, .d (cI.enc x9)), (24, .d (cB.enc (decide (x9 < (0 : Int)))))] (by kernel_rfl) <|
    xn <| cnd rfl h (fun b12 h => wpC_seq <| reg_s <| x_asg (sc cB true rfl) <| seqN [(6, .d (cB.enc true))] (by kernel_rfl) <|
    xn <| wpC_ret <| rt <| rt <| re <| fin h (r1 (ss rfl rfl) <| r0) rfl)
    (fun b12 h => wpC_skip <| kpN [(1, .d ((cLs (cXVariable cS cI) rfl).enc v1)), (2, .d ((cLs (cXTable cI (cLs cI rfl) (cLs cI rfl) cI) rfl).enc v2)), (3, .box ((cXGeo (cLs cI rfl)).enc v0)), (7, .d (cI.enc x9))] (by kernel_rfl) <| xn <| wpC_seq <| reg_s <| st rfl <| mvd rfl rfl <| st rfl <| mvd rfl rfl <| bnd h fun x15 e16 h => st rfl <| o_call (a1 (c := (cLs (cXTable cI (cLs cI rfl) (cLs cI rfl) cI) rfl)) (tLs (tXTable tK (tLs tK) (tLs tK) tK)) rfl (a1 (c := cI) tK rfl a0)) (con_laws_szTableS e16) (.inl (so1 sK so0)) <| x_asg (ss rfl rfl) <| seqN [(1, .d ((cLs (cXVariable cS cI) rfl).enc v1)), (2, .d ((cLs (cXTable cI (cLs cI rfl) (cLs cI rfl) cI) rfl).enc v2)), (3, .box ((cXGeo (cLs cI rfl)).enc v0)), (7, .d (cI.enc x15))] (by kernel_rfl) <|
    xn <| wpC_seq <| wpC_kp <| wpC_seq <| reg_s <| st rfl <| mvd rfl rfl <| st rfl <| b_lss (k := .i64) rfl rfl <| seqN [(1, .d ((cLs (cXVariable cS cI) rfl).enc v1)), (2, .d ((cLs (cXTable cI (cLs cI rfl) (cLs cI rfl) cI) rfl).enc v2)), (3, .box ((cXGeo (cLs cI rfl)).enc v0)), (29, .d (cB.enc (decide (x15 < (0 : Int)))))] (by kernel_rfl) <|
    xn <| cnd rfl h (fun b18 h => wpC_seq <| reg_s <| x_asg (sc cB true rfl) <| seqN [(6, .d (cB.enc true))] (by kernel_rfl) <|
    xn <| wpC_ret <| rt <| rt <| re <| fin h (r1 (ss rfl rfl) <| r0) rfl)
    (fun b18 h => wpC_skip <| kpN [(1, .d ((cLs (cXVariable cS cI) rfl).enc v1)), (2, .d ((cLs (cXTable cI (cLs cI rfl) (cLs cI rfl) cI) rfl).enc v2)), (3, .box ((cXGeo (cLs cI rfl)).enc v0))] (by kernel_rfl) <| xn <| wpC_seq <| reg_s <| st rfl <| ldb rfl rfl rfl rfl <| bnd h fun x27 e28 h => st rfl <| o_call (a1 (c := (cXGeo (cLs cI rfl))) (tXGeo (tLs tK)) rfl a0) (con_laws_toGeo e28) (.inl (so1 (sXGeo (sLo sK)) so0)) <| st rfl <| mvd rfl rfl <| bnd h fun x29 e30 h => st rfl <| o_call (a1 (c := (cLs (cXVariable cS cI) rfl)) (tLs (tXVariable tS tK)) rfl a0) (con_laws_toVariableS e30) (.inl (so1 (sLo (sXVariable sS sK)) so0)) <| st rfl <| mvd rfl rfl <| bnd h fun x31 e32 h => st rfl <| o_call (a1 (c := (cLs (cXTable cI (cLs cI rfl) (cLs cI rfl) cI) rfl)) (tLs (tXTable tK (tLs tK) (tLs tK) tK)) rfl a0) (con_laws_toTableS e32) (.inl (so1 (sLo (sXTable sK (sLo sK) (sLo sK) sK)) so0)) <| bnd h fun x33 e34 h => st rfl <| o_call (a1 (c := (cXGeo (cLo cI))) (tXGeo (tLo tK)) rfl (a1 (c := (cLo (cXVariable cS cI))) (tLo (tXVariable tS tK)) rfl (a1 (c := (cLo (cXTable cI (cLo cI) (cLo cI) cI))) (tLo (tXTable tK (tLo tK) (tLo tK) tK)) rfl a0))) (con_spec_PlanText e34) (.inl (so1 sS (so1 sB so0))) <| x_mvt rfl <| x_ext rfl rfl <| x_ext rfl rfl <| x_asg (ss rfl rfl) <| x_asg (ss rfl rfl) <| seqN [(1, .d ((cLs (cXVariable cS cI) rfl).enc v1)), (2, .d ((cLs (cXTable cI (cLs cI rfl) (cLs cI rfl) cI) rfl).enc v2)), (3, .box ((cXGeo (cLs cI rfl)).enc v0)), (8, .d (cS.enc x33.1)), (9, .d (cB.enc x33.2))] (by kernel_rfl) <|
    xn <| wpC_seq <| reg_s <| st rfl <| ldb rfl rfl rfl rfl <| bnd h fun x37 e38 h => st rfl <| o_call (a1 (c := (cXGeo (cLs cI rfl))) (tXGeo (tLs tK)) rfl a0) (con_laws_toGeo e38) (.inl (so1 (sXGeo (sLo sK)) so0)) <| x_all (cXGeo (cLo cI)) (⟨([] : List Int)⟩ : XGeo) rfl <| x_stb (so rfl rfl) rfl (Cd.h_sz _ _) rfl <| seqN [(1, .d ((cLs (cXVariable cS cI) rfl).enc v1)), (2, .d ((cLs (cXTable cI (cLs cI rfl) (cLs cI rfl) cI) rfl).enc v2)), (3, .box ((cXGeo (cLs cI rfl)).enc v0)), (8, .d (cS.enc x33.1)), (9, .d (cB.enc x33.2)), (10, .box ((cXGeo (cLo cI)).enc x37))] (by kernel_rfl) <|
    xn <| wpC_seq <| reg_s <| st rfl <| mvd rfl rfl <| bnd h fun x41 e42 h => st rfl <| o_call (a1 (c := (cLs (cXVariable cS cI) rfl)) (tLs (tXVariable tS tK)) rfl a0) (con_laws_toVariableS e42) (.inl (so1 (sLo (sXVariable sS sK)) so0)) <| x_asg (so rfl rfl) <| seqN [(1, .d ((cLs (cXVariable cS cI) rfl).enc v1)), (2, .d ((cLs (cXTable cI (cLs cI rfl) (cLs cI rfl) cI) rfl).enc v2)), (3, .box ((cXGeo (cLs cI rfl)).enc v0)), (8, .d (cS.enc x33.1)), (9, .d (cB.enc x33.2)), (10, .box ((cXGeo (cLo cI)).enc x37)), (11, .d ((cLo (cXVariable cS cI)).enc x41))] (by kernel_rfl) <|
    xn <| wpC_seq <| reg_s <| st rfl <| mvd rfl rfl <| bnd h fun x45 e46 h => st rfl <| o_call (a1 (c := (cLs (cXTable cI (cLs cI rfl) (cLs cI rfl) cI) rfl)) (tLs (tXTable tK (tLs tK) (tLs tK) tK)) rfl a0) (con_laws_toTableS e46) (.inl (so1 (sLo (sXTable sK (sLo sK) (sLo sK) sK)) so0)) <| x_asg (so rfl rfl) <| seqN [(1, .d ((cLs (cXVariable cS cI) rfl).enc v1)), (2, .d ((cLs (cXTable cI (cLs cI rfl) (cLs cI rfl) cI) rfl).enc v2)), (3, .box ((cXGeo (cLs cI rfl)).enc v0)), (8, .d (cS.enc x33.1)), (9, .d (cB.enc x33.2)), (10, .box ((cXGeo (cLo cI)).enc x37)), (11, .d ((cLo (cXVariable cS cI)).enc x41)), (12, .d ((cLo (cXTable cI (cLo cI) (cLo cI) cI)).enc x45))] (by kernel_rfl) <|
    xn <| wpC_seq <| reg_s <| st rfl <| ldbo rfl rfl rfl rfl <| st rfl <| mvo rfl rfl <| st rfl <| mvo rfl rfl <| bnd h fun x49 e50 h => st rfl <| o_call (a1 (c := (cXGeo (cLo cI))) (tXGeo (tLo tK)) rfl (a1 (c := (cLo (cXVariable cS cI))) (tLo (tXVariable tS tK)) rfl (a1 (c := (cLo (cXTable cI (cLo cI) (cLo cI) cI))) (tLo (tXTable tK (tLo tK) (tLo tK) tK)) rfl a0))) (con_impl_PlanText e50) (.inl (so1 sS (so1 sB so0))) <| x_mvt rfl <| x_ext rfl rfl <| x_ext rfl rfl <| x_asg (ss rfl rfl) <| x_asg (ss rfl rfl) <| seqN [(1, .d ((cLs (cXVariable cS cI) rfl).enc v1)), (2, .d ((cLs (cXTable cI (cLs cI rfl) (cLs cI rfl) cI) rfl).enc v2)), (3, .box ((cXGeo (cLs cI rfl)).enc v0)), (8, .d (cS.enc x33.1)), (9, .d (cB.enc x33.2)), (10, .box ((cXGeo (cLo cI)).enc x37)), (11, .d ((cLo (cXVariable cS cI)).enc x41)), (12, .d ((cLo (cXTable cI (cLo cI) (cLo cI) cI)).enc x45)), (13, .d (cS.enc x49.1)), (14, .d (cB.enc x49.2))] (by kernel_rfl) <|
    xn <| wpC_seq <| wpC_kp <| wpC_seq <| reg_s <| st rfl <| mvd rfl rfl <| st rfl <| mvd rfl rfl <| st rfl <| b_sne rfl rfl <| st rfl <| mvd rfl rfl <| ite_k h (fun b55 h => gf rfl b55 <| gf rfl b55 <| gf rfl b55 <| st rfl <| pick1 rfl b55 (cd := cB) (v := true) rfl rfl <| seqN [(1, .d ((cLs (cXVariable cS cI) rfl).enc v1)), (2, .d ((cLs (cXTable cI (cLs cI rfl) (cLs cI rfl) cI) rfl).enc v2)), (3, .box ((cXGeo (cLs cI rfl)).enc v0)), (10, .box ((cXGeo (cLo cI)).enc x37)), (11, .d ((cLo (cXVariable cS cI)).enc x41)), (12, .d ((cLo (cXTable cI (cLo cI) (cLo cI) cI)).enc x45)), (60, .d (cB.enc true))] (by kernel_rfl) <|
    xn <| cnd1 rfl rfl <| wpC_seq <| reg_s <| x_asg (sc cB false rfl) <| seqN [(6, .d (cB.enc false))] (by kernel_rfl) <|
    xn <| wpC_ret <| rt <| rt <| re <| fin h (r1 (ss rfl rfl) <| r0) rfl)
    (fun b55 h => gt' rfl b55 <| st rfl <| mvd rfl rfl <| gt' rfl b55 <| st rfl <| mvd rfl rfl <| gt' rfl b55 <| st rfl <| eqb1 rfl rfl <| st rfl <| pick0 rfl b55 (cd := cB) (v := (x49.2 != x33.2)) rfl rfl <| seqN [(1, .d ((cLs (cXVariable cS cI) rfl).enc v1)), (2, .d ((cLs (cXTable cI (cLs cI rfl) (cLs cI rfl) cI) rfl).enc v2)), (3, .box ((cXGeo (cLs cI rfl)).enc v0)), (10, .box ((cXGeo (cLo cI)).enc x37)), (11, .d ((cLo (cXVariable cS cI)).enc x41)), (12, .d ((cLo (cXTable cI (cLo cI) (cLo cI) cI)).enc x45)), (60, .d (cB.enc (x49.2 != x33.2)))] (by kernel_rfl) <|
    xn <| cnd rfl h (fun b56 h => wpC_seq <| reg_s <| x_asg (sc cB false rfl) <| seqN [(6, .d (cB.enc false))] (by kernel_rfl) <|
    xn <| wpC_ret <| rt <| rt <| re <| fin h (r1 (ss rfl rfl) <| r0) rfl)
    (fun b56 h => wpC_skip <| kpN [(1, .d ((cLs (cXVariable cS cI) rfl).enc v1)), (2, .d ((cLs (cXTable cI (cLs cI rfl) (cLs cI rfl) cI) rfl).enc v2)), (3, .box ((cXGeo (cLs cI rfl)).enc v0)), (10, .box ((cXGeo (cLo cI)).enc x37)), (11, .d ((cLo (cXVariable cS cI)).enc x41)), (12, .d ((cLo (cXTable cI (cLo cI) (cLo cI) cI)).enc x45))] (by kernel_rfl) <| xn <| wpC_seq <| wpC_kp <| wpC_seq <| drw_s <| pst rfl <| ldbo rfl rfl rfl rfl ⟨rfl, pst rfl <| ldb rfl rfl rfl rfl ⟨rfl, bndp h fun x70 e71 h => pst rfl <| o_call (a1 (c := (cXGeo (cLs cI rfl))) (tXGeo (tLs tK)) rfl a0) (con_laws_toGeo e71) (.inl (so1 (sXGeo (sLo sK)) so0)) ⟨rfl, bndp h fun x72 e73 h => pst rfl <| o_call (a1 (c := (cXGeo (cLo cI))) (tXGeo (tLo tK)) rfl (a1 (c := (cXGeo (cLo cI))) (tXGeo (tLo tK)) rfl a0)) (con_laws_eqGeo e73) (.inl (so1 sB so0)) ⟨rfl, pst rfl <| o_nt rfl ⟨rfl, preN <| seqN [(1, .d ((cLs (cXVariable cS cI) rfl).enc v1)), (2, .d ((cLs (cXTable cI (cLs cI rfl) (cLs cI rfl) cI) rfl).enc v2)), (11, .d ((cLo (cXVariable cS cI)).enc x41)), (12, .d ((cLo (cXTable cI (cLo cI) (cLo cI) cI)).enc x45)), (65, .d (cB.enc (!x72)))] (by kernel_rfl) <|
    xn <| cnd rfl h (fun b74 h => wpC_seq <| reg_s <| x_asg (sc cB false rfl) <| seqN [(6, .d (cB.enc false))] (by kernel_rfl) <|
    xn <| wpC_ret <| rt <| rt <| re <| fin h (r1 (ss rfl rfl) <| r0) rfl)
    (fun b74 h => wpC_skip <| kpN [(1, .d ((cLs (cXVariable cS cI) rfl).enc v1)), (2, .d ((cLs (cXTable cI (cLs cI rfl) (cLs cI rfl) cI) rfl).enc v2)), (11, .d ((cLo (cXVariable cS cI)).enc x41)), (12, .d ((cLo (cXTable cI (cLo cI) (cLo cI) cI)).enc x45))] (by kernel_rfl) <| xn <| wpC_seq <| wpC_kp <| wpC_seq <| reg_s <| st rfl <| mvo rfl rfl <| st rfl <| mvd rfl rfl <| bnd h fun x88 e89 h => st rfl <| o_call (a1 (c := (cLs (cXVariable cS cI) rfl)) (tLs (tXVariable tS tK)) rfl a0) (con_laws_toVariableS e89) (.inl (so1 (sLo (sXVariable sS sK)) so0)) <| bnd h fun x90 e91 h => st rfl <| o_call (a1 (c := (cLo (cXVariable cS cI))) (tLo (tXVariable tS tK)) rfl (a1 (c := (cLo (cXVariable cS cI))) (tLo (tXVariable tS tK)) rfl a0)) (con_laws_eqVariableS e91) (.inl (so1 sB so0)) <| st rfl <| o_nt rfl <| seqN [(2, .d ((cLs (cXTable cI (cLs cI rfl) (cLs cI rfl) cI) rfl).enc v2)), (12, .d ((cLo (cXTable cI (cLo cI) (cLo cI) cI)).enc x45)), (70, .d (cB.enc (!x90)))] (by kernel_rfl) <|
    xn <| cnd rfl h (fun b92 h => wpC_seq <| reg_s <| x_asg (sc cB false rfl) <| seqN [(6, .d (cB.enc false))] (by kernel_rfl) <|
    xn <| wpC_ret <| rt <| rt <| re <| fin h (r1 (ss rfl rfl) <| r0) rfl)
    (fun b92 h => wpC_skip <| kpN [(2, .d ((cLs (cXTable cI (cLs cI rfl) (cLs cI rfl) cI) rfl).enc v2)), (12, .d ((cLo (cXTable cI (cLo cI) (cLo cI) cI)).enc x45))] (by kernel_rfl) <| xn <| wpC_seq <| wpC_kp <| wpC_seq <| reg_s <| st rfl <| mvo rfl rfl <| st rfl <| mvd rfl rfl <| bnd h fun x106 e107 h => st rfl <| o_call (a1 (c := (cLs (cXTable cI (cLs cI rfl) (cLs cI rfl) cI) rfl)) (tLs (tXTable tK (tLs tK) (tLs tK) tK)) rfl a0) (con_laws_toTableS e107) (.inl (so1 (sLo (sXTable sK (sLo sK) (sLo sK) sK)) so0)) <| bnd h fun x108 e109 h => st rfl <| o_call (a1 (c := (cLo (cXTable cI (cLo cI) (cLo cI) cI))) (tLo (tXTable tK (tLo tK) (tLo tK) tK)) rfl (a1 (c := (cLo (cXTable cI (cLo cI) (cLo cI) cI))) (tLo (tXTable tK (tLo tK) (tLo tK) tK)) rfl a0)) (con_laws_eqTableS e109) (.inl (so1 sB so0)) <| st rfl <| o_nt rfl <| seqN [(75, .d (cB.enc (!x108)))] (by kernel_rfl) <|
    xn <| cnd rfl h (fun b110 h => wpC_seq <| reg_s <| x_asg (sc cB false rfl) <| seqN [(6, .d (cB.enc false))] (by kernel_rfl) <|
    xn <| wpC_ret <| rt <| rt <| re <| fin h (r1 (ss rfl rfl) <| r0) rfl)
    (fun b110 h => wpC_skip <| kpN [] (by kernel_rfl) <| xn <| wpC_seq <| reg_s <| x_asg (sc cB true rfl) <| seqN [(6, .d (cB.enc true))] (by kernel_rfl) <|
    xn <| wpC_ret <| re <| fin h (r1 (ss rfl rfl) <| r0) rfl)))⟩⟩⟩⟩⟩)))))
end AS.W
