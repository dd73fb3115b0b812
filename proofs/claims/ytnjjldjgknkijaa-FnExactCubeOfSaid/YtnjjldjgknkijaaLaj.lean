/- The program computes the plain functions. No condition. -/
import Derived.Test.YtnjjldjgknkijaaSaj
import Derived.Test.YtnjjldjgknkijaaProg
import Derived.Test.YtnjjldjgknkijaaLaa
import Derived.Test.YtnjjldjgknkijaaLab
import Derived.Test.YtnjjldjgknkijaaLad
import Derived.Test.YtnjjldjgknkijaaLai
set_option maxRecDepth 100000
set_option linter.unusedVariables false
set_option linter.unusedSimpArgs false
namespace AS.W
open Go Go.Proofs
def rs_spec_cbOf (r : XCube) : List D := [(cXCube (cLo cI) (cLo cI)).enc r]
def m88 : MC := .seq (.reg [⟨some 4, .alloc (.agg [.slice true [], .slice true []]), none⟩] [0, 1, 4])
  (.seq (.reg [⟨some 12, .mv (.t 0), none⟩,
    ⟨some 13, .call 55 [(.t 12)], none⟩,
    ⟨some 14, .mv (.t 0), none⟩,
    ⟨some 15, .call 59 [(.t 14)], none⟩,
    ⟨some 16, .mk (.int .i64 0) (.t 15), none⟩,
    ⟨some 17, .bld [.slice true [], .slice true []] [(0, (.t 13)), (1, (.t 16))], none⟩,
    ⟨some 5, .alloc (.agg [.slice true [], .slice true []]), none⟩,
    ⟨none, .st 5 (.t 17) 2, none⟩] [0, 1, 4, 5])
  (.seq (.kp [4, 5] (.seq (.reg [⟨some 18, .mv (.t 0), none⟩,
    ⟨some 19, .call 86 [(.t 18)], none⟩,
    ⟨some 20, .len false (.t 19), none⟩,
    ⟨some 21, .mv (.c (.int .i64 0)), none⟩] [0, 1, 4, 5, 19, 20, 21])
  (.blk 0 (.loop (.seq (.reg [⟨some 22, .bin .lss (.t 21) (.t 20), none⟩] [0, 1, 4, 5, 19, 20, 21, 22])
  (.seq (.kp [0, 1, 4, 5, 19, 20, 21] (.cond (.t 22) (.skip) (.exit 0)))
  (.seq (.kp [0, 1, 4, 5, 19, 20, 21] (.blk 1 (.seq (.reg [⟨some 23, .mv (.t 21), none⟩,
    ⟨some 24, .ia 19 (.t 21) 1, none⟩,
    ⟨some 25, .ld 24 1 false, none⟩,
    ⟨some 6, .asg (.t 23), none⟩,
    ⟨some 7, .asg (.t 25), none⟩] [0, 1, 4, 5, 6, 7, 19, 20, 21])
  (.seq (.reg [⟨some 26, .mv (.t 0), none⟩,
    ⟨some 27, .mv (.t 7), none⟩,
    ⟨some 28, .call 60 [(.t 26), (.t 27)], none⟩,
    ⟨some 8, .asg (.t 28), none⟩] [0, 1, 4, 5, 6, 8, 19, 20, 21])
  (.seq (.reg [⟨some 9, .asg (.c (.int .i64 0)), none⟩] [0, 1, 4, 5, 6, 8, 9, 19, 20, 21])
  (.blk 2 (.loop (.seq (.kp [0, 1, 4, 5, 6, 8, 9, 19, 20, 21] (.seq (.reg [⟨some 29, .mv (.t 9), none⟩,
    ⟨some 30, .mv (.t 0), none⟩,
    ⟨some 31, .len false (.t 30), none⟩,
    ⟨some 32, .cvi .u64 (.t 31), none⟩,
    ⟨some 33, .bin .shl (.c (.int .i64 1)) (.t 32), none⟩,
    ⟨some 34, .bin .lss (.t 29) (.t 33), none⟩] [0, 1, 4, 5, 6, 8, 9, 19, 20, 21, 34])
  (.cond (.t 34) (.skip) (.exit 2))))
  (.seq (.kp [0, 1, 4, 5, 6, 8, 9, 19, 20, 21] (.blk 3 (.seq (.reg [⟨some 37, .mv (.t 8), none⟩,
    ⟨some 38, .call 55 [(.t 37)], none⟩,
    ⟨some 10, .asg (.t 38), none⟩] [0, 1, 4, 5, 6, 8, 9, 10, 19, 20, 21])
  (.seq (.kp [0, 1, 4, 5, 6, 8, 9, 10, 19, 20, 21] (.seq (.reg [⟨some 39, .mv (.t 10), none⟩,
    ⟨some 40, .len false (.t 39), none⟩,
    ⟨some 41, .mv (.c (.int .i64 0)), none⟩] [0, 1, 4, 5, 6, 8, 9, 10, 19, 20, 21, 40, 41])
  (.blk 4 (.loop (.seq (.reg [⟨some 42, .bin .lss (.t 41) (.t 40), none⟩] [0, 1, 4, 5, 6, 8, 9, 10, 19, 20, 21, 40, 41, 42])
  (.seq (.kp [0, 1, 4, 5, 6, 8, 9, 10, 19, 20, 21, 40, 41] (.cond (.t 42) (.skip) (.exit 4)))
  (.seq (.kp [0, 1, 4, 5, 6, 8, 9, 10, 19, 20, 21, 40, 41] (.blk 5 (.seq (.reg [⟨some 43, .mv (.t 41), none⟩,
    ⟨some 11, .asg (.t 43), none⟩] [0, 1, 4, 5, 6, 8, 9, 10, 11, 19, 20, 21, 40, 41])
  (.seq (.reg [⟨some 44, .mv (.t 9), none⟩,
    ⟨some 45, .mv (.t 11), none⟩,
    ⟨some 46, .cvi .u64 (.t 45), none⟩,
    ⟨some 47, .bin .shr (.t 44) (.t 46), none⟩,
    ⟨some 48, .bin .and (.t 47) (.c (.int .i64 1)), none⟩,
    ⟨some 49, .bin .eql (.t 48) (.c (.int .i64 1)), none⟩] [0, 1, 4, 5, 6, 8, 9, 10, 11, 19, 20, 21, 40, 41, 49])
  (.cond (.t 49) (.reg [⟨some 50, .mv (.t 10), none⟩,
    ⟨some 51, .mv (.t 11), none⟩,
    ⟨some 52, .mv (.t 0), none⟩,
    ⟨some 53, .mv (.t 11), none⟩,
    ⟨some 54, .ia 52 (.t 53) 1, none⟩,
    ⟨some 55, .ld 54 1 false, none⟩,
    ⟨some 56, .ia 50 (.t 51) 1, none⟩,
    ⟨none, .st 56 (.t 55) 1, none⟩] [0, 1, 4, 5, 6, 8, 9, 10, 19, 20, 21, 40, 41]) (.skip))))))
  (.reg [⟨some 57, .bin .add (.t 41) (.c (.int .i64 1)), none⟩,
    ⟨some 41, .mv (.t 57), none⟩] [0, 1, 4, 5, 6, 8, 9, 10, 19, 20, 21, 40, 41]))))))))
  (.drw [⟨0, ⟨some 58, .fa 5 1 1, none⟩, [59, 60, 61, 62, 63, 64, 65, 66, 67, 68, 69, 70]⟩,
    ⟨1, ⟨some 59, .ld 58 1 false, none⟩, [60, 61, 62, 63, 64, 65, 66, 67, 68, 69, 70]⟩,
    ⟨2, ⟨some 60, .mv (.t 0), none⟩, [58, 59, 61, 62, 63, 64, 65, 66, 67, 68, 69, 70]⟩,
    ⟨3, ⟨some 61, .mv (.t 10), none⟩, [58, 59, 60, 62, 63, 64, 65, 66, 67, 68, 69, 70]⟩,
    ⟨4, ⟨some 62, .call 82 [(.t 60), (.t 61)], none⟩, [58, 59, 63, 64, 65, 66, 67, 68, 69, 70]⟩,
    ⟨5, ⟨some 63, .ia 59 (.t 62) 1, none⟩, [64, 65, 66, 67, 68, 69, 70]⟩,
    ⟨6, ⟨some 64, .ld 63 1 false, none⟩, [65, 66, 67, 68, 69, 70]⟩,
    ⟨7, ⟨some 65, .mv (.t 1), none⟩, [58, 59, 60, 61, 62, 63, 64, 66, 67, 68, 69, 70]⟩,
    ⟨8, ⟨some 66, .mv (.t 6), none⟩, [58, 59, 60, 61, 62, 63, 64, 65, 67, 68, 69, 70]⟩,
    ⟨9, ⟨some 67, .ia 65 (.t 66) 1, none⟩, [58, 59, 60, 61, 62, 63, 64, 68, 69, 70]⟩,
    ⟨10, ⟨some 68, .ld 67 1 false, none⟩, [58, 59, 60, 61, 62, 63, 64, 69, 70]⟩,
    ⟨11, ⟨some 69, .bin .add (.t 64) (.t 68), none⟩, [70]⟩,
    ⟨12, ⟨some 70, .ia 59 (.t 62) 1, none⟩, []⟩]
    [(13, ⟨none, .st 70 (.t 69) 1, none⟩)] [0, 1, 4, 5, 6, 8, 9, 19, 20, 21])))))
  (.reg [⟨some 35, .mv (.t 9), none⟩,
    ⟨some 36, .bin .add (.t 35) (.c (.int .i64 1)), none⟩,
    ⟨some 9, .asg (.t 36), none⟩] [0, 1, 4, 5, 6, 8, 9, 19, 20, 21]))))))))))
  (.reg [⟨some 71, .bin .add (.t 21) (.c (.int .i64 1)), none⟩,
    ⟨some 21, .mv (.t 71), none⟩] [0, 1, 4, 5, 19, 20, 21]))))))))
  (.seq (.reg [⟨some 72, .ld 5 2 true, none⟩,
    ⟨none, .st 4 (.t 72) 2, none⟩] [4])
  (.ret))))
theorem con_spec_cbOf {v0 : (List Int)} {v1 : (List Int)} {r : XCube} (h : sh_spec_cbOf v0 v1 = some r) : Con Try.prog 88 [(cLs cI rfl).enc v0, (cLs cI rfl).enc v1] [] (rs_spec_cbOf r) := by
  delta sh_spec_cbOf at h
  refine top (out := none) (f := Try.f88) (m := m88) (rs := [.c 4 2 true]) (by kernel_rfl) rfl (by kernel_rfl) (by kernel_rfl) (by kernel_rfl) (by kernel_rfl) (by kernel_rfl) ?_
  exact
   ini [(0, .d ((cLs cI rfl).enc v0)), (1, .d ((cLs cI rfl).enc v1))] rfl <| wpC_seq <| reg_s <| x_all (cXCube (cLo cI) (cLo cI)) (⟨([] : List Int), ([] : List Int)⟩ : XCube) rfl <| seqN [(0, .d ((cLs cI rfl).enc v0)), (1, .d ((cLs cI rfl).enc v1)), (4, .box ((cXCube (cLo cI) (cLo cI)).enc (⟨([] : List Int), ([] : List Int)⟩ : XCube)))] (by kernel_rfl) <|
    xn <| wpC_seq <| reg_s <| st rfl <| mvd rfl rfl <| bnd h fun x7 e8 h => st rfl <| o_call (a1 (c := (cLs cI rfl)) (tLs tK) rfl a0) (con_spec_l1Own e8) (.inl (so1 (sLo sK) so0)) <| st rfl <| mvd rfl rfl <| bnd h fun x9 e10 h => st rfl <| o_call (a1 (c := (cLs cI rfl)) (tLs tK) rfl a0) (con_spec_cbCount e10) (.inl (so1 sK so0)) <| mkO_k h fun i11 l12 h => st rfl <| o_mk (c := cI) (a0 := (0 : Int)) rfl (k := .i64) rfl i11 l12 <| x_bld ((cXCube (cLo cI) (cLo cI)).enc (⟨x7, (List.replicate (x9).toNat (0 : Int))⟩ : XCube)) (t1 (so rfl rfl) rfl (t1 (so rfl rfl) rfl t0)) rfl rfl <| x_all (cXCube (cLo cI) (cLo cI)) (⟨([] : List Int), ([] : List Int)⟩ : XCube) rfl <| x_stb (so rfl rfl) rfl (Cd.h_sz _ _) rfl <| seqN [(0, .d ((cLs cI rfl).enc v0)), (1, .d ((cLs cI rfl).enc v1)), (4, .box ((cXCube (cLo cI) (cLo cI)).enc (⟨([] : List Int), ([] : List Int)⟩ : XCube))), (5, .box ((cXCube (cLo cI) (cLo cI)).enc (⟨x7, (List.replicate (x9).toNat (0 : Int))⟩ : XCube)))] (by kernel_rfl) <|
    xn <| wpC_seq <| wpC_kp <| wpC_seq <| reg_s <| st rfl <| mvd rfl rfl <| bnd h fun x11136 e11137 h => st rfl <| o_call (a1 (c := (cLs cI rfl)) (tLs tK) rfl a0) (con_spec_cbBase e11137) (.inl (so1 (sLo sK) so0)) <| stw rfl <| leno rfl fun l11138 => st rfl <| mvc cI (0 : Int) rfl <| seqN [(0, .d ((cLs cI rfl).enc v0)), (1, .d ((cLs cI rfl).enc v1)), (4, .box ((cXCube (cLo cI) (cLo cI)).enc (⟨([] : List Int), ([] : List Int)⟩ : XCube))), (5, .box ((cXCube (cLo cI) (cLo cI)).enc (⟨x7, (List.replicate (x9).toNat (0 : Int))⟩ : XCube))), (19, .d ((cLo cI).enc x11136)), (20, .d (cI.enc (x11136.length : Int))), (21, .d (cI.enc (0 : Int)))] (by kernel_rfl) <|
    xn <| wpC_blk <| lpR (fun (k11140 : Nat) (s11139 : XCube) => [(0, .d ((cLs cI rfl).enc v0)), (1, .d ((cLs cI rfl).enc v1)), (4, .box ((cXCube (cLo cI) (cLo cI)).enc (⟨([] : List Int), ([] : List Int)⟩ : XCube))), (5, .box ((cXCube (cLo cI) (cLo cI)).enc s11139)), (19, .d ((cLo cI).enc x11136)), (20, .d (cI.enc (x11136.length : Int))), (21, .d (cI.enc (k11140 : Int)))]) (⟨x7, (List.replicate (x9).toNat (0 : Int))⟩ : XCube) rfl h
    (fun G18550 s11139 h => wpC_seq <| reg_s <| st rfl <| b_lss (k := .i64) rfl rfl <| seqN [(0, .d ((cLs cI rfl).enc v0)), (1, .d ((cLs cI rfl).enc v1)), (4, .box ((cXCube (cLo cI) (cLo cI)).enc (⟨([] : List Int), ([] : List Int)⟩ : XCube))), (5, .box ((cXCube (cLo cI) (cLo cI)).enc s11139)), (19, .d ((cLo cI).enc x11136)), (20, .d (cI.enc (x11136.length : Int))), (21, .d (cI.enc (x11136.length : Int))), (22, .d (cB.enc (decide ((x11136.length : Int) < (x11136.length : Int)))))] (by kernel_rfl) <|
    xn <| wpC_seq <| wpC_kp <| cnd0 rfl (dlf _) <| wpC_exit <| xt <| xt <| xt <| xb <| kpN [(4, .box ((cXCube (cLo cI) (cLo cI)).enc (⟨([] : List Int), ([] : List Int)⟩ : XCube))), (5, .box ((cXCube (cLo cI) (cLo cI)).enc s11139))] (by kernel_rfl) <| xn <| wpC_seq <| reg_s <| st rfl <| ldbo rfl rfl rfl rfl <| x_stb (sb rfl rfl) rfl (Cd.h_sz _ _) rfl <| seqN [(4, .box ((cXCube (cLo cI) (cLo cI)).enc s11139))] (by kernel_rfl) <|
    xn <| wpC_ret <| re <| fin h (r2 rfl rfl rfl <| r0) rfl)
    (fun G18550 nx18548 k11140 s11139 x11141 hk11142 hx11143 hn18549 h => wpC_seq <| reg_s <| st rfl <| b_lss (k := .i64) rfl rfl <| seqN [(0, .d ((cLs cI rfl).enc v0)), (1, .d ((cLs cI rfl).enc v1)), (4, .box ((cXCube (cLo cI) (cLo cI)).enc (⟨([] : List Int), ([] : List Int)⟩ : XCube))), (5, .box ((cXCube (cLo cI) (cLo cI)).enc s11139)), (19, .d ((cLo cI).enc x11136)), (20, .d (cI.enc (x11136.length : Int))), (21, .d (cI.enc (k11140 : Int))), (22, .d (cB.enc (decide ((k11140 : Int) < (x11136.length : Int)))))] (by kernel_rfl) <|
    xn <| wpC_seq <| wpC_kp <| cnd1 rfl (dlt hk11142) <| wpC_skip <| kpN [(0, .d ((cLs cI rfl).enc v0)), (1, .d ((cLs cI rfl).enc v1)), (4, .box ((cXCube (cLo cI) (cLo cI)).enc (⟨([] : List Int), ([] : List Int)⟩ : XCube))), (5, .box ((cXCube (cLo cI) (cLo cI)).enc s11139)), (19, .d ((cLo cI).enc x11136)), (20, .d (cI.enc (x11136.length : Int))), (21, .d (cI.enc (k11140 : Int)))] (by kernel_rfl) <| xn <| wpC_seq <| wpC_kp <| wpC_blk <| wpC_seq <| reg_s <| st rfl <| mvd rfl rfl <| st rfl <| iao rfl rfl (Int.natCast_nonneg _) hx11143 rfl <| st rfl <| lda rfl rfl (Gt.idx hx11143 Gt.nil) rfl rfl rfl <| x_asg (ss rfl rfl) <| x_asg (ss rfl rfl) <| seqN [(0, .d ((cLs cI rfl).enc v0)), (1, .d ((cLs cI rfl).enc v1)), (4, .box ((cXCube (cLo cI) (cLo cI)).enc (⟨([] : List Int), ([] : List Int)⟩ : XCube))), (5, .box ((cXCube (cLo cI) (cLo cI)).enc s11139)), (6, .d (cI.enc (k11140 : Int))), (7, .d (cI.enc x11141)), (19, .d ((cLo cI).enc x11136)), (20, .d (cI.enc (x11136.length : Int))), (21, .d (cI.enc (k11140 : Int)))] (by kernel_rfl) <|
    xn <| wpC_seq <| reg_s <| st rfl <| mvd rfl rfl <| st rfl <| mvd rfl rfl <| bnd h fun x20404 e20405 h => st rfl <| o_call (a1 (c := (cLs cI rfl)) (tLs tK) rfl (a1 (c := cI) tK rfl a0)) (con_spec_cbIndices e20405) (.inl (so1 (sLo sK) so0)) <| x_asg (so rfl rfl) <| seqN [(0, .d ((cLs cI rfl).enc v0)), (1, .d ((cLs cI rfl).enc v1)), (4, .box ((cXCube (cLo cI) (cLo cI)).enc (⟨([] : List Int), ([] : List Int)⟩ : XCube))), (5, .box ((cXCube (cLo cI) (cLo cI)).enc s11139)), (6, .d (cI.enc (k11140 : Int))), (8, .d ((cLo cI).enc x20404)), (19, .d ((cLo cI).enc x11136)), (20, .d (cI.enc (x11136.length : Int))), (21, .d (cI.enc (k11140 : Int)))] (by kernel_rfl) <|
    xn <| wpC_seq <| reg_s <| x_asg (sc cI (0 : Int) rfl) <| seqN [(0, .d ((cLs cI rfl).enc v0)), (1, .d ((cLs cI rfl).enc v1)), (4, .box ((cXCube (cLo cI) (cLo cI)).enc (⟨([] : List Int), ([] : List Int)⟩ : XCube))), (5, .box ((cXCube (cLo cI) (cLo cI)).enc s11139)), (6, .d (cI.enc (k11140 : Int))), (8, .d ((cLo cI).enc x20404)), (9, .d (cI.enc (0 : Int))), (19, .d ((cLo cI).enc x11136)), (20, .d (cI.enc (x11136.length : Int))), (21, .d (cI.enc (k11140 : Int)))] (by kernel_rfl) <|
    xn <| wpC_blk <| lpF (fun (s20406 : (XCube × Int)) => [(0, .d ((cLs cI rfl).enc v0)), (1, .d ((cLs cI rfl).enc v1)), (4, .box ((cXCube (cLo cI) (cLo cI)).enc (⟨([] : List Int), ([] : List Int)⟩ : XCube))), (5, .box ((cXCube (cLo cI) (cLo cI)).enc s20406.1)), (6, .d (cI.enc (k11140 : Int))), (8, .d ((cLo cI).enc x20404)), (9, .d (cI.enc s20406.2)), (19, .d ((cLo cI).enc x11136)), (20, .d (cI.enc (x11136.length : Int))), (21, .d (cI.enc (k11140 : Int)))]) (s11139, (0 : Int)) rfl h
    fun G21639 nx21637 s20406 hn21638 h => wpC_seq <| wpC_kp <| wpC_seq <| reg_s <| st rfl <| mvd rfl rfl <| st rfl <| mvd rfl rfl <| stw rfl <| lens rfl fun l21653 => ckK_k h fun i21654 h => st rfl <| o_cvi (k := .i64) (k' := .u64) rfl i21654 <| ck_k h fun i21655 h => ckI_k h fun i21656 h => st rfl <| b_shl (k := .i64) (k' := .u64) rfl rfl i21655 rfl i21656 <| st rfl <| b_lss (k := .i64) rfl rfl <| seqN [(0, .d ((cLs cI rfl).enc v0)), (1, .d ((cLs cI rfl).enc v1)), (4, .box ((cXCube (cLo cI) (cLo cI)).enc (⟨([] : List Int), ([] : List Int)⟩ : XCube))), (5, .box ((cXCube (cLo cI) (cLo cI)).enc s20406.1)), (6, .d (cI.enc (k11140 : Int))), (8, .d ((cLo cI).enc x20404)), (9, .d (cI.enc s20406.2)), (19, .d ((cLo cI).enc x11136)), (20, .d (cI.enc (x11136.length : Int))), (21, .d (cI.enc (k11140 : Int))), (34, .d (cB.enc (decide (s20406.2 < ((1 : Int) * 2 ^ ((v0.length : Int)).toNat)))))] (by kernel_rfl) <|
    xn <| cnd rfl h (fun b21657 h => wpC_skip <| kpN [(0, .d ((cLs cI rfl).enc v0)), (1, .d ((cLs cI rfl).enc v1)), (4, .box ((cXCube (cLo cI) (cLo cI)).enc (⟨([] : List Int), ([] : List Int)⟩ : XCube))), (5, .box ((cXCube (cLo cI) (cLo cI)).enc s20406.1)), (6, .d (cI.enc (k11140 : Int))), (8, .d ((cLo cI).enc x20404)), (9, .d (cI.enc s20406.2)), (19, .d ((cLo cI).enc x11136)), (20, .d (cI.enc (x11136.length : Int))), (21, .d (cI.enc (k11140 : Int)))] (by kernel_rfl) <| xn <| wpC_seq <| wpC_kp <| wpC_blk <| wpC_seq <| reg_s <| st rfl <| mvo rfl rfl <| bnd h fun x21957 e21958 h => st rfl <| o_call (a1 (c := (cLo cI)) (tLo tK) rfl a0) (con_spec_l1Own e21958) (.inl (so1 (sLo sK) so0)) <| x_asg (so rfl rfl) <| seqN [(0, .d ((cLs cI rfl).enc v0)), (1, .d ((cLs cI rfl).enc v1)), (4, .box ((cXCube (cLo cI) (cLo cI)).enc (⟨([] : List Int), ([] : List Int)⟩ : XCube))), (5, .box ((cXCube (cLo cI) (cLo cI)).enc s20406.1)), (6, .d (cI.enc (k11140 : Int))), (8, .d ((cLo cI).enc x20404)), (9, .d (cI.enc s20406.2)), (10, .d ((cLo cI).enc x21957)), (19, .d ((cLo cI).enc x11136)), (20, .d (cI.enc (x11136.length : Int))), (21, .d (cI.enc (k11140 : Int)))] (by kernel_rfl) <|
    xn <| wpC_seq <| wpC_kp <| wpC_seq <| reg_s <| st rfl <| mvo rfl rfl <| stw rfl <| leno rfl fun l22102 => st rfl <| mvc cI (0 : Int) rfl <| seqN [(0, .d ((cLs cI rfl).enc v0)), (1, .d ((cLs cI rfl).enc v1)), (4, .box ((cXCube (cLo cI) (cLo cI)).enc (⟨([] : List Int), ([] : List Int)⟩ : XCube))), (5, .box ((cXCube (cLo cI) (cLo cI)).enc s20406.1)), (6, .d (cI.enc (k11140 : Int))), (8, .d ((cLo cI).enc x20404)), (9, .d (cI.enc s20406.2)), (10, .d ((cLo cI).enc x21957)), (19, .d ((cLo cI).enc x11136)), (20, .d (cI.enc (x11136.length : Int))), (21, .d (cI.enc (k11140 : Int))), (40, .d (cI.enc (x21957.length : Int))), (41, .d (cI.enc (0 : Int)))] (by kernel_rfl) <|
    xn <| wpC_blk <| lpR (fun (k22104 : Nat) (s22103 : (List Int)) => [(0, .d ((cLs cI rfl).enc v0)), (1, .d ((cLs cI rfl).enc v1)), (4, .box ((cXCube (cLo cI) (cLo cI)).enc (⟨([] : List Int), ([] : List Int)⟩ : XCube))), (5, .box ((cXCube (cLo cI) (cLo cI)).enc s20406.1)), (6, .d (cI.enc (k11140 : Int))), (8, .d ((cLo cI).enc x20404)), (9, .d (cI.enc s20406.2)), (10, .d ((cLo cI).enc s22103)), (19, .d ((cLo cI).enc x11136)), (20, .d (cI.enc (x11136.length : Int))), (21, .d (cI.enc (k11140 : Int))), (40, .d (cI.enc (x21957.length : Int))), (41, .d (cI.enc (k22104 : Int)))]) x21957 rfl h
    (fun G22196 s22103 h => wpC_seq <| reg_s <| st rfl <| b_lss (k := .i64) rfl rfl <| seqN [(0, .d ((cLs cI rfl).enc v0)), (1, .d ((cLs cI rfl).enc v1)), (4, .box ((cXCube (cLo cI) (cLo cI)).enc (⟨([] : List Int), ([] : List Int)⟩ : XCube))), (5, .box ((cXCube (cLo cI) (cLo cI)).enc s20406.1)), (6, .d (cI.enc (k11140 : Int))), (8, .d ((cLo cI).enc x20404)), (9, .d (cI.enc s20406.2)), (10, .d ((cLo cI).enc s22103)), (19, .d ((cLo cI).enc x11136)), (20, .d (cI.enc (x11136.length : Int))), (21, .d (cI.enc (k11140 : Int))), (40, .d (cI.enc (x21957.length : Int))), (41, .d (cI.enc (x21957.length : Int))), (42, .d (cB.enc (decide ((x21957.length : Int) < (x21957.length : Int)))))] (by kernel_rfl) <|
    xn <| wpC_seq <| wpC_kp <| cnd0 rfl (dlf _) <| wpC_exit <| xt <| xt <| xt <| xb <| kpN [(0, .d ((cLs cI rfl).enc v0)), (1, .d ((cLs cI rfl).enc v1)), (4, .box ((cXCube (cLo cI) (cLo cI)).enc (⟨([] : List Int), ([] : List Int)⟩ : XCube))), (5, .box ((cXCube (cLo cI) (cLo cI)).enc s20406.1)), (6, .d (cI.enc (k11140 : Int))), (8, .d ((cLo cI).enc x20404)), (9, .d (cI.enc s20406.2)), (10, .d ((cLo cI).enc s22103)), (19, .d ((cLo cI).enc x11136)), (20, .d (cI.enc (x11136.length : Int))), (21, .d (cI.enc (k11140 : Int)))] (by kernel_rfl) <| xn <| drw_s <| pst rfl <| fab rfl rfl rfl rfl ⟨rfl, pst rfl <| ldao rfl rfl rfl rfl rfl rfl ⟨rfl, pst rfl <| mvd rfl rfl ⟨rfl, pst rfl <| mvo rfl rfl ⟨rfl, bndp h fun x22197 e22198 h => pst rfl <| o_call (a1 (c := (cLs cI rfl)) (tLs tK) rfl (a1 (c := (cLo cI)) (tLo tK) rfl a0)) (con_spec_cbAt e22198) (.inl (so1 sK so0)) ⟨rfl, getO_kp h fun x22199 i22200 g22201 h => pst rfl <| iar rfl rfl rfl rfl i22200 g22201 rfl ⟨rfl, pst rfl <| lda rfl rfl (Gt.fld rfl rfl (Gt.idx g22201 Gt.nil)) rfl rfl rfl ⟨rfl, pst rfl <| mvd rfl rfl ⟨rfl, pst rfl <| mvd rfl rfl ⟨rfl, getO_kp h fun x22202 i22203 g22204 h => pst rfl <| ias rfl rfl i22203 g22204 rfl ⟨rfl, pst rfl <| ldi rfl rfl rfl rfl ⟨rfl, ckI_kp h fun i22205 h => pst rfl <| b_add (k := .i64) rfl rfl i22205 ⟨rfl, pst rfl <| iar rfl rfl rfl rfl i22200 g22201 rfl ⟨rfl, preN <| x_sta ((cXCube (cLo cI) (cLo cI)).enc (⟨s20406.1.Sizes, (s20406.1.Cells.set (x22197).toNat (x22199 + x22202))⟩ : XCube)) (ss rfl rfl) rfl rfl (Ln.fld rfl rfl (Ln.idx g22201 Ln.nil) rfl) (Cd.h_sz cI _) rfl <| seqN [(0, .d ((cLs cI rfl).enc v0)), (1, .d ((cLs cI rfl).enc v1)), (4, .box ((cXCube (cLo cI) (cLo cI)).enc (⟨([] : List Int), ([] : List Int)⟩ : XCube))), (5, .box ((cXCube (cLo cI) (cLo cI)).enc (⟨s20406.1.Sizes, (s20406.1.Cells.set (x22197).toNat (x22199 + x22202))⟩ : XCube))), (6, .d (cI.enc (k11140 : Int))), (8, .d ((cLo cI).enc x20404)), (9, .d (cI.enc s20406.2)), (19, .d ((cLo cI).enc x11136)), (20, .d (cI.enc (x11136.length : Int))), (21, .d (cI.enc (k11140 : Int)))] (by kernel_rfl) <|
    xbb <| kpN [(0, .d ((cLs cI rfl).enc v0)), (1, .d ((cLs cI rfl).enc v1)), (4, .box ((cXCube (cLo cI) (cLo cI)).enc (⟨([] : List Int), ([] : List Int)⟩ : XCube))), (5, .box ((cXCube (cLo cI) (cLo cI)).enc (⟨s20406.1.Sizes, (s20406.1.Cells.set (x22197).toNat (x22199 + x22202))⟩ : XCube))), (6, .d (cI.enc (k11140 : Int))), (8, .d ((cLo cI).enc x20404)), (9, .d (cI.enc s20406.2)), (19, .d ((cLo cI).enc x11136)), (20, .d (cI.enc (x11136.length : Int))), (21, .d (cI.enc (k11140 : Int)))] (by kernel_rfl) <| xn <| reg_s <| st rfl <| mvd rfl rfl <| ckI_k h fun i22206 h => st rfl <| b_add (k := .i64) rfl rfl i22206 <| x_asg (ss rfl rfl) <| seqN [(0, .d ((cLs cI rfl).enc v0)), (1, .d ((cLs cI rfl).enc v1)), (4, .box ((cXCube (cLo cI) (cLo cI)).enc (⟨([] : List Int), ([] : List Int)⟩ : XCube))), (5, .box ((cXCube (cLo cI) (cLo cI)).enc (⟨s20406.1.Sizes, (s20406.1.Cells.set (x22197).toNat (x22199 + x22202))⟩ : XCube))), (6, .d (cI.enc (k11140 : Int))), (8, .d ((cLo cI).enc x20404)), (9, .d (cI.enc (s20406.2 + (1 : Int)))), (19, .d ((cLo cI).enc x11136)), (20, .d (cI.enc (x11136.length : Int))), (21, .d (cI.enc (k11140 : Int)))] (by kernel_rfl) <|
    xn <| hn21638 ((⟨s20406.1.Sizes, (s20406.1.Cells.set (x22197).toNat (x22199 + x22202))⟩ : XCube), (s20406.2 + (1 : Int))) h⟩⟩⟩⟩⟩⟩⟩⟩⟩⟩⟩⟩⟩)
    (fun G22196 nx22194 k22104 s22103 x22105 hk22106 hx22107 hn22195 h => wpC_seq <| reg_s <| st rfl <| b_lss (k := .i64) rfl rfl <| seqN [(0, .d ((cLs cI rfl).enc v0)), (1, .d ((cLs cI rfl).enc v1)), (4, .box ((cXCube (cLo cI) (cLo cI)).enc (⟨([] : List Int), ([] : List Int)⟩ : XCube))), (5, .box ((cXCube (cLo cI) (cLo cI)).enc s20406.1)), (6, .d (cI.enc (k11140 : Int))), (8, .d ((cLo cI).enc x20404)), (9, .d (cI.enc s20406.2)), (10, .d ((cLo cI).enc s22103)), (19, .d ((cLo cI).enc x11136)), (20, .d (cI.enc (x11136.length : Int))), (21, .d (cI.enc (k11140 : Int))), (40, .d (cI.enc (x21957.length : Int))), (41, .d (cI.enc (k22104 : Int))), (42, .d (cB.enc (decide ((k22104 : Int) < (x21957.length : Int)))))] (by kernel_rfl) <|
    xn <| wpC_seq <| wpC_kp <| cnd1 rfl (dlt hk22106) <| wpC_skip <| kpN [(0, .d ((cLs cI rfl).enc v0)), (1, .d ((cLs cI rfl).enc v1)), (4, .box ((cXCube (cLo cI) (cLo cI)).enc (⟨([] : List Int), ([] : List Int)⟩ : XCube))), (5, .box ((cXCube (cLo cI) (cLo cI)).enc s20406.1)), (6, .d (cI.enc (k11140 : Int))), (8, .d ((cLo cI).enc x20404)), (9, .d (cI.enc s20406.2)), (10, .d ((cLo cI).enc s22103)), (19, .d ((cLo cI).enc x11136)), (20, .d (cI.enc (x11136.length : Int))), (21, .d (cI.enc (k11140 : Int))), (40, .d (cI.enc (x21957.length : Int))), (41, .d (cI.enc (k22104 : Int)))] (by kernel_rfl) <| xn <| wpC_seq <| wpC_kp <| wpC_blk <| wpC_seq <| reg_s <| st rfl <| mvd rfl rfl <| x_asg (ss rfl rfl) <| seqN [(0, .d ((cLs cI rfl).enc v0)), (1, .d ((cLs cI rfl).enc v1)), (4, .box ((cXCube (cLo cI) (cLo cI)).enc (⟨([] : List Int), ([] : List Int)⟩ : XCube))), (5, .box ((cXCube (cLo cI) (cLo cI)).enc s20406.1)), (6, .d (cI.enc (k11140 : Int))), (8, .d ((cLo cI).enc x20404)), (9, .d (cI.enc s20406.2)), (10, .d ((cLo cI).enc s22103)), (11, .d (cI.enc (k22104 : Int))), (19, .d ((cLo cI).enc x11136)), (20, .d (cI.enc (x11136.length : Int))), (21, .d (cI.enc (k11140 : Int))), (40, .d (cI.enc (x21957.length : Int))), (41, .d (cI.enc (k22104 : Int)))] (by kernel_rfl) <|
    xn <| wpC_seq <| reg_s <| st rfl <| mvd rfl rfl <| st rfl <| mvd rfl rfl <| ckK_k h fun i22238 h => st rfl <| o_cvi (k := .i64) (k' := .u64) rfl i22238 <| ck_k h fun i22239 h => st rfl <| b_shr (k := .i64) (k' := .u64) rfl rfl i22239 rfl <| ck_k h fun i22242 h => ckK_k h fun i22243 h => ck_k h fun i22244 h => ckK_k h fun i22245 h => st rfl <| b_and (k := .i64) rfl rfl ⟨i22242, i22243⟩ ⟨i22244, i22245⟩ <| st rfl <| b_eql (k := .i64) rfl rfl <| seqN [(0, .d ((cLs cI rfl).enc v0)), (1, .d ((cLs cI rfl).enc v1)), (4, .box ((cXCube (cLo cI) (cLo cI)).enc (⟨([] : List Int), ([] : List Int)⟩ : XCube))), (5, .box ((cXCube (cLo cI) (cLo cI)).enc s20406.1)), (6, .d (cI.enc (k11140 : Int))), (8, .d ((cLo cI).enc x20404)), (9, .d (cI.enc s20406.2)), (10, .d ((cLo cI).enc s22103)), (11, .d (cI.enc (k22104 : Int))), (19, .d ((cLo cI).enc x11136)), (20, .d (cI.enc (x11136.length : Int))), (21, .d (cI.enc (k11140 : Int))), (40, .d (cI.enc (x21957.length : Int))), (41, .d (cI.enc (k22104 : Int))), (49, .d (cB.enc (decide ((((s20406.2 / 2 ^ ((k22104 : Int)).toNat).toNat &&& (1 : Int).toNat : Nat) : Int) = (1 : Int)))))] (by kernel_rfl) <|
    xn <| cnd rfl h (fun b22246 h => reg_s <| st rfl <| mvo rfl rfl <| st rfl <| mvd rfl rfl <| st rfl <| mvd rfl rfl <| st rfl <| mvd rfl rfl <| getO_k h fun x22247 i22248 g22249 h => st rfl <| ias rfl rfl i22248 g22249 rfl <| st rfl <| ldi rfl rfl rfl rfl <| getO_k h fun x22250 i22251 g22252 h => st rfl <| iar rfl rfl rfl rfl i22251 g22252 rfl <| x_sta ((cLo cI).enc (s22103.set ((k22104 : Int)).toNat x22247)) (ss rfl rfl) rfl rfl (Ln.idx g22252 Ln.nil) (Cd.h_sz cI _) rfl <| seqN [(0, .d ((cLs cI rfl).enc v0)), (1, .d ((cLs cI rfl).enc v1)), (4, .box ((cXCube (cLo cI) (cLo cI)).enc (⟨([] : List Int), ([] : List Int)⟩ : XCube))), (5, .box ((cXCube (cLo cI) (cLo cI)).enc s20406.1)), (6, .d (cI.enc (k11140 : Int))), (8, .d ((cLo cI).enc x20404)), (9, .d (cI.enc s20406.2)), (10, .d ((cLo cI).enc (s22103.set ((k22104 : Int)).toNat x22247))), (19, .d ((cLo cI).enc x11136)), (20, .d (cI.enc (x11136.length : Int))), (21, .d (cI.enc (k11140 : Int))), (40, .d (cI.enc (x21957.length : Int))), (41, .d (cI.enc (k22104 : Int)))] (by kernel_rfl) <|
    xbb <| kpN [(0, .d ((cLs cI rfl).enc v0)), (1, .d ((cLs cI rfl).enc v1)), (4, .box ((cXCube (cLo cI) (cLo cI)).enc (⟨([] : List Int), ([] : List Int)⟩ : XCube))), (5, .box ((cXCube (cLo cI) (cLo cI)).enc s20406.1)), (6, .d (cI.enc (k11140 : Int))), (8, .d ((cLo cI).enc x20404)), (9, .d (cI.enc s20406.2)), (10, .d ((cLo cI).enc (s22103.set ((k22104 : Int)).toNat x22247))), (19, .d ((cLo cI).enc x11136)), (20, .d (cI.enc (x11136.length : Int))), (21, .d (cI.enc (k11140 : Int))), (40, .d (cI.enc (x21957.length : Int))), (41, .d (cI.enc (k22104 : Int)))] (by kernel_rfl) <| xn <| reg_s <| st rfl <| b_inc rfl rfl l22102 hk22106 <| st rfl <| mvd rfl rfl <| seqN [(0, .d ((cLs cI rfl).enc v0)), (1, .d ((cLs cI rfl).enc v1)), (4, .box ((cXCube (cLo cI) (cLo cI)).enc (⟨([] : List Int), ([] : List Int)⟩ : XCube))), (5, .box ((cXCube (cLo cI) (cLo cI)).enc s20406.1)), (6, .d (cI.enc (k11140 : Int))), (8, .d ((cLo cI).enc x20404)), (9, .d (cI.enc s20406.2)), (10, .d ((cLo cI).enc (s22103.set ((k22104 : Int)).toNat x22247))), (19, .d ((cLo cI).enc x11136)), (20, .d (cI.enc (x11136.length : Int))), (21, .d (cI.enc (k11140 : Int))), (40, .d (cI.enc (x21957.length : Int))), (41, .d (cI.enc ((k22104 + 1 : Nat) : Int)))] (by kernel_rfl) <|
    xn <| hn22195 (s22103.set ((k22104 : Int)).toNat x22247) h)
    (fun b22246 h => wpC_skip <| xbb <| kpN [(0, .d ((cLs cI rfl).enc v0)), (1, .d ((cLs cI rfl).enc v1)), (4, .box ((cXCube (cLo cI) (cLo cI)).enc (⟨([] : List Int), ([] : List Int)⟩ : XCube))), (5, .box ((cXCube (cLo cI) (cLo cI)).enc s20406.1)), (6, .d (cI.enc (k11140 : Int))), (8, .d ((cLo cI).enc x20404)), (9, .d (cI.enc s20406.2)), (10, .d ((cLo cI).enc s22103)), (19, .d ((cLo cI).enc x11136)), (20, .d (cI.enc (x11136.length : Int))), (21, .d (cI.enc (k11140 : Int))), (40, .d (cI.enc (x21957.length : Int))), (41, .d (cI.enc (k22104 : Int)))] (by kernel_rfl) <| xn <| reg_s <| st rfl <| b_inc rfl rfl l22102 hk22106 <| st rfl <| mvd rfl rfl <| seqN [(0, .d ((cLs cI rfl).enc v0)), (1, .d ((cLs cI rfl).enc v1)), (4, .box ((cXCube (cLo cI) (cLo cI)).enc (⟨([] : List Int), ([] : List Int)⟩ : XCube))), (5, .box ((cXCube (cLo cI) (cLo cI)).enc s20406.1)), (6, .d (cI.enc (k11140 : Int))), (8, .d ((cLo cI).enc x20404)), (9, .d (cI.enc s20406.2)), (10, .d ((cLo cI).enc s22103)), (19, .d ((cLo cI).enc x11136)), (20, .d (cI.enc (x11136.length : Int))), (21, .d (cI.enc (k11140 : Int))), (40, .d (cI.enc (x21957.length : Int))), (41, .d (cI.enc ((k22104 + 1 : Nat) : Int)))] (by kernel_rfl) <|
    xn <| hn22195 s22103 h)))
    (fun b21657 h => wpC_exit <| xt <| xt <| xt <| xb <| xbb <| kpN [(0, .d ((cLs cI rfl).enc v0)), (1, .d ((cLs cI rfl).enc v1)), (4, .box ((cXCube (cLo cI) (cLo cI)).enc (⟨([] : List Int), ([] : List Int)⟩ : XCube))), (5, .box ((cXCube (cLo cI) (cLo cI)).enc s20406.1)), (19, .d ((cLo cI).enc x11136)), (20, .d (cI.enc (x11136.length : Int))), (21, .d (cI.enc (k11140 : Int)))] (by kernel_rfl) <| xn <| reg_s <| st rfl <| b_inc rfl rfl l11138 hk11142 <| st rfl <| mvd rfl rfl <| seqN [(0, .d ((cLs cI rfl).enc v0)), (1, .d ((cLs cI rfl).enc v1)), (4, .box ((cXCube (cLo cI) (cLo cI)).enc (⟨([] : List Int), ([] : List Int)⟩ : XCube))), (5, .box ((cXCube (cLo cI) (cLo cI)).enc s20406.1)), (19, .d ((cLo cI).enc x11136)), (20, .d (cI.enc (x11136.length : Int))), (21, .d (cI.enc ((k11140 + 1 : Nat) : Int)))] (by kernel_rfl) <|
    xn <| hn18549 s20406.1 h))

def rs_spec_cbIf (r : (XCube × Bool)) : List D := [(cXCube (cLo cI) (cLo cI)).enc r.1, cB.enc r.2]
def m87 : MC := .seq (.reg [⟨some 1, .box (.t 0), none⟩,
    ⟨some 2, .alloc (.agg [.slice true [], .slice true []]), none⟩,
    ⟨some 3, .asg (.c (.bool false)), none⟩] [1, 2])
  (.seq (.kp [1, 2] (.seq (.reg [⟨some 4, .ld 1 2 true, none⟩,
    ⟨some 5, .call 66 [(.t 4)], none⟩,
    ⟨some 6, .nt (.t 5), none⟩] [1, 2, 6])
  (.cond (.t 6) (.seq (.reg [⟨some 7, .bld [.slice true [], .slice true []] [], none⟩,
    ⟨none, .st 2 (.t 7) 2, none⟩,
    ⟨some 3, .asg (.c (.bool false)), none⟩] [2, 3])
  (.ret)) (.skip))))
  (.seq (.reg [⟨some 8, .ld 1 2 true, none⟩,
    ⟨none, .st 2 (.t 8) 2, none⟩,
    ⟨some 3, .asg (.c (.bool true)), none⟩] [2, 3])
  (.ret)))
theorem con_spec_cbIf {v0 : XCube} {r : (XCube × Bool)} (h : sh_spec_cbIf v0 = some r) : Con Try.prog 87 [(cXCube (cLo cI) (cLo cI)).enc v0] [] (rs_spec_cbIf r) := by
  delta sh_spec_cbIf at h
  refine top (out := none) (f := Try.f87) (m := m87) (rs := [.c 2 2 true, .t 3]) (by kernel_rfl) rfl (by kernel_rfl) (by kernel_rfl) (by kernel_rfl) (by kernel_rfl) (by kernel_rfl) ?_
  exact
   ini [(0, .d ((cXCube (cLo cI) (cLo cI)).enc v0))] rfl <| wpC_seq <| reg_s <| x_box (so rfl rfl) <| x_all (cXCube (cLo cI) (cLo cI)) (⟨([] : List Int), ([] : List Int)⟩ : XCube) rfl <| x_asg (sc cB false rfl) <| seqN [(1, .box ((cXCube (cLo cI) (cLo cI)).enc v0)), (2, .box ((cXCube (cLo cI) (cLo cI)).enc (⟨([] : List Int), ([] : List Int)⟩ : XCube)))] (by kernel_rfl) <|
    xn <| wpC_seq <| wpC_kp <| wpC_seq <| reg_s <| st rfl <| ldbo rfl rfl rfl rfl <| bnd h fun x8 e9 h => st rfl <| o_call (a1 (c := (cXCube (cLo cI) (cLo cI))) (tXCube (tLo tK) (tLo tK)) rfl a0) (con_spec_cbGood e9) (.inl (so1 sB so0)) <| st rfl <| o_nt rfl <| seqN [(1, .box ((cXCube (cLo cI) (cLo cI)).enc v0)), (2, .box ((cXCube (cLo cI) (cLo cI)).enc (⟨([] : List Int), ([] : List Int)⟩ : XCube))), (6, .d (cB.enc (!x8)))] (by kernel_rfl) <|
    xn <| cnd rfl h (fun b10 h => wpC_seq <| reg_s <| x_bld ((cXCube (cLo cI) (cLo cI)).enc (⟨([] : List Int), ([] : List Int)⟩ : XCube)) t0 rfl rfl <| x_stb (so rfl rfl) rfl (Cd.h_sz _ _) rfl <| x_asg (sc cB false rfl) <| seqN [(2, .box ((cXCube (cLo cI) (cLo cI)).enc (⟨([] : List Int), ([] : List Int)⟩ : XCube))), (3, .d (cB.enc false))] (by kernel_rfl) <|
    xn <| wpC_ret <| rt <| rt <| re <| fin h (r2 rfl rfl rfl <| r1 (ss rfl rfl) <| r0) rfl)
    (fun b10 h => wpC_skip <| kpN [(1, .box ((cXCube (cLo cI) (cLo cI)).enc v0)), (2, .box ((cXCube (cLo cI) (cLo cI)).enc (⟨([] : List Int), ([] : List Int)⟩ : XCube)))] (by kernel_rfl) <| xn <| wpC_seq <| reg_s <| st rfl <| ldbo rfl rfl rfl rfl <| x_stb (sb rfl rfl) rfl (Cd.h_sz _ _) rfl <| x_asg (sc cB true rfl) <| seqN [(2, .box ((cXCube (cLo cI) (cLo cI)).enc v0)), (3, .d (cB.enc true))] (by kernel_rfl) <|
    xn <| wpC_ret <| re <| fin h (r2 rfl rfl rfl <| r1 (ss rfl rfl) <| r0) rfl)

def rs_spec_CubeOf (r : (XCube × Bool)) : List D := [(cXCube (cLo cI) (cLo cI)).enc r.1, cB.enc r.2]
def m43 : MC := .seq (.reg [⟨some 4, .alloc (.agg [.slice true [], .slice true []]), none⟩,
    ⟨some 5, .asg (.c (.bool false)), none⟩] [0, 1, 4])
  (.seq (.kp [0, 1, 4] (.seq (.reg [⟨some 6, .mv (.t 0), none⟩,
    ⟨some 7, .call 59 [(.t 6)], none⟩,
    ⟨some 8, .bin .eql (.t 7) (.c (.int .i64 0)), none⟩,
    ⟨some 9, .mv (.t 8), none⟩,
    ⟨some 10, .mv (.t 1), some (9, false)⟩,
    ⟨some 11, .len false (.t 10), some (9, false)⟩,
    ⟨some 12, .mv (.t 0), some (9, false)⟩,
    ⟨some 13, .call 86 [(.t 12)], some (9, false)⟩,
    ⟨some 14, .len false (.t 13), some (9, false)⟩,
    ⟨some 15, .bin .neq (.t 11) (.t 14), some (9, false)⟩,
    ⟨some 16, .pick (.t 9) (.c (.bool true)) (.t 15), none⟩,
    ⟨some 17, .mv (.t 16), none⟩,
    ⟨some 18, .mv (.t 1), some (17, false)⟩,
    ⟨some 19, .call 54 [(.t 18), (.c (.int .i64 (-1000000))), (.c (.int .i64 1000000))], some (17, false)⟩,
    ⟨some 20, .nt (.t 19), some (17, false)⟩,
    ⟨some 21, .pick (.t 17) (.c (.bool true)) (.t 20), none⟩] [0, 1, 4, 21])
  (.cond (.t 21) (.seq (.reg [⟨some 22, .bld [.slice true [], .slice true []] [], none⟩,
    ⟨none, .st 4 (.t 22) 2, none⟩,
    ⟨some 5, .asg (.c (.bool false)), none⟩] [4, 5])
  (.ret)) (.skip))))
  (.seq (.reg [⟨some 23, .mv (.t 0), none⟩,
    ⟨some 24, .mv (.t 1), none⟩,
    ⟨some 25, .call 88 [(.t 23), (.t 24)], none⟩,
    ⟨some 26, .callT 87 [(true, (.t 25))], none⟩,
    ⟨some 27, .ext 26 0, none⟩,
    ⟨some 28, .ext 26 1, none⟩,
    ⟨none, .st 4 (.t 27) 2, none⟩,
    ⟨some 5, .asg (.t 28), none⟩] [4, 5])
  (.ret)))
theorem con_spec_CubeOf {v0 : (List Int)} {v1 : (List Int)} {r : (XCube × Bool)} (h : sh_spec_CubeOf v0 v1 = some r) : Con Try.prog 43 [(cLs cI rfl).enc v0, (cLs cI rfl).enc v1] [] (rs_spec_CubeOf r) := by
  delta sh_spec_CubeOf at h
  refine top (out := none) (f := Try.f43) (m := m43) (rs := [.c 4 2 true, .t 5]) (by kernel_rfl) rfl (by kernel_rfl) (by kernel_rfl) (by kernel_rfl) (by kernel_rfl) (by kernel_rfl) ?_
  exact
   ini [(0, .d ((cLs cI rfl).enc v0)), (1, .d ((cLs cI rfl).enc v1))] rfl <| wpC_seq <| reg_s <| x_all (cXCube (cLo cI) (cLo cI)) (⟨([] : List Int), ([] : List Int)⟩ : XCube) rfl <| x_asg (sc cB false rfl) <| seqN [(0, .d ((cLs cI rfl).enc v0)), (1, .d ((cLs cI rfl).enc v1)), (4, .box ((cXCube (cLo cI) (cLo cI)).enc (⟨([] : List Int), ([] : List Int)⟩ : XCube)))] (by kernel_rfl) <|
    xn <| wpC_seq <| wpC_kp <| wpC_seq <| reg_s <| st rfl <| mvd rfl rfl <| bnd h fun x32 e33 h => st rfl <| o_call (a1 (c := (cLs cI rfl)) (tLs tK) rfl a0) (con_spec_cbCount e33) (.inl (so1 sK so0)) <| st rfl <| b_eql (k := .i64) rfl rfl <| st rfl <| mvd rfl rfl <| ite_k h (fun b34 h => gf rfl b34 <| gf rfl b34 <| gf rfl b34 <| gf rfl b34 <| gf rfl b34 <| gf rfl b34 <| st rfl <| pick1 rfl b34 (cd := cB) (v := true) rfl rfl <| st rfl <| mvd rfl rfl <| gf rfl rfl <| gf rfl rfl <| gf rfl rfl <| st rfl <| pick1 rfl rfl (cd := cB) (v := true) rfl rfl <| seqN [(0, .d ((cLs cI rfl).enc v0)), (1, .d ((cLs cI rfl).enc v1)), (4, .box ((cXCube (cLo cI) (cLo cI)).enc (⟨([] : List Int), ([] : List Int)⟩ : XCube))), (21, .d (cB.enc true))] (by kernel_rfl) <|
    xn <| cnd1 rfl rfl <| wpC_seq <| reg_s <| x_bld ((cXCube (cLo cI) (cLo cI)).enc (⟨([] : List Int), ([] : List Int)⟩ : XCube)) t0 rfl rfl <| x_stb (so rfl rfl) rfl (Cd.h_sz _ _) rfl <| x_asg (sc cB false rfl) <| seqN [(4, .box ((cXCube (cLo cI) (cLo cI)).enc (⟨([] : List Int), ([] : List Int)⟩ : XCube))), (5, .d (cB.enc false))] (by kernel_rfl) <|
    xn <| wpC_ret <| rt <| rt <| re <| fin h (r2 rfl rfl rfl <| r1 (ss rfl rfl) <| r0) rfl)
    (fun b34 h => gt' rfl b34 <| st rfl <| mvd rfl rfl <| gt' rfl b34 <| stw rfl <| lens rfl fun l35 => gt' rfl b34 <| st rfl <| mvd rfl rfl <| gt' rfl b34 <| bnd h fun x36 e37 h => st rfl <| o_call (a1 (c := (cLs cI rfl)) (tLs tK) rfl a0) (con_spec_cbBase e37) (.inl (so1 (sLo sK) so0)) <| gt' rfl b34 <| stw rfl <| leno rfl fun l38 => gt' rfl b34 <| st rfl <| b_neq (k := .i64) rfl rfl <| st rfl <| pick0 rfl b34 (cd := cB) (v := (decide ((v1.length : Int) ≠ (x36.length : Int)))) rfl rfl <| st rfl <| mvd rfl rfl <| ite_k h (fun b39 h => gf rfl b39 <| gf rfl b39 <| gf rfl b39 <| st rfl <| pick1 rfl b39 (cd := cB) (v := true) rfl rfl <| seqN [(0, .d ((cLs cI rfl).enc v0)), (1, .d ((cLs cI rfl).enc v1)), (4, .box ((cXCube (cLo cI) (cLo cI)).enc (⟨([] : List Int), ([] : List Int)⟩ : XCube))), (21, .d (cB.enc true))] (by kernel_rfl) <|
    xn <| cnd1 rfl rfl <| wpC_seq <| reg_s <| x_bld ((cXCube (cLo cI) (cLo cI)).enc (⟨([] : List Int), ([] : List Int)⟩ : XCube)) t0 rfl rfl <| x_stb (so rfl rfl) rfl (Cd.h_sz _ _) rfl <| x_asg (sc cB false rfl) <| seqN [(4, .box ((cXCube (cLo cI) (cLo cI)).enc (⟨([] : List Int), ([] : List Int)⟩ : XCube))), (5, .d (cB.enc false))] (by kernel_rfl) <|
    xn <| wpC_ret <| rt <| rt <| re <| fin h (r2 rfl rfl rfl <| r1 (ss rfl rfl) <| r0) rfl)
    (fun b39 h => gt' rfl b39 <| st rfl <| mvd rfl rfl <| gt' rfl b39 <| bnd h fun x40 e41 h => st rfl <| o_call (a1 (c := (cLs cI rfl)) (tLs tK) rfl (a1 (c := cI) tK rfl (a1 (c := cI) tK rfl a0))) (con_spec_l1All e41) (.inl (so1 sB so0)) <| gt' rfl b39 <| st rfl <| o_nt rfl <| st rfl <| pick0 rfl b39 (cd := cB) (v := (!x40)) rfl rfl <| seqN [(0, .d ((cLs cI rfl).enc v0)), (1, .d ((cLs cI rfl).enc v1)), (4, .box ((cXCube (cLo cI) (cLo cI)).enc (⟨([] : List Int), ([] : List Int)⟩ : XCube))), (21, .d (cB.enc (!x40)))] (by kernel_rfl) <|
    xn <| cnd rfl h (fun b42 h => wpC_seq <| reg_s <| x_bld ((cXCube (cLo cI) (cLo cI)).enc (⟨([] : List Int), ([] : List Int)⟩ : XCube)) t0 rfl rfl <| x_stb (so rfl rfl) rfl (Cd.h_sz _ _) rfl <| x_asg (sc cB false rfl) <| seqN [(4, .box ((cXCube (cLo cI) (cLo cI)).enc (⟨([] : List Int), ([] : List Int)⟩ : XCube))), (5, .d (cB.enc false))] (by kernel_rfl) <|
    xn <| wpC_ret <| rt <| rt <| re <| fin h (r2 rfl rfl rfl <| r1 (ss rfl rfl) <| r0) rfl)
    (fun b42 h => wpC_skip <| kpN [(0, .d ((cLs cI rfl).enc v0)), (1, .d ((cLs cI rfl).enc v1)), (4, .box ((cXCube (cLo cI) (cLo cI)).enc (⟨([] : List Int), ([] : List Int)⟩ : XCube)))] (by kernel_rfl) <| xn <| wpC_seq <| reg_s <| st rfl <| mvd rfl rfl <| st rfl <| mvd rfl rfl <| bnd h fun x47 e48 h => st rfl <| o_call (a1 (c := (cLs cI rfl)) (tLs tK) rfl (a1 (c := (cLs cI rfl)) (tLs tK) rfl a0)) (con_spec_cbOf e48) (.inl (so1 (sXCube (sLo sK) (sLo sK)) so0)) <| bnd h fun x49 e50 h => x_clt (k1 (so rfl rfl) k0) (m1 m0) (con_spec_cbIf e50) (so1 (sXCube (sLo sK) (sLo sK)) (so1 sB so0)) <| x_ext rfl rfl <| x_ext rfl rfl <| x_stb (so rfl rfl) rfl (Cd.h_sz _ _) rfl <| x_asg (ss rfl rfl) <| seqN [(4, .box ((cXCube (cLo cI) (cLo cI)).enc x49.1)), (5, .d (cB.enc x49.2))] (by kernel_rfl) <|
    xn <| wpC_ret <| re <| fin h (r2 rfl rfl rfl <| r1 (ss rfl rfl) <| r0) rfl)))

def rs_impl_cubeOf (r : (XCube × Bool)) : List D := [(cXCube (cLo cI) (cLo cI)).enc r.1, cB.enc r.2]
def m89 : MC := .seq (.reg [⟨some 4, .alloc (.agg [.slice true [], .slice true []]), none⟩,
    ⟨some 5, .asg (.c (.bool false)), none⟩] [0, 1, 4])
  (.seq (.reg [⟨some 16, .mv (.t 0), none⟩,
    ⟨some 17, .call 57 [(.t 16)], none⟩,
    ⟨some 18, .mv (.t 0), none⟩,
    ⟨some 19, .call 62 [(.t 18)], none⟩,
    ⟨some 20, .mk (.int .i64 0) (.t 19), none⟩,
    ⟨some 21, .bld [.slice true [], .slice true []] [(0, (.t 17)), (1, (.t 20))], none⟩,
    ⟨some 6, .alloc (.agg [.slice true [], .slice true []]), none⟩,
    ⟨none, .st 6 (.t 21) 2, none⟩] [0, 1, 4, 6])
  (.seq (.reg [⟨some 7, .asg (.c (.int .i64 0)), none⟩] [0, 1, 4, 6, 7])
  (.seq (.kp [0, 1, 4, 6, 7] (.seq (.reg [⟨some 22, .fa 6 1 1, none⟩,
    ⟨some 23, .ld 22 1 false, none⟩,
    ⟨some 24, .len false (.t 23), none⟩,
    ⟨some 25, .mv (.c (.int .i64 0)), none⟩] [0, 1, 4, 6, 7, 24, 25])
  (.blk 0 (.loop (.seq (.reg [⟨some 26, .bin .lss (.t 25) (.t 24), none⟩] [0, 1, 4, 6, 7, 24, 25, 26])
  (.seq (.kp [0, 1, 4, 6, 7, 24, 25] (.cond (.t 26) (.skip) (.exit 0)))
  (.seq (.kp [0, 1, 4, 6, 7, 24, 25] (.blk 1 (.seq (.reg [⟨some 27, .mv (.t 25), none⟩,
    ⟨some 8, .asg (.t 27), none⟩] [0, 1, 4, 6, 7, 8, 24, 25])
  (.seq (.reg [⟨some 28, .mv (.t 0), none⟩,
    ⟨some 29, .mv (.t 0), none⟩,
    ⟨some 30, .mv (.t 8), none⟩,
    ⟨some 31, .call 64 [(.t 29), (.t 30)], none⟩,
    ⟨some 32, .call 102 [(.t 28), (.t 31)], none⟩] [0, 1, 4, 6, 7, 24, 25, 32])
  (.cond (.t 32) (.reg [⟨some 33, .mv (.t 7), none⟩,
    ⟨some 34, .bin .add (.t 33) (.c (.int .i64 1)), none⟩,
    ⟨some 7, .asg (.t 34), none⟩] [0, 1, 4, 6, 7, 24, 25]) (.skip))))))
  (.reg [⟨some 35, .bin .add (.t 25) (.c (.int .i64 1)), none⟩,
    ⟨some 25, .mv (.t 35), none⟩] [0, 1, 4, 6, 7, 24, 25]))))))))
  (.seq (.kp [0, 1, 4, 6] (.seq (.reg [⟨some 36, .mv (.t 7), none⟩,
    ⟨some 37, .mv (.t 1), none⟩,
    ⟨some 38, .len false (.t 37), none⟩,
    ⟨some 39, .bin .neq (.t 36) (.t 38), none⟩,
    ⟨some 40, .mv (.t 39), none⟩,
    ⟨some 41, .mv (.t 1), some (40, false)⟩,
    ⟨some 42, .call 92 [(.t 41)], some (40, false)⟩,
    ⟨some 43, .nt (.t 42), some (40, false)⟩,
    ⟨some 44, .pick (.t 40) (.c (.bool true)) (.t 43), none⟩] [0, 1, 4, 6, 44])
  (.cond (.t 44) (.seq (.reg [⟨some 45, .bld [.slice true [], .slice true []] [], none⟩,
    ⟨none, .st 4 (.t 45) 2, none⟩,
    ⟨some 5, .asg (.c (.bool false)), none⟩] [4, 5])
  (.ret)) (.skip))))
  (.seq (.reg [⟨some 9, .asg (.c (.int .i64 0)), none⟩] [0, 1, 4, 6, 9])
  (.seq (.kp [0, 4, 6] (.seq (.reg [⟨some 46, .fa 6 1 1, none⟩,
    ⟨some 47, .ld 46 1 false, none⟩,
    ⟨some 48, .len false (.t 47), none⟩,
    ⟨some 49, .mv (.c (.int .i64 0)), none⟩] [0, 1, 4, 6, 9, 48, 49])
  (.blk 2 (.loop (.seq (.reg [⟨some 50, .bin .lss (.t 49) (.t 48), none⟩] [0, 1, 4, 6, 9, 48, 49, 50])
  (.seq (.kp [0, 1, 4, 6, 9, 48, 49] (.cond (.t 50) (.skip) (.exit 2)))
  (.seq (.kp [0, 1, 4, 6, 9, 48, 49] (.blk 3 (.seq (.reg [⟨some 51, .mv (.t 49), none⟩,
    ⟨some 10, .asg (.t 51), none⟩] [0, 1, 4, 6, 9, 10, 48, 49])
  (.seq (.reg [⟨some 52, .mv (.t 0), none⟩,
    ⟨some 53, .mv (.t 0), none⟩,
    ⟨some 54, .mv (.t 10), none⟩,
    ⟨some 55, .call 64 [(.t 53), (.t 54)], none⟩,
    ⟨some 56, .call 102 [(.t 52), (.t 55)], none⟩] [0, 1, 4, 6, 9, 10, 48, 49, 56])
  (.cond (.t 56) (.seq (.drw [⟨0, ⟨some 57, .fa 6 1 1, none⟩, [58, 59, 60, 61, 62, 63, 64]⟩,
    ⟨1, ⟨some 58, .ld 57 1 false, none⟩, [59, 60, 61, 62, 63, 64]⟩,
    ⟨2, ⟨some 59, .mv (.t 10), none⟩, [57, 58, 60, 61, 62, 63, 64]⟩,
    ⟨3, ⟨some 60, .mv (.t 1), none⟩, [57, 58, 59, 61, 62, 63, 64]⟩,
    ⟨4, ⟨some 61, .mv (.t 9), none⟩, [57, 58, 59, 60, 62, 63, 64]⟩,
    ⟨5, ⟨some 62, .ia 60 (.t 61) 1, none⟩, [57, 58, 59, 63, 64]⟩,
    ⟨6, ⟨some 63, .ld 62 1 false, none⟩, [57, 58, 59, 64]⟩,
    ⟨7, ⟨some 64, .ia 58 (.t 59) 1, none⟩, []⟩]
    [(8, ⟨none, .st 64 (.t 63) 1, none⟩)] [0, 1, 4, 6, 9, 48, 49])
  (.reg [⟨some 65, .mv (.t 9), none⟩,
    ⟨some 66, .bin .add (.t 65) (.c (.int .i64 1)), none⟩,
    ⟨some 9, .asg (.t 66), none⟩] [0, 1, 4, 6, 9, 48, 49])) (.skip))))))
  (.reg [⟨some 67, .bin .add (.t 49) (.c (.int .i64 1)), none⟩,
    ⟨some 49, .mv (.t 67), none⟩] [0, 1, 4, 6, 9, 48, 49]))))))))
  (.seq (.kp [4, 6] (.seq (.reg [⟨some 68, .mv (.t 0), none⟩,
    ⟨some 69, .call 63 [(.t 68)], none⟩,
    ⟨some 70, .len false (.t 69), none⟩,
    ⟨some 71, .mv (.c (.int .i64 0)), none⟩] [0, 4, 6, 69, 70, 71])
  (.blk 4 (.loop (.seq (.reg [⟨some 72, .bin .lss (.t 71) (.t 70), none⟩] [0, 4, 6, 69, 70, 71, 72])
  (.seq (.kp [0, 4, 6, 69, 70, 71] (.cond (.t 72) (.skip) (.exit 4)))
  (.seq (.kp [0, 4, 6, 69, 70, 71] (.blk 5 (.seq (.reg [⟨some 73, .mv (.t 71), none⟩,
    ⟨some 74, .ia 69 (.t 71) 1, none⟩,
    ⟨some 75, .ld 74 1 false, none⟩,
    ⟨some 11, .asg (.t 73), none⟩,
    ⟨some 12, .asg (.t 75), none⟩] [0, 4, 6, 11, 12, 69, 70, 71])
  (.seq (.reg [⟨some 76, .fa 6 1 1, none⟩,
    ⟨some 77, .ld 76 1 false, none⟩,
    ⟨some 78, .len false (.t 77), none⟩,
    ⟨some 79, .mv (.c (.int .i64 0)), none⟩] [0, 4, 6, 11, 12, 69, 70, 71, 78, 79])
  (.blk 6 (.loop (.seq (.reg [⟨some 80, .bin .lss (.t 79) (.t 78), none⟩] [0, 4, 6, 11, 12, 69, 70, 71, 78, 79, 80])
  (.seq (.kp [0, 4, 6, 11, 12, 69, 70, 71, 78, 79] (.cond (.t 80) (.skip) (.exit 6)))
  (.seq (.kp [0, 4, 6, 11, 12, 69, 70, 71, 78, 79] (.blk 7 (.seq (.reg [⟨some 81, .mv (.t 79), none⟩,
    ⟨some 13, .asg (.t 81), none⟩] [0, 4, 6, 11, 12, 13, 69, 70, 71, 78, 79])
  (.seq (.reg [⟨some 82, .mv (.t 0), none⟩,
    ⟨some 83, .mv (.t 13), none⟩,
    ⟨some 84, .call 64 [(.t 82), (.t 83)], none⟩,
    ⟨some 14, .asg (.t 84), none⟩] [0, 4, 6, 11, 12, 13, 14, 69, 70, 71, 78, 79])
  (.fz 14 (.seq (.kp [0, 4, 6, 11, 12, 13, 69, 70, 71, 78, 79] (.seq (.drw [⟨0, ⟨some 85, .mv (.t 14), none⟩, [86, 87, 88, 89, 90, 91, 92, 93, 94, 95, 96, 97, 98, 99, 100, 101, 102, 103, 104, 105]⟩,
    ⟨1, ⟨some 86, .mv (.t 11), none⟩, [85, 87, 88, 89, 90, 91, 92, 93, 94, 95, 96, 97, 98, 99, 100, 101, 102, 103, 104, 105]⟩,
    ⟨2, ⟨some 87, .ia 85 (.t 86) 1, none⟩, [88, 89, 90, 91, 92, 93, 94, 95, 96, 97, 98, 99, 100, 101, 102, 103, 104, 105]⟩,
    ⟨3, ⟨some 88, .ld 87 1 false, none⟩, [89, 90, 91, 92, 93, 94, 95, 96, 97, 98, 99, 100, 101, 102, 103, 104, 105]⟩,
    ⟨4, ⟨some 89, .mv (.t 0), none⟩, [85, 86, 87, 88, 90, 91, 92, 93, 94, 95, 96, 97, 98, 99, 100, 101, 102, 103, 104, 105]⟩,
    ⟨5, ⟨some 90, .mv (.t 11), none⟩, [85, 86, 87, 88, 89, 91, 92, 93, 94, 95, 96, 97, 98, 99, 100, 101, 102, 103, 104, 105]⟩,
    ⟨6, ⟨some 91, .ia 89 (.t 90) 1, none⟩, [85, 86, 87, 88, 92, 93, 94, 95, 96, 97, 98, 99, 100, 101, 102, 103, 104, 105]⟩,
    ⟨7, ⟨some 92, .ld 91 1 false, none⟩, [85, 86, 87, 88, 93, 94, 95, 96, 97, 98, 99, 100, 101, 102, 103, 104, 105]⟩,
    ⟨8, ⟨some 93, .bin .neq (.t 88) (.t 92), none⟩, [94, 95, 96, 97, 98, 99, 100, 101, 102, 103, 104, 105]⟩,
    ⟨9, ⟨some 94, .mv (.t 93), none⟩, [95, 96, 97, 98, 99, 100, 101, 102, 103, 104, 105]⟩,
    ⟨10, ⟨some 95, .mv (.t 0), some (94, false)⟩, [96, 97, 98, 99, 100, 101, 102, 103, 104, 105]⟩,
    ⟨11, ⟨some 96, .mv (.t 11), some (94, false)⟩, [95, 97, 98, 99, 100, 101, 102, 103, 104, 105]⟩,
    ⟨12, ⟨some 97, .bin .add (.t 96) (.c (.int .i64 1)), some (94, false)⟩, [95, 98, 99, 100, 101, 102, 103, 104, 105]⟩,
    ⟨13, ⟨some 98, .sl (.t 95) (some (.t 97)) none 1, some (94, false)⟩, [99, 100, 101, 102, 103, 104, 105]⟩,
    ⟨14, ⟨some 99, .mv (.t 14), some (94, false)⟩, [95, 96, 97, 98, 100, 101, 102, 103, 104, 105]⟩,
    ⟨15, ⟨some 100, .mv (.t 11), some (94, false)⟩, [95, 96, 97, 98, 99, 101, 102, 103, 104, 105]⟩,
    ⟨16, ⟨some 101, .bin .add (.t 100) (.c (.int .i64 1)), some (94, false)⟩, [95, 96, 97, 98, 99, 102, 103, 104, 105]⟩,
    ⟨17, ⟨some 102, .sl (.t 99) (some (.t 101)) none 1, some (94, false)⟩, [95, 96, 97, 98, 103, 104, 105]⟩,
    ⟨18, ⟨some 103, .call 102 [(.t 98), (.t 102)], some (94, false)⟩, [104, 105]⟩,
    ⟨19, ⟨some 104, .nt (.t 103), some (94, false)⟩, [105]⟩,
    ⟨20, ⟨some 105, .pick (.t 94) (.c (.bool true)) (.t 104), none⟩, []⟩]
    [] [0, 4, 6, 11, 12, 13, 69, 70, 71, 78, 79, 105])
  (.cond (.t 105) (.exit 7) (.skip))))
  (.seq (.reg [⟨some 15, .asg (.c (.int .i64 1)), none⟩] [0, 4, 6, 11, 12, 13, 15, 69, 70, 71, 78, 79])
  (.blk 8 (.loop (.seq (.kp [0, 4, 6, 11, 12, 13, 15, 69, 70, 71, 78, 79] (.seq (.reg [⟨some 106, .mv (.t 15), none⟩,
    ⟨some 107, .mv (.t 0), none⟩,
    ⟨some 108, .mv (.t 11), none⟩,
    ⟨some 109, .ia 107 (.t 108) 1, none⟩,
    ⟨some 110, .ld 109 1 false, none⟩,
    ⟨some 111, .bin .leq (.t 106) (.t 110), none⟩] [0, 4, 6, 11, 12, 13, 15, 69, 70, 71, 78, 79, 111])
  (.cond (.t 111) (.skip) (.exit 8))))
  (.seq (.kp [0, 4, 6, 11, 12, 13, 15, 69, 70, 71, 78, 79] (.blk 9 (.drw [⟨0, ⟨some 114, .fa 6 1 1, none⟩, [115, 116, 117, 118, 119, 120, 121, 122, 123, 124, 125, 126, 127, 128, 129]⟩,
    ⟨1, ⟨some 115, .ld 114 1 false, none⟩, [116, 117, 118, 119, 120, 121, 122, 123, 124, 125, 126, 127, 128, 129]⟩,
    ⟨2, ⟨some 116, .mv (.t 13), none⟩, [114, 115, 117, 118, 119, 120, 121, 122, 123, 124, 125, 126, 127, 128, 129]⟩,
    ⟨3, ⟨some 117, .ia 115 (.t 116) 1, none⟩, [118, 119, 120, 121, 122, 123, 124, 125, 126, 127, 128, 129]⟩,
    ⟨4, ⟨some 118, .ld 117 1 false, none⟩, [119, 120, 121, 122, 123, 124, 125, 126, 127, 128, 129]⟩,
    ⟨5, ⟨some 119, .fa 6 1 1, none⟩, [114, 115, 116, 117, 118, 120, 121, 122, 123, 124, 125, 126, 127, 128, 129]⟩,
    ⟨6, ⟨some 120, .ld 119 1 false, none⟩, [114, 115, 116, 117, 118, 121, 122, 123, 124, 125, 126, 127, 128, 129]⟩,
    ⟨7, ⟨some 121, .mv (.t 13), none⟩, [114, 115, 116, 117, 118, 119, 120, 122, 123, 124, 125, 126, 127, 128, 129]⟩,
    ⟨8, ⟨some 122, .mv (.t 15), none⟩, [114, 115, 116, 117, 118, 119, 120, 121, 123, 124, 125, 126, 127, 128, 129]⟩,
    ⟨9, ⟨some 123, .mv (.t 12), none⟩, [114, 115, 116, 117, 118, 119, 120, 121, 122, 124, 125, 126, 127, 128, 129]⟩,
    ⟨10, ⟨some 124, .bin .mul (.t 122) (.t 123), none⟩, [114, 115, 116, 117, 118, 119, 120, 121, 125, 126, 127, 128, 129]⟩,
    ⟨11, ⟨some 125, .bin .sub (.t 121) (.t 124), none⟩, [114, 115, 116, 117, 118, 119, 120, 126, 127, 128, 129]⟩,
    ⟨12, ⟨some 126, .ia 120 (.t 125) 1, none⟩, [114, 115, 116, 117, 118, 127, 128, 129]⟩,
    ⟨13, ⟨some 127, .ld 126 1 false, none⟩, [114, 115, 116, 117, 118, 128, 129]⟩,
    ⟨14, ⟨some 128, .bin .add (.t 118) (.t 127), none⟩, [129]⟩,
    ⟨15, ⟨some 129, .ia 115 (.t 116) 1, none⟩, []⟩]
    [(16, ⟨none, .st 129 (.t 128) 1, none⟩)] [0, 4, 6, 11, 12, 13, 15, 69, 70, 71, 78, 79])))
  (.reg [⟨some 112, .mv (.t 15), none⟩,
    ⟨some 113, .bin .add (.t 112) (.c (.int .i64 1)), none⟩,
    ⟨some 15, .asg (.t 113), none⟩] [0, 4, 6, 11, 12, 13, 15, 69, 70, 71, 78, 79]))))))))))))
  (.reg [⟨some 130, .bin .add (.t 79) (.c (.int .i64 1)), none⟩,
    ⟨some 79, .mv (.t 130), none⟩] [0, 4, 6, 11, 12, 69, 70, 71, 78, 79]))))))))))
  (.reg [⟨some 131, .bin .add (.t 71) (.c (.int .i64 1)), none⟩,
    ⟨some 71, .mv (.t 131), none⟩] [0, 4, 6, 69, 70, 71]))))))))
  (.seq (.kp [4, 6] (.seq (.reg [⟨some 132, .fa 6 1 1, none⟩,
    ⟨some 133, .ld 132 1 false, none⟩,
    ⟨some 134, .call 92 [(.t 133)], none⟩,
    ⟨some 135, .nt (.t 134), none⟩] [4, 6, 135])
  (.cond (.t 135) (.seq (.reg [⟨some 136, .bld [.slice true [], .slice true []] [], none⟩,
    ⟨none, .st 4 (.t 136) 2, none⟩,
    ⟨some 5, .asg (.c (.bool false)), none⟩] [4, 5])
  (.ret)) (.skip))))
  (.seq (.reg [⟨some 137, .ld 6 2 true, none⟩,
    ⟨none, .st 4 (.t 137) 2, none⟩,
    ⟨some 5, .asg (.c (.bool true)), none⟩] [4, 5])
  (.ret))))))))))
theorem con_impl_cubeOf {v0 : (List Int)} {v1 : (List Int)} {r : (XCube × Bool)} (h : sh_impl_cubeOf v0 v1 = some r) : Con Try.prog 89 [(cLs cI rfl).enc v0, (cLs cI rfl).enc v1] [] (rs_impl_cubeOf r) := by
  delta sh_impl_cubeOf at h
  refine top (out := none) (f := Try.f89) (m := m89) (rs := [.c 4 2 true, .t 5]) (by kernel_rfl) rfl (by kernel_rfl) (by kernel_rfl) (by kernel_rfl) (by kernel_rfl) (by kernel_rfl) ?_
  exact
   ini [(0, .d ((cLs cI rfl).enc v0)), (1, .d ((cLs cI rfl).enc v1))] rfl <| wpC_seq <| reg_s <| x_all (cXCube (cLo cI) (cLo cI)) (⟨([] : List Int), ([] : List Int)⟩ : XCube) rfl <| x_asg (sc cB false rfl) <| seqN [(0, .d ((cLs cI rfl).enc v0)), (1, .d ((cLs cI rfl).enc v1)), (4, .box ((cXCube (cLo cI) (cLo cI)).enc (⟨([] : List Int), ([] : List Int)⟩ : XCube)))] (by kernel_rfl) <|
    xn <| wpC_seq <| reg_s <| st rfl <| mvd rfl rfl <| bnd h fun x7 e8 h => st rfl <| o_call (a1 (c := (cLs cI rfl)) (tLs tK) rfl a0) (con_slices_Clone_int e8) (.inl (so1 (sLo sK) so0)) <| st rfl <| mvd rfl rfl <| bnd h fun x9 e10 h => st rfl <| o_call (a1 (c := (cLs cI rfl)) (tLs tK) rfl a0) (con_impl_cubeCells e10) (.inl (so1 sK so0)) <| mkO_k h fun i11 l12 h => st rfl <| o_mk (c := cI) (a0 := (0 : Int)) rfl (k := .i64) rfl i11 l12 <| x_bld ((cXCube (cLo cI) (cLo cI)).enc (⟨x7, (List.replicate (x9).toNat (0 : Int))⟩ : XCube)) (t1 (so rfl rfl) rfl (t1 (so rfl rfl) rfl t0)) rfl rfl <| x_all (cXCube (cLo cI) (cLo cI)) (⟨([] : List Int), ([] : List Int)⟩ : XCube) rfl <| x_stb (so rfl rfl) rfl (Cd.h_sz _ _) rfl <| seqN [(0, .d ((cLs cI rfl).enc v0)), (1, .d ((cLs cI rfl).enc v1)), (4, .box ((cXCube (cLo cI) (cLo cI)).enc (⟨([] : List Int), ([] : List Int)⟩ : XCube))), (6, .box ((cXCube (cLo cI) (cLo cI)).enc (⟨x7, (List.replicate (x9).toNat (0 : Int))⟩ : XCube)))] (by kernel_rfl) <|
    xn <| wpC_seq <| reg_s <| x_asg (sc cI (0 : Int) rfl) <| seqN [(0, .d ((cLs cI rfl).enc v0)), (1, .d ((cLs cI rfl).enc v1)), (4, .box ((cXCube (cLo cI) (cLo cI)).enc (⟨([] : List Int), ([] : List Int)⟩ : XCube))), (6, .box ((cXCube (cLo cI) (cLo cI)).enc (⟨x7, (List.replicate (x9).toNat (0 : Int))⟩ : XCube))), (7, .d (cI.enc (0 : Int)))] (by kernel_rfl) <|
    xn <| wpC_seq <| wpC_kp <| wpC_seq <| reg_s <| st rfl <| fab rfl rfl rfl rfl <| st rfl <| ldao rfl rfl rfl rfl rfl rfl <| stw rfl <| leno rfl fun l84 => st rfl <| mvc cI (0 : Int) rfl <| seqN [(0, .d ((cLs cI rfl).enc v0)), (1, .d ((cLs cI rfl).enc v1)), (4, .box ((cXCube (cLo cI) (cLo cI)).enc (⟨([] : List Int), ([] : List Int)⟩ : XCube))), (6, .box ((cXCube (cLo cI) (cLo cI)).enc (⟨x7, (List.replicate (x9).toNat (0 : Int))⟩ : XCube))), (7, .d (cI.enc (0 : Int))), (24, .d (cI.enc ((List.replicate (x9).toNat (0 : Int)).length : Int))), (25, .d (cI.enc (0 : Int)))] (by kernel_rfl) <|
    xn <| wpC_blk <| lpR (fun (k86 : Nat) (s85 : Int) => [(0, .d ((cLs cI rfl).enc v0)), (1, .d ((cLs cI rfl).enc v1)), (4, .box ((cXCube (cLo cI) (cLo cI)).enc (⟨([] : List Int), ([] : List Int)⟩ : XCube))), (6, .box ((cXCube (cLo cI) (cLo cI)).enc (⟨x7, (List.replicate (x9).toNat (0 : Int))⟩ : XCube))), (7, .d (cI.enc s85)), (24, .d (cI.enc ((List.replicate (x9).toNat (0 : Int)).length : Int))), (25, .d (cI.enc (k86 : Int)))]) (0 : Int) rfl h
    (fun G132 s85 h => wpC_seq <| reg_s <| st rfl <| b_lss (k := .i64) rfl rfl <| seqN [(0, .d ((cLs cI rfl).enc v0)), (1, .d ((cLs cI rfl).enc v1)), (4, .box ((cXCube (cLo cI) (cLo cI)).enc (⟨([] : List Int), ([] : List Int)⟩ : XCube))), (6, .box ((cXCube (cLo cI) (cLo cI)).enc (⟨x7, (List.replicate (x9).toNat (0 : Int))⟩ : XCube))), (7, .d (cI.enc s85)), (24, .d (cI.enc ((List.replicate (x9).toNat (0 : Int)).length : Int))), (25, .d (cI.enc ((List.replicate (x9).toNat (0 : Int)).length : Int))), (26, .d (cB.enc (decide (((List.replicate (x9).toNat (0 : Int)).length : Int) < ((List.replicate (x9).toNat (0 : Int)).length : Int)))))] (by kernel_rfl) <|
    xn <| wpC_seq <| wpC_kp <| cnd0 rfl (dlf _) <| wpC_exit <| xt <| xt <| xt <| xb <| kpN [(0, .d ((cLs cI rfl).enc v0)), (1, .d ((cLs cI rfl).enc v1)), (4, .box ((cXCube (cLo cI) (cLo cI)).enc (⟨([] : List Int), ([] : List Int)⟩ : XCube))), (6, .box ((cXCube (cLo cI) (cLo cI)).enc (⟨x7, (List.replicate (x9).toNat (0 : Int))⟩ : XCube))), (7, .d (cI.enc s85))] (by kernel_rfl) <| xn <| wpC_seq <| wpC_kp <| wpC_seq <| reg_s <| st rfl <| mvd rfl rfl <| st rfl <| mvd rfl rfl <| stw rfl <| lens rfl fun l146 => st rfl <| b_neq (k := .i64) rfl rfl <| st rfl <| mvd rfl rfl <| ite_k h (fun b147 h => gf rfl b147 <| gf rfl b147 <| gf rfl b147 <| st rfl <| pick1 rfl b147 (cd := cB) (v := true) rfl rfl <| seqN [(0, .d ((cLs cI rfl).enc v0)), (1, .d ((cLs cI rfl).enc v1)), (4, .box ((cXCube (cLo cI) (cLo cI)).enc (⟨([] : List Int), ([] : List Int)⟩ : XCube))), (6, .box ((cXCube (cLo cI) (cLo cI)).enc (⟨x7, (List.replicate (x9).toNat (0 : Int))⟩ : XCube))), (44, .d (cB.enc true))] (by kernel_rfl) <|
    xn <| cnd1 rfl rfl <| wpC_seq <| reg_s <| x_bld ((cXCube (cLo cI) (cLo cI)).enc (⟨([] : List Int), ([] : List Int)⟩ : XCube)) t0 rfl rfl <| x_stb (so rfl rfl) rfl (Cd.h_sz _ _) rfl <| x_asg (sc cB false rfl) <| seqN [(4, .box ((cXCube (cLo cI) (cLo cI)).enc (⟨([] : List Int), ([] : List Int)⟩ : XCube))), (5, .d (cB.enc false))] (by kernel_rfl) <|
    xn <| wpC_ret <| rt <| rt <| re <| fin h (r2 rfl rfl rfl <| r1 (ss rfl rfl) <| r0) rfl)
    (fun b147 h => gt' rfl b147 <| st rfl <| mvd rfl rfl <| gt' rfl b147 <| bnd h fun x148 e149 h => st rfl <| o_call (a1 (c := (cLs cI rfl)) (tLs tK) rfl a0) (con_impl_areCubeValues e149) (.inl (so1 sB so0)) <| gt' rfl b147 <| st rfl <| o_nt rfl <| st rfl <| pick0 rfl b147 (cd := cB) (v := (!x148)) rfl rfl <| seqN [(0, .d ((cLs cI rfl).enc v0)), (1, .d ((cLs cI rfl).enc v1)), (4, .box ((cXCube (cLo cI) (cLo cI)).enc (⟨([] : List Int), ([] : List Int)⟩ : XCube))), (6, .box ((cXCube (cLo cI) (cLo cI)).enc (⟨x7, (List.replicate (x9).toNat (0 : Int))⟩ : XCube))), (44, .d (cB.enc (!x148)))] (by kernel_rfl) <|
    xn <| cnd rfl h (fun b150 h => wpC_seq <| reg_s <| x_bld ((cXCube (cLo cI) (cLo cI)).enc (⟨([] : List Int), ([] : List Int)⟩ : XCube)) t0 rfl rfl <| x_stb (so rfl rfl) rfl (Cd.h_sz _ _) rfl <| x_asg (sc cB false rfl) <| seqN [(4, .box ((cXCube (cLo cI) (cLo cI)).enc (⟨([] : List Int), ([] : List Int)⟩ : XCube))), (5, .d (cB.enc false))] (by kernel_rfl) <|
    xn <| wpC_ret <| rt <| rt <| re <| fin h (r2 rfl rfl rfl <| r1 (ss rfl rfl) <| r0) rfl)
    (fun b150 h => wpC_skip <| kpN [(0, .d ((cLs cI rfl).enc v0)), (1, .d ((cLs cI rfl).enc v1)), (4, .box ((cXCube (cLo cI) (cLo cI)).enc (⟨([] : List Int), ([] : List Int)⟩ : XCube))), (6, .box ((cXCube (cLo cI) (cLo cI)).enc (⟨x7, (List.replicate (x9).toNat (0 : Int))⟩ : XCube)))] (by kernel_rfl) <| xn <| wpC_seq <| reg_s <| x_asg (sc cI (0 : Int) rfl) <| seqN [(0, .d ((cLs cI rfl).enc v0)), (1, .d ((cLs cI rfl).enc v1)), (4, .box ((cXCube (cLo cI) (cLo cI)).enc (⟨([] : List Int), ([] : List Int)⟩ : XCube))), (6, .box ((cXCube (cLo cI) (cLo cI)).enc (⟨x7, (List.replicate (x9).toNat (0 : Int))⟩ : XCube))), (9, .d (cI.enc (0 : Int)))] (by kernel_rfl) <|
    xn <| wpC_seq <| wpC_kp <| wpC_seq <| reg_s <| st rfl <| fab rfl rfl rfl rfl <| st rfl <| ldao rfl rfl rfl rfl rfl rfl <| stw rfl <| leno rfl fun l282 => st rfl <| mvc cI (0 : Int) rfl <| seqN [(0, .d ((cLs cI rfl).enc v0)), (1, .d ((cLs cI rfl).enc v1)), (4, .box ((cXCube (cLo cI) (cLo cI)).enc (⟨([] : List Int), ([] : List Int)⟩ : XCube))), (6, .box ((cXCube (cLo cI) (cLo cI)).enc (⟨x7, (List.replicate (x9).toNat (0 : Int))⟩ : XCube))), (9, .d (cI.enc (0 : Int))), (48, .d (cI.enc ((List.replicate (x9).toNat (0 : Int)).length : Int))), (49, .d (cI.enc (0 : Int)))] (by kernel_rfl) <|
    xn <| wpC_blk <| lpR (fun (k284 : Nat) (s283 : (XCube × Int)) => [(0, .d ((cLs cI rfl).enc v0)), (1, .d ((cLs cI rfl).enc v1)), (4, .box ((cXCube (cLo cI) (cLo cI)).enc (⟨([] : List Int), ([] : List Int)⟩ : XCube))), (6, .box ((cXCube (cLo cI) (cLo cI)).enc s283.1)), (9, .d (cI.enc s283.2)), (48, .d (cI.enc ((List.replicate (x9).toNat (0 : Int)).length : Int))), (49, .d (cI.enc (k284 : Int)))]) ((⟨x7, (List.replicate (x9).toNat (0 : Int))⟩ : XCube), (0 : Int)) rfl h
    (fun G366 s283 h => wpC_seq <| reg_s <| st rfl <| b_lss (k := .i64) rfl rfl <| seqN [(0, .d ((cLs cI rfl).enc v0)), (1, .d ((cLs cI rfl).enc v1)), (4, .box ((cXCube (cLo cI) (cLo cI)).enc (⟨([] : List Int), ([] : List Int)⟩ : XCube))), (6, .box ((cXCube (cLo cI) (cLo cI)).enc s283.1)), (9, .d (cI.enc s283.2)), (48, .d (cI.enc ((List.replicate (x9).toNat (0 : Int)).length : Int))), (49, .d (cI.enc ((List.replicate (x9).toNat (0 : Int)).length : Int))), (50, .d (cB.enc (decide (((List.replicate (x9).toNat (0 : Int)).length : Int) < ((List.replicate (x9).toNat (0 : Int)).length : Int)))))] (by kernel_rfl) <|
    xn <| wpC_seq <| wpC_kp <| cnd0 rfl (dlf _) <| wpC_exit <| xt <| xt <| xt <| xb <| kpN [(0, .d ((cLs cI rfl).enc v0)), (4, .box ((cXCube (cLo cI) (cLo cI)).enc (⟨([] : List Int), ([] : List Int)⟩ : XCube))), (6, .box ((cXCube (cLo cI) (cLo cI)).enc s283.1))] (by kernel_rfl) <| xn <| wpC_seq <| wpC_kp <| wpC_seq <| reg_s <| st rfl <| mvd rfl rfl <| bnd h fun x5016 e5017 h => st rfl <| o_call (a1 (c := (cLs cI rfl)) (tLs tK) rfl a0) (con_impl_strides e5017) (.inl (so1 (sLo sK) so0)) <| stw rfl <| leno rfl fun l5018 => st rfl <| mvc cI (0 : Int) rfl <| seqN [(0, .d ((cLs cI rfl).enc v0)), (4, .box ((cXCube (cLo cI) (cLo cI)).enc (⟨([] : List Int), ([] : List Int)⟩ : XCube))), (6, .box ((cXCube (cLo cI) (cLo cI)).enc s283.1)), (69, .d ((cLo cI).enc x5016)), (70, .d (cI.enc (x5016.length : Int))), (71, .d (cI.enc (0 : Int)))] (by kernel_rfl) <|
    xn <| wpC_blk <| lpR (fun (k5020 : Nat) (s5019 : XCube) => [(0, .d ((cLs cI rfl).enc v0)), (4, .box ((cXCube (cLo cI) (cLo cI)).enc (⟨([] : List Int), ([] : List Int)⟩ : XCube))), (6, .box ((cXCube (cLo cI) (cLo cI)).enc s5019)), (69, .d ((cLo cI).enc x5016)), (70, .d (cI.enc (x5016.length : Int))), (71, .d (cI.enc (k5020 : Int)))]) s283.1 rfl h
    (fun G8114 s5019 h => wpC_seq <| reg_s <| st rfl <| b_lss (k := .i64) rfl rfl <| seqN [(0, .d ((cLs cI rfl).enc v0)), (4, .box ((cXCube (cLo cI) (cLo cI)).enc (⟨([] : List Int), ([] : List Int)⟩ : XCube))), (6, .box ((cXCube (cLo cI) (cLo cI)).enc s5019)), (69, .d ((cLo cI).enc x5016)), (70, .d (cI.enc (x5016.length : Int))), (71, .d (cI.enc (x5016.length : Int))), (72, .d (cB.enc (decide ((x5016.length : Int) < (x5016.length : Int)))))] (by kernel_rfl) <|
    xn <| wpC_seq <| wpC_kp <| cnd0 rfl (dlf _) <| wpC_exit <| xt <| xt <| xt <| xb <| kpN [(4, .box ((cXCube (cLo cI) (cLo cI)).enc (⟨([] : List Int), ([] : List Int)⟩ : XCube))), (6, .box ((cXCube (cLo cI) (cLo cI)).enc s5019))] (by kernel_rfl) <| xn <| wpC_seq <| wpC_kp <| wpC_seq <| reg_s <| st rfl <| fab rfl rfl rfl rfl <| st rfl <| ldao rfl rfl rfl rfl rfl rfl <| bnd h fun x8122 e8123 h => st rfl <| o_call (a1 (c := (cLo cI)) (tLo tK) rfl a0) (con_impl_areCubeValues e8123) (.inl (so1 sB so0)) <| st rfl <| o_nt rfl <| seqN [(4, .box ((cXCube (cLo cI) (cLo cI)).enc (⟨([] : List Int), ([] : List Int)⟩ : XCube))), (6, .box ((cXCube (cLo cI) (cLo cI)).enc s5019)), (135, .d (cB.enc (!x8122)))] (by kernel_rfl) <|
    xn <| cnd rfl h (fun b8124 h => wpC_seq <| reg_s <| x_bld ((cXCube (cLo cI) (cLo cI)).enc (⟨([] : List Int), ([] : List Int)⟩ : XCube)) t0 rfl rfl <| x_stb (so rfl rfl) rfl (Cd.h_sz _ _) rfl <| x_asg (sc cB false rfl) <| seqN [(4, .box ((cXCube (cLo cI) (cLo cI)).enc (⟨([] : List Int), ([] : List Int)⟩ : XCube))), (5, .d (cB.enc false))] (by kernel_rfl) <|
    xn <| wpC_ret <| rt <| rt <| re <| fin h (r2 rfl rfl rfl <| r1 (ss rfl rfl) <| r0) rfl)
    (fun b8124 h => wpC_skip <| kpN [(4, .box ((cXCube (cLo cI) (cLo cI)).enc (⟨([] : List Int), ([] : List Int)⟩ : XCube))), (6, .box ((cXCube (cLo cI) (cLo cI)).enc s5019))] (by kernel_rfl) <| xn <| wpC_seq <| reg_s <| st rfl <| ldbo rfl rfl rfl rfl <| x_stb (sb rfl rfl) rfl (Cd.h_sz _ _) rfl <| x_asg (sc cB true rfl) <| seqN [(4, .box ((cXCube (cLo cI) (cLo cI)).enc s5019)), (5, .d (cB.enc true))] (by kernel_rfl) <|
    xn <| wpC_ret <| re <| fin h (r2 rfl rfl rfl <| r1 (ss rfl rfl) <| r0) rfl))
    (fun G8114 nx8112 k5020 s5019 x5021 hk5022 hx5023 hn8113 h => wpC_seq <| reg_s <| st rfl <| b_lss (k := .i64) rfl rfl <| seqN [(0, .d ((cLs cI rfl).enc v0)), (4, .box ((cXCube (cLo cI) (cLo cI)).enc (⟨([] : List Int), ([] : List Int)⟩ : XCube))), (6, .box ((cXCube (cLo cI) (cLo cI)).enc s5019)), (69, .d ((cLo cI).enc x5016)), (70, .d (cI.enc (x5016.length : Int))), (71, .d (cI.enc (k5020 : Int))), (72, .d (cB.enc (decide ((k5020 : Int) < (x5016.length : Int)))))] (by kernel_rfl) <|
    xn <| wpC_seq <| wpC_kp <| cnd1 rfl (dlt hk5022) <| wpC_skip <| kpN [(0, .d ((cLs cI rfl).enc v0)), (4, .box ((cXCube (cLo cI) (cLo cI)).enc (⟨([] : List Int), ([] : List Int)⟩ : XCube))), (6, .box ((cXCube (cLo cI) (cLo cI)).enc s5019)), (69, .d ((cLo cI).enc x5016)), (70, .d (cI.enc (x5016.length : Int))), (71, .d (cI.enc (k5020 : Int)))] (by kernel_rfl) <| xn <| wpC_seq <| wpC_kp <| wpC_blk <| wpC_seq <| reg_s <| st rfl <| mvd rfl rfl <| st rfl <| iao rfl rfl (Int.natCast_nonneg _) hx5023 rfl <| st rfl <| lda rfl rfl (Gt.idx hx5023 Gt.nil) rfl rfl rfl <| x_asg (ss rfl rfl) <| x_asg (ss rfl rfl) <| seqN [(0, .d ((cLs cI rfl).enc v0)), (4, .box ((cXCube (cLo cI) (cLo cI)).enc (⟨([] : List Int), ([] : List Int)⟩ : XCube))), (6, .box ((cXCube (cLo cI) (cLo cI)).enc s5019)), (11, .d (cI.enc (k5020 : Int))), (12, .d (cI.enc x5021)), (69, .d ((cLo cI).enc x5016)), (70, .d (cI.enc (x5016.length : Int))), (71, .d (cI.enc (k5020 : Int)))] (by kernel_rfl) <|
    xn <| wpC_seq <| reg_s <| st rfl <| fab rfl rfl rfl rfl <| st rfl <| ldao rfl rfl rfl rfl rfl rfl <| stw rfl <| leno rfl fun l8898 => st rfl <| mvc cI (0 : Int) rfl <| seqN [(0, .d ((cLs cI rfl).enc v0)), (4, .box ((cXCube (cLo cI) (cLo cI)).enc (⟨([] : List Int), ([] : List Int)⟩ : XCube))), (6, .box ((cXCube (cLo cI) (cLo cI)).enc s5019)), (11, .d (cI.enc (k5020 : Int))), (12, .d (cI.enc x5021)), (69, .d ((cLo cI).enc x5016)), (70, .d (cI.enc (x5016.length : Int))), (71, .d (cI.enc (k5020 : Int))), (78, .d (cI.enc (s5019.Cells.length : Int))), (79, .d (cI.enc (0 : Int)))] (by kernel_rfl) <|
    xn <| wpC_blk <| lpR (fun (k8900 : Nat) (s8899 : XCube) => [(0, .d ((cLs cI rfl).enc v0)), (4, .box ((cXCube (cLo cI) (cLo cI)).enc (⟨([] : List Int), ([] : List Int)⟩ : XCube))), (6, .box ((cXCube (cLo cI) (cLo cI)).enc s8899)), (11, .d (cI.enc (k5020 : Int))), (12, .d (cI.enc x5021)), (69, .d ((cLo cI).enc x5016)), (70, .d (cI.enc (x5016.length : Int))), (71, .d (cI.enc (k5020 : Int))), (78, .d (cI.enc (s5019.Cells.length : Int))), (79, .d (cI.enc (k8900 : Int)))]) s5019 rfl h
    (fun G9410 s8899 h => wpC_seq <| reg_s <| st rfl <| b_lss (k := .i64) rfl rfl <| seqN [(0, .d ((cLs cI rfl).enc v0)), (4, .box ((cXCube (cLo cI) (cLo cI)).enc (⟨([] : List Int), ([] : List Int)⟩ : XCube))), (6, .box ((cXCube (cLo cI) (cLo cI)).enc s8899)), (11, .d (cI.enc (k5020 : Int))), (12, .d (cI.enc x5021)), (69, .d ((cLo cI).enc x5016)), (70, .d (cI.enc (x5016.length : Int))), (71, .d (cI.enc (k5020 : Int))), (78, .d (cI.enc (s5019.Cells.length : Int))), (79, .d (cI.enc (s5019.Cells.length : Int))), (80, .d (cB.enc (decide ((s5019.Cells.length : Int) < (s5019.Cells.length : Int)))))] (by kernel_rfl) <|
    xn <| wpC_seq <| wpC_kp <| cnd0 rfl (dlf _) <| wpC_exit <| xt <| xt <| xt <| xb <| xbb <| kpN [(0, .d ((cLs cI rfl).enc v0)), (4, .box ((cXCube (cLo cI) (cLo cI)).enc (⟨([] : List Int), ([] : List Int)⟩ : XCube))), (6, .box ((cXCube (cLo cI) (cLo cI)).enc s8899)), (69, .d ((cLo cI).enc x5016)), (70, .d (cI.enc (x5016.length : Int))), (71, .d (cI.enc (k5020 : Int)))] (by kernel_rfl) <| xn <| reg_s <| st rfl <| b_inc rfl rfl l5018 hk5022 <| st rfl <| mvd rfl rfl <| seqN [(0, .d ((cLs cI rfl).enc v0)), (4, .box ((cXCube (cLo cI) (cLo cI)).enc (⟨([] : List Int), ([] : List Int)⟩ : XCube))), (6, .box ((cXCube (cLo cI) (cLo cI)).enc s8899)), (69, .d ((cLo cI).enc x5016)), (70, .d (cI.enc (x5016.length : Int))), (71, .d (cI.enc ((k5020 + 1 : Nat) : Int)))] (by kernel_rfl) <|
    xn <| hn8113 s8899 h)
    (fun G9410 nx9408 k8900 s8899 x8901 hk8902 hx8903 hn9409 h => wpC_seq <| reg_s <| st rfl <| b_lss (k := .i64) rfl rfl <| seqN [(0, .d ((cLs cI rfl).enc v0)), (4, .box ((cXCube (cLo cI) (cLo cI)).enc (⟨([] : List Int), ([] : List Int)⟩ : XCube))), (6, .box ((cXCube (cLo cI) (cLo cI)).enc s8899)), (11, .d (cI.enc (k5020 : Int))), (12, .d (cI.enc x5021)), (69, .d ((cLo cI).enc x5016)), (70, .d (cI.enc (x5016.length : Int))), (71, .d (cI.enc (k5020 : Int))), (78, .d (cI.enc (s5019.Cells.length : Int))), (79, .d (cI.enc (k8900 : Int))), (80, .d (cB.enc (decide ((k8900 : Int) < (s5019.Cells.length : Int)))))] (by kernel_rfl) <|
    xn <| wpC_seq <| wpC_kp <| cnd1 rfl (dlt hk8902) <| wpC_skip <| kpN [(0, .d ((cLs cI rfl).enc v0)), (4, .box ((cXCube (cLo cI) (cLo cI)).enc (⟨([] : List Int), ([] : List Int)⟩ : XCube))), (6, .box ((cXCube (cLo cI) (cLo cI)).enc s8899)), (11, .d (cI.enc (k5020 : Int))), (12, .d (cI.enc x5021)), (69, .d ((cLo cI).enc x5016)), (70, .d (cI.enc (x5016.length : Int))), (71, .d (cI.enc (k5020 : Int))), (78, .d (cI.enc (s5019.Cells.length : Int))), (79, .d (cI.enc (k8900 : Int)))] (by kernel_rfl) <| xn <| wpC_seq <| wpC_kp <| wpC_blk <| wpC_seq <| reg_s <| st rfl <| mvd rfl rfl <| x_asg (ss rfl rfl) <| seqN [(0, .d ((cLs cI rfl).enc v0)), (4, .box ((cXCube (cLo cI) (cLo cI)).enc (⟨([] : List Int), ([] : List Int)⟩ : XCube))), (6, .box ((cXCube (cLo cI) (cLo cI)).enc s8899)), (11, .d (cI.enc (k5020 : Int))), (12, .d (cI.enc x5021)), (13, .d (cI.enc (k8900 : Int))), (69, .d ((cLo cI).enc x5016)), (70, .d (cI.enc (x5016.length : Int))), (71, .d (cI.enc (k5020 : Int))), (78, .d (cI.enc (s5019.Cells.length : Int))), (79, .d (cI.enc (k8900 : Int)))] (by kernel_rfl) <|
    xn <| wpC_seq <| reg_s <| st rfl <| mvd rfl rfl <| st rfl <| mvd rfl rfl <| bnd h fun x9542 e9543 h => st rfl <| o_call (a1 (c := (cLs cI rfl)) (tLs tK) rfl (a1 (c := cI) tK rfl a0)) (con_impl_indexOf e9543) (.inl (so1 (sLo sK) so0)) <| x_asg (so rfl rfl) <| seqN [(0, .d ((cLs cI rfl).enc v0)), (4, .box ((cXCube (cLo cI) (cLo cI)).enc (⟨([] : List Int), ([] : List Int)⟩ : XCube))), (6, .box ((cXCube (cLo cI) (cLo cI)).enc s8899)), (11, .d (cI.enc (k5020 : Int))), (12, .d (cI.enc x5021)), (13, .d (cI.enc (k8900 : Int))), (14, .d ((cLo cI).enc x9542)), (69, .d ((cLo cI).enc x5016)), (70, .d (cI.enc (x5016.length : Int))), (71, .d (cI.enc (k5020 : Int))), (78, .d (cI.enc (s5019.Cells.length : Int))), (79, .d (cI.enc (k8900 : Int)))] (by kernel_rfl) <|
    xn <| fz_s (tLo tK) rfl <| wpC_seq <| wpC_kp <| wpC_seq <| drw_s <| pst rfl <| mvd rfl rfl ⟨rfl, pst rfl <| mvd rfl rfl ⟨rfl, getO_kp h fun x9584 i9585 g9586 h => pst rfl <| ias rfl rfl i9585 g9586 rfl ⟨rfl, pst rfl <| ldi rfl rfl rfl rfl ⟨rfl, pst rfl <| mvd rfl rfl ⟨rfl, pst rfl <| mvd rfl rfl ⟨rfl, getO_kp h fun x9587 i9588 g9589 h => pst rfl <| ias rfl rfl i9588 g9589 rfl ⟨rfl, pst rfl <| ldi rfl rfl rfl rfl ⟨rfl, pst rfl <| b_neq (k := .i64) rfl rfl ⟨rfl, pst rfl <| mvd rfl rfl ⟨rfl, ite_kp h (fun b9590 h => pgf rfl rfl b9590 <| pgf rfl rfl b9590 <| pgf rfl rfl b9590 <| pgf rfl rfl b9590 <| pgf rfl rfl b9590 <| pgf rfl rfl b9590 <| pgf rfl rfl b9590 <| pgf rfl rfl b9590 <| pgf rfl rfl b9590 <| pgf rfl rfl b9590 <| pst rfl <| pick1 rfl b9590 (cd := cB) (v := true) rfl rfl ⟨rfl, preN <| seqN [(0, .d ((cLs cI rfl).enc v0)), (4, .box ((cXCube (cLo cI) (cLo cI)).enc (⟨([] : List Int), ([] : List Int)⟩ : XCube))), (6, .box ((cXCube (cLo cI) (cLo cI)).enc s8899)), (11, .d (cI.enc (k5020 : Int))), (12, .d (cI.enc x5021)), (13, .d (cI.enc (k8900 : Int))), (69, .d ((cLo cI).enc x5016)), (70, .d (cI.enc (x5016.length : Int))), (71, .d (cI.enc (k5020 : Int))), (78, .d (cI.enc (s5019.Cells.length : Int))), (79, .d (cI.enc (k8900 : Int))), (105, .d (cB.enc true))] (by kernel_rfl) <|
    xn <| cnd1 rfl rfl <| wpC_exit <| xt <| xt <| xb <| kpN [(0, .d ((cLs cI rfl).enc v0)), (4, .box ((cXCube (cLo cI) (cLo cI)).enc (⟨([] : List Int), ([] : List Int)⟩ : XCube))), (6, .box ((cXCube (cLo cI) (cLo cI)).enc s8899)), (11, .d (cI.enc (k5020 : Int))), (12, .d (cI.enc x5021)), (69, .d ((cLo cI).enc x5016)), (70, .d (cI.enc (x5016.length : Int))), (71, .d (cI.enc (k5020 : Int))), (78, .d (cI.enc (s5019.Cells.length : Int))), (79, .d (cI.enc (k8900 : Int)))] (by kernel_rfl) <| xn <| reg_s <| st rfl <| b_inc rfl rfl l8898 hk8902 <| st rfl <| mvd rfl rfl <| seqN [(0, .d ((cLs cI rfl).enc v0)), (4, .box ((cXCube (cLo cI) (cLo cI)).enc (⟨([] : List Int), ([] : List Int)⟩ : XCube))), (6, .box ((cXCube (cLo cI) (cLo cI)).enc s8899)), (11, .d (cI.enc (k5020 : Int))), (12, .d (cI.enc x5021)), (69, .d ((cLo cI).enc x5016)), (70, .d (cI.enc (x5016.length : Int))), (71, .d (cI.enc (k5020 : Int))), (78, .d (cI.enc (s5019.Cells.length : Int))), (79, .d (cI.enc ((k8900 + 1 : Nat) : Int)))] (by kernel_rfl) <|
    xn <| hn9409 s8899 h⟩)
    (fun b9590 h => pgt rfl b9590 <| pst rfl <| mvd rfl rfl ⟨rfl, pgt rfl b9590 <| pst rfl <| mvd rfl rfl ⟨rfl, pgt rfl b9590 <| ckI_kp h fun i9591 h => pst rfl <| b_add (k := .i64) rfl rfl i9591 ⟨rfl, pgt rfl b9590 <| ck_kp h fun i9592 h => pst rfl <| o_sl rfl rfl (lo1 (k := .i64) rfl i9592.1) hi0 i9592.2 ⟨rfl, pgt rfl b9590 <| pst rfl <| mvd rfl rfl ⟨rfl, pgt rfl b9590 <| pst rfl <| mvd rfl rfl ⟨rfl, pgt rfl b9590 <| ckI_kp h fun i9593 h => pst rfl <| b_add (k := .i64) rfl rfl i9593 ⟨rfl, pgt rfl b9590 <| ck_kp h fun i9594 h => pst rfl <| o_sl rfl rfl (lo1 (k := .i64) rfl i9594.1) hi0 i9594.2 ⟨rfl, pgt rfl b9590 <| bndp h fun x9595 e9596 h => pst rfl <| o_call (a1 (c := (cLs cI rfl)) (tLs tK) rfl (a1 (c := (cLs cI rfl)) (tLs tK) rfl a0)) (con_impl_isBase e9596) (.inl (so1 sB so0)) ⟨rfl, pgt rfl b9590 <| pst rfl <| o_nt rfl ⟨rfl, pst rfl <| pick0 rfl b9590 (cd := cB) (v := (!x9595)) rfl rfl ⟨rfl, preN <| seqN [(0, .d ((cLs cI rfl).enc v0)), (4, .box ((cXCube (cLo cI) (cLo cI)).enc (⟨([] : List Int), ([] : List Int)⟩ : XCube))), (6, .box ((cXCube (cLo cI) (cLo cI)).enc s8899)), (11, .d (cI.enc (k5020 : Int))), (12, .d (cI.enc x5021)), (13, .d (cI.enc (k8900 : Int))), (69, .d ((cLo cI).enc x5016)), (70, .d (cI.enc (x5016.length : Int))), (71, .d (cI.enc (k5020 : Int))), (78, .d (cI.enc (s5019.Cells.length : Int))), (79, .d (cI.enc (k8900 : Int))), (105, .d (cB.enc (!x9595)))] (by kernel_rfl) <|
    xn <| cnd rfl h (fun b9597 h => wpC_exit <| xt <| xt <| xb <| kpN [(0, .d ((cLs cI rfl).enc v0)), (4, .box ((cXCube (cLo cI) (cLo cI)).enc (⟨([] : List Int), ([] : List Int)⟩ : XCube))), (6, .box ((cXCube (cLo cI) (cLo cI)).enc s8899)), (11, .d (cI.enc (k5020 : Int))), (12, .d (cI.enc x5021)), (69, .d ((cLo cI).enc x5016)), (70, .d (cI.enc (x5016.length : Int))), (71, .d (cI.enc (k5020 : Int))), (78, .d (cI.enc (s5019.Cells.length : Int))), (79, .d (cI.enc (k8900 : Int)))] (by kernel_rfl) <| xn <| reg_s <| st rfl <| b_inc rfl rfl l8898 hk8902 <| st rfl <| mvd rfl rfl <| seqN [(0, .d ((cLs cI rfl).enc v0)), (4, .box ((cXCube (cLo cI) (cLo cI)).enc (⟨([] : List Int), ([] : List Int)⟩ : XCube))), (6, .box ((cXCube (cLo cI) (cLo cI)).enc s8899)), (11, .d (cI.enc (k5020 : Int))), (12, .d (cI.enc x5021)), (69, .d ((cLo cI).enc x5016)), (70, .d (cI.enc (x5016.length : Int))), (71, .d (cI.enc (k5020 : Int))), (78, .d (cI.enc (s5019.Cells.length : Int))), (79, .d (cI.enc ((k8900 + 1 : Nat) : Int)))] (by kernel_rfl) <|
    xn <| hn9409 s8899 h)
    (fun b9597 h => wpC_skip <| kpN [(0, .d ((cLs cI rfl).enc v0)), (4, .box ((cXCube (cLo cI) (cLo cI)).enc (⟨([] : List Int), ([] : List Int)⟩ : XCube))), (6, .box ((cXCube (cLo cI) (cLo cI)).enc s8899)), (11, .d (cI.enc (k5020 : Int))), (12, .d (cI.enc x5021)), (13, .d (cI.enc (k8900 : Int))), (69, .d ((cLo cI).enc x5016)), (70, .d (cI.enc (x5016.length : Int))), (71, .d (cI.enc (k5020 : Int))), (78, .d (cI.enc (s5019.Cells.length : Int))), (79, .d (cI.enc (k8900 : Int)))] (by kernel_rfl) <| xn <| wpC_seq <| reg_s <| x_asg (sc cI (1 : Int) rfl) <| seqN [(0, .d ((cLs cI rfl).enc v0)), (4, .box ((cXCube (cLo cI) (cLo cI)).enc (⟨([] : List Int), ([] : List Int)⟩ : XCube))), (6, .box ((cXCube (cLo cI) (cLo cI)).enc s8899)), (11, .d (cI.enc (k5020 : Int))), (12, .d (cI.enc x5021)), (13, .d (cI.enc (k8900 : Int))), (15, .d (cI.enc (1 : Int))), (69, .d ((cLo cI).enc x5016)), (70, .d (cI.enc (x5016.length : Int))), (71, .d (cI.enc (k5020 : Int))), (78, .d (cI.enc (s5019.Cells.length : Int))), (79, .d (cI.enc (k8900 : Int)))] (by kernel_rfl) <|
    xn <| wpC_blk <| lpF (fun (s9598 : (XCube × Int)) => [(0, .d ((cLs cI rfl).enc v0)), (4, .box ((cXCube (cLo cI) (cLo cI)).enc (⟨([] : List Int), ([] : List Int)⟩ : XCube))), (6, .box ((cXCube (cLo cI) (cLo cI)).enc s9598.1)), (11, .d (cI.enc (k5020 : Int))), (12, .d (cI.enc x5021)), (13, .d (cI.enc (k8900 : Int))), (15, .d (cI.enc s9598.2)), (69, .d ((cLo cI).enc x5016)), (70, .d (cI.enc (x5016.length : Int))), (71, .d (cI.enc (k5020 : Int))), (78, .d (cI.enc (s5019.Cells.length : Int))), (79, .d (cI.enc (k8900 : Int)))]) (s8899, (1 : Int)) rfl h
    fun G9647 nx9645 s9598 hn9646 h => wpC_seq <| wpC_kp <| wpC_seq <| reg_s <| st rfl <| mvd rfl rfl <| st rfl <| mvd rfl rfl <| st rfl <| mvd rfl rfl <| st rfl <| ias rfl rfl i9588 g9589 rfl <| st rfl <| ldi rfl rfl rfl rfl <| st rfl <| b_leq (k := .i64) rfl rfl <| seqN [(0, .d ((cLs cI rfl).enc v0)), (4, .box ((cXCube (cLo cI) (cLo cI)).enc (⟨([] : List Int), ([] : List Int)⟩ : XCube))), (6, .box ((cXCube (cLo cI) (cLo cI)).enc s9598.1)), (11, .d (cI.enc (k5020 : Int))), (12, .d (cI.enc x5021)), (13, .d (cI.enc (k8900 : Int))), (15, .d (cI.enc s9598.2)), (69, .d ((cLo cI).enc x5016)), (70, .d (cI.enc (x5016.length : Int))), (71, .d (cI.enc (k5020 : Int))), (78, .d (cI.enc (s5019.Cells.length : Int))), (79, .d (cI.enc (k8900 : Int))), (111, .d (cB.enc (decide (s9598.2 ≤ x9587))))] (by kernel_rfl) <|
    xn <| cnd rfl h (fun b9649 h => wpC_skip <| kpN [(0, .d ((cLs cI rfl).enc v0)), (4, .box ((cXCube (cLo cI) (cLo cI)).enc (⟨([] : List Int), ([] : List Int)⟩ : XCube))), (6, .box ((cXCube (cLo cI) (cLo cI)).enc s9598.1)), (11, .d (cI.enc (k5020 : Int))), (12, .d (cI.enc x5021)), (13, .d (cI.enc (k8900 : Int))), (15, .d (cI.enc s9598.2)), (69, .d ((cLo cI).enc x5016)), (70, .d (cI.enc (x5016.length : Int))), (71, .d (cI.enc (k5020 : Int))), (78, .d (cI.enc (s5019.Cells.length : Int))), (79, .d (cI.enc (k8900 : Int)))] (by kernel_rfl) <| xn <| wpC_seq <| wpC_kp <| wpC_blk <| drw_s <| pst rfl <| fab rfl rfl rfl rfl ⟨rfl, pst rfl <| ldao rfl rfl rfl rfl rfl rfl ⟨rfl, pst rfl <| mvd rfl rfl ⟨rfl, getO_kp h fun x9659 i9660 g9661 h => pst rfl <| iar rfl rfl rfl rfl i9660 g9661 rfl ⟨rfl, pst rfl <| lda rfl rfl (Gt.fld rfl rfl (Gt.idx g9661 Gt.nil)) rfl rfl rfl ⟨rfl, pst rfl <| fab rfl rfl rfl rfl ⟨rfl, pst rfl <| ldao rfl rfl rfl rfl rfl rfl ⟨rfl, pst rfl <| mvd rfl rfl ⟨rfl, pst rfl <| mvd rfl rfl ⟨rfl, pst rfl <| mvd rfl rfl ⟨rfl, ckI_kp h fun i9662 h => pst rfl <| b_mul (k := .i64) rfl rfl i9662 ⟨rfl, ckI_kp h fun i9663 h => pst rfl <| b_sub (k := .i64) rfl rfl i9663 ⟨rfl, getO_kp h fun x9664 i9665 g9666 h => pst rfl <| iar rfl rfl rfl rfl i9665 g9666 rfl ⟨rfl, pst rfl <| lda rfl rfl (Gt.fld rfl rfl (Gt.idx g9666 Gt.nil)) rfl rfl rfl ⟨rfl, ckI_kp h fun i9667 h => pst rfl <| b_add (k := .i64) rfl rfl i9667 ⟨rfl, pst rfl <| iar rfl rfl rfl rfl i9660 g9661 rfl ⟨rfl, preN <| x_sta ((cXCube (cLo cI) (cLo cI)).enc (⟨s9598.1.Sizes, (s9598.1.Cells.set ((k8900 : Int)).toNat (x9659 + x9664))⟩ : XCube)) (ss rfl rfl) rfl rfl (Ln.fld rfl rfl (Ln.idx g9661 Ln.nil) rfl) (Cd.h_sz cI _) rfl <| seqN [(0, .d ((cLs cI rfl).enc v0)), (4, .box ((cXCube (cLo cI) (cLo cI)).enc (⟨([] : List Int), ([] : List Int)⟩ : XCube))), (6, .box ((cXCube (cLo cI) (cLo cI)).enc (⟨s9598.1.Sizes, (s9598.1.Cells.set ((k8900 : Int)).toNat (x9659 + x9664))⟩ : XCube))), (11, .d (cI.enc (k5020 : Int))), (12, .d (cI.enc x5021)), (13, .d (cI.enc (k8900 : Int))), (15, .d (cI.enc s9598.2)), (69, .d ((cLo cI).enc x5016)), (70, .d (cI.enc (x5016.length : Int))), (71, .d (cI.enc (k5020 : Int))), (78, .d (cI.enc (s5019.Cells.length : Int))), (79, .d (cI.enc (k8900 : Int)))] (by kernel_rfl) <|
    xbb <| kpN [(0, .d ((cLs cI rfl).enc v0)), (4, .box ((cXCube (cLo cI) (cLo cI)).enc (⟨([] : List Int), ([] : List Int)⟩ : XCube))), (6, .box ((cXCube (cLo cI) (cLo cI)).enc (⟨s9598.1.Sizes, (s9598.1.Cells.set ((k8900 : Int)).toNat (x9659 + x9664))⟩ : XCube))), (11, .d (cI.enc (k5020 : Int))), (12, .d (cI.enc x5021)), (13, .d (cI.enc (k8900 : Int))), (15, .d (cI.enc s9598.2)), (69, .d ((cLo cI).enc x5016)), (70, .d (cI.enc (x5016.length : Int))), (71, .d (cI.enc (k5020 : Int))), (78, .d (cI.enc (s5019.Cells.length : Int))), (79, .d (cI.enc (k8900 : Int)))] (by kernel_rfl) <| xn <| reg_s <| st rfl <| mvd rfl rfl <| ckI_k h fun i9668 h => st rfl <| b_add (k := .i64) rfl rfl i9668 <| x_asg (ss rfl rfl) <| seqN [(0, .d ((cLs cI rfl).enc v0)), (4, .box ((cXCube (cLo cI) (cLo cI)).enc (⟨([] : List Int), ([] : List Int)⟩ : XCube))), (6, .box ((cXCube (cLo cI) (cLo cI)).enc (⟨s9598.1.Sizes, (s9598.1.Cells.set ((k8900 : Int)).toNat (x9659 + x9664))⟩ : XCube))), (11, .d (cI.enc (k5020 : Int))), (12, .d (cI.enc x5021)), (13, .d (cI.enc (k8900 : Int))), (15, .d (cI.enc (s9598.2 + (1 : Int)))), (69, .d ((cLo cI).enc x5016)), (70, .d (cI.enc (x5016.length : Int))), (71, .d (cI.enc (k5020 : Int))), (78, .d (cI.enc (s5019.Cells.length : Int))), (79, .d (cI.enc (k8900 : Int)))] (by kernel_rfl) <|
    xn <| hn9646 ((⟨s9598.1.Sizes, (s9598.1.Cells.set ((k8900 : Int)).toNat (x9659 + x9664))⟩ : XCube), (s9598.2 + (1 : Int))) h⟩⟩⟩⟩⟩⟩⟩⟩⟩⟩⟩⟩⟩⟩⟩⟩)
    (fun b9649 h => wpC_exit <| xt <| xt <| xt <| xb <| xbb <| kpN [(0, .d ((cLs cI rfl).enc v0)), (4, .box ((cXCube (cLo cI) (cLo cI)).enc (⟨([] : List Int), ([] : List Int)⟩ : XCube))), (6, .box ((cXCube (cLo cI) (cLo cI)).enc s9598.1)), (11, .d (cI.enc (k5020 : Int))), (12, .d (cI.enc x5021)), (69, .d ((cLo cI).enc x5016)), (70, .d (cI.enc (x5016.length : Int))), (71, .d (cI.enc (k5020 : Int))), (78, .d (cI.enc (s5019.Cells.length : Int))), (79, .d (cI.enc (k8900 : Int)))] (by kernel_rfl) <| xn <| reg_s <| st rfl <| b_inc rfl rfl l8898 hk8902 <| st rfl <| mvd rfl rfl <| seqN [(0, .d ((cLs cI rfl).enc v0)), (4, .box ((cXCube (cLo cI) (cLo cI)).enc (⟨([] : List Int), ([] : List Int)⟩ : XCube))), (6, .box ((cXCube (cLo cI) (cLo cI)).enc s9598.1)), (11, .d (cI.enc (k5020 : Int))), (12, .d (cI.enc x5021)), (69, .d ((cLo cI).enc x5016)), (70, .d (cI.enc (x5016.length : Int))), (71, .d (cI.enc (k5020 : Int))), (78, .d (cI.enc (s5019.Cells.length : Int))), (79, .d (cI.enc ((k8900 + 1 : Nat) : Int)))] (by kernel_rfl) <|
    xn <| hn9409 s9598.1 h))⟩⟩⟩⟩⟩⟩⟩⟩⟩⟩⟩)⟩⟩⟩⟩⟩⟩⟩⟩⟩⟩)))
    (fun G366 nx364 k284 s283 x285 hk286 hx287 hn365 h => wpC_seq <| reg_s <| st rfl <| b_lss (k := .i64) rfl rfl <| seqN [(0, .d ((cLs cI rfl).enc v0)), (1, .d ((cLs cI rfl).enc v1)), (4, .box ((cXCube (cLo cI) (cLo cI)).enc (⟨([] : List Int), ([] : List Int)⟩ : XCube))), (6, .box ((cXCube (cLo cI) (cLo cI)).enc s283.1)), (9, .d (cI.enc s283.2)), (48, .d (cI.enc ((List.replicate (x9).toNat (0 : Int)).length : Int))), (49, .d (cI.enc (k284 : Int))), (50, .d (cB.enc (decide ((k284 : Int) < ((List.replicate (x9).toNat (0 : Int)).length : Int)))))] (by kernel_rfl) <|
    xn <| wpC_seq <| wpC_kp <| cnd1 rfl (dlt hk286) <| wpC_skip <| kpN [(0, .d ((cLs cI rfl).enc v0)), (1, .d ((cLs cI rfl).enc v1)), (4, .box ((cXCube (cLo cI) (cLo cI)).enc (⟨([] : List Int), ([] : List Int)⟩ : XCube))), (6, .box ((cXCube (cLo cI) (cLo cI)).enc s283.1)), (9, .d (cI.enc s283.2)), (48, .d (cI.enc ((List.replicate (x9).toNat (0 : Int)).length : Int))), (49, .d (cI.enc (k284 : Int)))] (by kernel_rfl) <| xn <| wpC_seq <| wpC_kp <| wpC_blk <| wpC_seq <| reg_s <| st rfl <| mvd rfl rfl <| x_asg (ss rfl rfl) <| seqN [(0, .d ((cLs cI rfl).enc v0)), (1, .d ((cLs cI rfl).enc v1)), (4, .box ((cXCube (cLo cI) (cLo cI)).enc (⟨([] : List Int), ([] : List Int)⟩ : XCube))), (6, .box ((cXCube (cLo cI) (cLo cI)).enc s283.1)), (9, .d (cI.enc s283.2)), (10, .d (cI.enc (k284 : Int))), (48, .d (cI.enc ((List.replicate (x9).toNat (0 : Int)).length : Int))), (49, .d (cI.enc (k284 : Int)))] (by kernel_rfl) <|
    xn <| wpC_seq <| reg_s <| st rfl <| mvd rfl rfl <| st rfl <| mvd rfl rfl <| st rfl <| mvd rfl rfl <| bnd h fun x9695 e9696 h => st rfl <| o_call (a1 (c := (cLs cI rfl)) (tLs tK) rfl (a1 (c := cI) tK rfl a0)) (con_impl_indexOf e9696) (.inl (so1 (sLo sK) so0)) <| bnd h fun x9697 e9698 h => st rfl <| o_call (a1 (c := (cLs cI rfl)) (tLs tK) rfl (a1 (c := (cLo cI)) (tLo tK) rfl a0)) (con_impl_isBase e9698) (.inl (so1 sB so0)) <| seqN [(0, .d ((cLs cI rfl).enc v0)), (1, .d ((cLs cI rfl).enc v1)), (4, .box ((cXCube (cLo cI) (cLo cI)).enc (⟨([] : List Int), ([] : List Int)⟩ : XCube))), (6, .box ((cXCube (cLo cI) (cLo cI)).enc s283.1)), (9, .d (cI.enc s283.2)), (10, .d (cI.enc (k284 : Int))), (48, .d (cI.enc ((List.replicate (x9).toNat (0 : Int)).length : Int))), (49, .d (cI.enc (k284 : Int))), (56, .d (cB.enc x9697))] (by kernel_rfl) <|
    xn <| cnd rfl h (fun b9699 h => wpC_seq <| drw_s <| pst rfl <| fab rfl rfl rfl rfl ⟨rfl, pst rfl <| ldao rfl rfl rfl rfl rfl rfl ⟨rfl, pst rfl <| mvd rfl rfl ⟨rfl, pst rfl <| mvd rfl rfl ⟨rfl, pst rfl <| mvd rfl rfl ⟨rfl, getO_kp h fun x9706 i9707 g9708 h => pst rfl <| ias rfl rfl i9707 g9708 rfl ⟨rfl, pst rfl <| ldi rfl rfl rfl rfl ⟨rfl, getO_kp h fun x9709 i9710 g9711 h => pst rfl <| iar rfl rfl rfl rfl i9710 g9711 rfl ⟨rfl, preN <| x_sta ((cXCube (cLo cI) (cLo cI)).enc (⟨s283.1.Sizes, (s283.1.Cells.set ((k284 : Int)).toNat x9706)⟩ : XCube)) (ss rfl rfl) rfl rfl (Ln.fld rfl rfl (Ln.idx g9711 Ln.nil) rfl) (Cd.h_sz cI _) rfl <| seqN [(0, .d ((cLs cI rfl).enc v0)), (1, .d ((cLs cI rfl).enc v1)), (4, .box ((cXCube (cLo cI) (cLo cI)).enc (⟨([] : List Int), ([] : List Int)⟩ : XCube))), (6, .box ((cXCube (cLo cI) (cLo cI)).enc (⟨s283.1.Sizes, (s283.1.Cells.set ((k284 : Int)).toNat x9706)⟩ : XCube))), (9, .d (cI.enc s283.2)), (48, .d (cI.enc ((List.replicate (x9).toNat (0 : Int)).length : Int))), (49, .d (cI.enc (k284 : Int)))] (by kernel_rfl) <|
    xn <| reg_s <| st rfl <| mvd rfl rfl <| ckI_k h fun i9712 h => st rfl <| b_add (k := .i64) rfl rfl i9712 <| x_asg (ss rfl rfl) <| seqN [(0, .d ((cLs cI rfl).enc v0)), (1, .d ((cLs cI rfl).enc v1)), (4, .box ((cXCube (cLo cI) (cLo cI)).enc (⟨([] : List Int), ([] : List Int)⟩ : XCube))), (6, .box ((cXCube (cLo cI) (cLo cI)).enc (⟨s283.1.Sizes, (s283.1.Cells.set ((k284 : Int)).toNat x9706)⟩ : XCube))), (9, .d (cI.enc (s283.2 + (1 : Int)))), (48, .d (cI.enc ((List.replicate (x9).toNat (0 : Int)).length : Int))), (49, .d (cI.enc (k284 : Int)))] (by kernel_rfl) <|
    xbb <| kpN [(0, .d ((cLs cI rfl).enc v0)), (1, .d ((cLs cI rfl).enc v1)), (4, .box ((cXCube (cLo cI) (cLo cI)).enc (⟨([] : List Int), ([] : List Int)⟩ : XCube))), (6, .box ((cXCube (cLo cI) (cLo cI)).enc (⟨s283.1.Sizes, (s283.1.Cells.set ((k284 : Int)).toNat x9706)⟩ : XCube))), (9, .d (cI.enc (s283.2 + (1 : Int)))), (48, .d (cI.enc ((List.replicate (x9).toNat (0 : Int)).length : Int))), (49, .d (cI.enc (k284 : Int)))] (by kernel_rfl) <| xn <| reg_s <| st rfl <| b_inc rfl rfl l282 hk286 <| st rfl <| mvd rfl rfl <| seqN [(0, .d ((cLs cI rfl).enc v0)), (1, .d ((cLs cI rfl).enc v1)), (4, .box ((cXCube (cLo cI) (cLo cI)).enc (⟨([] : List Int), ([] : List Int)⟩ : XCube))), (6, .box ((cXCube (cLo cI) (cLo cI)).enc (⟨s283.1.Sizes, (s283.1.Cells.set ((k284 : Int)).toNat x9706)⟩ : XCube))), (9, .d (cI.enc (s283.2 + (1 : Int)))), (48, .d (cI.enc ((List.replicate (x9).toNat (0 : Int)).length : Int))), (49, .d (cI.enc ((k284 + 1 : Nat) : Int)))] (by kernel_rfl) <|
    xn <| hn365 ((⟨s283.1.Sizes, (s283.1.Cells.set ((k284 : Int)).toNat x9706)⟩ : XCube), (s283.2 + (1 : Int))) h⟩⟩⟩⟩⟩⟩⟩⟩)
    (fun b9699 h => wpC_skip <| xbb <| kpN [(0, .d ((cLs cI rfl).enc v0)), (1, .d ((cLs cI rfl).enc v1)), (4, .box ((cXCube (cLo cI) (cLo cI)).enc (⟨([] : List Int), ([] : List Int)⟩ : XCube))), (6, .box ((cXCube (cLo cI) (cLo cI)).enc s283.1)), (9, .d (cI.enc s283.2)), (48, .d (cI.enc ((List.replicate (x9).toNat (0 : Int)).length : Int))), (49, .d (cI.enc (k284 : Int)))] (by kernel_rfl) <| xn <| reg_s <| st rfl <| b_inc rfl rfl l282 hk286 <| st rfl <| mvd rfl rfl <| seqN [(0, .d ((cLs cI rfl).enc v0)), (1, .d ((cLs cI rfl).enc v1)), (4, .box ((cXCube (cLo cI) (cLo cI)).enc (⟨([] : List Int), ([] : List Int)⟩ : XCube))), (6, .box ((cXCube (cLo cI) (cLo cI)).enc s283.1)), (9, .d (cI.enc s283.2)), (48, .d (cI.enc ((List.replicate (x9).toNat (0 : Int)).length : Int))), (49, .d (cI.enc ((k284 + 1 : Nat) : Int)))] (by kernel_rfl) <|
    xn <| hn365 (s283.1, s283.2) h)))))
    (fun G132 nx130 k86 s85 x87 hk88 hx89 hn131 h => wpC_seq <| reg_s <| st rfl <| b_lss (k := .i64) rfl rfl <| seqN [(0, .d ((cLs cI rfl).enc v0)), (1, .d ((cLs cI rfl).enc v1)), (4, .box ((cXCube (cLo cI) (cLo cI)).enc (⟨([] : List Int), ([] : List Int)⟩ : XCube))), (6, .box ((cXCube (cLo cI) (cLo cI)).enc (⟨x7, (List.replicate (x9).toNat (0 : Int))⟩ : XCube))), (7, .d (cI.enc s85)), (24, .d (cI.enc ((List.replicate (x9).toNat (0 : Int)).length : Int))), (25, .d (cI.enc (k86 : Int))), (26, .d (cB.enc (decide ((k86 : Int) < ((List.replicate (x9).toNat (0 : Int)).length : Int)))))] (by kernel_rfl) <|
    xn <| wpC_seq <| wpC_kp <| cnd1 rfl (dlt hk88) <| wpC_skip <| kpN [(0, .d ((cLs cI rfl).enc v0)), (1, .d ((cLs cI rfl).enc v1)), (4, .box ((cXCube (cLo cI) (cLo cI)).enc (⟨([] : List Int), ([] : List Int)⟩ : XCube))), (6, .box ((cXCube (cLo cI) (cLo cI)).enc (⟨x7, (List.replicate (x9).toNat (0 : Int))⟩ : XCube))), (7, .d (cI.enc s85)), (24, .d (cI.enc ((List.replicate (x9).toNat (0 : Int)).length : Int))), (25, .d (cI.enc (k86 : Int)))] (by kernel_rfl) <| xn <| wpC_seq <| wpC_kp <| wpC_blk <| wpC_seq <| reg_s <| st rfl <| mvd rfl rfl <| x_asg (ss rfl rfl) <| seqN [(0, .d ((cLs cI rfl).enc v0)), (1, .d ((cLs cI rfl).enc v1)), (4, .box ((cXCube (cLo cI) (cLo cI)).enc (⟨([] : List Int), ([] : List Int)⟩ : XCube))), (6, .box ((cXCube (cLo cI) (cLo cI)).enc (⟨x7, (List.replicate (x9).toNat (0 : Int))⟩ : XCube))), (7, .d (cI.enc s85)), (8, .d (cI.enc (k86 : Int))), (24, .d (cI.enc ((List.replicate (x9).toNat (0 : Int)).length : Int))), (25, .d (cI.enc (k86 : Int)))] (by kernel_rfl) <|
    xn <| wpC_seq <| reg_s <| st rfl <| mvd rfl rfl <| st rfl <| mvd rfl rfl <| st rfl <| mvd rfl rfl <| bnd h fun x9727 e9728 h => st rfl <| o_call (a1 (c := (cLs cI rfl)) (tLs tK) rfl (a1 (c := cI) tK rfl a0)) (con_impl_indexOf e9728) (.inl (so1 (sLo sK) so0)) <| bnd h fun x9729 e9730 h => st rfl <| o_call (a1 (c := (cLs cI rfl)) (tLs tK) rfl (a1 (c := (cLo cI)) (tLo tK) rfl a0)) (con_impl_isBase e9730) (.inl (so1 sB so0)) <| seqN [(0, .d ((cLs cI rfl).enc v0)), (1, .d ((cLs cI rfl).enc v1)), (4, .box ((cXCube (cLo cI) (cLo cI)).enc (⟨([] : List Int), ([] : List Int)⟩ : XCube))), (6, .box ((cXCube (cLo cI) (cLo cI)).enc (⟨x7, (List.replicate (x9).toNat (0 : Int))⟩ : XCube))), (7, .d (cI.enc s85)), (24, .d (cI.enc ((List.replicate (x9).toNat (0 : Int)).length : Int))), (25, .d (cI.enc (k86 : Int))), (32, .d (cB.enc x9729))] (by kernel_rfl) <|
    xn <| cnd rfl h (fun b9731 h => reg_s <| st rfl <| mvd rfl rfl <| ckI_k h fun i9732 h => st rfl <| b_add (k := .i64) rfl rfl i9732 <| x_asg (ss rfl rfl) <| seqN [(0, .d ((cLs cI rfl).enc v0)), (1, .d ((cLs cI rfl).enc v1)), (4, .box ((cXCube (cLo cI) (cLo cI)).enc (⟨([] : List Int), ([] : List Int)⟩ : XCube))), (6, .box ((cXCube (cLo cI) (cLo cI)).enc (⟨x7, (List.replicate (x9).toNat (0 : Int))⟩ : XCube))), (7, .d (cI.enc (s85 + (1 : Int)))), (24, .d (cI.enc ((List.replicate (x9).toNat (0 : Int)).length : Int))), (25, .d (cI.enc (k86 : Int)))] (by kernel_rfl) <|
    xbb <| kpN [(0, .d ((cLs cI rfl).enc v0)), (1, .d ((cLs cI rfl).enc v1)), (4, .box ((cXCube (cLo cI) (cLo cI)).enc (⟨([] : List Int), ([] : List Int)⟩ : XCube))), (6, .box ((cXCube (cLo cI) (cLo cI)).enc (⟨x7, (List.replicate (x9).toNat (0 : Int))⟩ : XCube))), (7, .d (cI.enc (s85 + (1 : Int)))), (24, .d (cI.enc ((List.replicate (x9).toNat (0 : Int)).length : Int))), (25, .d (cI.enc (k86 : Int)))] (by kernel_rfl) <| xn <| reg_s <| st rfl <| b_inc rfl rfl l84 hk88 <| st rfl <| mvd rfl rfl <| seqN [(0, .d ((cLs cI rfl).enc v0)), (1, .d ((cLs cI rfl).enc v1)), (4, .box ((cXCube (cLo cI) (cLo cI)).enc (⟨([] : List Int), ([] : List Int)⟩ : XCube))), (6, .box ((cXCube (cLo cI) (cLo cI)).enc (⟨x7, (List.replicate (x9).toNat (0 : Int))⟩ : XCube))), (7, .d (cI.enc (s85 + (1 : Int)))), (24, .d (cI.enc ((List.replicate (x9).toNat (0 : Int)).length : Int))), (25, .d (cI.enc ((k86 + 1 : Nat) : Int)))] (by kernel_rfl) <|
    xn <| hn131 (s85 + (1 : Int)) h)
    (fun b9731 h => wpC_skip <| xbb <| kpN [(0, .d ((cLs cI rfl).enc v0)), (1, .d ((cLs cI rfl).enc v1)), (4, .box ((cXCube (cLo cI) (cLo cI)).enc (⟨([] : List Int), ([] : List Int)⟩ : XCube))), (6, .box ((cXCube (cLo cI) (cLo cI)).enc (⟨x7, (List.replicate (x9).toNat (0 : Int))⟩ : XCube))), (7, .d (cI.enc s85)), (24, .d (cI.enc ((List.replicate (x9).toNat (0 : Int)).length : Int))), (25, .d (cI.enc (k86 : Int)))] (by kernel_rfl) <| xn <| reg_s <| st rfl <| b_inc rfl rfl l84 hk88 <| st rfl <| mvd rfl rfl <| seqN [(0, .d ((cLs cI rfl).enc v0)), (1, .d ((cLs cI rfl).enc v1)), (4, .box ((cXCube (cLo cI) (cLo cI)).enc (⟨([] : List Int), ([] : List Int)⟩ : XCube))), (6, .box ((cXCube (cLo cI) (cLo cI)).enc (⟨x7, (List.replicate (x9).toNat (0 : Int))⟩ : XCube))), (7, .d (cI.enc s85)), (24, .d (cI.enc ((List.replicate (x9).toNat (0 : Int)).length : Int))), (25, .d (cI.enc ((k86 + 1 : Nat) : Int)))] (by kernel_rfl) <|
    xn <| hn131 s85 h))

def rs_impl_CubeOf (r : (XCube × Bool)) : List D := [(cXCube (cLo cI) (cLo cI)).enc r.1, cB.enc r.2]
def m44 : MC := .seq (.reg [⟨some 4, .alloc (.agg [.slice true [], .slice true []]), none⟩,
    ⟨some 5, .asg (.c (.bool false)), none⟩] [0, 1, 4])
  (.seq (.kp [0, 1, 4] (.seq (.reg [⟨some 6, .mv (.t 0), none⟩,
    ⟨some 7, .call 62 [(.t 6)], none⟩,
    ⟨some 8, .bin .eql (.t 7) (.c (.int .i64 0)), none⟩] [0, 1, 4, 8])
  (.cond (.t 8) (.seq (.reg [⟨some 9, .bld [.slice true [], .slice true []] [], none⟩,
    ⟨none, .st 4 (.t 9) 2, none⟩,
    ⟨some 5, .asg (.c (.bool false)), none⟩] [4, 5])
  (.ret)) (.skip))))
  (.seq (.reg [⟨some 10, .mv (.t 0), none⟩,
    ⟨some 11, .mv (.t 1), none⟩,
    ⟨some 12, .call 89 [(.t 10), (.t 11)], none⟩,
    ⟨some 13, .ext 12 0, none⟩,
    ⟨some 14, .ext 12 1, none⟩,
    ⟨none, .st 4 (.t 13) 2, none⟩,
    ⟨some 5, .asg (.t 14), none⟩] [4, 5])
  (.ret)))
theorem con_impl_CubeOf {v0 : (List Int)} {v1 : (List Int)} {r : (XCube × Bool)} (h : sh_impl_CubeOf v0 v1 = some r) : Con Try.prog 44 [(cLs cI rfl).enc v0, (cLs cI rfl).enc v1] [] (rs_impl_CubeOf r) := by
  delta sh_impl_CubeOf at h
  refine top (out := none) (f := Try.f44) (m := m44) (rs := [.c 4 2 true, .t 5]) (by kernel_rfl) rfl (by kernel_rfl) (by kernel_rfl) (by kernel_rfl) (by kernel_rfl) (by kernel_rfl) ?_
  exact
   ini [(0, .d ((cLs cI rfl).enc v0)), (1, .d ((cLs cI rfl).enc v1))] rfl <| wpC_seq <| reg_s <| x_all (cXCube (cLo cI) (cLo cI)) (⟨([] : List Int), ([] : List Int)⟩ : XCube) rfl <| x_asg (sc cB false rfl) <| seqN [(0, .d ((cLs cI rfl).enc v0)), (1, .d ((cLs cI rfl).enc v1)), (4, .box ((cXCube (cLo cI) (cLo cI)).enc (⟨([] : List Int), ([] : List Int)⟩ : XCube)))] (by kernel_rfl) <|
    xn <| wpC_seq <| wpC_kp <| wpC_seq <| reg_s <| st rfl <| mvd rfl rfl <| bnd h fun x8 e9 h => st rfl <| o_call (a1 (c := (cLs cI rfl)) (tLs tK) rfl a0) (con_impl_cubeCells e9) (.inl (so1 sK so0)) <| st rfl <| b_eql (k := .i64) rfl rfl <| seqN [(0, .d ((cLs cI rfl).enc v0)), (1, .d ((cLs cI rfl).enc v1)), (4, .box ((cXCube (cLo cI) (cLo cI)).enc (⟨([] : List Int), ([] : List Int)⟩ : XCube))), (8, .d (cB.enc (decide (x8 = (0 : Int)))))] (by kernel_rfl) <|
    xn <| cnd rfl h (fun b10 h => wpC_seq <| reg_s <| x_bld ((cXCube (cLo cI) (cLo cI)).enc (⟨([] : List Int), ([] : List Int)⟩ : XCube)) t0 rfl rfl <| x_stb (so rfl rfl) rfl (Cd.h_sz _ _) rfl <| x_asg (sc cB false rfl) <| seqN [(4, .box ((cXCube (cLo cI) (cLo cI)).enc (⟨([] : List Int), ([] : List Int)⟩ : XCube))), (5, .d (cB.enc false))] (by kernel_rfl) <|
    xn <| wpC_ret <| rt <| rt <| re <| fin h (r2 rfl rfl rfl <| r1 (ss rfl rfl) <| r0) rfl)
    (fun b10 h => wpC_skip <| kpN [(0, .d ((cLs cI rfl).enc v0)), (1, .d ((cLs cI rfl).enc v1)), (4, .box ((cXCube (cLo cI) (cLo cI)).enc (⟨([] : List Int), ([] : List Int)⟩ : XCube)))] (by kernel_rfl) <| xn <| wpC_seq <| reg_s <| st rfl <| mvd rfl rfl <| st rfl <| mvd rfl rfl <| bnd h fun x13 e14 h => st rfl <| o_call (a1 (c := (cLs cI rfl)) (tLs tK) rfl (a1 (c := (cLs cI rfl)) (tLs tK) rfl a0)) (con_impl_cubeOf e14) (.inl (so1 (sXCube (sLo sK) (sLo sK)) (so1 sB so0))) <| x_ext rfl rfl <| x_ext rfl rfl <| x_stb (so rfl rfl) rfl (Cd.h_sz _ _) rfl <| x_asg (ss rfl rfl) <| seqN [(4, .box ((cXCube (cLo cI) (cLo cI)).enc x13.1)), (5, .d (cB.enc x13.2))] (by kernel_rfl) <|
    xn <| wpC_ret <| re <| fin h (r2 rfl rfl rfl <| r1 (ss rfl rfl) <| r0) rfl)

def rs_laws_FnExactCubeOf (r : Bool) : List D := [cB.enc r]
def m10 : MC := .seq (.reg [⟨some 4, .asg (.c (.bool false)), none⟩] [0, 1])
  (.seq (.kp [0, 1] (.seq (.reg [⟨some 16, .mv (.t 0), none⟩,
    ⟨some 17, .len false (.t 16), none⟩,
    ⟨some 18, .bin .gtr (.t 17) (.c (.int .i64 1048576)), none⟩] [0, 1, 18])
  (.cond (.t 18) (.seq (.reg [⟨some 4, .asg (.c (.bool true)), none⟩] [4])
  (.ret)) (.skip))))
  (.seq (.kp [0, 1] (.seq (.reg [⟨some 19, .mv (.t 1), none⟩,
    ⟨some 20, .len false (.t 19), none⟩,
    ⟨some 21, .bin .gtr (.t 20) (.c (.int .i64 1048576)), none⟩] [0, 1, 21])
  (.cond (.t 21) (.seq (.reg [⟨some 4, .asg (.c (.bool true)), none⟩] [4])
  (.ret)) (.skip))))
  (.seq (.reg [⟨some 23, .mv (.t 0), none⟩,
    ⟨some 24, .call 16 [(.t 23)], none⟩,
    ⟨some 25, .mv (.t 1), none⟩,
    ⟨some 26, .call 16 [(.t 25)], none⟩,
    ⟨some 27, .call 43 [(.t 24), (.t 26)], none⟩,
    ⟨some 22, .mvt 27, none⟩,
    ⟨some 28, .ext 22 0, none⟩,
    ⟨some 29, .ext 22 1, none⟩,
    ⟨some 5, .alloc (.agg [.slice true [], .slice true []]), none⟩,
    ⟨none, .st 5 (.t 28) 2, none⟩,
    ⟨some 6, .asg (.t 29), none⟩] [0, 1, 5, 6])
  (.seq (.reg [⟨some 30, .mv (.t 0), none⟩,
    ⟨some 31, .call 16 [(.t 30)], none⟩,
    ⟨some 7, .asg (.t 31), none⟩] [0, 1, 5, 6, 7])
  (.seq (.reg [⟨some 32, .mv (.t 1), none⟩,
    ⟨some 33, .call 16 [(.t 32)], none⟩,
    ⟨some 8, .asg (.t 33), none⟩] [0, 1, 5, 6, 7, 8])
  (.seq (.reg [⟨some 35, .mv (.t 7), none⟩,
    ⟨some 36, .mv (.t 8), none⟩,
    ⟨some 37, .call 44 [(.t 35), (.t 36)], none⟩,
    ⟨some 34, .mvt 37, none⟩,
    ⟨some 38, .ext 34 0, none⟩,
    ⟨some 39, .ext 34 1, none⟩,
    ⟨some 9, .alloc (.agg [.slice true [], .slice true []]), none⟩,
    ⟨none, .st 9 (.t 38) 2, none⟩,
    ⟨some 10, .asg (.t 39), none⟩] [0, 1, 5, 6, 7, 8, 9, 10])
  (.seq (.kp [0, 1, 5, 6, 7, 8, 9, 10] (.seq (.reg [⟨some 40, .ld 9 2 true, none⟩,
    ⟨some 41, .ld 5 2 true, none⟩,
    ⟨some 42, .call 30 [(.t 40), (.t 41)], none⟩,
    ⟨some 43, .nt (.t 42), none⟩,
    ⟨some 44, .mv (.t 43), none⟩,
    ⟨some 45, .mv (.t 10), some (44, false)⟩,
    ⟨some 46, .mv (.t 6), some (44, false)⟩,
    ⟨some 47, .eqb true (.t 45) (.t 46), some (44, false)⟩,
    ⟨some 48, .pick (.t 44) (.c (.bool true)) (.t 47), none⟩] [0, 1, 5, 6, 7, 8, 9, 10, 48])
  (.cond (.t 48) (.seq (.reg [⟨some 4, .asg (.c (.bool false)), none⟩] [4])
  (.ret)) (.skip))))
  (.seq (.kp [0, 1, 5, 6, 7, 8, 9, 10] (.seq (.reg [⟨some 49, .mv (.t 7), none⟩,
    ⟨some 50, .mv (.t 0), none⟩,
    ⟨some 51, .call 16 [(.t 50)], none⟩,
    ⟨some 52, .call 18 [(.t 49), (.t 51)], none⟩,
    ⟨some 53, .nt (.t 52), none⟩] [0, 1, 5, 6, 7, 8, 9, 10, 53])
  (.cond (.t 53) (.seq (.reg [⟨some 4, .asg (.c (.bool false)), none⟩] [4])
  (.ret)) (.skip))))
  (.seq (.kp [0, 1, 5, 6, 7, 8, 9, 10] (.seq (.reg [⟨some 54, .mv (.t 8), none⟩,
    ⟨some 55, .mv (.t 1), none⟩,
    ⟨some 56, .call 16 [(.t 55)], none⟩,
    ⟨some 57, .call 18 [(.t 54), (.t 56)], none⟩,
    ⟨some 58, .nt (.t 57), none⟩] [0, 1, 5, 6, 7, 8, 9, 10, 58])
  (.cond (.t 58) (.seq (.reg [⟨some 4, .asg (.c (.bool false)), none⟩] [4])
  (.ret)) (.skip))))
  (.seq (.reg [⟨some 11, .asg (.c (.int .i64 1)), none⟩] [0, 1, 5, 6, 7, 8, 9, 10, 11])
  (.seq (.reg [⟨some 59, .mv (.t 7), none⟩,
    ⟨some 60, .mv (.t 11), none⟩,
    ⟨some 61, .callO 19 [(.t 59), (.t 60)], none⟩,
    ⟨some 11, .asg (.t 61), none⟩] [0, 1, 5, 6, 8, 9, 10, 11])
  (.seq (.reg [⟨some 62, .mv (.t 8), none⟩,
    ⟨some 63, .mv (.t 11), none⟩,
    ⟨some 64, .callO 19 [(.t 62), (.t 63)], none⟩,
    ⟨some 11, .asg (.t 64), none⟩] [0, 1, 5, 6, 9, 10, 11])
  (.seq (.kp [0, 1, 5, 6, 9] (.seq (.reg [⟨some 65, .mv (.t 11), none⟩,
    ⟨some 66, .bin .lss (.t 65) (.c (.int .i64 0)), none⟩,
    ⟨some 67, .mv (.t 66), none⟩,
    ⟨some 68, .ld 9 2 true, some (67, false)⟩,
    ⟨some 69, .ld 5 2 true, some (67, false)⟩,
    ⟨some 70, .call 30 [(.t 68), (.t 69)], some (67, false)⟩,
    ⟨some 71, .nt (.t 70), some (67, false)⟩,
    ⟨some 72, .pick (.t 67) (.c (.bool true)) (.t 71), none⟩,
    ⟨some 73, .mv (.t 72), none⟩,
    ⟨some 74, .mv (.t 10), some (73, false)⟩,
    ⟨some 75, .mv (.t 6), some (73, false)⟩,
    ⟨some 76, .eqb true (.t 74) (.t 75), some (73, false)⟩,
    ⟨some 77, .pick (.t 73) (.c (.bool true)) (.t 76), none⟩] [0, 1, 5, 6, 9, 77])
  (.cond (.t 77) (.seq (.reg [⟨some 4, .asg (.c (.bool false)), none⟩] [4])
  (.ret)) (.skip))))
  (.seq (.reg [⟨some 12, .asg (.c (.int .i64 1)), none⟩] [0, 1, 5, 6, 9, 12])
  (.seq (.reg [⟨some 78, .ld 9 2 true, none⟩,
    ⟨some 79, .mv (.t 12), none⟩,
    ⟨some 80, .callO 42 [(.t 78), (.t 79)], none⟩,
    ⟨some 12, .asg (.t 80), none⟩] [0, 1, 5, 6, 9, 12])
  (.seq (.reg [⟨some 13, .asg (.c (.int .i64 1)), none⟩] [0, 1, 5, 6, 9, 12, 13])
  (.seq (.reg [⟨some 81, .ld 9 2 true, none⟩,
    ⟨some 82, .mv (.t 13), none⟩,
    ⟨some 83, .call 45 [(.t 81), (.t 82)], none⟩,
    ⟨some 13, .asg (.t 83), none⟩] [0, 1, 5, 6, 9, 12, 13])
  (.seq (.kp [0, 1, 5, 6, 9, 12, 13] (.seq (.reg [⟨some 84, .mv (.t 13), none⟩,
    ⟨some 85, .bin .lss (.t 84) (.c (.int .i64 0)), none⟩] [0, 1, 5, 6, 9, 12, 13, 85])
  (.cond (.t 85) (.seq (.reg [⟨some 4, .asg (.c (.bool false)), none⟩] [4])
  (.ret)) (.skip))))
  (.seq (.kp [0, 1, 5, 6, 9, 12] (.seq (.reg [⟨some 86, .mv (.t 13), none⟩,
    ⟨some 87, .mv (.t 12), none⟩,
    ⟨some 88, .bin .neq (.t 86) (.t 87), none⟩] [0, 1, 5, 6, 9, 12, 88])
  (.cond (.t 88) (.seq (.reg [⟨some 4, .asg (.c (.bool false)), none⟩] [4])
  (.ret)) (.skip))))
  (.seq (.reg [⟨some 90, .mv (.t 0), none⟩,
    ⟨some 91, .call 16 [(.t 90)], none⟩,
    ⟨some 92, .mv (.t 1), none⟩,
    ⟨some 93, .call 16 [(.t 92)], none⟩,
    ⟨some 94, .call 44 [(.t 91), (.t 93)], none⟩,
    ⟨some 89, .mvt 94, none⟩,
    ⟨some 95, .ext 89 0, none⟩,
    ⟨some 96, .ext 89 1, none⟩,
    ⟨some 14, .alloc (.agg [.slice true [], .slice true []]), none⟩,
    ⟨none, .st 14 (.t 95) 2, none⟩,
    ⟨some 15, .asg (.t 96), none⟩] [5, 6, 9, 12, 14, 15])
  (.seq (.kp [9, 12] (.seq (.reg [⟨some 97, .ld 14 2 true, none⟩,
    ⟨some 98, .ld 5 2 true, none⟩,
    ⟨some 99, .call 30 [(.t 97), (.t 98)], none⟩,
    ⟨some 100, .nt (.t 99), none⟩,
    ⟨some 101, .mv (.t 100), none⟩,
    ⟨some 102, .mv (.t 15), some (101, false)⟩,
    ⟨some 103, .mv (.t 6), some (101, false)⟩,
    ⟨some 104, .eqb true (.t 102) (.t 103), some (101, false)⟩,
    ⟨some 105, .pick (.t 101) (.c (.bool true)) (.t 104), none⟩] [9, 12, 105])
  (.cond (.t 105) (.seq (.reg [⟨some 4, .asg (.c (.bool false)), none⟩] [4])
  (.ret)) (.skip))))
  (.seq (.reg [⟨some 13, .asg (.c (.int .i64 1)), none⟩] [9, 12, 13])
  (.seq (.reg [⟨some 106, .ld 9 2 true, none⟩,
    ⟨some 107, .mv (.t 13), none⟩,
    ⟨some 108, .call 45 [(.t 106), (.t 107)], none⟩,
    ⟨some 13, .asg (.t 108), none⟩] [12, 13])
  (.seq (.kp [12, 13] (.seq (.reg [⟨some 109, .mv (.t 13), none⟩,
    ⟨some 110, .bin .lss (.t 109) (.c (.int .i64 0)), none⟩] [12, 13, 110])
  (.cond (.t 110) (.seq (.reg [⟨some 4, .asg (.c (.bool false)), none⟩] [4])
  (.ret)) (.skip))))
  (.seq (.kp [] (.seq (.reg [⟨some 111, .mv (.t 13), none⟩,
    ⟨some 112, .mv (.t 12), none⟩,
    ⟨some 113, .bin .neq (.t 111) (.t 112), none⟩] [113])
  (.cond (.t 113) (.seq (.reg [⟨some 4, .asg (.c (.bool false)), none⟩] [4])
  (.ret)) (.skip))))
  (.seq (.reg [⟨some 4, .asg (.c (.bool true)), none⟩] [4])
  (.ret)))))))))))))))))))))))))))
theorem con_laws_FnExactCubeOf {v0 : (List Int)} {v1 : (List Int)} {r : Bool} (h : sh_laws_FnExactCubeOf v0 v1 = some r) : Con Try.prog 10 [(cLs cI rfl).enc v0, (cLs cI rfl).enc v1] [] (rs_laws_FnExactCubeOf r) := by
  delta sh_laws_FnExactCubeOf at h
  refine top (out := none) (f := Try.f10) (m := m10) (rs := [.t 4]) (by kernel_rfl) rfl (by kernel_rfl) (by kernel_rfl) (by kernel_rfl) (by kernel_rfl) (by kernel_rfl) ?_
  exact
   ini [(0, .d ((cLs cI rfl).enc v0)), (1, .d ((cLs cI rfl).enc v1))] rfl <| wpC_seq <| reg_s <| x_asg (sc cB false rfl) <| seqN [(0, .d ((cLs cI rfl).enc v0)), (1, .d ((cLs cI rfl).enc v1))] (by kernel_rfl) <|
    xn <| wpC_seq <| wpC_kp <| wpC_seq <| reg_s <| st rfl <| mvd rfl rfl <| stw rfl <| lens rfl fun l5 => st rfl <| b_gtr (k := .i64) rfl rfl <| seqN [(0, .d ((cLs cI rfl).enc v0)), (1, .d ((cLs cI rfl).enc v1)), (18, .d (cB.enc (decide ((1048576 : Int) < (v0.length : Int)))))] (by kernel_rfl) <|
    xn <| cnd rfl h (fun b6 h => wpC_seq <| reg_s <| x_asg (sc cB true rfl) <| seqN [(4, .d (cB.enc true))] (by kernel_rfl) <|
    xn <| wpC_ret <| rt <| rt <| re <| fin h (r1 (ss rfl rfl) <| r0) rfl)
    (fun b6 h => wpC_skip <| kpN [(0, .d ((cLs cI rfl).enc v0)), (1, .d ((cLs cI rfl).enc v1))] (by kernel_rfl) <| xn <| wpC_seq <| wpC_kp <| wpC_seq <| reg_s <| st rfl <| mvd rfl rfl <| stw rfl <| lens rfl fun l11 => st rfl <| b_gtr (k := .i64) rfl rfl <| seqN [(0, .d ((cLs cI rfl).enc v0)), (1, .d ((cLs cI rfl).enc v1)), (21, .d (cB.enc (decide ((1048576 : Int) < (v1.length : Int)))))] (by kernel_rfl) <|
    xn <| cnd rfl h (fun b12 h => wpC_seq <| reg_s <| x_asg (sc cB true rfl) <| seqN [(4, .d (cB.enc true))] (by kernel_rfl) <|
    xn <| wpC_ret <| rt <| rt <| re <| fin h (r1 (ss rfl rfl) <| r0) rfl)
    (fun b12 h => wpC_skip <| kpN [(0, .d ((cLs cI rfl).enc v0)), (1, .d ((cLs cI rfl).enc v1))] (by kernel_rfl) <| xn <| wpC_seq <| reg_s <| st rfl <| mvd rfl rfl <| bnd h fun x19 e20 h => st rfl <| o_call (a1 (c := (cLs cI rfl)) (tLs tK) rfl a0) (con_laws_toIntS e20) (.inl (so1 (sLo sK) so0)) <| st rfl <| mvd rfl rfl <| bnd h fun x21 e22 h => st rfl <| o_call (a1 (c := (cLs cI rfl)) (tLs tK) rfl a0) (con_laws_toIntS e22) (.inl (so1 (sLo sK) so0)) <| bnd h fun x23 e24 h => st rfl <| o_call (a1 (c := (cLo cI)) (tLo tK) rfl (a1 (c := (cLo cI)) (tLo tK) rfl a0)) (con_spec_CubeOf e24) (.inl (so1 (sXCube (sLo sK) (sLo sK)) (so1 sB so0))) <| x_mvt rfl <| x_ext rfl rfl <| x_ext rfl rfl <| x_all (cXCube (cLo cI) (cLo cI)) (⟨([] : List Int), ([] : List Int)⟩ : XCube) rfl <| x_stb (so rfl rfl) rfl (Cd.h_sz _ _) rfl <| x_asg (ss rfl rfl) <| seqN [(0, .d ((cLs cI rfl).enc v0)), (1, .d ((cLs cI rfl).enc v1)), (5, .box ((cXCube (cLo cI) (cLo cI)).enc x23.1)), (6, .d (cB.enc x23.2))] (by kernel_rfl) <|
    xn <| wpC_seq <| reg_s <| st rfl <| mvd rfl rfl <| bnd h fun x27 e28 h => st rfl <| o_call (a1 (c := (cLs cI rfl)) (tLs tK) rfl a0) (con_laws_toIntS e28) (.inl (so1 (sLo sK) so0)) <| x_asg (so rfl rfl) <| seqN [(0, .d ((cLs cI rfl).enc v0)), (1, .d ((cLs cI rfl).enc v1)), (5, .box ((cXCube (cLo cI) (cLo cI)).enc x23.1)), (6, .d (cB.enc x23.2)), (7, .d ((cLo cI).enc x27))] (by kernel_rfl) <|
    xn <| wpC_seq <| reg_s <| st rfl <| mvd rfl rfl <| bnd h fun x31 e32 h => st rfl <| o_call (a1 (c := (cLs cI rfl)) (tLs tK) rfl a0) (con_laws_toIntS e32) (.inl (so1 (sLo sK) so0)) <| x_asg (so rfl rfl) <| seqN [(0, .d ((cLs cI rfl).enc v0)), (1, .d ((cLs cI rfl).enc v1)), (5, .box ((cXCube (cLo cI) (cLo cI)).enc x23.1)), (6, .d (cB.enc x23.2)), (7, .d ((cLo cI).enc x27)), (8, .d ((cLo cI).enc x31))] (by kernel_rfl) <|
    xn <| wpC_seq <| reg_s <| st rfl <| mvo rfl rfl <| st rfl <| mvo rfl rfl <| bnd h fun x35 e36 h => st rfl <| o_call (a1 (c := (cLo cI)) (tLo tK) rfl (a1 (c := (cLo cI)) (tLo tK) rfl a0)) (con_impl_CubeOf e36) (.inl (so1 (sXCube (sLo sK) (sLo sK)) (so1 sB so0))) <| x_mvt rfl <| x_ext rfl rfl <| x_ext rfl rfl <| x_all (cXCube (cLo cI) (cLo cI)) (⟨([] : List Int), ([] : List Int)⟩ : XCube) rfl <| x_stb (so rfl rfl) rfl (Cd.h_sz _ _) rfl <| x_asg (ss rfl rfl) <| seqN [(0, .d ((cLs cI rfl).enc v0)), (1, .d ((cLs cI rfl).enc v1)), (5, .box ((cXCube (cLo cI) (cLo cI)).enc x23.1)), (6, .d (cB.enc x23.2)), (7, .d ((cLo cI).enc x27)), (8, .d ((cLo cI).enc x31)), (9, .box ((cXCube (cLo cI) (cLo cI)).enc x35.1)), (10, .d (cB.enc x35.2))] (by kernel_rfl) <|
    xn <| wpC_seq <| wpC_kp <| wpC_seq <| reg_s <| st rfl <| ldbo rfl rfl rfl rfl <| st rfl <| ldbo rfl rfl rfl rfl <| bnd h fun x47 e48 h => st rfl <| o_call (a1 (c := (cXCube (cLo cI) (cLo cI))) (tXCube (tLo tK) (tLo tK)) rfl (a1 (c := (cXCube (cLo cI) (cLo cI))) (tXCube (tLo tK) (tLo tK)) rfl a0)) (con_laws_eqCube e48) (.inl (so1 sB so0)) <| st rfl <| o_nt rfl <| st rfl <| mvd rfl rfl <| ite_k h (fun b49 h => gf rfl b49 <| gf rfl b49 <| gf rfl b49 <| st rfl <| pick1 rfl b49 (cd := cB) (v := true) rfl rfl <| seqN [(0, .d ((cLs cI rfl).enc v0)), (1, .d ((cLs cI rfl).enc v1)), (5, .box ((cXCube (cLo cI) (cLo cI)).enc x23.1)), (6, .d (cB.enc x23.2)), (7, .d ((cLo cI).enc x27)), (8, .d ((cLo cI).enc x31)), (9, .box ((cXCube (cLo cI) (cLo cI)).enc x35.1)), (10, .d (cB.enc x35.2)), (48, .d (cB.enc true))] (by kernel_rfl) <|
    xn <| cnd1 rfl rfl <| wpC_seq <| reg_s <| x_asg (sc cB false rfl) <| seqN [(4, .d (cB.enc false))] (by kernel_rfl) <|
    xn <| wpC_ret <| rt <| rt <| re <| fin h (r1 (ss rfl rfl) <| r0) rfl)
    (fun b49 h => gt' rfl b49 <| st rfl <| mvd rfl rfl <| gt' rfl b49 <| st rfl <| mvd rfl rfl <| gt' rfl b49 <| st rfl <| eqb1 rfl rfl <| st rfl <| pick0 rfl b49 (cd := cB) (v := (x35.2 != x23.2)) rfl rfl <| seqN [(0, .d ((cLs cI rfl).enc v0)), (1, .d ((cLs cI rfl).enc v1)), (5, .box ((cXCube (cLo cI) (cLo cI)).enc x23.1)), (6, .d (cB.enc x23.2)), (7, .d ((cLo cI).enc x27)), (8, .d ((cLo cI).enc x31)), (9, .box ((cXCube (cLo cI) (cLo cI)).enc x35.1)), (10, .d (cB.enc x35.2)), (48, .d (cB.enc (x35.2 != x23.2)))] (by kernel_rfl) <|
    xn <| cnd rfl h (fun b50 h => wpC_seq <| reg_s <| x_asg (sc cB false rfl) <| seqN [(4, .d (cB.enc false))] (by kernel_rfl) <|
    xn <| wpC_ret <| rt <| rt <| re <| fin h (r1 (ss rfl rfl) <| r0) rfl)
    (fun b50 h => wpC_skip <| kpN [(0, .d ((cLs cI rfl).enc v0)), (1, .d ((cLs cI rfl).enc v1)), (5, .box ((cXCube (cLo cI) (cLo cI)).enc x23.1)), (6, .d (cB.enc x23.2)), (7, .d ((cLo cI).enc x27)), (8, .d ((cLo cI).enc x31)), (9, .box ((cXCube (cLo cI) (cLo cI)).enc x35.1)), (10, .d (cB.enc x35.2))] (by kernel_rfl) <| xn <| wpC_seq <| wpC_kp <| wpC_seq <| reg_s <| st rfl <| mvo rfl rfl <| st rfl <| mvd rfl rfl <| bnd h fun x64 e65 h => st rfl <| o_call (a1 (c := (cLs cI rfl)) (tLs tK) rfl a0) (con_laws_toIntS e65) (.inl (so1 (sLo sK) so0)) <| bnd h fun x66 e67 h => st rfl <| o_call (a1 (c := (cLo cI)) (tLo tK) rfl (a1 (c := (cLo cI)) (tLo tK) rfl a0)) (con_laws_eqIntS e67) (.inl (so1 sB so0)) <| st rfl <| o_nt rfl <| seqN [(0, .d ((cLs cI rfl).enc v0)), (1, .d ((cLs cI rfl).enc v1)), (5, .box ((cXCube (cLo cI) (cLo cI)).enc x23.1)), (6, .d (cB.enc x23.2)), (7, .d ((cLo cI).enc x27)), (8, .d ((cLo cI).enc x31)), (9, .box ((cXCube (cLo cI) (cLo cI)).enc x35.1)), (10, .d (cB.enc x35.2)), (53, .d (cB.enc (!x66)))] (by kernel_rfl) <|
    xn <| cnd rfl h (fun b68 h => wpC_seq <| reg_s <| x_asg (sc cB false rfl) <| seqN [(4, .d (cB.enc false))] (by kernel_rfl) <|
    xn <| wpC_ret <| rt <| rt <| re <| fin h (r1 (ss rfl rfl) <| r0) rfl)
    (fun b68 h => wpC_skip <| kpN [(0, .d ((cLs cI rfl).enc v0)), (1, .d ((cLs cI rfl).enc v1)), (5, .box ((cXCube (cLo cI) (cLo cI)).enc x23.1)), (6, .d (cB.enc x23.2)), (7, .d ((cLo cI).enc x27)), (8, .d ((cLo cI).enc x31)), (9, .box ((cXCube (cLo cI) (cLo cI)).enc x35.1)), (10, .d (cB.enc x35.2))] (by kernel_rfl) <| xn <| wpC_seq <| wpC_kp <| wpC_seq <| reg_s <| st rfl <| mvo rfl rfl <| st rfl <| mvd rfl rfl <| bnd h fun x82 e83 h => st rfl <| o_call (a1 (c := (cLs cI rfl)) (tLs tK) rfl a0) (con_laws_toIntS e83) (.inl (so1 (sLo sK) so0)) <| bnd h fun x84 e85 h => st rfl <| o_call (a1 (c := (cLo cI)) (tLo tK) rfl (a1 (c := (cLo cI)) (tLo tK) rfl a0)) (con_laws_eqIntS e85) (.inl (so1 sB so0)) <| st rfl <| o_nt rfl <| seqN [(0, .d ((cLs cI rfl).enc v0)), (1, .d ((cLs cI rfl).enc v1)), (5, .box ((cXCube (cLo cI) (cLo cI)).enc x23.1)), (6, .d (cB.enc x23.2)), (7, .d ((cLo cI).enc x27)), (8, .d ((cLo cI).enc x31)), (9, .box ((cXCube (cLo cI) (cLo cI)).enc x35.1)), (10, .d (cB.enc x35.2)), (58, .d (cB.enc (!x84)))] (by kernel_rfl) <|
    xn <| cnd rfl h (fun b86 h => wpC_seq <| reg_s <| x_asg (sc cB false rfl) <| seqN [(4, .d (cB.enc false))] (by kernel_rfl) <|
    xn <| wpC_ret <| rt <| rt <| re <| fin h (r1 (ss rfl rfl) <| r0) rfl)
    (fun b86 h => wpC_skip <| kpN [(0, .d ((cLs cI rfl).enc v0)), (1, .d ((cLs cI rfl).enc v1)), (5, .box ((cXCube (cLo cI) (cLo cI)).enc x23.1)), (6, .d (cB.enc x23.2)), (7, .d ((cLo cI).enc x27)), (8, .d ((cLo cI).enc x31)), (9, .box ((cXCube (cLo cI) (cLo cI)).enc x35.1)), (10, .d (cB.enc x35.2))] (by kernel_rfl) <| xn <| wpC_seq <| reg_s <| x_asg (sc cI (1 : Int) rfl) <| seqN [(0, .d ((cLs cI rfl).enc v0)), (1, .d ((cLs cI rfl).enc v1)), (5, .box ((cXCube (cLo cI) (cLo cI)).enc x23.1)), (6, .d (cB.enc x23.2)), (7, .d ((cLo cI).enc x27)), (8, .d ((cLo cI).enc x31)), (9, .box ((cXCube (cLo cI) (cLo cI)).enc x35.1)), (10, .d (cB.enc x35.2)), (11, .d (cI.enc (1 : Int)))] (by kernel_rfl) <|
    xn <| wpC_seq <| reg_s <| st rfl <| mvo rfl rfl <| st rfl <| mvd rfl rfl <| bnd h fun x89 e90 h => x_clr (c := (cLo cI)) (c' := (cLo cI)) ((cLo cI).enc x89.1) (sLo sK) rfl (a1 (c := cI) tK rfl a0) rfl Ln.nil (con_laws_markIntS e90) rfl rfl (so1 sK so0) <| x_asg (ss rfl rfl) <| seqN [(0, .d ((cLs cI rfl).enc v0)), (1, .d ((cLs cI rfl).enc v1)), (5, .box ((cXCube (cLo cI) (cLo cI)).enc x23.1)), (6, .d (cB.enc x23.2)), (8, .d ((cLo cI).enc x31)), (9, .box ((cXCube (cLo cI) (cLo cI)).enc x35.1)), (10, .d (cB.enc x35.2)), (11, .d (cI.enc x89.2))] (by kernel_rfl) <|
    xn <| wpC_seq <| reg_s <| st rfl <| mvo rfl rfl <| st rfl <| mvd rfl rfl <| bnd h fun x93 e94 h => x_clr (c := (cLo cI)) (c' := (cLo cI)) ((cLo cI).enc x93.1) (sLo sK) rfl (a1 (c := cI) tK rfl a0) rfl Ln.nil (con_laws_markIntS e94) rfl rfl (so1 sK so0) <| x_asg (ss rfl rfl) <| seqN [(0, .d ((cLs cI rfl).enc v0)), (1, .d ((cLs cI rfl).enc v1)), (5, .box ((cXCube (cLo cI) (cLo cI)).enc x23.1)), (6, .d (cB.enc x23.2)), (9, .box ((cXCube (cLo cI) (cLo cI)).enc x35.1)), (10, .d (cB.enc x35.2)), (11, .d (cI.enc x93.2))] (by kernel_rfl) <|
    xn <| wpC_seq <| wpC_kp <| wpC_seq <| reg_s <| st rfl <| mvd rfl rfl <| st rfl <| b_lss (k := .i64) rfl rfl <| st rfl <| mvd rfl rfl <| ite_k h (fun b107 h => gf rfl b107 <| gf rfl b107 <| gf rfl b107 <| gf rfl b107 <| st rfl <| pick1 rfl b107 (cd := cB) (v := true) rfl rfl <| st rfl <| mvd rfl rfl <| gf rfl rfl <| gf rfl rfl <| gf rfl rfl <| st rfl <| pick1 rfl rfl (cd := cB) (v := true) rfl rfl <| seqN [(0, .d ((cLs cI rfl).enc v0)), (1, .d ((cLs cI rfl).enc v1)), (5, .box ((cXCube (cLo cI) (cLo cI)).enc x23.1)), (6, .d (cB.enc x23.2)), (9, .box ((cXCube (cLo cI) (cLo cI)).enc x35.1)), (77, .d (cB.enc true))] (by kernel_rfl) <|
    xn <| cnd1 rfl rfl <| wpC_seq <| reg_s <| x_asg (sc cB false rfl) <| seqN [(4, .d (cB.enc false))] (by kernel_rfl) <|
    xn <| wpC_ret <| rt <| rt <| re <| fin h (r1 (ss rfl rfl) <| r0) rfl)
    (fun b107 h => gt' rfl b107 <| st rfl <| ldbo rfl rfl rfl rfl <| gt' rfl b107 <| st rfl <| ldbo rfl rfl rfl rfl <| gt' rfl b107 <| bnd h fun x108 e109 h => st rfl <| o_call (a1 (c := (cXCube (cLo cI) (cLo cI))) (tXCube (tLo tK) (tLo tK)) rfl (a1 (c := (cXCube (cLo cI) (cLo cI))) (tXCube (tLo tK) (tLo tK)) rfl a0)) (con_laws_eqCube e109) (.inl (so1 sB so0)) <| gt' rfl b107 <| st rfl <| o_nt rfl <| st rfl <| pick0 rfl b107 (cd := cB) (v := (!x108)) rfl rfl <| st rfl <| mvd rfl rfl <| ite_k h (fun b110 h => gf rfl b110 <| gf rfl b110 <| gf rfl b110 <| st rfl <| pick1 rfl b110 (cd := cB) (v := true) rfl rfl <| seqN [(0, .d ((cLs cI rfl).enc v0)), (1, .d ((cLs cI rfl).enc v1)), (5, .box ((cXCube (cLo cI) (cLo cI)).enc x23.1)), (6, .d (cB.enc x23.2)), (9, .box ((cXCube (cLo cI) (cLo cI)).enc x35.1)), (77, .d (cB.enc true))] (by kernel_rfl) <|
    xn <| cnd1 rfl rfl <| wpC_seq <| reg_s <| x_asg (sc cB false rfl) <| seqN [(4, .d (cB.enc false))] (by kernel_rfl) <|
    xn <| wpC_ret <| rt <| rt <| re <| fin h (r1 (ss rfl rfl) <| r0) rfl)
    (fun b110 h => gt' rfl b110 <| st rfl <| mvd rfl rfl <| gt' rfl b110 <| st rfl <| mvd rfl rfl <| gt' rfl b110 <| st rfl <| eqb1 rfl rfl <| st rfl <| pick0 rfl b110 (cd := cB) (v := (x35.2 != x23.2)) rfl rfl <| seqN [(0, .d ((cLs cI rfl).enc v0)), (1, .d ((cLs cI rfl).enc v1)), (5, .box ((cXCube (cLo cI) (cLo cI)).enc x23.1)), (6, .d (cB.enc x23.2)), (9, .box ((cXCube (cLo cI) (cLo cI)).enc x35.1)), (77, .d (cB.enc (x35.2 != x23.2)))] (by kernel_rfl) <|
    xn <| cnd0 rfl b50 <| wpC_skip <| kpN [(0, .d ((cLs cI rfl).enc v0)), (1, .d ((cLs cI rfl).enc v1)), (5, .box ((cXCube (cLo cI) (cLo cI)).enc x23.1)), (6, .d (cB.enc x23.2)), (9, .box ((cXCube (cLo cI) (cLo cI)).enc x35.1))] (by kernel_rfl) <| xn <| wpC_seq <| reg_s <| x_asg (sc cI (1 : Int) rfl) <| seqN [(0, .d ((cLs cI rfl).enc v0)), (1, .d ((cLs cI rfl).enc v1)), (5, .box ((cXCube (cLo cI) (cLo cI)).enc x23.1)), (6, .d (cB.enc x23.2)), (9, .box ((cXCube (cLo cI) (cLo cI)).enc x35.1)), (12, .d (cI.enc (1 : Int)))] (by kernel_rfl) <|
    xn <| wpC_seq <| reg_s <| st rfl <| ldbo rfl rfl rfl rfl <| st rfl <| mvd rfl rfl <| bnd h fun x113 e114 h => x_clr (c := (cXCube (cLo cI) (cLo cI))) (c' := (cXCube (cLo cI) (cLo cI))) ((cXCube (cLo cI) (cLo cI)).enc x113.1) (sXCube (sLo sK) (sLo sK)) rfl (a1 (c := cI) tK rfl a0) rfl Ln.nil (con_laws_markCube e114) rfl rfl (so1 sK so0) <| x_asg (ss rfl rfl) <| seqN [(0, .d ((cLs cI rfl).enc v0)), (1, .d ((cLs cI rfl).enc v1)), (5, .box ((cXCube (cLo cI) (cLo cI)).enc x23.1)), (6, .d (cB.enc x23.2)), (9, .box ((cXCube (cLo cI) (cLo cI)).enc x113.1)), (12, .d (cI.enc x113.2))] (by kernel_rfl) <|
    xn <| wpC_seq <| reg_s <| x_asg (sc cI (1 : Int) rfl) <| seqN [(0, .d ((cLs cI rfl).enc v0)), (1, .d ((cLs cI rfl).enc v1)), (5, .box ((cXCube (cLo cI) (cLo cI)).enc x23.1)), (6, .d (cB.enc x23.2)), (9, .box ((cXCube (cLo cI) (cLo cI)).enc x113.1)), (12, .d (cI.enc x113.2)), (13, .d (cI.enc (1 : Int)))] (by kernel_rfl) <|
    xn <| wpC_seq <| reg_s <| st rfl <| ldbo rfl rfl rfl rfl <| st rfl <| mvd rfl rfl <| bnd h fun x117 e118 h => st rfl <| o_call (a1 (c := (cXCube (cLo cI) (cLo cI))) (tXCube (tLo tK) (tLo tK)) rfl (a1 (c := cI) tK rfl a0)) (con_laws_heldCube e118) (.inl (so1 sK so0)) <| x_asg (ss rfl rfl) <| seqN [(0, .d ((cLs cI rfl).enc v0)), (1, .d ((cLs cI rfl).enc v1)), (5, .box ((cXCube (cLo cI) (cLo cI)).enc x23.1)), (6, .d (cB.enc x23.2)), (9, .box ((cXCube (cLo cI) (cLo cI)).enc x113.1)), (12, .d (cI.enc x113.2)), (13, .d (cI.enc x117))] (by kernel_rfl) <|
    xn <| wpC_seq <| wpC_kp <| wpC_seq <| reg_s <| st rfl <| mvd rfl rfl <| st rfl <| b_lss (k := .i64) rfl rfl <| seqN [(0, .d ((cLs cI rfl).enc v0)), (1, .d ((cLs cI rfl).enc v1)), (5, .box ((cXCube (cLo cI) (cLo cI)).enc x23.1)), (6, .d (cB.enc x23.2)), (9, .box ((cXCube (cLo cI) (cLo cI)).enc x113.1)), (12, .d (cI.enc x113.2)), (13, .d (cI.enc x117)), (85, .d (cB.enc (decide (x117 < (0 : Int)))))] (by kernel_rfl) <|
    xn <| cnd rfl h (fun b120 h => wpC_seq <| reg_s <| x_asg (sc cB false rfl) <| seqN [(4, .d (cB.enc false))] (by kernel_rfl) <|
    xn <| wpC_ret <| rt <| rt <| re <| fin h (r1 (ss rfl rfl) <| r0) rfl)
    (fun b120 h => wpC_skip <| kpN [(0, .d ((cLs cI rfl).enc v0)), (1, .d ((cLs cI rfl).enc v1)), (5, .box ((cXCube (cLo cI) (cLo cI)).enc x23.1)), (6, .d (cB.enc x23.2)), (9, .box ((cXCube (cLo cI) (cLo cI)).enc x113.1)), (12, .d (cI.enc x113.2)), (13, .d (cI.enc x117))] (by kernel_rfl) <| xn <| wpC_seq <| wpC_kp <| wpC_seq <| reg_s <| st rfl <| mvd rfl rfl <| st rfl <| mvd rfl rfl <| st rfl <| b_neq (k := .i64) rfl rfl <| seqN [(0, .d ((cLs cI rfl).enc v0)), (1, .d ((cLs cI rfl).enc v1)), (5, .box ((cXCube (cLo cI) (cLo cI)).enc x23.1)), (6, .d (cB.enc x23.2)), (9, .box ((cXCube (cLo cI) (cLo cI)).enc x113.1)), (12, .d (cI.enc x113.2)), (88, .d (cB.enc (decide (x117 ≠ x113.2))))] (by kernel_rfl) <|
    xn <| cnd rfl h (fun b122 h => wpC_seq <| reg_s <| x_asg (sc cB false rfl) <| seqN [(4, .d (cB.enc false))] (by kernel_rfl) <|
    xn <| wpC_ret <| rt <| rt <| re <| fin h (r1 (ss rfl rfl) <| r0) rfl)
    (fun b122 h => wpC_skip <| kpN [(0, .d ((cLs cI rfl).enc v0)), (1, .d ((cLs cI rfl).enc v1)), (5, .box ((cXCube (cLo cI) (cLo cI)).enc x23.1)), (6, .d (cB.enc x23.2)), (9, .box ((cXCube (cLo cI) (cLo cI)).enc x113.1)), (12, .d (cI.enc x113.2))] (by kernel_rfl) <| xn <| wpC_seq <| reg_s <| st rfl <| mvd rfl rfl <| bnd h fun x129 e130 h => st rfl <| o_call (a1 (c := (cLs cI rfl)) (tLs tK) rfl a0) (con_laws_toIntS e130) (.inl (so1 (sLo sK) so0)) <| st rfl <| mvd rfl rfl <| bnd h fun x131 e132 h => st rfl <| o_call (a1 (c := (cLs cI rfl)) (tLs tK) rfl a0) (con_laws_toIntS e132) (.inl (so1 (sLo sK) so0)) <| bnd h fun x133 e134 h => st rfl <| o_call (a1 (c := (cLo cI)) (tLo tK) rfl (a1 (c := (cLo cI)) (tLo tK) rfl a0)) (con_impl_CubeOf e134) (.inl (so1 (sXCube (sLo sK) (sLo sK)) (so1 sB so0))) <| x_mvt rfl <| x_ext rfl rfl <| x_ext rfl rfl <| x_all (cXCube (cLo cI) (cLo cI)) (⟨([] : List Int), ([] : List Int)⟩ : XCube) rfl <| x_stb (so rfl rfl) rfl (Cd.h_sz _ _) rfl <| x_asg (ss rfl rfl) <| seqN [(5, .box ((cXCube (cLo cI) (cLo cI)).enc x23.1)), (6, .d (cB.enc x23.2)), (9, .box ((cXCube (cLo cI) (cLo cI)).enc x113.1)), (12, .d (cI.enc x113.2)), (14, .box ((cXCube (cLo cI) (cLo cI)).enc x133.1)), (15, .d (cB.enc x133.2))] (by kernel_rfl) <|
    xn <| wpC_seq <| wpC_kp <| wpC_seq <| reg_s <| st rfl <| ldbo rfl rfl rfl rfl <| st rfl <| ldbo rfl rfl rfl rfl <| bnd h fun x145 e146 h => st rfl <| o_call (a1 (c := (cXCube (cLo cI) (cLo cI))) (tXCube (tLo tK) (tLo tK)) rfl (a1 (c := (cXCube (cLo cI) (cLo cI))) (tXCube (tLo tK) (tLo tK)) rfl a0)) (con_laws_eqCube e146) (.inl (so1 sB so0)) <| st rfl <| o_nt rfl <| st rfl <| mvd rfl rfl <| ite_k h (fun b147 h => gf rfl b147 <| gf rfl b147 <| gf rfl b147 <| st rfl <| pick1 rfl b147 (cd := cB) (v := true) rfl rfl <| seqN [(9, .box ((cXCube (cLo cI) (cLo cI)).enc x113.1)), (12, .d (cI.enc x113.2)), (105, .d (cB.enc true))] (by kernel_rfl) <|
    xn <| cnd1 rfl rfl <| wpC_seq <| reg_s <| x_asg (sc cB false rfl) <| seqN [(4, .d (cB.enc false))] (by kernel_rfl) <|
    xn <| wpC_ret <| rt <| rt <| re <| fin h (r1 (ss rfl rfl) <| r0) rfl)
    (fun b147 h => gt' rfl b147 <| st rfl <| mvd rfl rfl <| gt' rfl b147 <| st rfl <| mvd rfl rfl <| gt' rfl b147 <| st rfl <| eqb1 rfl rfl <| st rfl <| pick0 rfl b147 (cd := cB) (v := (x133.2 != x23.2)) rfl rfl <| seqN [(9, .box ((cXCube (cLo cI) (cLo cI)).enc x113.1)), (12, .d (cI.enc x113.2)), (105, .d (cB.enc (x133.2 != x23.2)))] (by kernel_rfl) <|
    xn <| cnd rfl h (fun b148 h => wpC_seq <| reg_s <| x_asg (sc cB false rfl) <| seqN [(4, .d (cB.enc false))] (by kernel_rfl) <|
    xn <| wpC_ret <| rt <| rt <| re <| fin h (r1 (ss rfl rfl) <| r0) rfl)
    (fun b148 h => wpC_skip <| kpN [(9, .box ((cXCube (cLo cI) (cLo cI)).enc x113.1)), (12, .d (cI.enc x113.2))] (by kernel_rfl) <| xn <| wpC_seq <| reg_s <| x_asg (sc cI (1 : Int) rfl) <| seqN [(9, .box ((cXCube (cLo cI) (cLo cI)).enc x113.1)), (12, .d (cI.enc x113.2)), (13, .d (cI.enc (1 : Int)))] (by kernel_rfl) <|
    xn <| wpC_seq <| reg_s <| st rfl <| ldbo rfl rfl rfl rfl <| st rfl <| mvd rfl rfl <| bnd h fun x151 e152 h => st rfl <| o_call (a1 (c := (cXCube (cLo cI) (cLo cI))) (tXCube (tLo tK) (tLo tK)) rfl (a1 (c := cI) tK rfl a0)) (con_laws_heldCube e152) (.inl (so1 sK so0)) <| x_asg (ss rfl rfl) <| seqN [(12, .d (cI.enc x113.2)), (13, .d (cI.enc x151))] (by kernel_rfl) <|
    xn <| wpC_seq <| wpC_kp <| wpC_seq <| reg_s <| st rfl <| mvd rfl rfl <| st rfl <| b_lss (k := .i64) rfl rfl <| seqN [(12, .d (cI.enc x113.2)), (13, .d (cI.enc x151)), (110, .d (cB.enc (decide (x151 < (0 : Int)))))] (by kernel_rfl) <|
    xn <| cnd rfl h (fun b154 h => wpC_seq <| reg_s <| x_asg (sc cB false rfl) <| seqN [(4, .d (cB.enc false))] (by kernel_rfl) <|
    xn <| wpC_ret <| rt <| rt <| re <| fin h (r1 (ss rfl rfl) <| r0) rfl)
    (fun b154 h => wpC_skip <| kpN [(12, .d (cI.enc x113.2)), (13, .d (cI.enc x151))] (by kernel_rfl) <| xn <| wpC_seq <| wpC_kp <| wpC_seq <| reg_s <| st rfl <| mvd rfl rfl <| st rfl <| mvd rfl rfl <| st rfl <| b_neq (k := .i64) rfl rfl <| seqN [(113, .d (cB.enc (decide (x151 ≠ x113.2))))] (by kernel_rfl) <|
    xn <| cnd rfl h (fun b156 h => wpC_seq <| reg_s <| x_asg (sc cB false rfl) <| seqN [(4, .d (cB.enc false))] (by kernel_rfl) <|
    xn <| wpC_ret <| rt <| rt <| re <| fin h (r1 (ss rfl rfl) <| r0) rfl)
    (fun b156 h => wpC_skip <| kpN [] (by kernel_rfl) <| xn <| wpC_seq <| reg_s <| x_asg (sc cB true rfl) <| seqN [(4, .d (cB.enc true))] (by kernel_rfl) <|
    xn <| wpC_ret <| re <| fin h (r1 (ss rfl rfl) <| r0) rfl))))))))))))))
end AS.W
