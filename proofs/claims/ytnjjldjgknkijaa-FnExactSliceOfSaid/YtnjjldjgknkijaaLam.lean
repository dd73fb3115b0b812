/- The program computes the plain functions. No condition. -/
import Derived.Test.YtnjjldjgknkijaaSam
import Derived.Test.YtnjjldjgknkijaaProg
import Derived.Test.YtnjjldjgknkijaaLaa
import Derived.Test.YtnjjldjgknkijaaLad
import Derived.Test.YtnjjldjgknkijaaLae
import Derived.Test.YtnjjldjgknkijaaLal
set_option maxRecDepth 100000
set_option linter.unusedVariables false
set_option linter.unusedSimpArgs false
namespace AS.W
open Go Go.Proofs
def rs_spec_SliceOf (r : (XCube × Bool)) : List D := [(cXCube (cLo cI) (cLo cI)).enc r.1, cB.enc r.2]
def m50 : MC := .seq (.reg [⟨some 3, .box (.t 0), none⟩,
    ⟨some 6, .alloc (.agg [.slice true [], .slice true []]), none⟩,
    ⟨some 7, .asg (.c (.bool false)), none⟩] [1, 2, 3, 6])
  (.seq (.kp [1, 2, 3, 6] (.seq (.reg [⟨some 11, .ld 3 2 true, none⟩,
    ⟨some 12, .call 66 [(.t 11)], none⟩,
    ⟨some 13, .nt (.t 12), none⟩,
    ⟨some 14, .mv (.t 13), none⟩,
    ⟨some 15, .mv (.t 1), some (14, false)⟩,
    ⟨some 16, .fa 3 0 0, some (14, false)⟩,
    ⟨some 17, .ld 16 1 false, some (14, false)⟩,
    ⟨some 18, .len false (.t 17), some (14, false)⟩,
    ⟨some 19, .bin .sub (.t 18) (.c (.int .i64 1)), some (14, false)⟩,
    ⟨some 20, .call 58 [(.t 15), (.c (.int .i64 0)), (.t 19)], some (14, false)⟩,
    ⟨some 21, .nt (.t 20), some (14, false)⟩,
    ⟨some 22, .pick (.t 14) (.c (.bool true)) (.t 21), none⟩,
    ⟨some 23, .mv (.t 22), none⟩,
    ⟨some 24, .mv (.t 2), some (23, false)⟩,
    ⟨some 25, .fa 3 0 0, some (23, false)⟩,
    ⟨some 26, .ld 25 1 false, some (23, false)⟩,
    ⟨some 27, .mv (.t 1), some (23, false)⟩,
    ⟨some 28, .ia 26 (.t 27) 1, some (23, false)⟩,
    ⟨some 29, .ld 28 1 false, some (23, false)⟩,
    ⟨some 30, .call 58 [(.t 24), (.c (.int .i64 0)), (.t 29)], some (23, false)⟩,
    ⟨some 31, .nt (.t 30), some (23, false)⟩,
    ⟨some 32, .pick (.t 23) (.c (.bool true)) (.t 31), none⟩] [1, 2, 3, 6, 32])
  (.cond (.t 32) (.seq (.reg [⟨some 33, .bld [.slice true [], .slice true []] [], none⟩,
    ⟨none, .st 6 (.t 33) 2, none⟩,
    ⟨some 7, .asg (.c (.bool false)), none⟩] [6, 7])
  (.ret)) (.skip))))
  (.seq (.reg [⟨some 8, .asg (.c (.slice true [])), none⟩] [1, 2, 3, 6, 8])
  (.seq (.kp [1, 2, 3, 6, 8] (.seq (.reg [⟨some 34, .fa 3 0 0, none⟩,
    ⟨some 35, .ld 34 1 false, none⟩,
    ⟨some 36, .len false (.t 35), none⟩,
    ⟨some 37, .mv (.c (.int .i64 0)), none⟩] [1, 2, 3, 6, 8, 36, 37])
  (.blk 0 (.loop (.seq (.reg [⟨some 38, .bin .lss (.t 37) (.t 36), none⟩] [1, 2, 3, 6, 8, 36, 37, 38])
  (.seq (.kp [1, 2, 3, 6, 8, 36, 37] (.cond (.t 38) (.skip) (.exit 0)))
  (.seq (.kp [1, 2, 3, 6, 8, 36, 37] (.blk 1 (.seq (.reg [⟨some 39, .mv (.t 37), none⟩,
    ⟨some 9, .asg (.t 39), none⟩] [1, 2, 3, 6, 8, 9, 36, 37])
  (.seq (.reg [⟨some 40, .mv (.t 9), none⟩,
    ⟨some 41, .mv (.t 1), none⟩,
    ⟨some 42, .bin .neq (.t 40) (.t 41), none⟩] [1, 2, 3, 6, 8, 9, 36, 37, 42])
  (.cond (.t 42) (.reg [⟨some 43, .mv (.t 8), none⟩,
    ⟨some 44, .mv (.t 9), none⟩,
    ⟨some 45, .bsl [(.t 44)] 1, none⟩,
    ⟨some 46, .app (.t 43) (.t 45) 1, none⟩,
    ⟨some 8, .asg (.t 46), none⟩] [1, 2, 3, 6, 8, 36, 37]) (.skip))))))
  (.reg [⟨some 47, .bin .add (.t 37) (.c (.int .i64 1)), none⟩,
    ⟨some 37, .mv (.t 47), none⟩] [1, 2, 3, 6, 8, 36, 37]))))))))
  (.seq (.reg [⟨some 48, .fa 3 0 0, none⟩,
    ⟨some 49, .ld 48 1 false, none⟩,
    ⟨some 50, .call 55 [(.t 49)], none⟩,
    ⟨some 10, .asg (.t 50), none⟩] [1, 2, 3, 6, 8, 10])
  (.seq (.reg [⟨some 51, .mv (.t 10), none⟩,
    ⟨some 52, .mv (.t 1), none⟩,
    ⟨some 53, .mv (.t 2), none⟩,
    ⟨some 54, .ia 51 (.t 52) 1, none⟩,
    ⟨none, .st 54 (.t 53) 1, none⟩] [3, 6, 8, 10])
  (.seq (.reg [⟨some 55, .ld 3 2 true, none⟩,
    ⟨some 56, .mv (.t 8), none⟩,
    ⟨some 57, .mv (.t 10), none⟩,
    ⟨some 58, .call 94 [(.t 55), (.t 56), (.t 57)], none⟩,
    ⟨none, .st 6 (.t 58) 2, none⟩,
    ⟨some 7, .asg (.c (.bool true)), none⟩] [6, 7])
  (.ret)))))))
theorem con_spec_SliceOf {v0 : XCube} {v1 : Int} {v2 : Int} {r : (XCube × Bool)} (h : sh_spec_SliceOf v0 v1 v2 = some r) : Con Try.prog 50 [(cXCube (cLs cI rfl) (cLs cI rfl)).enc v0, cI.enc v1, cI.enc v2] [] (rs_spec_SliceOf r) := by
  delta sh_spec_SliceOf at h
  refine top (out := none) (f := Try.f50) (m := m50) (rs := [.c 6 2 true, .t 7]) (by kernel_rfl) rfl (by kernel_rfl) (by kernel_rfl) (by kernel_rfl) (by kernel_rfl) (by kernel_rfl) ?_
  exact
   ini [(0, .d ((cXCube (cLs cI rfl) (cLs cI rfl)).enc v0)), (1, .d (cI.enc v1)), (2, .d (cI.enc v2))] rfl <| wpC_seq <| reg_s <| x_box (ss rfl rfl) <| x_all (cXCube (cLo cI) (cLo cI)) (⟨([] : List Int), ([] : List Int)⟩ : XCube) rfl <| x_asg (sc cB false rfl) <| seqN [(1, .d (cI.enc v1)), (2, .d (cI.enc v2)), (3, .box ((cXCube (cLs cI rfl) (cLs cI rfl)).enc v0)), (6, .box ((cXCube (cLo cI) (cLo cI)).enc (⟨([] : List Int), ([] : List Int)⟩ : XCube)))] (by kernel_rfl) <|
    xn <| wpC_seq <| wpC_kp <| wpC_seq <| reg_s <| st rfl <| ldb rfl rfl rfl rfl <| bnd h fun x41 e42 h => st rfl <| o_call (a1 (c := (cXCube (cLs cI rfl) (cLs cI rfl))) (tXCube (tLs tK) (tLs tK)) rfl a0) (con_spec_cbGood e42) (.inl (so1 sB so0)) <| st rfl <| o_nt rfl <| st rfl <| mvd rfl rfl <| ite_k h (fun b43 h => gf rfl b43 <| gf rfl b43 <| gf rfl b43 <| gf rfl b43 <| gf rfl b43 <| gf rfl b43 <| gf rfl b43 <| st rfl <| pick1 rfl b43 (cd := cB) (v := true) rfl rfl <| st rfl <| mvd rfl rfl <| gf rfl rfl <| gf rfl rfl <| gf rfl rfl <| gf rfl rfl <| gf rfl rfl <| gf rfl rfl <| gf rfl rfl <| gf rfl rfl <| st rfl <| pick1 rfl rfl (cd := cB) (v := true) rfl rfl <| seqN [(1, .d (cI.enc v1)), (2, .d (cI.enc v2)), (3, .box ((cXCube (cLs cI rfl) (cLs cI rfl)).enc v0)), (6, .box ((cXCube (cLo cI) (cLo cI)).enc (⟨([] : List Int), ([] : List Int)⟩ : XCube))), (32, .d (cB.enc true))] (by kernel_rfl) <|
    xn <| cnd1 rfl rfl <| wpC_seq <| reg_s <| x_bld ((cXCube (cLo cI) (cLo cI)).enc (⟨([] : List Int), ([] : List Int)⟩ : XCube)) t0 rfl rfl <| x_stb (so rfl rfl) rfl (Cd.h_sz _ _) rfl <| x_asg (sc cB false rfl) <| seqN [(6, .box ((cXCube (cLo cI) (cLo cI)).enc (⟨([] : List Int), ([] : List Int)⟩ : XCube))), (7, .d (cB.enc false))] (by kernel_rfl) <|
    xn <| wpC_ret <| rt <| rt <| re <| fin h (r2 rfl rfl rfl <| r1 (ss rfl rfl) <| r0) rfl)
    (fun b43 h => gt' rfl b43 <| st rfl <| mvd rfl rfl <| gt' rfl b43 <| st rfl <| fab rfl rfl rfl rfl <| gt' rfl b43 <| st rfl <| lda rfl rfl rfl rfl rfl rfl <| gt' rfl b43 <| stw rfl <| lens rfl fun l44 => gt' rfl b43 <| ckI_k h fun i45 h => st rfl <| b_sub (k := .i64) rfl rfl i45 <| gt' rfl b43 <| bnd h fun x46 e47 h => st rfl <| o_call (a1 (c := cI) tK rfl (a1 (c := cI) tK rfl (a1 (c := cI) tK rfl a0))) (con_spec_l1In e47) (.inl (so1 sB so0)) <| gt' rfl b43 <| st rfl <| o_nt rfl <| st rfl <| pick0 rfl b43 (cd := cB) (v := (!x46)) rfl rfl <| st rfl <| mvd rfl rfl <| ite_k h (fun b48 h => gf rfl b48 <| gf rfl b48 <| gf rfl b48 <| gf rfl b48 <| gf rfl b48 <| gf rfl b48 <| gf rfl b48 <| gf rfl b48 <| st rfl <| pick1 rfl b48 (cd := cB) (v := true) rfl rfl <| seqN [(1, .d (cI.enc v1)), (2, .d (cI.enc v2)), (3, .box ((cXCube (cLs cI rfl) (cLs cI rfl)).enc v0)), (6, .box ((cXCube (cLo cI) (cLo cI)).enc (⟨([] : List Int), ([] : List Int)⟩ : XCube))), (32, .d (cB.enc true))] (by kernel_rfl) <|
    xn <| cnd1 rfl rfl <| wpC_seq <| reg_s <| x_bld ((cXCube (cLo cI) (cLo cI)).enc (⟨([] : List Int), ([] : List Int)⟩ : XCube)) t0 rfl rfl <| x_stb (so rfl rfl) rfl (Cd.h_sz _ _) rfl <| x_asg (sc cB false rfl) <| seqN [(6, .box ((cXCube (cLo cI) (cLo cI)).enc (⟨([] : List Int), ([] : List Int)⟩ : XCube))), (7, .d (cB.enc false))] (by kernel_rfl) <|
    xn <| wpC_ret <| rt <| rt <| re <| fin h (r2 rfl rfl rfl <| r1 (ss rfl rfl) <| r0) rfl)
    (fun b48 h => gt' rfl b48 <| st rfl <| mvd rfl rfl <| gt' rfl b48 <| st rfl <| fab rfl rfl rfl rfl <| gt' rfl b48 <| st rfl <| lda rfl rfl rfl rfl rfl rfl <| gt' rfl b48 <| st rfl <| mvd rfl rfl <| gt' rfl b48 <| getO_k h fun x49 i50 g51 h => st rfl <| ias rfl rfl i50 g51 rfl <| gt' rfl b48 <| st rfl <| ldi rfl rfl rfl rfl <| gt' rfl b48 <| bnd h fun x52 e53 h => st rfl <| o_call (a1 (c := cI) tK rfl (a1 (c := cI) tK rfl (a1 (c := cI) tK rfl a0))) (con_spec_l1In e53) (.inl (so1 sB so0)) <| gt' rfl b48 <| st rfl <| o_nt rfl <| st rfl <| pick0 rfl b48 (cd := cB) (v := (!x52)) rfl rfl <| seqN [(1, .d (cI.enc v1)), (2, .d (cI.enc v2)), (3, .box ((cXCube (cLs cI rfl) (cLs cI rfl)).enc v0)), (6, .box ((cXCube (cLo cI) (cLo cI)).enc (⟨([] : List Int), ([] : List Int)⟩ : XCube))), (32, .d (cB.enc (!x52)))] (by kernel_rfl) <|
    xn <| cnd rfl h (fun b54 h => wpC_seq <| reg_s <| x_bld ((cXCube (cLo cI) (cLo cI)).enc (⟨([] : List Int), ([] : List Int)⟩ : XCube)) t0 rfl rfl <| x_stb (so rfl rfl) rfl (Cd.h_sz _ _) rfl <| x_asg (sc cB false rfl) <| seqN [(6, .box ((cXCube (cLo cI) (cLo cI)).enc (⟨([] : List Int), ([] : List Int)⟩ : XCube))), (7, .d (cB.enc false))] (by kernel_rfl) <|
    xn <| wpC_ret <| rt <| rt <| re <| fin h (r2 rfl rfl rfl <| r1 (ss rfl rfl) <| r0) rfl)
    (fun b54 h => wpC_skip <| kpN [(1, .d (cI.enc v1)), (2, .d (cI.enc v2)), (3, .box ((cXCube (cLs cI rfl) (cLs cI rfl)).enc v0)), (6, .box ((cXCube (cLo cI) (cLo cI)).enc (⟨([] : List Int), ([] : List Int)⟩ : XCube)))] (by kernel_rfl) <| xn <| wpC_seq <| reg_s <| x_asg (sc (cLo cI) ([] : List Int) rfl) <| seqN [(1, .d (cI.enc v1)), (2, .d (cI.enc v2)), (3, .box ((cXCube (cLs cI rfl) (cLs cI rfl)).enc v0)), (6, .box ((cXCube (cLo cI) (cLo cI)).enc (⟨([] : List Int), ([] : List Int)⟩ : XCube))), (8, .d ((cLo cI).enc ([] : List Int)))] (by kernel_rfl) <|
    xn <| wpC_seq <| wpC_kp <| wpC_seq <| reg_s <| st rfl <| fab rfl rfl rfl rfl <| st rfl <| lda rfl rfl rfl rfl rfl rfl <| stw rfl <| lens rfl fun l78 => st rfl <| mvc cI (0 : Int) rfl <| seqN [(1, .d (cI.enc v1)), (2, .d (cI.enc v2)), (3, .box ((cXCube (cLs cI rfl) (cLs cI rfl)).enc v0)), (6, .box ((cXCube (cLo cI) (cLo cI)).enc (⟨([] : List Int), ([] : List Int)⟩ : XCube))), (8, .d ((cLo cI).enc ([] : List Int))), (36, .d (cI.enc (v0.Sizes.length : Int))), (37, .d (cI.enc (0 : Int)))] (by kernel_rfl) <|
    xn <| wpC_blk <| lpR (fun (k80 : Nat) (s79 : (List Int)) => [(1, .d (cI.enc v1)), (2, .d (cI.enc v2)), (3, .box ((cXCube (cLs cI rfl) (cLs cI rfl)).enc v0)), (6, .box ((cXCube (cLo cI) (cLo cI)).enc (⟨([] : List Int), ([] : List Int)⟩ : XCube))), (8, .d ((cLo cI).enc s79)), (36, .d (cI.enc (v0.Sizes.length : Int))), (37, .d (cI.enc (k80 : Int)))]) ([] : List Int) rfl h
    (fun G94 s79 h => wpC_seq <| reg_s <| st rfl <| b_lss (k := .i64) rfl rfl <| seqN [(1, .d (cI.enc v1)), (2, .d (cI.enc v2)), (3, .box ((cXCube (cLs cI rfl) (cLs cI rfl)).enc v0)), (6, .box ((cXCube (cLo cI) (cLo cI)).enc (⟨([] : List Int), ([] : List Int)⟩ : XCube))), (8, .d ((cLo cI).enc s79)), (36, .d (cI.enc (v0.Sizes.length : Int))), (37, .d (cI.enc (v0.Sizes.length : Int))), (38, .d (cB.enc (decide ((v0.Sizes.length : Int) < (v0.Sizes.length : Int)))))] (by kernel_rfl) <|
    xn <| wpC_seq <| wpC_kp <| cnd0 rfl (dlf _) <| wpC_exit <| xt <| xt <| xt <| xb <| kpN [(1, .d (cI.enc v1)), (2, .d (cI.enc v2)), (3, .box ((cXCube (cLs cI rfl) (cLs cI rfl)).enc v0)), (6, .box ((cXCube (cLo cI) (cLo cI)).enc (⟨([] : List Int), ([] : List Int)⟩ : XCube))), (8, .d ((cLo cI).enc s79))] (by kernel_rfl) <| xn <| wpC_seq <| reg_s <| st rfl <| fab rfl rfl rfl rfl <| st rfl <| lda rfl rfl rfl rfl rfl rfl <| bnd h fun x97 e98 h => st rfl <| o_call (a1 (c := (cLs cI rfl)) (tLs tK) rfl a0) (con_spec_l1Own e98) (.inl (so1 (sLo sK) so0)) <| x_asg (so rfl rfl) <| seqN [(1, .d (cI.enc v1)), (2, .d (cI.enc v2)), (3, .box ((cXCube (cLs cI rfl) (cLs cI rfl)).enc v0)), (6, .box ((cXCube (cLo cI) (cLo cI)).enc (⟨([] : List Int), ([] : List Int)⟩ : XCube))), (8, .d ((cLo cI).enc s79)), (10, .d ((cLo cI).enc x97))] (by kernel_rfl) <|
    xn <| wpC_seq <| reg_s <| st rfl <| mvo rfl rfl <| st rfl <| mvd rfl rfl <| st rfl <| mvd rfl rfl <| getO_k h fun x102 i103 g104 h => st rfl <| iar rfl rfl rfl rfl i103 g104 rfl <| x_sta ((cLo cI).enc (x97.set (v1).toNat v2)) (ss rfl rfl) rfl rfl (Ln.idx g104 Ln.nil) (Cd.h_sz cI _) rfl <| seqN [(3, .box ((cXCube (cLs cI rfl) (cLs cI rfl)).enc v0)), (6, .box ((cXCube (cLo cI) (cLo cI)).enc (⟨([] : List Int), ([] : List Int)⟩ : XCube))), (8, .d ((cLo cI).enc s79)), (10, .d ((cLo cI).enc (x97.set (v1).toNat v2)))] (by kernel_rfl) <|
    xn <| wpC_seq <| reg_s <| st rfl <| ldb rfl rfl rfl rfl <| st rfl <| mvo rfl rfl <| st rfl <| mvo rfl rfl <| bnd h fun x107 e108 h => st rfl <| o_call (a1 (c := (cXCube (cLs cI rfl) (cLs cI rfl))) (tXCube (tLs tK) (tLs tK)) rfl (a1 (c := (cLo cI)) (tLo tK) rfl (a1 (c := (cLo cI)) (tLo tK) rfl a0))) (con_spec_cbFrom e108) (.inl (so1 (sXCube (sLo sK) (sLo sK)) so0)) <| x_stb (so rfl rfl) rfl (Cd.h_sz _ _) rfl <| x_asg (sc cB true rfl) <| seqN [(6, .box ((cXCube (cLo cI) (cLo cI)).enc x107)), (7, .d (cB.enc true))] (by kernel_rfl) <|
    xn <| wpC_ret <| re <| fin h (r2 rfl rfl rfl <| r1 (ss rfl rfl) <| r0) rfl)
    (fun G94 nx92 k80 s79 x81 hk82 hx83 hn93 h => wpC_seq <| reg_s <| st rfl <| b_lss (k := .i64) rfl rfl <| seqN [(1, .d (cI.enc v1)), (2, .d (cI.enc v2)), (3, .box ((cXCube (cLs cI rfl) (cLs cI rfl)).enc v0)), (6, .box ((cXCube (cLo cI) (cLo cI)).enc (⟨([] : List Int), ([] : List Int)⟩ : XCube))), (8, .d ((cLo cI).enc s79)), (36, .d (cI.enc (v0.Sizes.length : Int))), (37, .d (cI.enc (k80 : Int))), (38, .d (cB.enc (decide ((k80 : Int) < (v0.Sizes.length : Int)))))] (by kernel_rfl) <|
    xn <| wpC_seq <| wpC_kp <| cnd1 rfl (dlt hk82) <| wpC_skip <| kpN [(1, .d (cI.enc v1)), (2, .d (cI.enc v2)), (3, .box ((cXCube (cLs cI rfl) (cLs cI rfl)).enc v0)), (6, .box ((cXCube (cLo cI) (cLo cI)).enc (⟨([] : List Int), ([] : List Int)⟩ : XCube))), (8, .d ((cLo cI).enc s79)), (36, .d (cI.enc (v0.Sizes.length : Int))), (37, .d (cI.enc (k80 : Int)))] (by kernel_rfl) <| xn <| wpC_seq <| wpC_kp <| wpC_blk <| wpC_seq <| reg_s <| st rfl <| mvd rfl rfl <| x_asg (ss rfl rfl) <| seqN [(1, .d (cI.enc v1)), (2, .d (cI.enc v2)), (3, .box ((cXCube (cLs cI rfl) (cLs cI rfl)).enc v0)), (6, .box ((cXCube (cLo cI) (cLo cI)).enc (⟨([] : List Int), ([] : List Int)⟩ : XCube))), (8, .d ((cLo cI).enc s79)), (9, .d (cI.enc (k80 : Int))), (36, .d (cI.enc (v0.Sizes.length : Int))), (37, .d (cI.enc (k80 : Int)))] (by kernel_rfl) <|
    xn <| wpC_seq <| reg_s <| st rfl <| mvd rfl rfl <| st rfl <| mvd rfl rfl <| st rfl <| b_neq (k := .i64) rfl rfl <| seqN [(1, .d (cI.enc v1)), (2, .d (cI.enc v2)), (3, .box ((cXCube (cLs cI rfl) (cLs cI rfl)).enc v0)), (6, .box ((cXCube (cLo cI) (cLo cI)).enc (⟨([] : List Int), ([] : List Int)⟩ : XCube))), (8, .d ((cLo cI).enc s79)), (9, .d (cI.enc (k80 : Int))), (36, .d (cI.enc (v0.Sizes.length : Int))), (37, .d (cI.enc (k80 : Int))), (42, .d (cB.enc (decide ((k80 : Int) ≠ v1))))] (by kernel_rfl) <|
    xn <| cnd rfl h (fun b111 h => reg_s <| st rfl <| mvo rfl rfl <| st rfl <| mvd rfl rfl <| x_bsl cI [(k80 : Int)] (t1 (ss rfl rfl) rfl t0) rfl rfl <| lnO_k h fun l112 h => x_app (sr rfl rfl) (to rfl rfl) l112 rfl <| x_asg (so rfl rfl) <| seqN [(1, .d (cI.enc v1)), (2, .d (cI.enc v2)), (3, .box ((cXCube (cLs cI rfl) (cLs cI rfl)).enc v0)), (6, .box ((cXCube (cLo cI) (cLo cI)).enc (⟨([] : List Int), ([] : List Int)⟩ : XCube))), (8, .d ((cLo cI).enc (s79 ++ [(k80 : Int)]))), (36, .d (cI.enc (v0.Sizes.length : Int))), (37, .d (cI.enc (k80 : Int)))] (by kernel_rfl) <|
    xbb <| kpN [(1, .d (cI.enc v1)), (2, .d (cI.enc v2)), (3, .box ((cXCube (cLs cI rfl) (cLs cI rfl)).enc v0)), (6, .box ((cXCube (cLo cI) (cLo cI)).enc (⟨([] : List Int), ([] : List Int)⟩ : XCube))), (8, .d ((cLo cI).enc (s79 ++ [(k80 : Int)]))), (36, .d (cI.enc (v0.Sizes.length : Int))), (37, .d (cI.enc (k80 : Int)))] (by kernel_rfl) <| xn <| reg_s <| st rfl <| b_inc rfl rfl l78 hk82 <| st rfl <| mvd rfl rfl <| seqN [(1, .d (cI.enc v1)), (2, .d (cI.enc v2)), (3, .box ((cXCube (cLs cI rfl) (cLs cI rfl)).enc v0)), (6, .box ((cXCube (cLo cI) (cLo cI)).enc (⟨([] : List Int), ([] : List Int)⟩ : XCube))), (8, .d ((cLo cI).enc (s79 ++ [(k80 : Int)]))), (36, .d (cI.enc (v0.Sizes.length : Int))), (37, .d (cI.enc ((k80 + 1 : Nat) : Int)))] (by kernel_rfl) <|
    xn <| hn93 (s79 ++ [(k80 : Int)]) h)
    (fun b111 h => wpC_skip <| xbb <| kpN [(1, .d (cI.enc v1)), (2, .d (cI.enc v2)), (3, .box ((cXCube (cLs cI rfl) (cLs cI rfl)).enc v0)), (6, .box ((cXCube (cLo cI) (cLo cI)).enc (⟨([] : List Int), ([] : List Int)⟩ : XCube))), (8, .d ((cLo cI).enc s79)), (36, .d (cI.enc (v0.Sizes.length : Int))), (37, .d (cI.enc (k80 : Int)))] (by kernel_rfl) <| xn <| reg_s <| st rfl <| b_inc rfl rfl l78 hk82 <| st rfl <| mvd rfl rfl <| seqN [(1, .d (cI.enc v1)), (2, .d (cI.enc v2)), (3, .box ((cXCube (cLs cI rfl) (cLs cI rfl)).enc v0)), (6, .box ((cXCube (cLo cI) (cLo cI)).enc (⟨([] : List Int), ([] : List Int)⟩ : XCube))), (8, .d ((cLo cI).enc s79)), (36, .d (cI.enc (v0.Sizes.length : Int))), (37, .d (cI.enc ((k80 + 1 : Nat) : Int)))] (by kernel_rfl) <|
    xn <| hn93 s79 h)))))

def rs_impl_SliceOf (r : (XCube × Bool)) : List D := [(cXCube (cLo cI) (cLo cI)).enc r.1, cB.enc r.2]
def m51 : MC := .seq (.reg [⟨some 3, .box (.t 0), none⟩,
    ⟨some 6, .alloc (.agg [.slice true [], .slice true []]), none⟩,
    ⟨some 7, .asg (.c (.bool false)), none⟩] [1, 2, 3, 6])
  (.seq (.kp [1, 2, 3, 6] (.seq (.reg [⟨some 11, .ld 3 2 true, none⟩,
    ⟨some 12, .call 29 [(.t 11)], none⟩,
    ⟨some 13, .nt (.t 12), none⟩,
    ⟨some 14, .mv (.t 13), none⟩,
    ⟨some 15, .mv (.t 1), some (14, false)⟩,
    ⟨some 16, .bin .lss (.t 15) (.c (.int .i64 0)), some (14, false)⟩,
    ⟨some 17, .pick (.t 14) (.c (.bool true)) (.t 16), none⟩,
    ⟨some 18, .mv (.t 17), none⟩,
    ⟨some 19, .mv (.t 1), some (18, false)⟩,
    ⟨some 20, .fa 3 0 0, some (18, false)⟩,
    ⟨some 21, .ld 20 1 false, some (18, false)⟩,
    ⟨some 22, .len false (.t 21), some (18, false)⟩,
    ⟨some 23, .bin .geq (.t 19) (.t 22), some (18, false)⟩,
    ⟨some 24, .pick (.t 18) (.c (.bool true)) (.t 23), none⟩,
    ⟨some 25, .mv (.t 24), none⟩,
    ⟨some 26, .mv (.t 2), some (25, false)⟩,
    ⟨some 27, .bin .lss (.t 26) (.c (.int .i64 0)), some (25, false)⟩,
    ⟨some 28, .pick (.t 25) (.c (.bool true)) (.t 27), none⟩,
    ⟨some 29, .mv (.t 28), none⟩,
    ⟨some 30, .mv (.t 2), some (29, false)⟩,
    ⟨some 31, .fa 3 0 0, some (29, false)⟩,
    ⟨some 32, .ld 31 1 false, some (29, false)⟩,
    ⟨some 33, .mv (.t 1), some (29, false)⟩,
    ⟨some 34, .ia 32 (.t 33) 1, some (29, false)⟩,
    ⟨some 35, .ld 34 1 false, some (29, false)⟩,
    ⟨some 36, .bin .gtr (.t 30) (.t 35), some (29, false)⟩,
    ⟨some 37, .pick (.t 29) (.c (.bool true)) (.t 36), none⟩] [1, 2, 3, 6, 37])
  (.cond (.t 37) (.seq (.reg [⟨some 38, .bld [.slice true [], .slice true []] [], none⟩,
    ⟨none, .st 6 (.t 38) 2, none⟩,
    ⟨some 7, .asg (.c (.bool false)), none⟩] [6, 7])
  (.ret)) (.skip))))
  (.seq (.reg [⟨some 8, .asg (.c (.slice true [])), none⟩] [1, 2, 3, 6, 8])
  (.seq (.kp [1, 2, 3, 6, 8] (.seq (.reg [⟨some 39, .fa 3 0 0, none⟩,
    ⟨some 40, .ld 39 1 false, none⟩,
    ⟨some 41, .len false (.t 40), none⟩,
    ⟨some 42, .mv (.c (.int .i64 0)), none⟩] [1, 2, 3, 6, 8, 41, 42])
  (.blk 0 (.loop (.seq (.reg [⟨some 43, .bin .lss (.t 42) (.t 41), none⟩] [1, 2, 3, 6, 8, 41, 42, 43])
  (.seq (.kp [1, 2, 3, 6, 8, 41, 42] (.cond (.t 43) (.skip) (.exit 0)))
  (.seq (.kp [1, 2, 3, 6, 8, 41, 42] (.blk 1 (.seq (.reg [⟨some 44, .mv (.t 42), none⟩,
    ⟨some 9, .asg (.t 44), none⟩] [1, 2, 3, 6, 8, 9, 41, 42])
  (.seq (.reg [⟨some 45, .mv (.t 9), none⟩,
    ⟨some 46, .mv (.t 1), none⟩,
    ⟨some 47, .bin .neq (.t 45) (.t 46), none⟩] [1, 2, 3, 6, 8, 9, 41, 42, 47])
  (.cond (.t 47) (.reg [⟨some 48, .mv (.t 8), none⟩,
    ⟨some 49, .mv (.t 9), none⟩,
    ⟨some 50, .bsl [(.t 49)] 1, none⟩,
    ⟨some 51, .app (.t 48) (.t 50) 1, none⟩,
    ⟨some 8, .asg (.t 51), none⟩] [1, 2, 3, 6, 8, 41, 42]) (.skip))))))
  (.reg [⟨some 52, .bin .add (.t 42) (.c (.int .i64 1)), none⟩,
    ⟨some 42, .mv (.t 52), none⟩] [1, 2, 3, 6, 8, 41, 42]))))))))
  (.seq (.reg [⟨some 53, .fa 3 0 0, none⟩,
    ⟨some 54, .ld 53 1 false, none⟩,
    ⟨some 55, .call 57 [(.t 54)], none⟩,
    ⟨some 10, .asg (.t 55), none⟩] [1, 2, 3, 6, 8, 10])
  (.seq (.reg [⟨some 56, .mv (.t 10), none⟩,
    ⟨some 57, .mv (.t 1), none⟩,
    ⟨some 58, .mv (.t 2), none⟩,
    ⟨some 59, .ia 56 (.t 57) 1, none⟩,
    ⟨none, .st 59 (.t 58) 1, none⟩] [3, 6, 8, 10])
  (.seq (.reg [⟨some 60, .ld 3 2 true, none⟩,
    ⟨some 61, .mv (.t 8), none⟩,
    ⟨some 62, .mv (.t 10), none⟩,
    ⟨some 63, .call 95 [(.t 60), (.t 61), (.t 62)], none⟩,
    ⟨none, .st 6 (.t 63) 2, none⟩,
    ⟨some 7, .asg (.c (.bool true)), none⟩] [6, 7])
  (.ret)))))))
theorem con_impl_SliceOf {v0 : XCube} {v1 : Int} {v2 : Int} {r : (XCube × Bool)} (h : sh_impl_SliceOf v0 v1 v2 = some r) : Con Try.prog 51 [(cXCube (cLs cI rfl) (cLs cI rfl)).enc v0, cI.enc v1, cI.enc v2] [] (rs_impl_SliceOf r) := by
  delta sh_impl_SliceOf at h
  refine top (out := none) (f := Try.f51) (m := m51) (rs := [.c 6 2 true, .t 7]) (by kernel_rfl) rfl (by kernel_rfl) (by kernel_rfl) (by kernel_rfl) (by kernel_rfl) (by kernel_rfl) ?_
  exact
   ini [(0, .d ((cXCube (cLs cI rfl) (cLs cI rfl)).enc v0)), (1, .d (cI.enc v1)), (2, .d (cI.enc v2))] rfl <| wpC_seq <| reg_s <| x_box (ss rfl rfl) <| x_all (cXCube (cLo cI) (cLo cI)) (⟨([] : List Int), ([] : List Int)⟩ : XCube) rfl <| x_asg (sc cB false rfl) <| seqN [(1, .d (cI.enc v1)), (2, .d (cI.enc v2)), (3, .box ((cXCube (cLs cI rfl) (cLs cI rfl)).enc v0)), (6, .box ((cXCube (cLo cI) (cLo cI)).enc (⟨([] : List Int), ([] : List Int)⟩ : XCube)))] (by kernel_rfl) <|
    xn <| wpC_seq <| wpC_kp <| wpC_seq <| jw (fun (s34 : Bool) => [(1, .d (cI.enc v1)), (2, .d (cI.enc v2)), (3, .box ((cXCube (cLs cI rfl) (cLs cI rfl)).enc v0)), (6, .box ((cXCube (cLo cI) (cLo cI)).enc (⟨([] : List Int), ([] : List Int)⟩ : XCube))), (37, .d (cB.enc s34))]) h (fun s34 h => xn <| cnd rfl h (fun b36 h => wpC_seq <| reg_s <| x_bld ((cXCube (cLo cI) (cLo cI)).enc (⟨([] : List Int), ([] : List Int)⟩ : XCube)) t0 rfl rfl <| x_stb (so rfl rfl) rfl (Cd.h_sz _ _) rfl <| x_asg (sc cB false rfl) <| seqN [(6, .box ((cXCube (cLo cI) (cLo cI)).enc (⟨([] : List Int), ([] : List Int)⟩ : XCube))), (7, .d (cB.enc false))] (by kernel_rfl) <|
    xn <| wpC_ret <| rt <| rt <| re <| fin h (r2 rfl rfl rfl <| r1 (ss rfl rfl) <| r0) rfl)
    (fun b36 h => wpC_skip <| kpN [(1, .d (cI.enc v1)), (2, .d (cI.enc v2)), (3, .box ((cXCube (cLs cI rfl) (cLs cI rfl)).enc v0)), (6, .box ((cXCube (cLo cI) (cLo cI)).enc (⟨([] : List Int), ([] : List Int)⟩ : XCube)))] (by kernel_rfl) <| xn <| wpC_seq <| reg_s <| x_asg (sc (cLo cI) ([] : List Int) rfl) <| seqN [(1, .d (cI.enc v1)), (2, .d (cI.enc v2)), (3, .box ((cXCube (cLs cI rfl) (cLs cI rfl)).enc v0)), (6, .box ((cXCube (cLo cI) (cLo cI)).enc (⟨([] : List Int), ([] : List Int)⟩ : XCube))), (8, .d ((cLo cI).enc ([] : List Int)))] (by kernel_rfl) <|
    xn <| wpC_seq <| wpC_kp <| wpC_seq <| reg_s <| st rfl <| fab rfl rfl rfl rfl <| st rfl <| lda rfl rfl rfl rfl rfl rfl <| stw rfl <| lens rfl fun l60 => st rfl <| mvc cI (0 : Int) rfl <| seqN [(1, .d (cI.enc v1)), (2, .d (cI.enc v2)), (3, .box ((cXCube (cLs cI rfl) (cLs cI rfl)).enc v0)), (6, .box ((cXCube (cLo cI) (cLo cI)).enc (⟨([] : List Int), ([] : List Int)⟩ : XCube))), (8, .d ((cLo cI).enc ([] : List Int))), (41, .d (cI.enc (v0.Sizes.length : Int))), (42, .d (cI.enc (0 : Int)))] (by kernel_rfl) <|
    xn <| wpC_blk <| lpR (fun (k62 : Nat) (s61 : (List Int)) => [(1, .d (cI.enc v1)), (2, .d (cI.enc v2)), (3, .box ((cXCube (cLs cI rfl) (cLs cI rfl)).enc v0)), (6, .box ((cXCube (cLo cI) (cLo cI)).enc (⟨([] : List Int), ([] : List Int)⟩ : XCube))), (8, .d ((cLo cI).enc s61)), (41, .d (cI.enc (v0.Sizes.length : Int))), (42, .d (cI.enc (k62 : Int)))]) ([] : List Int) rfl h
    (fun G76 s61 h => wpC_seq <| reg_s <| st rfl <| b_lss (k := .i64) rfl rfl <| seqN [(1, .d (cI.enc v1)), (2, .d (cI.enc v2)), (3, .box ((cXCube (cLs cI rfl) (cLs cI rfl)).enc v0)), (6, .box ((cXCube (cLo cI) (cLo cI)).enc (⟨([] : List Int), ([] : List Int)⟩ : XCube))), (8, .d ((cLo cI).enc s61)), (41, .d (cI.enc (v0.Sizes.length : Int))), (42, .d (cI.enc (v0.Sizes.length : Int))), (43, .d (cB.enc (decide ((v0.Sizes.length : Int) < (v0.Sizes.length : Int)))))] (by kernel_rfl) <|
    xn <| wpC_seq <| wpC_kp <| cnd0 rfl (dlf _) <| wpC_exit <| xt <| xt <| xt <| xb <| kpN [(1, .d (cI.enc v1)), (2, .d (cI.enc v2)), (3, .box ((cXCube (cLs cI rfl) (cLs cI rfl)).enc v0)), (6, .box ((cXCube (cLo cI) (cLo cI)).enc (⟨([] : List Int), ([] : List Int)⟩ : XCube))), (8, .d ((cLo cI).enc s61))] (by kernel_rfl) <| xn <| wpC_seq <| reg_s <| st rfl <| fab rfl rfl rfl rfl <| st rfl <| lda rfl rfl rfl rfl rfl rfl <| bnd h fun x79 e80 h => st rfl <| o_call (a1 (c := (cLs cI rfl)) (tLs tK) rfl a0) (con_slices_Clone_int e80) (.inl (so1 (sLo sK) so0)) <| x_asg (so rfl rfl) <| seqN [(1, .d (cI.enc v1)), (2, .d (cI.enc v2)), (3, .box ((cXCube (cLs cI rfl) (cLs cI rfl)).enc v0)), (6, .box ((cXCube (cLo cI) (cLo cI)).enc (⟨([] : List Int), ([] : List Int)⟩ : XCube))), (8, .d ((cLo cI).enc s61)), (10, .d ((cLo cI).enc x79))] (by kernel_rfl) <|
    xn <| wpC_seq <| reg_s <| st rfl <| mvo rfl rfl <| st rfl <| mvd rfl rfl <| st rfl <| mvd rfl rfl <| getO_k h fun x84 i85 g86 h => st rfl <| iar rfl rfl rfl rfl i85 g86 rfl <| x_sta ((cLo cI).enc (x79.set (v1).toNat v2)) (ss rfl rfl) rfl rfl (Ln.idx g86 Ln.nil) (Cd.h_sz cI _) rfl <| seqN [(3, .box ((cXCube (cLs cI rfl) (cLs cI rfl)).enc v0)), (6, .box ((cXCube (cLo cI) (cLo cI)).enc (⟨([] : List Int), ([] : List Int)⟩ : XCube))), (8, .d ((cLo cI).enc s61)), (10, .d ((cLo cI).enc (x79.set (v1).toNat v2)))] (by kernel_rfl) <|
    xn <| wpC_seq <| reg_s <| st rfl <| ldb rfl rfl rfl rfl <| st rfl <| mvo rfl rfl <| st rfl <| mvo rfl rfl <| bnd h fun x89 e90 h => st rfl <| o_call (a1 (c := (cXCube (cLs cI rfl) (cLs cI rfl))) (tXCube (tLs tK) (tLs tK)) rfl (a1 (c := (cLo cI)) (tLo tK) rfl (a1 (c := (cLo cI)) (tLo tK) rfl a0))) (con_impl_taken e90) (.inl (so1 (sXCube (sLo sK) (sLo sK)) so0)) <| x_stb (so rfl rfl) rfl (Cd.h_sz _ _) rfl <| x_asg (sc cB true rfl) <| seqN [(6, .box ((cXCube (cLo cI) (cLo cI)).enc x89)), (7, .d (cB.enc true))] (by kernel_rfl) <|
    xn <| wpC_ret <| re <| fin h (r2 rfl rfl rfl <| r1 (ss rfl rfl) <| r0) rfl)
    (fun G76 nx74 k62 s61 x63 hk64 hx65 hn75 h => wpC_seq <| reg_s <| st rfl <| b_lss (k := .i64) rfl rfl <| seqN [(1, .d (cI.enc v1)), (2, .d (cI.enc v2)), (3, .box ((cXCube (cLs cI rfl) (cLs cI rfl)).enc v0)), (6, .box ((cXCube (cLo cI) (cLo cI)).enc (⟨([] : List Int), ([] : List Int)⟩ : XCube))), (8, .d ((cLo cI).enc s61)), (41, .d (cI.enc (v0.Sizes.length : Int))), (42, .d (cI.enc (k62 : Int))), (43, .d (cB.enc (decide ((k62 : Int) < (v0.Sizes.length : Int)))))] (by kernel_rfl) <|
    xn <| wpC_seq <| wpC_kp <| cnd1 rfl (dlt hk64) <| wpC_skip <| kpN [(1, .d (cI.enc v1)), (2, .d (cI.enc v2)), (3, .box ((cXCube (cLs cI rfl) (cLs cI rfl)).enc v0)), (6, .box ((cXCube (cLo cI) (cLo cI)).enc (⟨([] : List Int), ([] : List Int)⟩ : XCube))), (8, .d ((cLo cI).enc s61)), (41, .d (cI.enc (v0.Sizes.length : Int))), (42, .d (cI.enc (k62 : Int)))] (by kernel_rfl) <| xn <| wpC_seq <| wpC_kp <| wpC_blk <| wpC_seq <| reg_s <| st rfl <| mvd rfl rfl <| x_asg (ss rfl rfl) <| seqN [(1, .d (cI.enc v1)), (2, .d (cI.enc v2)), (3, .box ((cXCube (cLs cI rfl) (cLs cI rfl)).enc v0)), (6, .box ((cXCube (cLo cI) (cLo cI)).enc (⟨([] : List Int), ([] : List Int)⟩ : XCube))), (8, .d ((cLo cI).enc s61)), (9, .d (cI.enc (k62 : Int))), (41, .d (cI.enc (v0.Sizes.length : Int))), (42, .d (cI.enc (k62 : Int)))] (by kernel_rfl) <|
    xn <| wpC_seq <| reg_s <| st rfl <| mvd rfl rfl <| st rfl <| mvd rfl rfl <| st rfl <| b_neq (k := .i64) rfl rfl <| seqN [(1, .d (cI.enc v1)), (2, .d (cI.enc v2)), (3, .box ((cXCube (cLs cI rfl) (cLs cI rfl)).enc v0)), (6, .box ((cXCube (cLo cI) (cLo cI)).enc (⟨([] : List Int), ([] : List Int)⟩ : XCube))), (8, .d ((cLo cI).enc s61)), (9, .d (cI.enc (k62 : Int))), (41, .d (cI.enc (v0.Sizes.length : Int))), (42, .d (cI.enc (k62 : Int))), (47, .d (cB.enc (decide ((k62 : Int) ≠ v1))))] (by kernel_rfl) <|
    xn <| cnd rfl h (fun b93 h => reg_s <| st rfl <| mvo rfl rfl <| st rfl <| mvd rfl rfl <| x_bsl cI [(k62 : Int)] (t1 (ss rfl rfl) rfl t0) rfl rfl <| lnO_k h fun l94 h => x_app (sr rfl rfl) (to rfl rfl) l94 rfl <| x_asg (so rfl rfl) <| seqN [(1, .d (cI.enc v1)), (2, .d (cI.enc v2)), (3, .box ((cXCube (cLs cI rfl) (cLs cI rfl)).enc v0)), (6, .box ((cXCube (cLo cI) (cLo cI)).enc (⟨([] : List Int), ([] : List Int)⟩ : XCube))), (8, .d ((cLo cI).enc (s61 ++ [(k62 : Int)]))), (41, .d (cI.enc (v0.Sizes.length : Int))), (42, .d (cI.enc (k62 : Int)))] (by kernel_rfl) <|
    xbb <| kpN [(1, .d (cI.enc v1)), (2, .d (cI.enc v2)), (3, .box ((cXCube (cLs cI rfl) (cLs cI rfl)).enc v0)), (6, .box ((cXCube (cLo cI) (cLo cI)).enc (⟨([] : List Int), ([] : List Int)⟩ : XCube))), (8, .d ((cLo cI).enc (s61 ++ [(k62 : Int)]))), (41, .d (cI.enc (v0.Sizes.length : Int))), (42, .d (cI.enc (k62 : Int)))] (by kernel_rfl) <| xn <| reg_s <| st rfl <| b_inc rfl rfl l60 hk64 <| st rfl <| mvd rfl rfl <| seqN [(1, .d (cI.enc v1)), (2, .d (cI.enc v2)), (3, .box ((cXCube (cLs cI rfl) (cLs cI rfl)).enc v0)), (6, .box ((cXCube (cLo cI) (cLo cI)).enc (⟨([] : List Int), ([] : List Int)⟩ : XCube))), (8, .d ((cLo cI).enc (s61 ++ [(k62 : Int)]))), (41, .d (cI.enc (v0.Sizes.length : Int))), (42, .d (cI.enc ((k62 + 1 : Nat) : Int)))] (by kernel_rfl) <|
    xn <| hn75 (s61 ++ [(k62 : Int)]) h)
    (fun b93 h => wpC_skip <| xbb <| kpN [(1, .d (cI.enc v1)), (2, .d (cI.enc v2)), (3, .box ((cXCube (cLs cI rfl) (cLs cI rfl)).enc v0)), (6, .box ((cXCube (cLo cI) (cLo cI)).enc (⟨([] : List Int), ([] : List Int)⟩ : XCube))), (8, .d ((cLo cI).enc s61)), (41, .d (cI.enc (v0.Sizes.length : Int))), (42, .d (cI.enc (k62 : Int)))] (by kernel_rfl) <| xn <| reg_s <| st rfl <| b_inc rfl rfl l60 hk64 <| st rfl <| mvd rfl rfl <| seqN [(1, .d (cI.enc v1)), (2, .d (cI.enc v2)), (3, .box ((cXCube (cLs cI rfl) (cLs cI rfl)).enc v0)), (6, .box ((cXCube (cLo cI) (cLo cI)).enc (⟨([] : List Int), ([] : List Int)⟩ : XCube))), (8, .d ((cLo cI).enc s61)), (41, .d (cI.enc (v0.Sizes.length : Int))), (42, .d (cI.enc ((k62 + 1 : Nat) : Int)))] (by kernel_rfl) <|
    xn <| hn75 s61 h))))
    fun s34' q35 h => reg_s <| st rfl <| ldb rfl rfl rfl rfl <| bnd h fun x95 e96 h => st rfl <| o_call (a1 (c := (cXCube (cLs cI rfl) (cLs cI rfl))) (tXCube (tLs tK) (tLs tK)) rfl a0) (con_impl_IsCube e96) (.inl (so1 sB so0)) <| st rfl <| o_nt rfl <| st rfl <| mvd rfl rfl <| ite_k h (fun b97 h => gf rfl b97 <| gf rfl b97 <| st rfl <| pick1 rfl b97 (cd := cB) (v := true) rfl rfl <| st rfl <| mvd rfl rfl <| gf rfl rfl <| gf rfl rfl <| gf rfl rfl <| gf rfl rfl <| gf rfl rfl <| st rfl <| pick1 rfl rfl (cd := cB) (v := true) rfl rfl <| st rfl <| mvd rfl rfl <| gf rfl rfl <| gf rfl rfl <| st rfl <| pick1 rfl rfl (cd := cB) (v := true) rfl rfl <| st rfl <| mvd rfl rfl <| gf rfl rfl <| gf rfl rfl <| gf rfl rfl <| gf rfl rfl <| gf rfl rfl <| gf rfl rfl <| gf rfl rfl <| st rfl <| pick1 rfl rfl (cd := cB) (v := true) rfl rfl <| seqN [(1, .d (cI.enc v1)), (2, .d (cI.enc v2)), (3, .box ((cXCube (cLs cI rfl) (cLs cI rfl)).enc v0)), (6, .box ((cXCube (cLo cI) (cLo cI)).enc (⟨([] : List Int), ([] : List Int)⟩ : XCube))), (37, .d (cB.enc true))] (by kernel_rfl) <|
    lfn (S := (fun (s34 : Bool) => [(1, .d (cI.enc v1)), (2, .d (cI.enc v2)), (3, .box ((cXCube (cLs cI rfl) (cLs cI rfl)).enc v0)), (6, .box ((cXCube (cLo cI) (cLo cI)).enc (⟨([] : List Int), ([] : List Int)⟩ : XCube))), (37, .d (cB.enc s34))])) h q35 rfl)
    (fun b97 h => gt' rfl b97 <| st rfl <| mvd rfl rfl <| gt' rfl b97 <| st rfl <| b_lss (k := .i64) rfl rfl <| st rfl <| pick0 rfl b97 (cd := cB) (v := (decide (v1 < (0 : Int)))) rfl rfl <| st rfl <| mvd rfl rfl <| ite_k h (fun b98 h => gf rfl b98 <| gf rfl b98 <| gf rfl b98 <| gf rfl b98 <| gf rfl b98 <| st rfl <| pick1 rfl b98 (cd := cB) (v := true) rfl rfl <| st rfl <| mvd rfl rfl <| gf rfl rfl <| gf rfl rfl <| st rfl <| pick1 rfl rfl (cd := cB) (v := true) rfl rfl <| st rfl <| mvd rfl rfl <| gf rfl rfl <| gf rfl rfl <| gf rfl rfl <| gf rfl rfl <| gf rfl rfl <| gf rfl rfl <| gf rfl rfl <| st rfl <| pick1 rfl rfl (cd := cB) (v := true) rfl rfl <| seqN [(1, .d (cI.enc v1)), (2, .d (cI.enc v2)), (3, .box ((cXCube (cLs cI rfl) (cLs cI rfl)).enc v0)), (6, .box ((cXCube (cLo cI) (cLo cI)).enc (⟨([] : List Int), ([] : List Int)⟩ : XCube))), (37, .d (cB.enc true))] (by kernel_rfl) <|
    lfn (S := (fun (s34 : Bool) => [(1, .d (cI.enc v1)), (2, .d (cI.enc v2)), (3, .box ((cXCube (cLs cI rfl) (cLs cI rfl)).enc v0)), (6, .box ((cXCube (cLo cI) (cLo cI)).enc (⟨([] : List Int), ([] : List Int)⟩ : XCube))), (37, .d (cB.enc s34))])) h q35 rfl)
    (fun b98 h => gt' rfl b98 <| st rfl <| mvd rfl rfl <| gt' rfl b98 <| st rfl <| fab rfl rfl rfl rfl <| gt' rfl b98 <| st rfl <| lda rfl rfl rfl rfl rfl rfl <| gt' rfl b98 <| stw rfl <| lens rfl fun l99 => gt' rfl b98 <| st rfl <| b_geq (k := .i64) rfl rfl <| st rfl <| pick0 rfl b98 (cd := cB) (v := (decide ((v0.Sizes.length : Int) ≤ v1))) rfl rfl <| st rfl <| mvd rfl rfl <| ite_k h (fun b100 h => gf rfl b100 <| gf rfl b100 <| st rfl <| pick1 rfl b100 (cd := cB) (v := true) rfl rfl <| st rfl <| mvd rfl rfl <| gf rfl rfl <| gf rfl rfl <| gf rfl rfl <| gf rfl rfl <| gf rfl rfl <| gf rfl rfl <| gf rfl rfl <| st rfl <| pick1 rfl rfl (cd := cB) (v := true) rfl rfl <| seqN [(1, .d (cI.enc v1)), (2, .d (cI.enc v2)), (3, .box ((cXCube (cLs cI rfl) (cLs cI rfl)).enc v0)), (6, .box ((cXCube (cLo cI) (cLo cI)).enc (⟨([] : List Int), ([] : List Int)⟩ : XCube))), (37, .d (cB.enc true))] (by kernel_rfl) <|
    lfn (S := (fun (s34 : Bool) => [(1, .d (cI.enc v1)), (2, .d (cI.enc v2)), (3, .box ((cXCube (cLs cI rfl) (cLs cI rfl)).enc v0)), (6, .box ((cXCube (cLo cI) (cLo cI)).enc (⟨([] : List Int), ([] : List Int)⟩ : XCube))), (37, .d (cB.enc s34))])) h q35 rfl)
    (fun b100 h => gt' rfl b100 <| st rfl <| mvd rfl rfl <| gt' rfl b100 <| st rfl <| b_lss (k := .i64) rfl rfl <| st rfl <| pick0 rfl b100 (cd := cB) (v := (decide (v2 < (0 : Int)))) rfl rfl <| st rfl <| mvd rfl rfl <| ite_k h (fun b101 h => gf rfl b101 <| gf rfl b101 <| gf rfl b101 <| gf rfl b101 <| gf rfl b101 <| gf rfl b101 <| gf rfl b101 <| st rfl <| pick1 rfl b101 (cd := cB) (v := true) rfl rfl <| seqN [(1, .d (cI.enc v1)), (2, .d (cI.enc v2)), (3, .box ((cXCube (cLs cI rfl) (cLs cI rfl)).enc v0)), (6, .box ((cXCube (cLo cI) (cLo cI)).enc (⟨([] : List Int), ([] : List Int)⟩ : XCube))), (37, .d (cB.enc true))] (by kernel_rfl) <|
    lfn (S := (fun (s34 : Bool) => [(1, .d (cI.enc v1)), (2, .d (cI.enc v2)), (3, .box ((cXCube (cLs cI rfl) (cLs cI rfl)).enc v0)), (6, .box ((cXCube (cLo cI) (cLo cI)).enc (⟨([] : List Int), ([] : List Int)⟩ : XCube))), (37, .d (cB.enc s34))])) h q35 rfl)
    (fun b101 h => gt' rfl b101 <| st rfl <| mvd rfl rfl <| gt' rfl b101 <| st rfl <| fab rfl rfl rfl rfl <| gt' rfl b101 <| st rfl <| lda rfl rfl rfl rfl rfl rfl <| gt' rfl b101 <| st rfl <| mvd rfl rfl <| gt' rfl b101 <| getO_k h fun x102 i103 g104 h => st rfl <| ias rfl rfl i103 g104 rfl <| gt' rfl b101 <| st rfl <| ldi rfl rfl rfl rfl <| gt' rfl b101 <| st rfl <| b_gtr (k := .i64) rfl rfl <| st rfl <| pick0 rfl b101 (cd := cB) (v := (decide (x102 < v2))) rfl rfl <| seqN [(1, .d (cI.enc v1)), (2, .d (cI.enc v2)), (3, .box ((cXCube (cLs cI rfl) (cLs cI rfl)).enc v0)), (6, .box ((cXCube (cLo cI) (cLo cI)).enc (⟨([] : List Int), ([] : List Int)⟩ : XCube))), (37, .d (cB.enc (decide (x102 < v2))))] (by kernel_rfl) <|
    lfn (S := (fun (s34 : Bool) => [(1, .d (cI.enc v1)), (2, .d (cI.enc v2)), (3, .box ((cXCube (cLs cI rfl) (cLs cI rfl)).enc v0)), (6, .box ((cXCube (cLo cI) (cLo cI)).enc (⟨([] : List Int), ([] : List Int)⟩ : XCube))), (37, .d (cB.enc s34))])) h q35 rfl))))

def rs_laws_FnExactSliceOf (r : Bool) : List D := [cB.enc r]
def m13 : MC := .seq (.reg [⟨some 3, .box (.t 0), none⟩,
    ⟨some 6, .asg (.c (.bool false)), none⟩] [1, 2, 3])
  (.seq (.reg [⟨some 7, .asg (.c (.int .i64 1048576)), none⟩] [1, 2, 3, 7])
  (.seq (.reg [⟨some 18, .ld 3 2 true, none⟩,
    ⟨some 19, .mv (.t 7), none⟩,
    ⟨some 20, .call 26 [(.t 18), (.t 19)], none⟩,
    ⟨some 7, .asg (.t 20), none⟩] [1, 2, 3, 7])
  (.seq (.kp [1, 2, 3] (.seq (.reg [⟨some 21, .mv (.t 7), none⟩,
    ⟨some 22, .bin .lss (.t 21) (.c (.int .i64 0)), none⟩] [1, 2, 3, 22])
  (.cond (.t 22) (.seq (.reg [⟨some 6, .asg (.c (.bool true)), none⟩] [6])
  (.ret)) (.skip))))
  (.seq (.reg [⟨some 24, .ld 3 2 true, none⟩,
    ⟨some 25, .call 28 [(.t 24)], none⟩,
    ⟨some 26, .mv (.t 1), none⟩,
    ⟨some 27, .mv (.t 2), none⟩,
    ⟨some 28, .call 50 [(.t 25), (.t 26), (.t 27)], none⟩,
    ⟨some 23, .mvt 28, none⟩,
    ⟨some 29, .ext 23 0, none⟩,
    ⟨some 30, .ext 23 1, none⟩,
    ⟨some 8, .alloc (.agg [.slice true [], .slice true []]), none⟩,
    ⟨none, .st 8 (.t 29) 2, none⟩,
    ⟨some 9, .asg (.t 30), none⟩] [1, 2, 3, 8, 9])
  (.seq (.reg [⟨some 31, .ld 3 2 true, none⟩,
    ⟨some 32, .call 28 [(.t 31)], none⟩,
    ⟨some 10, .alloc (.agg [.slice true [], .slice true []]), none⟩,
    ⟨none, .st 10 (.t 32) 2, none⟩] [1, 2, 3, 8, 9, 10])
  (.seq (.reg [⟨some 34, .ld 10 2 true, none⟩,
    ⟨some 35, .mv (.t 1), none⟩,
    ⟨some 36, .mv (.t 2), none⟩,
    ⟨some 37, .call 51 [(.t 34), (.t 35), (.t 36)], none⟩,
    ⟨some 33, .mvt 37, none⟩,
    ⟨some 38, .ext 33 0, none⟩,
    ⟨some 39, .ext 33 1, none⟩,
    ⟨some 11, .alloc (.agg [.slice true [], .slice true []]), none⟩,
    ⟨none, .st 11 (.t 38) 2, none⟩,
    ⟨some 12, .asg (.t 39), none⟩] [1, 2, 3, 8, 9, 10, 11, 12])
  (.seq (.kp [1, 2, 3, 8, 9, 10, 11, 12] (.seq (.reg [⟨some 40, .ld 11 2 true, none⟩,
    ⟨some 41, .ld 8 2 true, none⟩,
    ⟨some 42, .call 30 [(.t 40), (.t 41)], none⟩,
    ⟨some 43, .nt (.t 42), none⟩,
    ⟨some 44, .mv (.t 43), none⟩,
    ⟨some 45, .mv (.t 12), some (44, false)⟩,
    ⟨some 46, .mv (.t 9), some (44, false)⟩,
    ⟨some 47, .eqb true (.t 45) (.t 46), some (44, false)⟩,
    ⟨some 48, .pick (.t 44) (.c (.bool true)) (.t 47), none⟩] [1, 2, 3, 8, 9, 10, 11, 12, 48])
  (.cond (.t 48) (.seq (.reg [⟨some 6, .asg (.c (.bool false)), none⟩] [6])
  (.ret)) (.skip))))
  (.seq (.kp [1, 2, 3, 8, 9, 10, 11, 12] (.seq (.drw [⟨0, ⟨some 49, .ld 10 2 true, none⟩, [50, 51, 52, 53]⟩,
    ⟨1, ⟨some 50, .ld 3 2 true, none⟩, [49, 51, 52, 53]⟩,
    ⟨2, ⟨some 51, .call 28 [(.t 50)], none⟩, [49, 52, 53]⟩,
    ⟨3, ⟨some 52, .call 30 [(.t 49), (.t 51)], none⟩, [53]⟩,
    ⟨4, ⟨some 53, .nt (.t 52), none⟩, []⟩]
    [] [1, 2, 3, 8, 9, 10, 11, 12, 53])
  (.cond (.t 53) (.seq (.reg [⟨some 6, .asg (.c (.bool false)), none⟩] [6])
  (.ret)) (.skip))))
  (.seq (.reg [⟨some 13, .asg (.c (.int .i64 1)), none⟩] [1, 2, 3, 8, 9, 10, 11, 12, 13])
  (.seq (.reg [⟨some 54, .ld 10 2 true, none⟩,
    ⟨some 55, .mv (.t 13), none⟩,
    ⟨some 56, .callO 42 [(.t 54), (.t 55)], none⟩,
    ⟨some 13, .asg (.t 56), none⟩] [1, 2, 3, 8, 9, 11, 12, 13])
  (.seq (.kp [1, 2, 3, 8, 9, 11] (.seq (.reg [⟨some 57, .mv (.t 13), none⟩,
    ⟨some 58, .bin .lss (.t 57) (.c (.int .i64 0)), none⟩,
    ⟨some 59, .mv (.t 58), none⟩,
    ⟨some 60, .ld 11 2 true, some (59, false)⟩,
    ⟨some 61, .ld 8 2 true, some (59, false)⟩,
    ⟨some 62, .call 30 [(.t 60), (.t 61)], some (59, false)⟩,
    ⟨some 63, .nt (.t 62), some (59, false)⟩,
    ⟨some 64, .pick (.t 59) (.c (.bool true)) (.t 63), none⟩,
    ⟨some 65, .mv (.t 64), none⟩,
    ⟨some 66, .mv (.t 12), some (65, false)⟩,
    ⟨some 67, .mv (.t 9), some (65, false)⟩,
    ⟨some 68, .eqb true (.t 66) (.t 67), some (65, false)⟩,
    ⟨some 69, .pick (.t 65) (.c (.bool true)) (.t 68), none⟩] [1, 2, 3, 8, 9, 11, 69])
  (.cond (.t 69) (.seq (.reg [⟨some 6, .asg (.c (.bool false)), none⟩] [6])
  (.ret)) (.skip))))
  (.seq (.reg [⟨some 14, .asg (.c (.int .i64 1)), none⟩] [1, 2, 3, 8, 9, 11, 14])
  (.seq (.reg [⟨some 70, .ld 11 2 true, none⟩,
    ⟨some 71, .mv (.t 14), none⟩,
    ⟨some 72, .callO 42 [(.t 70), (.t 71)], none⟩,
    ⟨some 14, .asg (.t 72), none⟩] [1, 2, 3, 8, 9, 11, 14])
  (.seq (.reg [⟨some 15, .asg (.c (.int .i64 1)), none⟩] [1, 2, 3, 8, 9, 11, 14, 15])
  (.seq (.reg [⟨some 73, .ld 11 2 true, none⟩,
    ⟨some 74, .mv (.t 15), none⟩,
    ⟨some 75, .call 45 [(.t 73), (.t 74)], none⟩,
    ⟨some 15, .asg (.t 75), none⟩] [1, 2, 3, 8, 9, 11, 14, 15])
  (.seq (.kp [1, 2, 3, 8, 9, 11, 14, 15] (.seq (.reg [⟨some 76, .mv (.t 15), none⟩,
    ⟨some 77, .bin .lss (.t 76) (.c (.int .i64 0)), none⟩] [1, 2, 3, 8, 9, 11, 14, 15, 77])
  (.cond (.t 77) (.seq (.reg [⟨some 6, .asg (.c (.bool false)), none⟩] [6])
  (.ret)) (.skip))))
  (.seq (.kp [1, 2, 3, 8, 9, 11, 14] (.seq (.reg [⟨some 78, .mv (.t 15), none⟩,
    ⟨some 79, .mv (.t 14), none⟩,
    ⟨some 80, .bin .neq (.t 78) (.t 79), none⟩] [1, 2, 3, 8, 9, 11, 14, 80])
  (.cond (.t 80) (.seq (.reg [⟨some 6, .asg (.c (.bool false)), none⟩] [6])
  (.ret)) (.skip))))
  (.seq (.reg [⟨some 82, .ld 3 2 true, none⟩,
    ⟨some 83, .call 28 [(.t 82)], none⟩,
    ⟨some 84, .mv (.t 1), none⟩,
    ⟨some 85, .mv (.t 2), none⟩,
    ⟨some 86, .call 51 [(.t 83), (.t 84), (.t 85)], none⟩,
    ⟨some 81, .mvt 86, none⟩,
    ⟨some 87, .ext 81 0, none⟩,
    ⟨some 88, .ext 81 1, none⟩,
    ⟨some 16, .alloc (.agg [.slice true [], .slice true []]), none⟩,
    ⟨none, .st 16 (.t 87) 2, none⟩,
    ⟨some 17, .asg (.t 88), none⟩] [8, 9, 11, 14, 16, 17])
  (.seq (.kp [11, 14] (.seq (.reg [⟨some 89, .ld 16 2 true, none⟩,
    ⟨some 90, .ld 8 2 true, none⟩,
    ⟨some 91, .call 30 [(.t 89), (.t 90)], none⟩,
    ⟨some 92, .nt (.t 91), none⟩,
    ⟨some 93, .mv (.t 92), none⟩,
    ⟨some 94, .mv (.t 17), some (93, false)⟩,
    ⟨some 95, .mv (.t 9), some (93, false)⟩,
    ⟨some 96, .eqb true (.t 94) (.t 95), some (93, false)⟩,
    ⟨some 97, .pick (.t 93) (.c (.bool true)) (.t 96), none⟩] [11, 14, 97])
  (.cond (.t 97) (.seq (.reg [⟨some 6, .asg (.c (.bool false)), none⟩] [6])
  (.ret)) (.skip))))
  (.seq (.reg [⟨some 15, .asg (.c (.int .i64 1)), none⟩] [11, 14, 15])
  (.seq (.reg [⟨some 98, .ld 11 2 true, none⟩,
    ⟨some 99, .mv (.t 15), none⟩,
    ⟨some 100, .call 45 [(.t 98), (.t 99)], none⟩,
    ⟨some 15, .asg (.t 100), none⟩] [14, 15])
  (.seq (.kp [14, 15] (.seq (.reg [⟨some 101, .mv (.t 15), none⟩,
    ⟨some 102, .bin .lss (.t 101) (.c (.int .i64 0)), none⟩] [14, 15, 102])
  (.cond (.t 102) (.seq (.reg [⟨some 6, .asg (.c (.bool false)), none⟩] [6])
  (.ret)) (.skip))))
  (.seq (.kp [] (.seq (.reg [⟨some 103, .mv (.t 15), none⟩,
    ⟨some 104, .mv (.t 14), none⟩,
    ⟨some 105, .bin .neq (.t 103) (.t 104), none⟩] [105])
  (.cond (.t 105) (.seq (.reg [⟨some 6, .asg (.c (.bool false)), none⟩] [6])
  (.ret)) (.skip))))
  (.seq (.reg [⟨some 6, .asg (.c (.bool true)), none⟩] [6])
  (.ret)))))))))))))))))))))))))
theorem con_laws_FnExactSliceOf {v0 : XCube} {v1 : Int} {v2 : Int} {r : Bool} (h : sh_laws_FnExactSliceOf v0 v1 v2 = some r) : Con Try.prog 13 [(cXCube (cLs cI rfl) (cLs cI rfl)).enc v0, cI.enc v1, cI.enc v2] [] (rs_laws_FnExactSliceOf r) := by
  delta sh_laws_FnExactSliceOf at h
  refine top (out := none) (f := Try.f13) (m := m13) (rs := [.t 6]) (by kernel_rfl) rfl (by kernel_rfl) (by kernel_rfl) (by kernel_rfl) (by kernel_rfl) (by kernel_rfl) ?_
  exact
   ini [(0, .d ((cXCube (cLs cI rfl) (cLs cI rfl)).enc v0)), (1, .d (cI.enc v1)), (2, .d (cI.enc v2))] rfl <| wpC_seq <| reg_s <| x_box (ss rfl rfl) <| x_asg (sc cB false rfl) <| seqN [(1, .d (cI.enc v1)), (2, .d (cI.enc v2)), (3, .box ((cXCube (cLs cI rfl) (cLs cI rfl)).enc v0))] (by kernel_rfl) <|
    xn <| wpC_seq <| reg_s <| x_asg (sc cI (1048576 : Int) rfl) <| seqN [(1, .d (cI.enc v1)), (2, .d (cI.enc v2)), (3, .box ((cXCube (cLs cI rfl) (cLs cI rfl)).enc v0)), (7, .d (cI.enc (1048576 : Int)))] (by kernel_rfl) <|
    xn <| wpC_seq <| reg_s <| st rfl <| ldb rfl rfl rfl rfl <| st rfl <| mvd rfl rfl <| bnd h fun x3 e4 h => st rfl <| o_call (a1 (c := (cXCube (cLs cI rfl) (cLs cI rfl))) (tXCube (tLs tK) (tLs tK)) rfl (a1 (c := cI) tK rfl a0)) (con_laws_szCube e4) (.inl (so1 sK so0)) <| x_asg (ss rfl rfl) <| seqN [(1, .d (cI.enc v1)), (2, .d (cI.enc v2)), (3, .box ((cXCube (cLs cI rfl) (cLs cI rfl)).enc v0)), (7, .d (cI.enc x3))] (by kernel_rfl) <|
    xn <| wpC_seq <| wpC_kp <| wpC_seq <| reg_s <| st rfl <| mvd rfl rfl <| st rfl <| b_lss (k := .i64) rfl rfl <| seqN [(1, .d (cI.enc v1)), (2, .d (cI.enc v2)), (3, .box ((cXCube (cLs cI rfl) (cLs cI rfl)).enc v0)), (22, .d (cB.enc (decide (x3 < (0 : Int)))))] (by kernel_rfl) <|
    xn <| cnd rfl h (fun b6 h => wpC_seq <| reg_s <| x_asg (sc cB true rfl) <| seqN [(6, .d (cB.enc true))] (by kernel_rfl) <|
    xn <| wpC_ret <| rt <| rt <| re <| fin h (r1 (ss rfl rfl) <| r0) rfl)
    (fun b6 h => wpC_skip <| kpN [(1, .d (cI.enc v1)), (2, .d (cI.enc v2)), (3, .box ((cXCube (cLs cI rfl) (cLs cI rfl)).enc v0))] (by kernel_rfl) <| xn <| wpC_seq <| reg_s <| st rfl <| ldb rfl rfl rfl rfl <| bnd h fun x11 e12 h => st rfl <| o_call (a1 (c := (cXCube (cLs cI rfl) (cLs cI rfl))) (tXCube (tLs tK) (tLs tK)) rfl a0) (con_laws_toCube e12) (.inl (so1 (sXCube (sLo sK) (sLo sK)) so0)) <| st rfl <| mvd rfl rfl <| st rfl <| mvd rfl rfl <| bnd h fun x13 e14 h => st rfl <| o_call (a1 (c := (cXCube (cLo cI) (cLo cI))) (tXCube (tLo tK) (tLo tK)) rfl (a1 (c := cI) tK rfl (a1 (c := cI) tK rfl a0))) (con_spec_SliceOf e14) (.inl (so1 (sXCube (sLo sK) (sLo sK)) (so1 sB so0))) <| x_mvt rfl <| x_ext rfl rfl <| x_ext rfl rfl <| x_all (cXCube (cLo cI) (cLo cI)) (⟨([] : List Int), ([] : List Int)⟩ : XCube) rfl <| x_stb (so rfl rfl) rfl (Cd.h_sz _ _) rfl <| x_asg (ss rfl rfl) <| seqN [(1, .d (cI.enc v1)), (2, .d (cI.enc v2)), (3, .box ((cXCube (cLs cI rfl) (cLs cI rfl)).enc v0)), (8, .box ((cXCube (cLo cI) (cLo cI)).enc x13.1)), (9, .d (cB.enc x13.2))] (by kernel_rfl) <|
    xn <| wpC_seq <| reg_s <| st rfl <| ldb rfl rfl rfl rfl <| bnd h fun x17 e18 h => st rfl <| o_call (a1 (c := (cXCube (cLs cI rfl) (cLs cI rfl))) (tXCube (tLs tK) (tLs tK)) rfl a0) (con_laws_toCube e18) (.inl (so1 (sXCube (sLo sK) (sLo sK)) so0)) <| x_all (cXCube (cLo cI) (cLo cI)) (⟨([] : List Int), ([] : List Int)⟩ : XCube) rfl <| x_stb (so rfl rfl) rfl (Cd.h_sz _ _) rfl <| seqN [(1, .d (cI.enc v1)), (2, .d (cI.enc v2)), (3, .box ((cXCube (cLs cI rfl) (cLs cI rfl)).enc v0)), (8, .box ((cXCube (cLo cI) (cLo cI)).enc x13.1)), (9, .d (cB.enc x13.2)), (10, .box ((cXCube (cLo cI) (cLo cI)).enc x17))] (by kernel_rfl) <|
    xn <| wpC_seq <| reg_s <| st rfl <| ldbo rfl rfl rfl rfl <| st rfl <| mvd rfl rfl <| st rfl <| mvd rfl rfl <| bnd h fun x21 e22 h => st rfl <| o_call (a1 (c := (cXCube (cLo cI) (cLo cI))) (tXCube (tLo tK) (tLo tK)) rfl (a1 (c := cI) tK rfl (a1 (c := cI) tK rfl a0))) (con_impl_SliceOf e22) (.inl (so1 (sXCube (sLo sK) (sLo sK)) (so1 sB so0))) <| x_mvt rfl <| x_ext rfl rfl <| x_ext rfl rfl <| x_all (cXCube (cLo cI) (cLo cI)) (⟨([] : List Int), ([] : List Int)⟩ : XCube) rfl <| x_stb (so rfl rfl) rfl (Cd.h_sz _ _) rfl <| x_asg (ss rfl rfl) <| seqN [(1, .d (cI.enc v1)), (2, .d (cI.enc v2)), (3, .box ((cXCube (cLs cI rfl) (cLs cI rfl)).enc v0)), (8, .box ((cXCube (cLo cI) (cLo cI)).enc x13.1)), (9, .d (cB.enc x13.2)), (10, .box ((cXCube (cLo cI) (cLo cI)).enc x17)), (11, .box ((cXCube (cLo cI) (cLo cI)).enc x21.1)), (12, .d (cB.enc x21.2))] (by kernel_rfl) <|
    xn <| wpC_seq <| wpC_kp <| wpC_seq <| reg_s <| st rfl <| ldbo rfl rfl rfl rfl <| st rfl <| ldbo rfl rfl rfl rfl <| bnd h fun x33 e34 h => st rfl <| o_call (a1 (c := (cXCube (cLo cI) (cLo cI))) (tXCube (tLo tK) (tLo tK)) rfl (a1 (c := (cXCube (cLo cI) (cLo cI))) (tXCube (tLo tK) (tLo tK)) rfl a0)) (con_laws_eqCube e34) (.inl (so1 sB so0)) <| st rfl <| o_nt rfl <| st rfl <| mvd rfl rfl <| ite_k h (fun b35 h => gf rfl b35 <| gf rfl b35 <| gf rfl b35 <| st rfl <| pick1 rfl b35 (cd := cB) (v := true) rfl rfl <| seqN [(1, .d (cI.enc v1)), (2, .d (cI.enc v2)), (3, .box ((cXCube (cLs cI rfl) (cLs cI rfl)).enc v0)), (8, .box ((cXCube (cLo cI) (cLo cI)).enc x13.1)), (9, .d (cB.enc x13.2)), (10, .box ((cXCube (cLo cI) (cLo cI)).enc x17)), (11, .box ((cXCube (cLo cI) (cLo cI)).enc x21.1)), (12, .d (cB.enc x21.2)), (48, .d (cB.enc true))] (by kernel_rfl) <|
    xn <| cnd1 rfl rfl <| wpC_seq <| reg_s <| x_asg (sc cB false rfl) <| seqN [(6, .d (cB.enc false))] (by kernel_rfl) <|
    xn <| wpC_ret <| rt <| rt <| re <| fin h (r1 (ss rfl rfl) <| r0) rfl)
    (fun b35 h => gt' rfl b35 <| st rfl <| mvd rfl rfl <| gt' rfl b35 <| st rfl <| mvd rfl rfl <| gt' rfl b35 <| st rfl <| eqb1 rfl rfl <| st rfl <| pick0 rfl b35 (cd := cB) (v := (x21.2 != x13.2)) rfl rfl <| seqN [(1, .d (cI.enc v1)), (2, .d (cI.enc v2)), (3, .box ((cXCube (cLs cI rfl) (cLs cI rfl)).enc v0)), (8, .box ((cXCube (cLo cI) (cLo cI)).enc x13.1)), (9, .d (cB.enc x13.2)), (10, .box ((cXCube (cLo cI) (cLo cI)).enc x17)), (11, .box ((cXCube (cLo cI) (cLo cI)).enc x21.1)), (12, .d (cB.enc x21.2)), (48, .d (cB.enc (x21.2 != x13.2)))] (by kernel_rfl) <|
    xn <| cnd rfl h (fun b36 h => wpC_seq <| reg_s <| x_asg (sc cB false rfl) <| seqN [(6, .d (cB.enc false))] (by kernel_rfl) <|
    xn <| wpC_ret <| rt <| rt <| re <| fin h (r1 (ss rfl rfl) <| r0) rfl)
    (fun b36 h => wpC_skip <| kpN [(1, .d (cI.enc v1)), (2, .d (cI.enc v2)), (3, .box ((cXCube (cLs cI rfl) (cLs cI rfl)).enc v0)), (8, .box ((cXCube (cLo cI) (cLo cI)).enc x13.1)), (9, .d (cB.enc x13.2)), (10, .box ((cXCube (cLo cI) (cLo cI)).enc x17)), (11, .box ((cXCube (cLo cI) (cLo cI)).enc x21.1)), (12, .d (cB.enc x21.2))] (by kernel_rfl) <| xn <| wpC_seq <| wpC_kp <| wpC_seq <| drw_s <| pst rfl <| ldbo rfl rfl rfl rfl ⟨rfl, pst rfl <| ldb rfl rfl rfl rfl ⟨rfl, bndp h fun x50 e51 h => pst rfl <| o_call (a1 (c := (cXCube (cLs cI rfl) (cLs cI rfl))) (tXCube (tLs tK) (tLs tK)) rfl a0) (con_laws_toCube e51) (.inl (so1 (sXCube (sLo sK) (sLo sK)) so0)) ⟨rfl, bndp h fun x52 e53 h => pst rfl <| o_call (a1 (c := (cXCube (cLo cI) (cLo cI))) (tXCube (tLo tK) (tLo tK)) rfl (a1 (c := (cXCube (cLo cI) (cLo cI))) (tXCube (tLo tK) (tLo tK)) rfl a0)) (con_laws_eqCube e53) (.inl (so1 sB so0)) ⟨rfl, pst rfl <| o_nt rfl ⟨rfl, preN <| seqN [(1, .d (cI.enc v1)), (2, .d (cI.enc v2)), (3, .box ((cXCube (cLs cI rfl) (cLs cI rfl)).enc v0)), (8, .box ((cXCube (cLo cI) (cLo cI)).enc x13.1)), (9, .d (cB.enc x13.2)), (10, .box ((cXCube (cLo cI) (cLo cI)).enc x17)), (11, .box ((cXCube (cLo cI) (cLo cI)).enc x21.1)), (12, .d (cB.enc x21.2)), (53, .d (cB.enc (!x52)))] (by kernel_rfl) <|
    xn <| cnd rfl h (fun b54 h => wpC_seq <| reg_s <| x_asg (sc cB false rfl) <| seqN [(6, .d (cB.enc false))] (by kernel_rfl) <|
    xn <| wpC_ret <| rt <| rt <| re <| fin h (r1 (ss rfl rfl) <| r0) rfl)
    (fun b54 h => wpC_skip <| kpN [(1, .d (cI.enc v1)), (2, .d (cI.enc v2)), (3, .box ((cXCube (cLs cI rfl) (cLs cI rfl)).enc v0)), (8, .box ((cXCube (cLo cI) (cLo cI)).enc x13.1)), (9, .d (cB.enc x13.2)), (10, .box ((cXCube (cLo cI) (cLo cI)).enc x17)), (11, .box ((cXCube (cLo cI) (cLo cI)).enc x21.1)), (12, .d (cB.enc x21.2))] (by kernel_rfl) <| xn <| wpC_seq <| reg_s <| x_asg (sc cI (1 : Int) rfl) <| seqN [(1, .d (cI.enc v1)), (2, .d (cI.enc v2)), (3, .box ((cXCube (cLs cI rfl) (cLs cI rfl)).enc v0)), (8, .box ((cXCube (cLo cI) (cLo cI)).enc x13.1)), (9, .d (cB.enc x13.2)), (10, .box ((cXCube (cLo cI) (cLo cI)).enc x17)), (11, .box ((cXCube (cLo cI) (cLo cI)).enc x21.1)), (12, .d (cB.enc x21.2)), (13, .d (cI.enc (1 : Int)))] (by kernel_rfl) <|
    xn <| wpC_seq <| reg_s <| st rfl <| ldbo rfl rfl rfl rfl <| st rfl <| mvd rfl rfl <| bnd h fun x57 e58 h => x_clr (c := (cXCube (cLo cI) (cLo cI))) (c' := (cXCube (cLo cI) (cLo cI))) ((cXCube (cLo cI) (cLo cI)).enc x57.1) (sXCube (sLo sK) (sLo sK)) rfl (a1 (c := cI) tK rfl a0) rfl Ln.nil (con_laws_markCube e58) rfl rfl (so1 sK so0) <| x_asg (ss rfl rfl) <| seqN [(1, .d (cI.enc v1)), (2, .d (cI.enc v2)), (3, .box ((cXCube (cLs cI rfl) (cLs cI rfl)).enc v0)), (8, .box ((cXCube (cLo cI) (cLo cI)).enc x13.1)), (9, .d (cB.enc x13.2)), (11, .box ((cXCube (cLo cI) (cLo cI)).enc x21.1)), (12, .d (cB.enc x21.2)), (13, .d (cI.enc x57.2))] (by kernel_rfl) <|
    xn <| wpC_seq <| wpC_kp <| wpC_seq <| reg_s <| st rfl <| mvd rfl rfl <| st rfl <| b_lss (k := .i64) rfl rfl <| st rfl <| mvd rfl rfl <| ite_k h (fun b71 h => gf rfl b71 <| gf rfl b71 <| gf rfl b71 <| gf rfl b71 <| st rfl <| pick1 rfl b71 (cd := cB) (v := true) rfl rfl <| st rfl <| mvd rfl rfl <| gf rfl rfl <| gf rfl rfl <| gf rfl rfl <| st rfl <| pick1 rfl rfl (cd := cB) (v := true) rfl rfl <| seqN [(1, .d (cI.enc v1)), (2, .d (cI.enc v2)), (3, .box ((cXCube (cLs cI rfl) (cLs cI rfl)).enc v0)), (8, .box ((cXCube (cLo cI) (cLo cI)).enc x13.1)), (9, .d (cB.enc x13.2)), (11, .box ((cXCube (cLo cI) (cLo cI)).enc x21.1)), (69, .d (cB.enc true))] (by kernel_rfl) <|
    xn <| cnd1 rfl rfl <| wpC_seq <| reg_s <| x_asg (sc cB false rfl) <| seqN [(6, .d (cB.enc false))] (by kernel_rfl) <|
    xn <| wpC_ret <| rt <| rt <| re <| fin h (r1 (ss rfl rfl) <| r0) rfl)
    (fun b71 h => gt' rfl b71 <| st rfl <| ldbo rfl rfl rfl rfl <| gt' rfl b71 <| st rfl <| ldbo rfl rfl rfl rfl <| gt' rfl b71 <| bnd h fun x72 e73 h => st rfl <| o_call (a1 (c := (cXCube (cLo cI) (cLo cI))) (tXCube (tLo tK) (tLo tK)) rfl (a1 (c := (cXCube (cLo cI) (cLo cI))) (tXCube (tLo tK) (tLo tK)) rfl a0)) (con_laws_eqCube e73) (.inl (so1 sB so0)) <| gt' rfl b71 <| st rfl <| o_nt rfl <| st rfl <| pick0 rfl b71 (cd := cB) (v := (!x72)) rfl rfl <| st rfl <| mvd rfl rfl <| ite_k h (fun b74 h => gf rfl b74 <| gf rfl b74 <| gf rfl b74 <| st rfl <| pick1 rfl b74 (cd := cB) (v := true) rfl rfl <| seqN [(1, .d (cI.enc v1)), (2, .d (cI.enc v2)), (3, .box ((cXCube (cLs cI rfl) (cLs cI rfl)).enc v0)), (8, .box ((cXCube (cLo cI) (cLo cI)).enc x13.1)), (9, .d (cB.enc x13.2)), (11, .box ((cXCube (cLo cI) (cLo cI)).enc x21.1)), (69, .d (cB.enc true))] (by kernel_rfl) <|
    xn <| cnd1 rfl rfl <| wpC_seq <| reg_s <| x_asg (sc cB false rfl) <| seqN [(6, .d (cB.enc false))] (by kernel_rfl) <|
    xn <| wpC_ret <| rt <| rt <| re <| fin h (r1 (ss rfl rfl) <| r0) rfl)
    (fun b74 h => gt' rfl b74 <| st rfl <| mvd rfl rfl <| gt' rfl b74 <| st rfl <| mvd rfl rfl <| gt' rfl b74 <| st rfl <| eqb1 rfl rfl <| st rfl <| pick0 rfl b74 (cd := cB) (v := (x21.2 != x13.2)) rfl rfl <| seqN [(1, .d (cI.enc v1)), (2, .d (cI.enc v2)), (3, .box ((cXCube (cLs cI rfl) (cLs cI rfl)).enc v0)), (8, .box ((cXCube (cLo cI) (cLo cI)).enc x13.1)), (9, .d (cB.enc x13.2)), (11, .box ((cXCube (cLo cI) (cLo cI)).enc x21.1)), (69, .d (cB.enc (x21.2 != x13.2)))] (by kernel_rfl) <|
    xn <| cnd0 rfl b36 <| wpC_skip <| kpN [(1, .d (cI.enc v1)), (2, .d (cI.enc v2)), (3, .box ((cXCube (cLs cI rfl) (cLs cI rfl)).enc v0)), (8, .box ((cXCube (cLo cI) (cLo cI)).enc x13.1)), (9, .d (cB.enc x13.2)), (11, .box ((cXCube (cLo cI) (cLo cI)).enc x21.1))] (by kernel_rfl) <| xn <| wpC_seq <| reg_s <| x_asg (sc cI (1 : Int) rfl) <| seqN [(1, .d (cI.enc v1)), (2, .d (cI.enc v2)), (3, .box ((cXCube (cLs cI rfl) (cLs cI rfl)).enc v0)), (8, .box ((cXCube (cLo cI) (cLo cI)).enc x13.1)), (9, .d (cB.enc x13.2)), (11, .box ((cXCube (cLo cI) (cLo cI)).enc x21.1)), (14, .d (cI.enc (1 : Int)))] (by kernel_rfl) <|
    xn <| wpC_seq <| reg_s <| st rfl <| ldbo rfl rfl rfl rfl <| st rfl <| mvd rfl rfl <| bnd h fun x77 e78 h => x_clr (c := (cXCube (cLo cI) (cLo cI))) (c' := (cXCube (cLo cI) (cLo cI))) ((cXCube (cLo cI) (cLo cI)).enc x77.1) (sXCube (sLo sK) (sLo sK)) rfl (a1 (c := cI) tK rfl a0) rfl Ln.nil (con_laws_markCube e78) rfl rfl (so1 sK so0) <| x_asg (ss rfl rfl) <| seqN [(1, .d (cI.enc v1)), (2, .d (cI.enc v2)), (3, .box ((cXCube (cLs cI rfl) (cLs cI rfl)).enc v0)), (8, .box ((cXCube (cLo cI) (cLo cI)).enc x13.1)), (9, .d (cB.enc x13.2)), (11, .box ((cXCube (cLo cI) (cLo cI)).enc x77.1)), (14, .d (cI.enc x77.2))] (by kernel_rfl) <|
    xn <| wpC_seq <| reg_s <| x_asg (sc cI (1 : Int) rfl) <| seqN [(1, .d (cI.enc v1)), (2, .d (cI.enc v2)), (3, .box ((cXCube (cLs cI rfl) (cLs cI rfl)).enc v0)), (8, .box ((cXCube (cLo cI) (cLo cI)).enc x13.1)), (9, .d (cB.enc x13.2)), (11, .box ((cXCube (cLo cI) (cLo cI)).enc x77.1)), (14, .d (cI.enc x77.2)), (15, .d (cI.enc (1 : Int)))] (by kernel_rfl) <|
    xn <| wpC_seq <| reg_s <| st rfl <| ldbo rfl rfl rfl rfl <| st rfl <| mvd rfl rfl <| bnd h fun x81 e82 h => st rfl <| o_call (a1 (c := (cXCube (cLo cI) (cLo cI))) (tXCube (tLo tK) (tLo tK)) rfl (a1 (c := cI) tK rfl a0)) (con_laws_heldCube e82) (.inl (so1 sK so0)) <| x_asg (ss rfl rfl) <| seqN [(1, .d (cI.enc v1)), (2, .d (cI.enc v2)), (3, .box ((cXCube (cLs cI rfl) (cLs cI rfl)).enc v0)), (8, .box ((cXCube (cLo cI) (cLo cI)).enc x13.1)), (9, .d (cB.enc x13.2)), (11, .box ((cXCube (cLo cI) (cLo cI)).enc x77.1)), (14, .d (cI.enc x77.2)), (15, .d (cI.enc x81))] (by kernel_rfl) <|
    xn <| wpC_seq <| wpC_kp <| wpC_seq <| reg_s <| st rfl <| mvd rfl rfl <| st rfl <| b_lss (k := .i64) rfl rfl <| seqN [(1, .d (cI.enc v1)), (2, .d (cI.enc v2)), (3, .box ((cXCube (cLs cI rfl) (cLs cI rfl)).enc v0)), (8, .box ((cXCube (cLo cI) (cLo cI)).enc x13.1)), (9, .d (cB.enc x13.2)), (11, .box ((cXCube (cLo cI) (cLo cI)).enc x77.1)), (14, .d (cI.enc x77.2)), (15, .d (cI.enc x81)), (77, .d (cB.enc (decide (x81 < (0 : Int)))))] (by kernel_rfl) <|
    xn <| cnd rfl h (fun b84 h => wpC_seq <| reg_s <| x_asg (sc cB false rfl) <| seqN [(6, .d (cB.enc false))] (by kernel_rfl) <|
    xn <| wpC_ret <| rt <| rt <| re <| fin h (r1 (ss rfl rfl) <| r0) rfl)
    (fun b84 h => wpC_skip <| kpN [(1, .d (cI.enc v1)), (2, .d (cI.enc v2)), (3, .box ((cXCube (cLs cI rfl) (cLs cI rfl)).enc v0)), (8, .box ((cXCube (cLo cI) (cLo cI)).enc x13.1)), (9, .d (cB.enc x13.2)), (11, .box ((cXCube (cLo cI) (cLo cI)).enc x77.1)), (14, .d (cI.enc x77.2)), (15, .d (cI.enc x81))] (by kernel_rfl) <| xn <| wpC_seq <| wpC_kp <| wpC_seq <| reg_s <| st rfl <| mvd rfl rfl <| st rfl <| mvd rfl rfl <| st rfl <| b_neq (k := .i64) rfl rfl <| seqN [(1, .d (cI.enc v1)), (2, .d (cI.enc v2)), (3, .box ((cXCube (cLs cI rfl) (cLs cI rfl)).enc v0)), (8, .box ((cXCube (cLo cI) (cLo cI)).enc x13.1)), (9, .d (cB.enc x13.2)), (11, .box ((cXCube (cLo cI) (cLo cI)).enc x77.1)), (14, .d (cI.enc x77.2)), (80, .d (cB.enc (decide (x81 ≠ x77.2))))] (by kernel_rfl) <|
    xn <| cnd rfl h (fun b86 h => wpC_seq <| reg_s <| x_asg (sc cB false rfl) <| seqN [(6, .d (cB.enc false))] (by kernel_rfl) <|
    xn <| wpC_ret <| rt <| rt <| re <| fin h (r1 (ss rfl rfl) <| r0) rfl)
    (fun b86 h => wpC_skip <| kpN [(1, .d (cI.enc v1)), (2, .d (cI.enc v2)), (3, .box ((cXCube (cLs cI rfl) (cLs cI rfl)).enc v0)), (8, .box ((cXCube (cLo cI) (cLo cI)).enc x13.1)), (9, .d (cB.enc x13.2)), (11, .box ((cXCube (cLo cI) (cLo cI)).enc x77.1)), (14, .d (cI.enc x77.2))] (by kernel_rfl) <| xn <| wpC_seq <| reg_s <| st rfl <| ldb rfl rfl rfl rfl <| bnd h fun x91 e92 h => st rfl <| o_call (a1 (c := (cXCube (cLs cI rfl) (cLs cI rfl))) (tXCube (tLs tK) (tLs tK)) rfl a0) (con_laws_toCube e92) (.inl (so1 (sXCube (sLo sK) (sLo sK)) so0)) <| st rfl <| mvd rfl rfl <| st rfl <| mvd rfl rfl <| bnd h fun x93 e94 h => st rfl <| o_call (a1 (c := (cXCube (cLo cI) (cLo cI))) (tXCube (tLo tK) (tLo tK)) rfl (a1 (c := cI) tK rfl (a1 (c := cI) tK rfl a0))) (con_impl_SliceOf e94) (.inl (so1 (sXCube (sLo sK) (sLo sK)) (so1 sB so0))) <| x_mvt rfl <| x_ext rfl rfl <| x_ext rfl rfl <| x_all (cXCube (cLo cI) (cLo cI)) (⟨([] : List Int), ([] : List Int)⟩ : XCube) rfl <| x_stb (so rfl rfl) rfl (Cd.h_sz _ _) rfl <| x_asg (ss rfl rfl) <| seqN [(8, .box ((cXCube (cLo cI) (cLo cI)).enc x13.1)), (9, .d (cB.enc x13.2)), (11, .box ((cXCube (cLo cI) (cLo cI)).enc x77.1)), (14, .d (cI.enc x77.2)), (16, .box ((cXCube (cLo cI) (cLo cI)).enc x93.1)), (17, .d (cB.enc x93.2))] (by kernel_rfl) <|
    xn <| wpC_seq <| wpC_kp <| wpC_seq <| reg_s <| st rfl <| ldbo rfl rfl rfl rfl <| st rfl <| ldbo rfl rfl rfl rfl <| bnd h fun x105 e106 h => st rfl <| o_call (a1 (c := (cXCube (cLo cI) (cLo cI))) (tXCube (tLo tK) (tLo tK)) rfl (a1 (c := (cXCube (cLo cI) (cLo cI))) (tXCube (tLo tK) (tLo tK)) rfl a0)) (con_laws_eqCube e106) (.inl (so1 sB so0)) <| st rfl <| o_nt rfl <| st rfl <| mvd rfl rfl <| ite_k h (fun b107 h => gf rfl b107 <| gf rfl b107 <| gf rfl b107 <| st rfl <| pick1 rfl b107 (cd := cB) (v := true) rfl rfl <| seqN [(11, .box ((cXCube (cLo cI) (cLo cI)).enc x77.1)), (14, .d (cI.enc x77.2)), (97, .d (cB.enc true))] (by kernel_rfl) <|
    xn <| cnd1 rfl rfl <| wpC_seq <| reg_s <| x_asg (sc cB false rfl) <| seqN [(6, .d (cB.enc false))] (by kernel_rfl) <|
    xn <| wpC_ret <| rt <| rt <| re <| fin h (r1 (ss rfl rfl) <| r0) rfl)
    (fun b107 h => gt' rfl b107 <| st rfl <| mvd rfl rfl <| gt' rfl b107 <| st rfl <| mvd rfl rfl <| gt' rfl b107 <| st rfl <| eqb1 rfl rfl <| st rfl <| pick0 rfl b107 (cd := cB) (v := (x93.2 != x13.2)) rfl rfl <| seqN [(11, .box ((cXCube (cLo cI) (cLo cI)).enc x77.1)), (14, .d (cI.enc x77.2)), (97, .d (cB.enc (x93.2 != x13.2)))] (by kernel_rfl) <|
    xn <| cnd rfl h (fun b108 h => wpC_seq <| reg_s <| x_asg (sc cB false rfl) <| seqN [(6, .d (cB.enc false))] (by kernel_rfl) <|
    xn <| wpC_ret <| rt <| rt <| re <| fin h (r1 (ss rfl rfl) <| r0) rfl)
    (fun b108 h => wpC_skip <| kpN [(11, .box ((cXCube (cLo cI) (cLo cI)).enc x77.1)), (14, .d (cI.enc x77.2))] (by kernel_rfl) <| xn <| wpC_seq <| reg_s <| x_asg (sc cI (1 : Int) rfl) <| seqN [(11, .box ((cXCube (cLo cI) (cLo cI)).enc x77.1)), (14, .d (cI.enc x77.2)), (15, .d (cI.enc (1 : Int)))] (by kernel_rfl) <|
    xn <| wpC_seq <| reg_s <| st rfl <| ldbo rfl rfl rfl rfl <| st rfl <| mvd rfl rfl <| bnd h fun x111 e112 h => st rfl <| o_call (a1 (c := (cXCube (cLo cI) (cLo cI))) (tXCube (tLo tK) (tLo tK)) rfl (a1 (c := cI) tK rfl a0)) (con_laws_heldCube e112) (.inl (so1 sK so0)) <| x_asg (ss rfl rfl) <| seqN [(14, .d (cI.enc x77.2)), (15, .d (cI.enc x111))] (by kernel_rfl) <|
    xn <| wpC_seq <| wpC_kp <| wpC_seq <| reg_s <| st rfl <| mvd rfl rfl <| st rfl <| b_lss (k := .i64) rfl rfl <| seqN [(14, .d (cI.enc x77.2)), (15, .d (cI.enc x111)), (102, .d (cB.enc (decide (x111 < (0 : Int)))))] (by kernel_rfl) <|
    xn <| cnd rfl h (fun b114 h => wpC_seq <| reg_s <| x_asg (sc cB false rfl) <| seqN [(6, .d (cB.enc false))] (by kernel_rfl) <|
    xn <| wpC_ret <| rt <| rt <| re <| fin h (r1 (ss rfl rfl) <| r0) rfl)
    (fun b114 h => wpC_skip <| kpN [(14, .d (cI.enc x77.2)), (15, .d (cI.enc x111))] (by kernel_rfl) <| xn <| wpC_seq <| wpC_kp <| wpC_seq <| reg_s <| st rfl <| mvd rfl rfl <| st rfl <| mvd rfl rfl <| st rfl <| b_neq (k := .i64) rfl rfl <| seqN [(105, .d (cB.enc (decide (x111 ≠ x77.2))))] (by kernel_rfl) <|
    xn <| cnd rfl h (fun b116 h => wpC_seq <| reg_s <| x_asg (sc cB false rfl) <| seqN [(6, .d (cB.enc false))] (by kernel_rfl) <|
    xn <| wpC_ret <| rt <| rt <| re <| fin h (r1 (ss rfl rfl) <| r0) rfl)
    (fun b116 h => wpC_skip <| kpN [] (by kernel_rfl) <| xn <| wpC_seq <| reg_s <| x_asg (sc cB true rfl) <| seqN [(6, .d (cB.enc true))] (by kernel_rfl) <|
    xn <| wpC_ret <| re <| fin h (r1 (ss rfl rfl) <| r0) rfl)))))))))⟩⟩⟩⟩⟩)))
end AS.W
