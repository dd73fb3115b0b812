/- The program computes the plain functions. No condition. -/
import Derived.Test.YtnjjldjgknkijaaQDifferenceOfS
import Derived.Test.YtnjjldjgknkijaaProg
import Derived.Test.YtnjjldjgknkijaaQDifferenceOfL0
set_option maxRecDepth 100000
set_option linter.unusedVariables false
set_option linter.unusedSimpArgs false
namespace AS.W
open Go Go.Proofs
def rs_impl_firstBreak (r : Int) : List D := [cI.enc r]
def m68 : MC := .seq (.reg [⟨some 1, .box (.t 0), none⟩,
    ⟨some 2, .asg (.c (.int .i64 0)), none⟩] [1])
  (.seq (.reg [⟨some 10, .fa 1 0 0, none⟩,
    ⟨some 11, .ld 10 1 false, none⟩,
    ⟨some 12, .call 63 [(.t 11)], none⟩,
    ⟨some 3, .asg (.t 12), none⟩] [1, 3])
  (.seq (.kp [1] (.seq (.reg [⟨some 13, .fa 1 1 1, none⟩,
    ⟨some 14, .ld 13 1 false, none⟩,
    ⟨some 15, .len false (.t 14), none⟩,
    ⟨some 16, .mv (.c (.int .i64 0)), none⟩] [1, 3, 13, 14, 15, 16])
  (.blk 0 (.loop (.seq (.reg [⟨some 17, .bin .lss (.t 16) (.t 15), none⟩] [1, 3, 13, 14, 15, 16, 17])
  (.seq (.kp [1, 3, 13, 14, 15, 16] (.cond (.t 17) (.skip) (.exit 0)))
  (.seq (.kp [1, 3, 13, 14, 15, 16] (.blk 1 (.seq (.reg [⟨some 18, .mv (.t 16), none⟩,
    ⟨some 19, .ia 14 (.t 16) 1, none⟩,
    ⟨some 20, .ld 19 1 false, none⟩,
    ⟨some 4, .asg (.t 18), none⟩,
    ⟨some 5, .asg (.t 20), none⟩] [1, 3, 4, 5, 13, 14, 15, 16])
  (.seq (.reg [⟨some 21, .fa 1 0 0, none⟩,
    ⟨some 22, .ld 21 1 false, none⟩,
    ⟨some 23, .mv (.t 4), none⟩,
    ⟨some 24, .call 64 [(.t 22), (.t 23)], none⟩,
    ⟨some 25, .len false (.t 24), none⟩,
    ⟨some 26, .mv (.c (.int .i64 0)), none⟩] [1, 3, 4, 5, 13, 14, 15, 16, 24, 25, 26])
  (.blk 2 (.loop (.seq (.reg [⟨some 27, .bin .lss (.t 26) (.t 25), none⟩] [1, 3, 4, 5, 13, 14, 15, 16, 24, 25, 26, 27])
  (.seq (.kp [1, 3, 4, 5, 13, 14, 15, 16, 24, 25, 26] (.cond (.t 27) (.skip) (.exit 2)))
  (.seq (.kp [1, 3, 4, 5, 13, 14, 15, 16, 24, 25, 26] (.blk 3 (.seq (.reg [⟨some 28, .mv (.t 26), none⟩,
    ⟨some 29, .ia 24 (.t 26) 1, none⟩,
    ⟨some 30, .ld 29 1 false, none⟩,
    ⟨some 6, .asg (.t 28), none⟩,
    ⟨some 7, .asg (.t 30), none⟩] [1, 3, 4, 5, 6, 7, 13, 14, 15, 16, 24, 25, 26])
  (.seq (.kp [1, 3, 4, 5, 6, 7, 13, 14, 15, 16, 24, 25, 26] (.seq (.reg [⟨some 31, .mv (.t 7), none⟩,
    ⟨some 32, .fa 1 0 0, none⟩,
    ⟨some 33, .ld 32 1 false, none⟩,
    ⟨some 34, .mv (.t 6), none⟩,
    ⟨some 35, .ia 33 (.t 34) 1, none⟩,
    ⟨some 36, .ld 35 1 false, none⟩,
    ⟨some 37, .bin .neq (.t 31) (.t 36), none⟩] [1, 3, 4, 5, 6, 7, 13, 14, 15, 16, 24, 25, 26, 37])
  (.cond (.t 37) (.exit 3) (.skip))))
  (.seq (.reg [⟨some 8, .asg (.c (.int .i64 0)), none⟩] [1, 3, 4, 5, 6, 7, 8, 13, 14, 15, 16, 24, 25, 26])
  (.seq (.kp [1, 3, 4, 5, 8, 13, 14, 15, 16, 24, 25, 26] (.seq (.reg [⟨some 9, .asg (.c (.int .i64 1)), none⟩] [1, 3, 4, 5, 6, 7, 8, 9, 13, 14, 15, 16, 24, 25, 26])
  (.blk 4 (.loop (.seq (.kp [1, 3, 4, 5, 6, 7, 8, 9, 13, 14, 15, 16, 24, 25, 26] (.seq (.reg [⟨some 38, .mv (.t 9), none⟩,
    ⟨some 39, .mv (.t 7), none⟩,
    ⟨some 40, .bin .leq (.t 38) (.t 39), none⟩] [1, 3, 4, 5, 6, 7, 8, 9, 13, 14, 15, 16, 24, 25, 26, 40])
  (.cond (.t 40) (.skip) (.exit 4))))
  (.seq (.kp [1, 3, 4, 5, 6, 7, 8, 9, 13, 14, 15, 16, 24, 25, 26] (.blk 5 (.drw [⟨0, ⟨some 43, .mv (.t 8), none⟩, [44, 45, 46, 47, 48, 49, 50, 51, 52, 53, 54, 55, 56]⟩,
    ⟨1, ⟨some 44, .fa 1 1 1, none⟩, [43, 45, 46, 47, 48, 49, 50, 51, 52, 53, 54, 55, 56]⟩,
    ⟨2, ⟨some 45, .ld 44 1 false, none⟩, [43, 46, 47, 48, 49, 50, 51, 52, 53, 54, 55, 56]⟩,
    ⟨3, ⟨some 46, .mv (.t 4), none⟩, [43, 44, 45, 47, 48, 49, 50, 51, 52, 53, 54, 55, 56]⟩,
    ⟨4, ⟨some 47, .mv (.t 9), none⟩, [43, 44, 45, 46, 48, 49, 50, 51, 52, 53, 54, 55, 56]⟩,
    ⟨5, ⟨some 48, .mv (.t 3), none⟩, [43, 44, 45, 46, 47, 49, 50, 51, 52, 53, 54, 55, 56]⟩,
    ⟨6, ⟨some 49, .mv (.t 6), none⟩, [43, 44, 45, 46, 47, 48, 50, 51, 52, 53, 54, 55, 56]⟩,
    ⟨7, ⟨some 50, .ia 48 (.t 49) 1, none⟩, [43, 44, 45, 46, 47, 51, 52, 53, 54, 55, 56]⟩,
    ⟨8, ⟨some 51, .ld 50 1 false, none⟩, [43, 44, 45, 46, 47, 52, 53, 54, 55, 56]⟩,
    ⟨9, ⟨some 52, .bin .mul (.t 47) (.t 51), none⟩, [43, 44, 45, 46, 53, 54, 55, 56]⟩,
    ⟨10, ⟨some 53, .bin .sub (.t 46) (.t 52), none⟩, [43, 44, 45, 54, 55, 56]⟩,
    ⟨11, ⟨some 54, .ia 45 (.t 53) 1, none⟩, [43, 55, 56]⟩,
    ⟨12, ⟨some 55, .ld 54 1 false, none⟩, [43, 56]⟩,
    ⟨13, ⟨some 56, .bin .add (.t 43) (.t 55), none⟩, []⟩]
    [(14, ⟨some 8, .asg (.t 56), none⟩)] [1, 3, 4, 5, 6, 7, 8, 9, 13, 14, 15, 16, 24, 25, 26])))
  (.reg [⟨some 41, .mv (.t 9), none⟩,
    ⟨some 42, .bin .add (.t 41) (.c (.int .i64 1)), none⟩,
    ⟨some 9, .asg (.t 42), none⟩] [1, 3, 4, 5, 6, 7, 8, 9, 13, 14, 15, 16, 24, 25, 26])))))))
  (.seq (.reg [⟨some 57, .mv (.t 8), none⟩,
    ⟨some 58, .mv (.t 5), none⟩,
    ⟨some 59, .bin .neq (.t 57) (.t 58), none⟩] [1, 3, 4, 5, 13, 14, 15, 16, 24, 25, 26, 59])
  (.cond (.t 59) (.seq (.reg [⟨some 60, .mv (.t 4), none⟩,
    ⟨some 2, .asg (.t 60), none⟩] [2])
  (.ret)) (.skip)))))))))
  (.reg [⟨some 61, .bin .add (.t 26) (.c (.int .i64 1)), none⟩,
    ⟨some 26, .mv (.t 61), none⟩] [1, 3, 4, 5, 13, 14, 15, 16, 24, 25, 26]))))))))))
  (.reg [⟨some 62, .bin .add (.t 16) (.c (.int .i64 1)), none⟩,
    ⟨some 16, .mv (.t 62), none⟩] [1, 3, 13, 14, 15, 16]))))))))
  (.seq (.reg [⟨some 63, .fa 1 1 1, none⟩,
    ⟨some 64, .ld 63 1 false, none⟩,
    ⟨some 65, .len false (.t 64), none⟩,
    ⟨some 2, .asg (.t 65), none⟩] [2])
  (.ret))))
theorem con_impl_firstBreak {v0 : XCube} {r : Int} (h : sh_impl_firstBreak v0 = some r) : Con Try.prog 68 [(cXCube (cLs cI rfl) (cLs cI rfl)).enc v0] [] (rs_impl_firstBreak r) := by
  delta sh_impl_firstBreak at h
  refine top (out := none) (f := Try.f68) (m := m68) (rs := [.t 2]) (by kernel_rfl) rfl (by kernel_rfl) (by kernel_rfl) (by kernel_rfl) (by kernel_rfl) (by kernel_rfl) ?_
  exact
   ini [(0, .d ((cXCube (cLs cI rfl) (cLs cI rfl)).enc v0))] rfl <| wpC_seq <| reg_s <| x_box (ss rfl rfl) <| x_asg (sc cI (0 : Int) rfl) <| seqN [(1, .box ((cXCube (cLs cI rfl) (cLs cI rfl)).enc v0))] (by kernel_rfl) <|
    xn <| wpC_seq <| reg_s <| st rfl <| fab rfl rfl rfl rfl <| st rfl <| lda rfl rfl rfl rfl rfl rfl <| bnd h fun x3 e4 h => st rfl <| o_call (a1 (c := (cLs cI rfl)) (tLs tK) rfl a0) (con_impl_strides e4) (.inl (so1 (sLo sK) so0)) <| x_asg (so rfl rfl) <| seqN [(1, .box ((cXCube (cLs cI rfl) (cLs cI rfl)).enc v0)), (3, .d ((cLo cI).enc x3))] (by kernel_rfl) <|
    xn <| wpC_seq <| wpC_kp <| wpC_seq <| reg_s <| st rfl <| fab rfl rfl rfl rfl <| st rfl <| lda rfl rfl rfl rfl rfl rfl <| stw rfl <| lens rfl fun l2584 => st rfl <| mvc cI (0 : Int) rfl <| seqN [(1, .box ((cXCube (cLs cI rfl) (cLs cI rfl)).enc v0)), (3, .d ((cLo cI).enc x3)), (13, .adr 1 [.fld 1]), (14, .d ((cLs cI rfl).enc v0.Cells)), (15, .d (cI.enc (v0.Cells.length : Int))), (16, .d (cI.enc (0 : Int)))] (by kernel_rfl) <|
    xn <| wpC_blk <| lpR (fun (k2586 : Nat) (s2585 : Unit) => [(1, .box ((cXCube (cLs cI rfl) (cLs cI rfl)).enc v0)), (3, .d ((cLo cI).enc x3)), (13, .adr 1 [.fld 1]), (14, .d ((cLs cI rfl).enc v0.Cells)), (15, .d (cI.enc (v0.Cells.length : Int))), (16, .d (cI.enc (k2586 : Int)))]) () rfl h
    (fun G3876 s2585 h => wpC_seq <| reg_s <| st rfl <| b_lss (k := .i64) rfl rfl <| seqN [(1, .box ((cXCube (cLs cI rfl) (cLs cI rfl)).enc v0)), (3, .d ((cLo cI).enc x3)), (13, .adr 1 [.fld 1]), (14, .d ((cLs cI rfl).enc v0.Cells)), (15, .d (cI.enc (v0.Cells.length : Int))), (16, .d (cI.enc (v0.Cells.length : Int))), (17, .d (cB.enc (decide ((v0.Cells.length : Int) < (v0.Cells.length : Int)))))] (by kernel_rfl) <|
    xn <| wpC_seq <| wpC_kp <| cnd0 rfl (dlf _) <| wpC_exit <| xt <| xt <| xt <| xb <| kpN [(1, .box ((cXCube (cLs cI rfl) (cLs cI rfl)).enc v0))] (by kernel_rfl) <| xn <| wpC_seq <| reg_s <| st rfl <| fab rfl rfl rfl rfl <| st rfl <| lda rfl rfl rfl rfl rfl rfl <| stw rfl <| lens rfl fun l3878 => x_asg (ss rfl rfl) <| seqN [(2, .d (cI.enc (v0.Cells.length : Int)))] (by kernel_rfl) <|
    xn <| wpC_ret <| re <| fin h (r1 (ss rfl rfl) <| r0) rfl)
    (fun G3876 nx3874 k2586 s2585 x2587 hk2588 hx2589 hn3875 h => wpC_seq <| reg_s <| st rfl <| b_lss (k := .i64) rfl rfl <| seqN [(1, .box ((cXCube (cLs cI rfl) (cLs cI rfl)).enc v0)), (3, .d ((cLo cI).enc x3)), (13, .adr 1 [.fld 1]), (14, .d ((cLs cI rfl).enc v0.Cells)), (15, .d (cI.enc (v0.Cells.length : Int))), (16, .d (cI.enc (k2586 : Int))), (17, .d (cB.enc (decide ((k2586 : Int) < (v0.Cells.length : Int)))))] (by kernel_rfl) <|
    xn <| wpC_seq <| wpC_kp <| cnd1 rfl (dlt hk2588) <| wpC_skip <| kpN [(1, .box ((cXCube (cLs cI rfl) (cLs cI rfl)).enc v0)), (3, .d ((cLo cI).enc x3)), (13, .adr 1 [.fld 1]), (14, .d ((cLs cI rfl).enc v0.Cells)), (15, .d (cI.enc (v0.Cells.length : Int))), (16, .d (cI.enc (k2586 : Int)))] (by kernel_rfl) <| xn <| wpC_seq <| wpC_kp <| wpC_blk <| wpC_seq <| reg_s <| st rfl <| mvd rfl rfl <| st rfl <| ias rfl rfl (Int.natCast_nonneg _) hx2589 rfl <| st rfl <| ldi rfl rfl rfl rfl <| x_asg (ss rfl rfl) <| x_asg (ss rfl rfl) <| seqN [(1, .box ((cXCube (cLs cI rfl) (cLs cI rfl)).enc v0)), (3, .d ((cLo cI).enc x3)), (4, .d (cI.enc (k2586 : Int))), (5, .d (cI.enc x2587)), (13, .adr 1 [.fld 1]), (14, .d ((cLs cI rfl).enc v0.Cells)), (15, .d (cI.enc (v0.Cells.length : Int))), (16, .d (cI.enc (k2586 : Int)))] (by kernel_rfl) <|
    xn <| wpC_seq <| reg_s <| st rfl <| fab rfl rfl rfl rfl <| st rfl <| lda rfl rfl rfl rfl rfl rfl <| st rfl <| mvd rfl rfl <| bnd h fun x4524 e4525 h => st rfl <| o_call (a1 (c := (cLs cI rfl)) (tLs tK) rfl (a1 (c := cI) tK rfl a0)) (con_impl_indexOf e4525) (.inl (so1 (sLo sK) so0)) <| stw rfl <| leno rfl fun l4526 => st rfl <| mvc cI (0 : Int) rfl <| seqN [(1, .box ((cXCube (cLs cI rfl) (cLs cI rfl)).enc v0)), (3, .d ((cLo cI).enc x3)), (4, .d (cI.enc (k2586 : Int))), (5, .d (cI.enc x2587)), (13, .adr 1 [.fld 1]), (14, .d ((cLs cI rfl).enc v0.Cells)), (15, .d (cI.enc (v0.Cells.length : Int))), (16, .d (cI.enc (k2586 : Int))), (24, .d ((cLo cI).enc x4524)), (25, .d (cI.enc (x4524.length : Int))), (26, .d (cI.enc (0 : Int)))] (by kernel_rfl) <|
    xn <| wpC_blk <| lpR (fun (k4528 : Nat) (s4527 : Unit) => [(1, .box ((cXCube (cLs cI rfl) (cLs cI rfl)).enc v0)), (3, .d ((cLo cI).enc x3)), (4, .d (cI.enc (k2586 : Int))), (5, .d (cI.enc x2587)), (13, .adr 1 [.fld 1]), (14, .d ((cLs cI rfl).enc v0.Cells)), (15, .d (cI.enc (v0.Cells.length : Int))), (16, .d (cI.enc (k2586 : Int))), (24, .d ((cLo cI).enc x4524)), (25, .d (cI.enc (x4524.length : Int))), (26, .d (cI.enc (k4528 : Int)))]) () rfl h
    (fun G4848 s4527 h => wpC_seq <| reg_s <| st rfl <| b_lss (k := .i64) rfl rfl <| seqN [(1, .box ((cXCube (cLs cI rfl) (cLs cI rfl)).enc v0)), (3, .d ((cLo cI).enc x3)), (4, .d (cI.enc (k2586 : Int))), (5, .d (cI.enc x2587)), (13, .adr 1 [.fld 1]), (14, .d ((cLs cI rfl).enc v0.Cells)), (15, .d (cI.enc (v0.Cells.length : Int))), (16, .d (cI.enc (k2586 : Int))), (24, .d ((cLo cI).enc x4524)), (25, .d (cI.enc (x4524.length : Int))), (26, .d (cI.enc (x4524.length : Int))), (27, .d (cB.enc (decide ((x4524.length : Int) < (x4524.length : Int)))))] (by kernel_rfl) <|
    xn <| wpC_seq <| wpC_kp <| cnd0 rfl (dlf _) <| wpC_exit <| xt <| xt <| xt <| xb <| xbb <| kpN [(1, .box ((cXCube (cLs cI rfl) (cLs cI rfl)).enc v0)), (3, .d ((cLo cI).enc x3)), (13, .adr 1 [.fld 1]), (14, .d ((cLs cI rfl).enc v0.Cells)), (15, .d (cI.enc (v0.Cells.length : Int))), (16, .d (cI.enc (k2586 : Int)))] (by kernel_rfl) <| xn <| reg_s <| st rfl <| b_inc rfl rfl l2584 hk2588 <| st rfl <| mvd rfl rfl <| seqN [(1, .box ((cXCube (cLs cI rfl) (cLs cI rfl)).enc v0)), (3, .d ((cLo cI).enc x3)), (13, .adr 1 [.fld 1]), (14, .d ((cLs cI rfl).enc v0.Cells)), (15, .d (cI.enc (v0.Cells.length : Int))), (16, .d (cI.enc ((k2586 + 1 : Nat) : Int)))] (by kernel_rfl) <|
    xn <| hn3875 () h)
    (fun G4848 nx4846 k4528 s4527 x4529 hk4530 hx4531 hn4847 h => wpC_seq <| reg_s <| st rfl <| b_lss (k := .i64) rfl rfl <| seqN [(1, .box ((cXCube (cLs cI rfl) (cLs cI rfl)).enc v0)), (3, .d ((cLo cI).enc x3)), (4, .d (cI.enc (k2586 : Int))), (5, .d (cI.enc x2587)), (13, .adr 1 [.fld 1]), (14, .d ((cLs cI rfl).enc v0.Cells)), (15, .d (cI.enc (v0.Cells.length : Int))), (16, .d (cI.enc (k2586 : Int))), (24, .d ((cLo cI).enc x4524)), (25, .d (cI.enc (x4524.length : Int))), (26, .d (cI.enc (k4528 : Int))), (27, .d (cB.enc (decide ((k4528 : Int) < (x4524.length : Int)))))] (by kernel_rfl) <|
    xn <| wpC_seq <| wpC_kp <| cnd1 rfl (dlt hk4530) <| wpC_skip <| kpN [(1, .box ((cXCube (cLs cI rfl) (cLs cI rfl)).enc v0)), (3, .d ((cLo cI).enc x3)), (4, .d (cI.enc (k2586 : Int))), (5, .d (cI.enc x2587)), (13, .adr 1 [.fld 1]), (14, .d ((cLs cI rfl).enc v0.Cells)), (15, .d (cI.enc (v0.Cells.length : Int))), (16, .d (cI.enc (k2586 : Int))), (24, .d ((cLo cI).enc x4524)), (25, .d (cI.enc (x4524.length : Int))), (26, .d (cI.enc (k4528 : Int)))] (by kernel_rfl) <| xn <| wpC_seq <| wpC_kp <| wpC_blk <| wpC_seq <| reg_s <| st rfl <| mvd rfl rfl <| st rfl <| iao rfl rfl (Int.natCast_nonneg _) hx4531 rfl <| st rfl <| lda rfl rfl (Gt.idx hx4531 Gt.nil) rfl rfl rfl <| x_asg (ss rfl rfl) <| x_asg (ss rfl rfl) <| seqN [(1, .box ((cXCube (cLs cI rfl) (cLs cI rfl)).enc v0)), (3, .d ((cLo cI).enc x3)), (4, .d (cI.enc (k2586 : Int))), (5, .d (cI.enc x2587)), (6, .d (cI.enc (k4528 : Int))), (7, .d (cI.enc x4529)), (13, .adr 1 [.fld 1]), (14, .d ((cLs cI rfl).enc v0.Cells)), (15, .d (cI.enc (v0.Cells.length : Int))), (16, .d (cI.enc (k2586 : Int))), (24, .d ((cLo cI).enc x4524)), (25, .d (cI.enc (x4524.length : Int))), (26, .d (cI.enc (k4528 : Int)))] (by kernel_rfl) <|
    xn <| wpC_seq <| wpC_kp <| wpC_seq <| reg_s <| st rfl <| mvd rfl rfl <| st rfl <| fab rfl rfl rfl rfl <| st rfl <| lda rfl rfl rfl rfl rfl rfl <| st rfl <| mvd rfl rfl <| getO_k h fun x5016 i5017 g5018 h => st rfl <| ias rfl rfl i5017 g5018 rfl <| st rfl <| ldi rfl rfl rfl rfl <| st rfl <| b_neq (k := .i64) rfl rfl <| seqN [(1, .box ((cXCube (cLs cI rfl) (cLs cI rfl)).enc v0)), (3, .d ((cLo cI).enc x3)), (4, .d (cI.enc (k2586 : Int))), (5, .d (cI.enc x2587)), (6, .d (cI.enc (k4528 : Int))), (7, .d (cI.enc x4529)), (13, .adr 1 [.fld 1]), (14, .d ((cLs cI rfl).enc v0.Cells)), (15, .d (cI.enc (v0.Cells.length : Int))), (16, .d (cI.enc (k2586 : Int))), (24, .d ((cLo cI).enc x4524)), (25, .d (cI.enc (x4524.length : Int))), (26, .d (cI.enc (k4528 : Int))), (37, .d (cB.enc (decide (x4529 ≠ x5016))))] (by kernel_rfl) <|
    xn <| cnd rfl h (fun b5019 h => wpC_exit <| xt <| xt <| xb <| kpN [(1, .box ((cXCube (cLs cI rfl) (cLs cI rfl)).enc v0)), (3, .d ((cLo cI).enc x3)), (4, .d (cI.enc (k2586 : Int))), (5, .d (cI.enc x2587)), (13, .adr 1 [.fld 1]), (14, .d ((cLs cI rfl).enc v0.Cells)), (15, .d (cI.enc (v0.Cells.length : Int))), (16, .d (cI.enc (k2586 : Int))), (24, .d ((cLo cI).enc x4524)), (25, .d (cI.enc (x4524.length : Int))), (26, .d (cI.enc (k4528 : Int)))] (by kernel_rfl) <| xn <| reg_s <| st rfl <| b_inc rfl rfl l4526 hk4530 <| st rfl <| mvd rfl rfl <| seqN [(1, .box ((cXCube (cLs cI rfl) (cLs cI rfl)).enc v0)), (3, .d ((cLo cI).enc x3)), (4, .d (cI.enc (k2586 : Int))), (5, .d (cI.enc x2587)), (13, .adr 1 [.fld 1]), (14, .d ((cLs cI rfl).enc v0.Cells)), (15, .d (cI.enc (v0.Cells.length : Int))), (16, .d (cI.enc (k2586 : Int))), (24, .d ((cLo cI).enc x4524)), (25, .d (cI.enc (x4524.length : Int))), (26, .d (cI.enc ((k4528 + 1 : Nat) : Int)))] (by kernel_rfl) <|
    xn <| hn4847 () h)
    (fun b5019 h => wpC_skip <| kpN [(1, .box ((cXCube (cLs cI rfl) (cLs cI rfl)).enc v0)), (3, .d ((cLo cI).enc x3)), (4, .d (cI.enc (k2586 : Int))), (5, .d (cI.enc x2587)), (6, .d (cI.enc (k4528 : Int))), (7, .d (cI.enc x4529)), (13, .adr 1 [.fld 1]), (14, .d ((cLs cI rfl).enc v0.Cells)), (15, .d (cI.enc (v0.Cells.length : Int))), (16, .d (cI.enc (k2586 : Int))), (24, .d ((cLo cI).enc x4524)), (25, .d (cI.enc (x4524.length : Int))), (26, .d (cI.enc (k4528 : Int)))] (by kernel_rfl) <| xn <| wpC_seq <| reg_s <| x_asg (sc cI (0 : Int) rfl) <| seqN [(1, .box ((cXCube (cLs cI rfl) (cLs cI rfl)).enc v0)), (3, .d ((cLo cI).enc x3)), (4, .d (cI.enc (k2586 : Int))), (5, .d (cI.enc x2587)), (6, .d (cI.enc (k4528 : Int))), (7, .d (cI.enc x4529)), (8, .d (cI.enc (0 : Int))), (13, .adr 1 [.fld 1]), (14, .d ((cLs cI rfl).enc v0.Cells)), (15, .d (cI.enc (v0.Cells.length : Int))), (16, .d (cI.enc (k2586 : Int))), (24, .d ((cLo cI).enc x4524)), (25, .d (cI.enc (x4524.length : Int))), (26, .d (cI.enc (k4528 : Int)))] (by kernel_rfl) <|
    xn <| wpC_seq <| wpC_kp <| wpC_seq <| reg_s <| x_asg (sc cI (1 : Int) rfl) <| seqN [(1, .box ((cXCube (cLs cI rfl) (cLs cI rfl)).enc v0)), (3, .d ((cLo cI).enc x3)), (4, .d (cI.enc (k2586 : Int))), (5, .d (cI.enc x2587)), (6, .d (cI.enc (k4528 : Int))), (7, .d (cI.enc x4529)), (8, .d (cI.enc (0 : Int))), (9, .d (cI.enc (1 : Int))), (13, .adr 1 [.fld 1]), (14, .d ((cLs cI rfl).enc v0.Cells)), (15, .d (cI.enc (v0.Cells.length : Int))), (16, .d (cI.enc (k2586 : Int))), (24, .d ((cLo cI).enc x4524)), (25, .d (cI.enc (x4524.length : Int))), (26, .d (cI.enc (k4528 : Int)))] (by kernel_rfl) <|
    xn <| wpC_blk <| lpF (fun (s5091 : (Int × Int)) => [(1, .box ((cXCube (cLs cI rfl) (cLs cI rfl)).enc v0)), (3, .d ((cLo cI).enc x3)), (4, .d (cI.enc (k2586 : Int))), (5, .d (cI.enc x2587)), (6, .d (cI.enc (k4528 : Int))), (7, .d (cI.enc x4529)), (8, .d (cI.enc s5091.1)), (9, .d (cI.enc s5091.2)), (13, .adr 1 [.fld 1]), (14, .d ((cLs cI rfl).enc v0.Cells)), (15, .d (cI.enc (v0.Cells.length : Int))), (16, .d (cI.enc (k2586 : Int))), (24, .d ((cLo cI).enc x4524)), (25, .d (cI.enc (x4524.length : Int))), (26, .d (cI.enc (k4528 : Int)))]) ((0 : Int), (1 : Int)) rfl h
    fun G5140 nx5138 s5091 hn5139 h => wpC_seq <| wpC_kp <| wpC_seq <| reg_s <| st rfl <| mvd rfl rfl <| st rfl <| mvd rfl rfl <| st rfl <| b_leq (k := .i64) rfl rfl <| seqN [(1, .box ((cXCube (cLs cI rfl) (cLs cI rfl)).enc v0)), (3, .d ((cLo cI).enc x3)), (4, .d (cI.enc (k2586 : Int))), (5, .d (cI.enc x2587)), (6, .d (cI.enc (k4528 : Int))), (7, .d (cI.enc x4529)), (8, .d (cI.enc s5091.1)), (9, .d (cI.enc s5091.2)), (13, .adr 1 [.fld 1]), (14, .d ((cLs cI rfl).enc v0.Cells)), (15, .d (cI.enc (v0.Cells.length : Int))), (16, .d (cI.enc (k2586 : Int))), (24, .d ((cLo cI).enc x4524)), (25, .d (cI.enc (x4524.length : Int))), (26, .d (cI.enc (k4528 : Int))), (40, .d (cB.enc (decide (s5091.2 ≤ x4529))))] (by kernel_rfl) <|
    xn <| cnd rfl h (fun b5142 h => wpC_skip <| kpN [(1, .box ((cXCube (cLs cI rfl) (cLs cI rfl)).enc v0)), (3, .d ((cLo cI).enc x3)), (4, .d (cI.enc (k2586 : Int))), (5, .d (cI.enc x2587)), (6, .d (cI.enc (k4528 : Int))), (7, .d (cI.enc x4529)), (8, .d (cI.enc s5091.1)), (9, .d (cI.enc s5091.2)), (13, .adr 1 [.fld 1]), (14, .d ((cLs cI rfl).enc v0.Cells)), (15, .d (cI.enc (v0.Cells.length : Int))), (16, .d (cI.enc (k2586 : Int))), (24, .d ((cLo cI).enc x4524)), (25, .d (cI.enc (x4524.length : Int))), (26, .d (cI.enc (k4528 : Int)))] (by kernel_rfl) <| xn <| wpC_seq <| wpC_kp <| wpC_blk <| drw_s <| pst rfl <| mvd rfl rfl ⟨rfl, pst rfl <| fab rfl rfl rfl rfl ⟨rfl, pst rfl <| lda rfl rfl rfl rfl rfl rfl ⟨rfl, pst rfl <| mvd rfl rfl ⟨rfl, pst rfl <| mvd rfl rfl ⟨rfl, pst rfl <| mvo rfl rfl ⟨rfl, pst rfl <| mvd rfl rfl ⟨rfl, getO_kp h fun x5152 i5153 g5154 h => pst rfl <| iar rfl rfl rfl rfl i5153 g5154 rfl ⟨rfl, pst rfl <| lda rfl rfl (Gt.idx g5154 Gt.nil) rfl rfl rfl ⟨rfl, ckI_kp h fun i5155 h => pst rfl <| b_mul (k := .i64) rfl rfl i5155 ⟨rfl, ckI_kp h fun i5156 h => pst rfl <| b_sub (k := .i64) rfl rfl i5156 ⟨rfl, getO_kp h fun x5157 i5158 g5159 h => pst rfl <| ias rfl rfl i5158 g5159 rfl ⟨rfl, pst rfl <| ldi rfl rfl rfl rfl ⟨rfl, ckI_kp h fun i5160 h => pst rfl <| b_add (k := .i64) rfl rfl i5160 ⟨rfl, preN <| x_asg (ss rfl rfl) <| seqN [(1, .box ((cXCube (cLs cI rfl) (cLs cI rfl)).enc v0)), (3, .d ((cLo cI).enc x3)), (4, .d (cI.enc (k2586 : Int))), (5, .d (cI.enc x2587)), (6, .d (cI.enc (k4528 : Int))), (7, .d (cI.enc x4529)), (8, .d (cI.enc (s5091.1 + x5157))), (9, .d (cI.enc s5091.2)), (13, .adr 1 [.fld 1]), (14, .d ((cLs cI rfl).enc v0.Cells)), (15, .d (cI.enc (v0.Cells.length : Int))), (16, .d (cI.enc (k2586 : Int))), (24, .d ((cLo cI).enc x4524)), (25, .d (cI.enc (x4524.length : Int))), (26, .d (cI.enc (k4528 : Int)))] (by kernel_rfl) <|
    xbb <| kpN [(1, .box ((cXCube (cLs cI rfl) (cLs cI rfl)).enc v0)), (3, .d ((cLo cI).enc x3)), (4, .d (cI.enc (k2586 : Int))), (5, .d (cI.enc x2587)), (6, .d (cI.enc (k4528 : Int))), (7, .d (cI.enc x4529)), (8, .d (cI.enc (s5091.1 + x5157))), (9, .d (cI.enc s5091.2)), (13, .adr 1 [.fld 1]), (14, .d ((cLs cI rfl).enc v0.Cells)), (15, .d (cI.enc (v0.Cells.length : Int))), (16, .d (cI.enc (k2586 : Int))), (24, .d ((cLo cI).enc x4524)), (25, .d (cI.enc (x4524.length : Int))), (26, .d (cI.enc (k4528 : Int)))] (by kernel_rfl) <| xn <| reg_s <| st rfl <| mvd rfl rfl <| ckI_k h fun i5161 h => st rfl <| b_add (k := .i64) rfl rfl i5161 <| x_asg (ss rfl rfl) <| seqN [(1, .box ((cXCube (cLs cI rfl) (cLs cI rfl)).enc v0)), (3, .d ((cLo cI).enc x3)), (4, .d (cI.enc (k2586 : Int))), (5, .d (cI.enc x2587)), (6, .d (cI.enc (k4528 : Int))), (7, .d (cI.enc x4529)), (8, .d (cI.enc (s5091.1 + x5157))), (9, .d (cI.enc (s5091.2 + (1 : Int)))), (13, .adr 1 [.fld 1]), (14, .d ((cLs cI rfl).enc v0.Cells)), (15, .d (cI.enc (v0.Cells.length : Int))), (16, .d (cI.enc (k2586 : Int))), (24, .d ((cLo cI).enc x4524)), (25, .d (cI.enc (x4524.length : Int))), (26, .d (cI.enc (k4528 : Int)))] (by kernel_rfl) <|
    xn <| hn5139 ((s5091.1 + x5157), (s5091.2 + (1 : Int))) h⟩⟩⟩⟩⟩⟩⟩⟩⟩⟩⟩⟩⟩⟩)
    (fun b5142 h => wpC_exit <| xt <| xt <| xt <| xb <| kpN [(1, .box ((cXCube (cLs cI rfl) (cLs cI rfl)).enc v0)), (3, .d ((cLo cI).enc x3)), (4, .d (cI.enc (k2586 : Int))), (5, .d (cI.enc x2587)), (8, .d (cI.enc s5091.1)), (13, .adr 1 [.fld 1]), (14, .d ((cLs cI rfl).enc v0.Cells)), (15, .d (cI.enc (v0.Cells.length : Int))), (16, .d (cI.enc (k2586 : Int))), (24, .d ((cLo cI).enc x4524)), (25, .d (cI.enc (x4524.length : Int))), (26, .d (cI.enc (k4528 : Int)))] (by kernel_rfl) <| xn <| wpC_seq <| reg_s <| st rfl <| mvd rfl rfl <| st rfl <| mvd rfl rfl <| st rfl <| b_neq (k := .i64) rfl rfl <| seqN [(1, .box ((cXCube (cLs cI rfl) (cLs cI rfl)).enc v0)), (3, .d ((cLo cI).enc x3)), (4, .d (cI.enc (k2586 : Int))), (5, .d (cI.enc x2587)), (13, .adr 1 [.fld 1]), (14, .d ((cLs cI rfl).enc v0.Cells)), (15, .d (cI.enc (v0.Cells.length : Int))), (16, .d (cI.enc (k2586 : Int))), (24, .d ((cLo cI).enc x4524)), (25, .d (cI.enc (x4524.length : Int))), (26, .d (cI.enc (k4528 : Int))), (59, .d (cB.enc (decide (s5091.1 ≠ x2587))))] (by kernel_rfl) <|
    xn <| cnd rfl h (fun b5162 h => wpC_seq <| reg_s <| st rfl <| mvd rfl rfl <| x_asg (ss rfl rfl) <| seqN [(2, .d (cI.enc (k2586 : Int)))] (by kernel_rfl) <|
    xn <| wpC_ret <| rb <| rt <| rt <| rt <| rb <| rb <| rt <| rt <| rt <| rb <| rt <| rt <| re <| fin h (r1 (ss rfl rfl) <| r0) rfl)
    (fun b5162 h => wpC_skip <| xbb <| kpN [(1, .box ((cXCube (cLs cI rfl) (cLs cI rfl)).enc v0)), (3, .d ((cLo cI).enc x3)), (4, .d (cI.enc (k2586 : Int))), (5, .d (cI.enc x2587)), (13, .adr 1 [.fld 1]), (14, .d ((cLs cI rfl).enc v0.Cells)), (15, .d (cI.enc (v0.Cells.length : Int))), (16, .d (cI.enc (k2586 : Int))), (24, .d ((cLo cI).enc x4524)), (25, .d (cI.enc (x4524.length : Int))), (26, .d (cI.enc (k4528 : Int)))] (by kernel_rfl) <| xn <| reg_s <| st rfl <| b_inc rfl rfl l4526 hk4530 <| st rfl <| mvd rfl rfl <| seqN [(1, .box ((cXCube (cLs cI rfl) (cLs cI rfl)).enc v0)), (3, .d ((cLo cI).enc x3)), (4, .d (cI.enc (k2586 : Int))), (5, .d (cI.enc x2587)), (13, .adr 1 [.fld 1]), (14, .d ((cLs cI rfl).enc v0.Cells)), (15, .d (cI.enc (v0.Cells.length : Int))), (16, .d (cI.enc (k2586 : Int))), (24, .d ((cLo cI).enc x4524)), (25, .d (cI.enc (x4524.length : Int))), (26, .d (cI.enc ((k4528 + 1 : Nat) : Int)))] (by kernel_rfl) <|
    xn <| hn4847 () h)))))
def rs_impl_IsCube (r : Bool) : List D := [cB.enc r]
def m29 : MC := .seq (.reg [⟨some 1, .box (.t 0), none⟩,
    ⟨some 2, .asg (.c (.bool false)), none⟩] [1])
  (.seq (.drw [⟨0, ⟨some 3, .ld 1 2 true, none⟩, [4, 5, 6, 7, 8, 9, 10, 11, 12]⟩,
    ⟨1, ⟨some 4, .call 67 [(.t 3)], none⟩, [5, 6, 7, 8, 9, 10, 11, 12]⟩,
    ⟨2, ⟨some 5, .mv (.t 4), none⟩, [6, 7, 8, 9, 10, 11, 12]⟩,
    ⟨3, ⟨some 6, .ld 1 2 true, some (5, true)⟩, [7, 8, 9, 10, 11, 12]⟩,
    ⟨4, ⟨some 7, .call 68 [(.t 6)], some (5, true)⟩, [8, 9, 10, 11, 12]⟩,
    ⟨5, ⟨some 8, .fa 1 1 1, some (5, true)⟩, [6, 7, 9, 10, 11, 12]⟩,
    ⟨6, ⟨some 9, .ld 8 1 false, some (5, true)⟩, [6, 7, 10, 11, 12]⟩,
    ⟨7, ⟨some 10, .len false (.t 9), some (5, true)⟩, [6, 7, 11, 12]⟩,
    ⟨8, ⟨some 11, .bin .eql (.t 7) (.t 10), some (5, true)⟩, [12]⟩,
    ⟨9, ⟨some 12, .pick (.t 5) (.t 11) (.c (.bool false)), none⟩, []⟩]
    [(10, ⟨some 2, .asg (.t 12), none⟩)] [2])
  (.ret))
theorem con_impl_IsCube {v0 : XCube} {r : Bool} (h : sh_impl_IsCube v0 = some r) : Con Try.prog 29 [(cXCube (cLs cI rfl) (cLs cI rfl)).enc v0] [] (rs_impl_IsCube r) := by
  delta sh_impl_IsCube at h
  refine top (out := none) (f := Try.f29) (m := m29) (rs := [.t 2]) (by kernel_rfl) rfl (by kernel_rfl) (by kernel_rfl) (by kernel_rfl) (by kernel_rfl) (by kernel_rfl) ?_
  exact
   ini [(0, .d ((cXCube (cLs cI rfl) (cLs cI rfl)).enc v0))] rfl <| wpC_seq <| reg_s <| x_box (ss rfl rfl) <| x_asg (sc cB false rfl) <| seqN [(1, .box ((cXCube (cLs cI rfl) (cLs cI rfl)).enc v0))] (by kernel_rfl) <|
    xn <| wpC_seq <| drw_s <| pst rfl <| ldb rfl rfl rfl rfl ⟨rfl, bndp h fun x7 e8 h => pst rfl <| o_call (a1 (c := (cXCube (cLs cI rfl) (cLs cI rfl))) (tXCube (tLs tK) (tLs tK)) rfl a0) (con_impl_hasRightForm e8) (.inl (so1 sB so0)) ⟨rfl, pst rfl <| mvd rfl rfl ⟨rfl, ite_kp h (fun b9 h => pgt rfl b9 <| pst rfl <| ldb rfl rfl rfl rfl ⟨rfl, pgt rfl b9 <| bndp h fun x10 e11 h => pst rfl <| o_call (a1 (c := (cXCube (cLs cI rfl) (cLs cI rfl))) (tXCube (tLs tK) (tLs tK)) rfl a0) (con_impl_firstBreak e11) (.inl (so1 sK so0)) ⟨rfl, pgt rfl b9 <| pst rfl <| fab rfl rfl rfl rfl ⟨rfl, pgt rfl b9 <| pst rfl <| lda rfl rfl rfl rfl rfl rfl ⟨rfl, pgt rfl b9 <| lmO_kp h fun l12 h => pst rfl <| plns rfl l12 ⟨rfl, pgt rfl b9 <| pst rfl <| b_eql (k := .i64) rfl rfl ⟨rfl, pst rfl <| pick1 rfl b9 (cd := cB) (v := (decide (x10 = (v0.Cells.length : Int)))) rfl rfl ⟨rfl, preN <| x_asg (ss rfl rfl) <| seqN [(2, .d (cB.enc (decide (x10 = (v0.Cells.length : Int)))))] (by kernel_rfl) <|
    xn <| wpC_ret <| re <| fin h (r1 (ss rfl rfl) <| r0) rfl⟩⟩⟩⟩⟩⟩⟩)
    (fun b9 h => pgf rfl rfl b9 <| pgf rfl rfl b9 <| pgf rfl rfl b9 <| pgf rfl rfl b9 <| pgf rfl rfl b9 <| pgf rfl rfl b9 <| pst rfl <| pick0 rfl b9 (cd := cB) (v := false) rfl rfl ⟨rfl, preN <| x_asg (ss rfl rfl) <| seqN [(2, .d (cB.enc false))] (by kernel_rfl) <|
    xn <| wpC_ret <| re <| fin h (r1 (ss rfl rfl) <| r0) rfl⟩)⟩⟩⟩

def rs_spec_cbIf (r : (XCube × Bool)) : List D := [(cXCube (cLo cI) (cLo cI)).enc r.1, cB.enc r.2]
def m87 : MC := .seq (.reg [⟨some 1, .box (.t 0), none⟩,
    ⟨some 2, .alloc (.agg [.slice true [], .slice true []]), none⟩,
    ⟨some 3, .asg (.c (.bool false)), none⟩] [1, 2])
  (.seq (.kp [1, 2] (.seq (.reg [⟨some 4, .ld 1 2 true, none⟩,
    ⟨some 5, .call 66 [(.t 4)], none⟩,
    ⟨some 6, .nt (.t 5), none⟩] [1, 2, 6])
  (.cond (.t 6) (.seq (.reg [⟨some 7, .bld [.slice true [], .slice true []] [], none⟩,
    ⟨none, .st 2 (.t 7) 2, none⟩,
    ⟨some 3, .asg (.c (.bool false)), none⟩] [2, 3])
  (.ret)) (.skip))))
  (.seq (.reg [⟨some 8, .ld 1 2 true, none⟩,
    ⟨none, .st 2 (.t 8) 2, none⟩,
    ⟨some 3, .asg (.c (.bool true)), none⟩] [2, 3])
  (.ret)))
theorem con_spec_cbIf {v0 : XCube} {r : (XCube × Bool)} (h : sh_spec_cbIf v0 = some r) : Con Try.prog 87 [(cXCube (cLo cI) (cLo cI)).enc v0] [] (rs_spec_cbIf r) := by
  delta sh_spec_cbIf at h
  refine top (out := none) (f := Try.f87) (m := m87) (rs := [.c 2 2 true, .t 3]) (by kernel_rfl) rfl (by kernel_rfl) (by kernel_rfl) (by kernel_rfl) (by kernel_rfl) (by kernel_rfl) ?_
  exact
   ini [(0, .d ((cXCube (cLo cI) (cLo cI)).enc v0))] rfl <| wpC_seq <| reg_s <| x_box (so rfl rfl) <| x_all (cXCube (cLo cI) (cLo cI)) (⟨([] : List Int), ([] : List Int)⟩ : XCube) rfl <| x_asg (sc cB false rfl) <| seqN [(1, .box ((cXCube (cLo cI) (cLo cI)).enc v0)), (2, .box ((cXCube (cLo cI) (cLo cI)).enc (⟨([] : List Int), ([] : List Int)⟩ : XCube)))] (by kernel_rfl) <|
    xn <| wpC_seq <| wpC_kp <| wpC_seq <| reg_s <| st rfl <| ldbo rfl rfl rfl rfl <| bnd h fun x8 e9 h => st rfl <| o_call (a1 (c := (cXCube (cLo cI) (cLo cI))) (tXCube (tLo tK) (tLo tK)) rfl a0) (con_spec_cbGood e9) (.inl (so1 sB so0)) <| st rfl <| o_nt rfl <| seqN [(1, .box ((cXCube (cLo cI) (cLo cI)).enc v0)), (2, .box ((cXCube (cLo cI) (cLo cI)).enc (⟨([] : List Int), ([] : List Int)⟩ : XCube))), (6, .d (cB.enc (!x8)))] (by kernel_rfl) <|
    xn <| cnd rfl h (fun b10 h => wpC_seq <| reg_s <| x_bld ((cXCube (cLo cI) (cLo cI)).enc (⟨([] : List Int), ([] : List Int)⟩ : XCube)) t0 rfl rfl <| x_stb (so rfl rfl) rfl (Cd.h_sz _ _) rfl <| x_asg (sc cB false rfl) <| seqN [(2, .box ((cXCube (cLo cI) (cLo cI)).enc (⟨([] : List Int), ([] : List Int)⟩ : XCube))), (3, .d (cB.enc false))] (by kernel_rfl) <|
    xn <| wpC_ret <| rt <| rt <| re <| fin h (r2 rfl rfl rfl <| r1 (ss rfl rfl) <| r0) rfl)
    (fun b10 h => wpC_skip <| kpN [(1, .box ((cXCube (cLo cI) (cLo cI)).enc v0)), (2, .box ((cXCube (cLo cI) (cLo cI)).enc (⟨([] : List Int), ([] : List Int)⟩ : XCube)))] (by kernel_rfl) <| xn <| wpC_seq <| reg_s <| st rfl <| ldbo rfl rfl rfl rfl <| x_stb (sb rfl rfl) rfl (Cd.h_sz _ _) rfl <| x_asg (sc cB true rfl) <| seqN [(2, .box ((cXCube (cLo cI) (cLo cI)).enc v0)), (3, .d (cB.enc true))] (by kernel_rfl) <|
    xn <| wpC_ret <| re <| fin h (r2 rfl rfl rfl <| r1 (ss rfl rfl) <| r0) rfl)

def rs_spec_l1Same (r : Bool) : List D := [cB.enc r]
def m90 : MC := .seq (.reg [⟨some 4, .asg (.c (.bool false)), none⟩] [0, 1])
  (.seq (.kp [0, 1] (.seq (.reg [⟨some 6, .mv (.t 0), none⟩,
    ⟨some 7, .len false (.t 6), none⟩,
    ⟨some 8, .mv (.t 1), none⟩,
    ⟨some 9, .len false (.t 8), none⟩,
    ⟨some 10, .bin .neq (.t 7) (.t 9), none⟩] [0, 1, 10])
  (.cond (.t 10) (.seq (.reg [⟨some 4, .asg (.c (.bool false)), none⟩] [4])
  (.ret)) (.skip))))
  (.seq (.kp [] (.seq (.reg [⟨some 11, .mv (.t 0), none⟩,
    ⟨some 12, .len false (.t 11), none⟩,
    ⟨some 13, .mv (.c (.int .i64 0)), none⟩] [0, 1, 12, 13])
  (.blk 0 (.loop (.seq (.reg [⟨some 14, .bin .lss (.t 13) (.t 12), none⟩] [0, 1, 12, 13, 14])
  (.seq (.kp [0, 1, 12, 13] (.cond (.t 14) (.skip) (.exit 0)))
  (.seq (.kp [0, 1, 12, 13] (.blk 1 (.seq (.reg [⟨some 15, .mv (.t 13), none⟩,
    ⟨some 5, .asg (.t 15), none⟩] [0, 1, 5, 12, 13])
  (.seq (.drw [⟨0, ⟨some 16, .mv (.t 0), none⟩, [17, 18, 19, 20, 21, 22, 23, 24]⟩,
    ⟨1, ⟨some 17, .mv (.t 5), none⟩, [16, 18, 19, 20, 21, 22, 23, 24]⟩,
    ⟨2, ⟨some 18, .ia 16 (.t 17) 1, none⟩, [19, 20, 21, 22, 23, 24]⟩,
    ⟨3, ⟨some 19, .ld 18 1 false, none⟩, [20, 21, 22, 23, 24]⟩,
    ⟨4, ⟨some 20, .mv (.t 1), none⟩, [16, 17, 18, 19, 21, 22, 23, 24]⟩,
    ⟨5, ⟨some 21, .mv (.t 5), none⟩, [16, 17, 18, 19, 20, 22, 23, 24]⟩,
    ⟨6, ⟨some 22, .ia 20 (.t 21) 1, none⟩, [16, 17, 18, 19, 23, 24]⟩,
    ⟨7, ⟨some 23, .ld 22 1 false, none⟩, [16, 17, 18, 19, 24]⟩,
    ⟨8, ⟨some 24, .bin .neq (.t 19) (.t 23), none⟩, []⟩]
    [] [0, 1, 12, 13, 24])
  (.cond (.t 24) (.seq (.reg [⟨some 4, .asg (.c (.bool false)), none⟩] [4])
  (.ret)) (.skip))))))
  (.reg [⟨some 25, .bin .add (.t 13) (.c (.int .i64 1)), none⟩,
    ⟨some 13, .mv (.t 25), none⟩] [0, 1, 12, 13]))))))))
  (.seq (.reg [⟨some 4, .asg (.c (.bool true)), none⟩] [4])
  (.ret))))
theorem con_spec_l1Same {v0 : (List Int)} {v1 : (List Int)} {r : Bool} (h : sh_spec_l1Same v0 v1 = some r) : Con Try.prog 90 [(cLs cI rfl).enc v0, (cLs cI rfl).enc v1] [] (rs_spec_l1Same r) := by
  delta sh_spec_l1Same at h
  refine top (out := none) (f := Try.f90) (m := m90) (rs := [.t 4]) (by kernel_rfl) rfl (by kernel_rfl) (by kernel_rfl) (by kernel_rfl) (by kernel_rfl) (by kernel_rfl) ?_
  exact
   ini [(0, .d ((cLs cI rfl).enc v0)), (1, .d ((cLs cI rfl).enc v1))] rfl <| wpC_seq <| reg_s <| x_asg (sc cB false rfl) <| seqN [(0, .d ((cLs cI rfl).enc v0)), (1, .d ((cLs cI rfl).enc v1))] (by kernel_rfl) <|
    xn <| wpC_seq <| wpC_kp <| wpC_seq <| reg_s <| st rfl <| mvd rfl rfl <| stw rfl <| lens rfl fun l8 => st rfl <| mvd rfl rfl <| stw rfl <| lens rfl fun l9 => st rfl <| b_neq (k := .i64) rfl rfl <| seqN [(0, .d ((cLs cI rfl).enc v0)), (1, .d ((cLs cI rfl).enc v1)), (10, .d (cB.enc (decide ((v0.length : Int) ≠ (v1.length : Int)))))] (by kernel_rfl) <|
    xn <| cnd rfl h (fun b10 h => wpC_seq <| reg_s <| x_asg (sc cB false rfl) <| seqN [(4, .d (cB.enc false))] (by kernel_rfl) <|
    xn <| wpC_ret <| rt <| rt <| re <| fin h (r1 (ss rfl rfl) <| r0) rfl)
    (fun b10 h => wpC_skip <| kpN [(0, .d ((cLs cI rfl).enc v0)), (1, .d ((cLs cI rfl).enc v1))] (by kernel_rfl) <| xn <| wpC_seq <| wpC_kp <| wpC_seq <| reg_s <| st rfl <| mvd rfl rfl <| stw rfl <| lens rfl fun l50 => st rfl <| mvc cI (0 : Int) rfl <| seqN [(0, .d ((cLs cI rfl).enc v0)), (1, .d ((cLs cI rfl).enc v1)), (12, .d (cI.enc (v0.length : Int))), (13, .d (cI.enc (0 : Int)))] (by kernel_rfl) <|
    xn <| wpC_blk <| lpR (fun (k52 : Nat) (s51 : Unit) => [(0, .d ((cLs cI rfl).enc v0)), (1, .d ((cLs cI rfl).enc v1)), (12, .d (cI.enc (v0.length : Int))), (13, .d (cI.enc (k52 : Int)))]) () rfl h
    (fun G72 s51 h => wpC_seq <| reg_s <| st rfl <| b_lss (k := .i64) rfl rfl <| seqN [(0, .d ((cLs cI rfl).enc v0)), (1, .d ((cLs cI rfl).enc v1)), (12, .d (cI.enc (v0.length : Int))), (13, .d (cI.enc (v0.length : Int))), (14, .d (cB.enc (decide ((v0.length : Int) < (v0.length : Int)))))] (by kernel_rfl) <|
    xn <| wpC_seq <| wpC_kp <| cnd0 rfl (dlf _) <| wpC_exit <| xt <| xt <| xt <| xb <| kpN [] (by kernel_rfl) <| xn <| wpC_seq <| reg_s <| x_asg (sc cB true rfl) <| seqN [(4, .d (cB.enc true))] (by kernel_rfl) <|
    xn <| wpC_ret <| re <| fin h (r1 (ss rfl rfl) <| r0) rfl)
    (fun G72 nx70 k52 s51 x53 hk54 hx55 hn71 h => wpC_seq <| reg_s <| st rfl <| b_lss (k := .i64) rfl rfl <| seqN [(0, .d ((cLs cI rfl).enc v0)), (1, .d ((cLs cI rfl).enc v1)), (12, .d (cI.enc (v0.length : Int))), (13, .d (cI.enc (k52 : Int))), (14, .d (cB.enc (decide ((k52 : Int) < (v0.length : Int)))))] (by kernel_rfl) <|
    xn <| wpC_seq <| wpC_kp <| cnd1 rfl (dlt hk54) <| wpC_skip <| kpN [(0, .d ((cLs cI rfl).enc v0)), (1, .d ((cLs cI rfl).enc v1)), (12, .d (cI.enc (v0.length : Int))), (13, .d (cI.enc (k52 : Int)))] (by kernel_rfl) <| xn <| wpC_seq <| wpC_kp <| wpC_blk <| wpC_seq <| reg_s <| st rfl <| mvd rfl rfl <| x_asg (ss rfl rfl) <| seqN [(0, .d ((cLs cI rfl).enc v0)), (1, .d ((cLs cI rfl).enc v1)), (5, .d (cI.enc (k52 : Int))), (12, .d (cI.enc (v0.length : Int))), (13, .d (cI.enc (k52 : Int)))] (by kernel_rfl) <|
    xn <| wpC_seq <| drw_s <| pst rfl <| mvd rfl rfl ⟨rfl, pst rfl <| mvd rfl rfl ⟨rfl, pst rfl <| ias rfl rfl (Int.natCast_nonneg _) hx55 rfl ⟨rfl, pst rfl <| ldi rfl rfl rfl rfl ⟨rfl, pst rfl <| mvd rfl rfl ⟨rfl, pst rfl <| mvd rfl rfl ⟨rfl, getO_kp h fun x83 i84 g85 h => pst rfl <| ias rfl rfl i84 g85 rfl ⟨rfl, pst rfl <| ldi rfl rfl rfl rfl ⟨rfl, pst rfl <| b_neq (k := .i64) rfl rfl ⟨rfl, preN <| seqN [(0, .d ((cLs cI rfl).enc v0)), (1, .d ((cLs cI rfl).enc v1)), (12, .d (cI.enc (v0.length : Int))), (13, .d (cI.enc (k52 : Int))), (24, .d (cB.enc (decide (x53 ≠ x83))))] (by kernel_rfl) <|
    xn <| cnd rfl h (fun b86 h => wpC_seq <| reg_s <| x_asg (sc cB false rfl) <| seqN [(4, .d (cB.enc false))] (by kernel_rfl) <|
    xn <| wpC_ret <| rb <| rt <| rt <| rt <| rb <| rt <| rt <| re <| fin h (r1 (ss rfl rfl) <| r0) rfl)
    (fun b86 h => wpC_skip <| xbb <| kpN [(0, .d ((cLs cI rfl).enc v0)), (1, .d ((cLs cI rfl).enc v1)), (12, .d (cI.enc (v0.length : Int))), (13, .d (cI.enc (k52 : Int)))] (by kernel_rfl) <| xn <| reg_s <| st rfl <| b_inc rfl rfl l50 hk54 <| st rfl <| mvd rfl rfl <| seqN [(0, .d ((cLs cI rfl).enc v0)), (1, .d ((cLs cI rfl).enc v1)), (12, .d (cI.enc (v0.length : Int))), (13, .d (cI.enc ((k52 + 1 : Nat) : Int)))] (by kernel_rfl) <|
    xn <| hn71 () h)⟩⟩⟩⟩⟩⟩⟩⟩⟩))

def rs_spec_DifferenceOf (r : (XCube × Bool)) : List D := [(cXCube (cLo cI) (cLo cI)).enc r.1, cB.enc r.2]
def m46 : MC := .seq (.reg [⟨some 2, .box (.t 0), none⟩,
    ⟨some 3, .box (.t 1), none⟩,
    ⟨some 4, .alloc (.agg [.slice true [], .slice true []]), none⟩,
    ⟨some 5, .asg (.c (.bool false)), none⟩] [2, 3, 4])
  (.seq (.kp [2, 3, 4] (.seq (.reg [⟨some 9, .ld 2 2 true, none⟩,
    ⟨some 10, .call 66 [(.t 9)], none⟩,
    ⟨some 11, .nt (.t 10), none⟩,
    ⟨some 12, .mv (.t 11), none⟩,
    ⟨some 13, .ld 3 2 true, some (12, false)⟩,
    ⟨some 14, .call 66 [(.t 13)], some (12, false)⟩,
    ⟨some 15, .nt (.t 14), some (12, false)⟩,
    ⟨some 16, .pick (.t 12) (.c (.bool true)) (.t 15), none⟩,
    ⟨some 17, .mv (.t 16), none⟩,
    ⟨some 18, .fa 2 0 0, some (17, false)⟩,
    ⟨some 19, .ld 18 1 false, some (17, false)⟩,
    ⟨some 20, .fa 3 0 0, some (17, false)⟩,
    ⟨some 21, .ld 20 1 false, some (17, false)⟩,
    ⟨some 22, .call 90 [(.t 19), (.t 21)], some (17, false)⟩,
    ⟨some 23, .nt (.t 22), some (17, false)⟩,
    ⟨some 24, .pick (.t 17) (.c (.bool true)) (.t 23), none⟩] [2, 3, 4, 24])
  (.cond (.t 24) (.seq (.reg [⟨some 25, .bld [.slice true [], .slice true []] [], none⟩,
    ⟨none, .st 4 (.t 25) 2, none⟩,
    ⟨some 5, .asg (.c (.bool false)), none⟩] [4, 5])
  (.ret)) (.skip))))
  (.seq (.reg [⟨some 26, .fa 2 0 0, none⟩,
    ⟨some 27, .ld 26 1 false, none⟩,
    ⟨some 28, .call 55 [(.t 27)], none⟩,
    ⟨some 29, .bld [.slice true [], .slice true []] [(0, (.t 28))], none⟩,
    ⟨some 6, .alloc (.agg [.slice true [], .slice true []]), none⟩,
    ⟨none, .st 6 (.t 29) 2, none⟩] [2, 3, 4, 6])
  (.seq (.kp [4, 6] (.seq (.reg [⟨some 30, .fa 2 1 1, none⟩,
    ⟨some 31, .ld 30 1 false, none⟩,
    ⟨some 32, .len false (.t 31), none⟩,
    ⟨some 33, .mv (.c (.int .i64 0)), none⟩] [2, 3, 4, 6, 30, 31, 32, 33])
  (.blk 0 (.loop (.seq (.reg [⟨some 34, .bin .lss (.t 33) (.t 32), none⟩] [2, 3, 4, 6, 30, 31, 32, 33, 34])
  (.seq (.kp [2, 3, 4, 6, 30, 31, 32, 33] (.cond (.t 34) (.skip) (.exit 0)))
  (.seq (.kp [2, 3, 4, 6, 30, 31, 32, 33] (.blk 1 (.seq (.reg [⟨some 35, .mv (.t 33), none⟩,
    ⟨some 36, .ia 31 (.t 33) 1, none⟩,
    ⟨some 37, .ld 36 1 false, none⟩,
    ⟨some 7, .asg (.t 35), none⟩,
    ⟨some 8, .asg (.t 37), none⟩] [2, 3, 4, 6, 7, 8, 30, 31, 32, 33])
  (.drw [⟨0, ⟨some 38, .fa 6 1 1, none⟩, [39, 40, 41, 42, 43, 44, 45, 46, 47]⟩,
    ⟨1, ⟨some 39, .ld 38 1 false, none⟩, [40, 41, 42, 43, 44, 45, 46, 47]⟩,
    ⟨2, ⟨some 40, .mv (.t 8), none⟩, [38, 39, 41, 42, 43, 44, 45, 46, 47]⟩,
    ⟨3, ⟨some 41, .fa 3 1 1, none⟩, [38, 39, 40, 42, 43, 44, 45, 46, 47]⟩,
    ⟨4, ⟨some 42, .ld 41 1 false, none⟩, [38, 39, 40, 43, 44, 45, 46, 47]⟩,
    ⟨5, ⟨some 43, .mv (.t 7), none⟩, [38, 39, 40, 41, 42, 44, 45, 46, 47]⟩,
    ⟨6, ⟨some 44, .ia 42 (.t 43) 1, none⟩, [38, 39, 40, 45, 46, 47]⟩,
    ⟨7, ⟨some 45, .ld 44 1 false, none⟩, [38, 39, 40, 46, 47]⟩,
    ⟨8, ⟨some 46, .bin .sub (.t 40) (.t 45), none⟩, [38, 39, 47]⟩,
    ⟨9, ⟨some 47, .bsl [(.t 46)] 1, none⟩, [38, 39]⟩]
    [(10, ⟨some 48, .app (.t 39) (.t 47) 1, none⟩),
    (11, ⟨some 49, .fa 6 1 1, none⟩),
    (12, ⟨none, .st 49 (.t 48) 1, none⟩)] [2, 3, 4, 6, 30, 31, 32, 33]))))
  (.reg [⟨some 50, .bin .add (.t 33) (.c (.int .i64 1)), none⟩,
    ⟨some 33, .mv (.t 50), none⟩] [2, 3, 4, 6, 30, 31, 32, 33]))))))))
  (.seq (.reg [⟨some 51, .ld 6 2 true, none⟩,
    ⟨some 52, .callT 87 [(true, (.t 51))], none⟩,
    ⟨some 53, .ext 52 0, none⟩,
    ⟨some 54, .ext 52 1, none⟩,
    ⟨none, .st 4 (.t 53) 2, none⟩,
    ⟨some 5, .asg (.t 54), none⟩] [4, 5])
  (.ret)))))
theorem con_spec_DifferenceOf {v0 : XCube} {v1 : XCube} {r : (XCube × Bool)} (h : sh_spec_DifferenceOf v0 v1 = some r) : Con Try.prog 46 [(cXCube (cLs cI rfl) (cLs cI rfl)).enc v0, (cXCube (cLs cI rfl) (cLs cI rfl)).enc v1] [] (rs_spec_DifferenceOf r) := by
  delta sh_spec_DifferenceOf at h
  refine top (out := none) (f := Try.f46) (m := m46) (rs := [.c 4 2 true, .t 5]) (by kernel_rfl) rfl (by kernel_rfl) (by kernel_rfl) (by kernel_rfl) (by kernel_rfl) (by kernel_rfl) ?_
  exact
   ini [(0, .d ((cXCube (cLs cI rfl) (cLs cI rfl)).enc v0)), (1, .d ((cXCube (cLs cI rfl) (cLs cI rfl)).enc v1))] rfl <| wpC_seq <| reg_s <| x_box (ss rfl rfl) <| x_box (ss rfl rfl) <| x_all (cXCube (cLo cI) (cLo cI)) (⟨([] : List Int), ([] : List Int)⟩ : XCube) rfl <| x_asg (sc cB false rfl) <| seqN [(2, .box ((cXCube (cLs cI rfl) (cLs cI rfl)).enc v0)), (3, .box ((cXCube (cLs cI rfl) (cLs cI rfl)).enc v1)), (4, .box ((cXCube (cLo cI) (cLo cI)).enc (⟨([] : List Int), ([] : List Int)⟩ : XCube)))] (by kernel_rfl) <|
    xn <| wpC_seq <| wpC_kp <| wpC_seq <| reg_s <| st rfl <| ldb rfl rfl rfl rfl <| bnd h fun x26 e27 h => st rfl <| o_call (a1 (c := (cXCube (cLs cI rfl) (cLs cI rfl))) (tXCube (tLs tK) (tLs tK)) rfl a0) (con_spec_cbGood e27) (.inl (so1 sB so0)) <| st rfl <| o_nt rfl <| st rfl <| mvd rfl rfl <| ite_k h (fun b28 h => gf rfl b28 <| gf rfl b28 <| gf rfl b28 <| st rfl <| pick1 rfl b28 (cd := cB) (v := true) rfl rfl <| st rfl <| mvd rfl rfl <| gf rfl rfl <| gf rfl rfl <| gf rfl rfl <| gf rfl rfl <| gf rfl rfl <| gf rfl rfl <| st rfl <| pick1 rfl rfl (cd := cB) (v := true) rfl rfl <| seqN [(2, .box ((cXCube (cLs cI rfl) (cLs cI rfl)).enc v0)), (3, .box ((cXCube (cLs cI rfl) (cLs cI rfl)).enc v1)), (4, .box ((cXCube (cLo cI) (cLo cI)).enc (⟨([] : List Int), ([] : List Int)⟩ : XCube))), (24, .d (cB.enc true))] (by kernel_rfl) <|
    xn <| cnd1 rfl rfl <| wpC_seq <| reg_s <| x_bld ((cXCube (cLo cI) (cLo cI)).enc (⟨([] : List Int), ([] : List Int)⟩ : XCube)) t0 rfl rfl <| x_stb (so rfl rfl) rfl (Cd.h_sz _ _) rfl <| x_asg (sc cB false rfl) <| seqN [(4, .box ((cXCube (cLo cI) (cLo cI)).enc (⟨([] : List Int), ([] : List Int)⟩ : XCube))), (5, .d (cB.enc false))] (by kernel_rfl) <|
    xn <| wpC_ret <| rt <| rt <| re <| fin h (r2 rfl rfl rfl <| r1 (ss rfl rfl) <| r0) rfl)
    (fun b28 h => gt' rfl b28 <| st rfl <| ldb rfl rfl rfl rfl <| gt' rfl b28 <| bnd h fun x29 e30 h => st rfl <| o_call (a1 (c := (cXCube (cLs cI rfl) (cLs cI rfl))) (tXCube (tLs tK) (tLs tK)) rfl a0) (con_spec_cbGood e30) (.inl (so1 sB so0)) <| gt' rfl b28 <| st rfl <| o_nt rfl <| st rfl <| pick0 rfl b28 (cd := cB) (v := (!x29)) rfl rfl <| st rfl <| mvd rfl rfl <| ite_k h (fun b31 h => gf rfl b31 <| gf rfl b31 <| gf rfl b31 <| gf rfl b31 <| gf rfl b31 <| gf rfl b31 <| st rfl <| pick1 rfl b31 (cd := cB) (v := true) rfl rfl <| seqN [(2, .box ((cXCube (cLs cI rfl) (cLs cI rfl)).enc v0)), (3, .box ((cXCube (cLs cI rfl) (cLs cI rfl)).enc v1)), (4, .box ((cXCube (cLo cI) (cLo cI)).enc (⟨([] : List Int), ([] : List Int)⟩ : XCube))), (24, .d (cB.enc true))] (by kernel_rfl) <|
    xn <| cnd1 rfl rfl <| wpC_seq <| reg_s <| x_bld ((cXCube (cLo cI) (cLo cI)).enc (⟨([] : List Int), ([] : List Int)⟩ : XCube)) t0 rfl rfl <| x_stb (so rfl rfl) rfl (Cd.h_sz _ _) rfl <| x_asg (sc cB false rfl) <| seqN [(4, .box ((cXCube (cLo cI) (cLo cI)).enc (⟨([] : List Int), ([] : List Int)⟩ : XCube))), (5, .d (cB.enc false))] (by kernel_rfl) <|
    xn <| wpC_ret <| rt <| rt <| re <| fin h (r2 rfl rfl rfl <| r1 (ss rfl rfl) <| r0) rfl)
    (fun b31 h => gt' rfl b31 <| st rfl <| fab rfl rfl rfl rfl <| gt' rfl b31 <| st rfl <| lda rfl rfl rfl rfl rfl rfl <| gt' rfl b31 <| st rfl <| fab rfl rfl rfl rfl <| gt' rfl b31 <| st rfl <| lda rfl rfl rfl rfl rfl rfl <| gt' rfl b31 <| bnd h fun x32 e33 h => st rfl <| o_call (a1 (c := (cLs cI rfl)) (tLs tK) rfl (a1 (c := (cLs cI rfl)) (tLs tK) rfl a0)) (con_spec_l1Same e33) (.inl (so1 sB so0)) <| gt' rfl b31 <| st rfl <| o_nt rfl <| st rfl <| pick0 rfl b31 (cd := cB) (v := (!x32)) rfl rfl <| seqN [(2, .box ((cXCube (cLs cI rfl) (cLs cI rfl)).enc v0)), (3, .box ((cXCube (cLs cI rfl) (cLs cI rfl)).enc v1)), (4, .box ((cXCube (cLo cI) (cLo cI)).enc (⟨([] : List Int), ([] : List Int)⟩ : XCube))), (24, .d (cB.enc (!x32)))] (by kernel_rfl) <|
    xn <| cnd rfl h (fun b34 h => wpC_seq <| reg_s <| x_bld ((cXCube (cLo cI) (cLo cI)).enc (⟨([] : List Int), ([] : List Int)⟩ : XCube)) t0 rfl rfl <| x_stb (so rfl rfl) rfl (Cd.h_sz _ _) rfl <| x_asg (sc cB false rfl) <| seqN [(4, .box ((cXCube (cLo cI) (cLo cI)).enc (⟨([] : List Int), ([] : List Int)⟩ : XCube))), (5, .d (cB.enc false))] (by kernel_rfl) <|
    xn <| wpC_ret <| rt <| rt <| re <| fin h (r2 rfl rfl rfl <| r1 (ss rfl rfl) <| r0) rfl)
    (fun b34 h => wpC_skip <| kpN [(2, .box ((cXCube (cLs cI rfl) (cLs cI rfl)).enc v0)), (3, .box ((cXCube (cLs cI rfl) (cLs cI rfl)).enc v1)), (4, .box ((cXCube (cLo cI) (cLo cI)).enc (⟨([] : List Int), ([] : List Int)⟩ : XCube)))] (by kernel_rfl) <| xn <| wpC_seq <| reg_s <| st rfl <| fab rfl rfl rfl rfl <| st rfl <| lda rfl rfl rfl rfl rfl rfl <| bnd h fun x37 e38 h => st rfl <| o_call (a1 (c := (cLs cI rfl)) (tLs tK) rfl a0) (con_spec_l1Own e38) (.inl (so1 (sLo sK) so0)) <| x_bld ((cXCube (cLo cI) (cLo cI)).enc (⟨x37, ([] : List Int)⟩ : XCube)) (t1 (so rfl rfl) rfl t0) rfl rfl <| x_all (cXCube (cLo cI) (cLo cI)) (⟨([] : List Int), ([] : List Int)⟩ : XCube) rfl <| x_stb (so rfl rfl) rfl (Cd.h_sz _ _) rfl <| seqN [(2, .box ((cXCube (cLs cI rfl) (cLs cI rfl)).enc v0)), (3, .box ((cXCube (cLs cI rfl) (cLs cI rfl)).enc v1)), (4, .box ((cXCube (cLo cI) (cLo cI)).enc (⟨([] : List Int), ([] : List Int)⟩ : XCube))), (6, .box ((cXCube (cLo cI) (cLo cI)).enc (⟨x37, ([] : List Int)⟩ : XCube)))] (by kernel_rfl) <|
    xn <| wpC_seq <| wpC_kp <| wpC_seq <| reg_s <| st rfl <| fab rfl rfl rfl rfl <| st rfl <| lda rfl rfl rfl rfl rfl rfl <| stw rfl <| lens rfl fun l80 => st rfl <| mvc cI (0 : Int) rfl <| seqN [(2, .box ((cXCube (cLs cI rfl) (cLs cI rfl)).enc v0)), (3, .box ((cXCube (cLs cI rfl) (cLs cI rfl)).enc v1)), (4, .box ((cXCube (cLo cI) (cLo cI)).enc (⟨([] : List Int), ([] : List Int)⟩ : XCube))), (6, .box ((cXCube (cLo cI) (cLo cI)).enc (⟨x37, ([] : List Int)⟩ : XCube))), (30, .adr 2 [.fld 1]), (31, .d ((cLs cI rfl).enc v0.Cells)), (32, .d (cI.enc (v0.Cells.length : Int))), (33, .d (cI.enc (0 : Int)))] (by kernel_rfl) <|
    xn <| wpC_blk <| lpR (fun (k82 : Nat) (s81 : XCube) => [(2, .box ((cXCube (cLs cI rfl) (cLs cI rfl)).enc v0)), (3, .box ((cXCube (cLs cI rfl) (cLs cI rfl)).enc v1)), (4, .box ((cXCube (cLo cI) (cLo cI)).enc (⟨([] : List Int), ([] : List Int)⟩ : XCube))), (6, .box ((cXCube (cLo cI) (cLo cI)).enc s81)), (30, .adr 2 [.fld 1]), (31, .d ((cLs cI rfl).enc v0.Cells)), (32, .d (cI.enc (v0.Cells.length : Int))), (33, .d (cI.enc (k82 : Int)))]) (⟨x37, ([] : List Int)⟩ : XCube) rfl h
    (fun G108 s81 h => wpC_seq <| reg_s <| st rfl <| b_lss (k := .i64) rfl rfl <| seqN [(2, .box ((cXCube (cLs cI rfl) (cLs cI rfl)).enc v0)), (3, .box ((cXCube (cLs cI rfl) (cLs cI rfl)).enc v1)), (4, .box ((cXCube (cLo cI) (cLo cI)).enc (⟨([] : List Int), ([] : List Int)⟩ : XCube))), (6, .box ((cXCube (cLo cI) (cLo cI)).enc s81)), (30, .adr 2 [.fld 1]), (31, .d ((cLs cI rfl).enc v0.Cells)), (32, .d (cI.enc (v0.Cells.length : Int))), (33, .d (cI.enc (v0.Cells.length : Int))), (34, .d (cB.enc (decide ((v0.Cells.length : Int) < (v0.Cells.length : Int)))))] (by kernel_rfl) <|
    xn <| wpC_seq <| wpC_kp <| cnd0 rfl (dlf _) <| wpC_exit <| xt <| xt <| xt <| xb <| kpN [(4, .box ((cXCube (cLo cI) (cLo cI)).enc (⟨([] : List Int), ([] : List Int)⟩ : XCube))), (6, .box ((cXCube (cLo cI) (cLo cI)).enc s81))] (by kernel_rfl) <| xn <| wpC_seq <| reg_s <| st rfl <| ldbo rfl rfl rfl rfl <| bnd h fun x111 e112 h => x_clt (k1 (sb rfl rfl) k0) (m1 m0) (con_spec_cbIf e112) (so1 (sXCube (sLo sK) (sLo sK)) (so1 sB so0)) <| x_ext rfl rfl <| x_ext rfl rfl <| x_stb (so rfl rfl) rfl (Cd.h_sz _ _) rfl <| x_asg (ss rfl rfl) <| seqN [(4, .box ((cXCube (cLo cI) (cLo cI)).enc x111.1)), (5, .d (cB.enc x111.2))] (by kernel_rfl) <|
    xn <| wpC_ret <| re <| fin h (r2 rfl rfl rfl <| r1 (ss rfl rfl) <| r0) rfl)
    (fun G108 nx106 k82 s81 x83 hk84 hx85 hn107 h => wpC_seq <| reg_s <| st rfl <| b_lss (k := .i64) rfl rfl <| seqN [(2, .box ((cXCube (cLs cI rfl) (cLs cI rfl)).enc v0)), (3, .box ((cXCube (cLs cI rfl) (cLs cI rfl)).enc v1)), (4, .box ((cXCube (cLo cI) (cLo cI)).enc (⟨([] : List Int), ([] : List Int)⟩ : XCube))), (6, .box ((cXCube (cLo cI) (cLo cI)).enc s81)), (30, .adr 2 [.fld 1]), (31, .d ((cLs cI rfl).enc v0.Cells)), (32, .d (cI.enc (v0.Cells.length : Int))), (33, .d (cI.enc (k82 : Int))), (34, .d (cB.enc (decide ((k82 : Int) < (v0.Cells.length : Int)))))] (by kernel_rfl) <|
    xn <| wpC_seq <| wpC_kp <| cnd1 rfl (dlt hk84) <| wpC_skip <| kpN [(2, .box ((cXCube (cLs cI rfl) (cLs cI rfl)).enc v0)), (3, .box ((cXCube (cLs cI rfl) (cLs cI rfl)).enc v1)), (4, .box ((cXCube (cLo cI) (cLo cI)).enc (⟨([] : List Int), ([] : List Int)⟩ : XCube))), (6, .box ((cXCube (cLo cI) (cLo cI)).enc s81)), (30, .adr 2 [.fld 1]), (31, .d ((cLs cI rfl).enc v0.Cells)), (32, .d (cI.enc (v0.Cells.length : Int))), (33, .d (cI.enc (k82 : Int)))] (by kernel_rfl) <| xn <| wpC_seq <| wpC_kp <| wpC_blk <| wpC_seq <| reg_s <| st rfl <| mvd rfl rfl <| st rfl <| ias rfl rfl (Int.natCast_nonneg _) hx85 rfl <| st rfl <| ldi rfl rfl rfl rfl <| x_asg (ss rfl rfl) <| x_asg (ss rfl rfl) <| seqN [(2, .box ((cXCube (cLs cI rfl) (cLs cI rfl)).enc v0)), (3, .box ((cXCube (cLs cI rfl) (cLs cI rfl)).enc v1)), (4, .box ((cXCube (cLo cI) (cLo cI)).enc (⟨([] : List Int), ([] : List Int)⟩ : XCube))), (6, .box ((cXCube (cLo cI) (cLo cI)).enc s81)), (7, .d (cI.enc (k82 : Int))), (8, .d (cI.enc x83)), (30, .adr 2 [.fld 1]), (31, .d ((cLs cI rfl).enc v0.Cells)), (32, .d (cI.enc (v0.Cells.length : Int))), (33, .d (cI.enc (k82 : Int)))] (by kernel_rfl) <|
    xn <| drw_s <| pst rfl <| fab rfl rfl rfl rfl ⟨rfl, pst rfl <| ldao rfl rfl rfl rfl rfl rfl ⟨rfl, pst rfl <| mvd rfl rfl ⟨rfl, pst rfl <| fab rfl rfl rfl rfl ⟨rfl, pst rfl <| lda rfl rfl rfl rfl rfl rfl ⟨rfl, pst rfl <| mvd rfl rfl ⟨rfl, getO_kp h fun x118 i119 g120 h => pst rfl <| ias rfl rfl i119 g120 rfl ⟨rfl, pst rfl <| ldi rfl rfl rfl rfl ⟨rfl, ckI_kp h fun i121 h => pst rfl <| b_sub (k := .i64) rfl rfl i121 ⟨rfl, pst rfl <| p_bsl cI [(x83 - x118)] (e1 rfl rfl rfl e0) rfl rfl ⟨rfl, preN <| lnO_k h fun l122 h => x_app (sp ((cXCube (cLo cI) (cH (α := (List Int)))).enc (⟨s81.Sizes, s81.Cells⟩ : XCube)) rfl rfl (Ln.fld rfl rfl Ln.nil rfl)) (to rfl rfl) l122 rfl <| st rfl <| fab rfl rfl rfl rfl <| x_sta ((cXCube (cLo cI) (cLo cI)).enc (⟨s81.Sizes, (s81.Cells ++ [(x83 - x118)])⟩ : XCube)) (so rfl rfl) rfl rfl (Ln.fld rfl rfl Ln.nil rfl) (Cd.h_sz (cH (α := (List Int))) _) rfl <| seqN [(2, .box ((cXCube (cLs cI rfl) (cLs cI rfl)).enc v0)), (3, .box ((cXCube (cLs cI rfl) (cLs cI rfl)).enc v1)), (4, .box ((cXCube (cLo cI) (cLo cI)).enc (⟨([] : List Int), ([] : List Int)⟩ : XCube))), (6, .box ((cXCube (cLo cI) (cLo cI)).enc (⟨s81.Sizes, (s81.Cells ++ [(x83 - x118)])⟩ : XCube))), (30, .adr 2 [.fld 1]), (31, .d ((cLs cI rfl).enc v0.Cells)), (32, .d (cI.enc (v0.Cells.length : Int))), (33, .d (cI.enc (k82 : Int)))] (by kernel_rfl) <|
    xbb <| kpN [(2, .box ((cXCube (cLs cI rfl) (cLs cI rfl)).enc v0)), (3, .box ((cXCube (cLs cI rfl) (cLs cI rfl)).enc v1)), (4, .box ((cXCube (cLo cI) (cLo cI)).enc (⟨([] : List Int), ([] : List Int)⟩ : XCube))), (6, .box ((cXCube (cLo cI) (cLo cI)).enc (⟨s81.Sizes, (s81.Cells ++ [(x83 - x118)])⟩ : XCube))), (30, .adr 2 [.fld 1]), (31, .d ((cLs cI rfl).enc v0.Cells)), (32, .d (cI.enc (v0.Cells.length : Int))), (33, .d (cI.enc (k82 : Int)))] (by kernel_rfl) <| xn <| reg_s <| st rfl <| b_inc rfl rfl l80 hk84 <| st rfl <| mvd rfl rfl <| seqN [(2, .box ((cXCube (cLs cI rfl) (cLs cI rfl)).enc v0)), (3, .box ((cXCube (cLs cI rfl) (cLs cI rfl)).enc v1)), (4, .box ((cXCube (cLo cI) (cLo cI)).enc (⟨([] : List Int), ([] : List Int)⟩ : XCube))), (6, .box ((cXCube (cLo cI) (cLo cI)).enc (⟨s81.Sizes, (s81.Cells ++ [(x83 - x118)])⟩ : XCube))), (30, .adr 2 [.fld 1]), (31, .d ((cLs cI rfl).enc v0.Cells)), (32, .d (cI.enc (v0.Cells.length : Int))), (33, .d (cI.enc ((k82 + 1 : Nat) : Int)))] (by kernel_rfl) <|
    xn <| hn107 (⟨s81.Sizes, (s81.Cells ++ [(x83 - x118)])⟩ : XCube) h⟩⟩⟩⟩⟩⟩⟩⟩⟩⟩))))

def rs_slices_Equal_int (r : Bool) : List D := [cB.enc r]
def m91 : MC := .seq (.reg [⟨some 4, .asg (.c (.bool false)), none⟩] [0, 1])
  (.seq (.kp [0, 1] (.seq (.reg [⟨some 6, .mv (.t 0), none⟩,
    ⟨some 7, .len false (.t 6), none⟩,
    ⟨some 8, .mv (.t 1), none⟩,
    ⟨some 9, .len false (.t 8), none⟩,
    ⟨some 10, .bin .neq (.t 7) (.t 9), none⟩] [0, 1, 10])
  (.cond (.t 10) (.seq (.reg [⟨some 4, .asg (.c (.bool false)), none⟩] [4])
  (.ret)) (.skip))))
  (.seq (.kp [] (.seq (.reg [⟨some 11, .mv (.t 0), none⟩,
    ⟨some 12, .len false (.t 11), none⟩,
    ⟨some 13, .mv (.c (.int .i64 0)), none⟩] [0, 1, 12, 13])
  (.blk 0 (.loop (.seq (.reg [⟨some 14, .bin .lss (.t 13) (.t 12), none⟩] [0, 1, 12, 13, 14])
  (.seq (.kp [0, 1, 12, 13] (.cond (.t 14) (.skip) (.exit 0)))
  (.seq (.kp [0, 1, 12, 13] (.blk 1 (.seq (.reg [⟨some 15, .mv (.t 13), none⟩,
    ⟨some 5, .asg (.t 15), none⟩] [0, 1, 5, 12, 13])
  (.seq (.drw [⟨0, ⟨some 16, .mv (.t 0), none⟩, [17, 18, 19, 20, 21, 22, 23, 24]⟩,
    ⟨1, ⟨some 17, .mv (.t 5), none⟩, [16, 18, 19, 20, 21, 22, 23, 24]⟩,
    ⟨2, ⟨some 18, .ia 16 (.t 17) 1, none⟩, [19, 20, 21, 22, 23, 24]⟩,
    ⟨3, ⟨some 19, .ld 18 1 false, none⟩, [20, 21, 22, 23, 24]⟩,
    ⟨4, ⟨some 20, .mv (.t 1), none⟩, [16, 17, 18, 19, 21, 22, 23, 24]⟩,
    ⟨5, ⟨some 21, .mv (.t 5), none⟩, [16, 17, 18, 19, 20, 22, 23, 24]⟩,
    ⟨6, ⟨some 22, .ia 20 (.t 21) 1, none⟩, [16, 17, 18, 19, 23, 24]⟩,
    ⟨7, ⟨some 23, .ld 22 1 false, none⟩, [16, 17, 18, 19, 24]⟩,
    ⟨8, ⟨some 24, .bin .neq (.t 19) (.t 23), none⟩, []⟩]
    [] [0, 1, 12, 13, 24])
  (.cond (.t 24) (.seq (.reg [⟨some 4, .asg (.c (.bool false)), none⟩] [4])
  (.ret)) (.skip))))))
  (.reg [⟨some 25, .bin .add (.t 13) (.c (.int .i64 1)), none⟩,
    ⟨some 13, .mv (.t 25), none⟩] [0, 1, 12, 13]))))))))
  (.seq (.reg [⟨some 4, .asg (.c (.bool true)), none⟩] [4])
  (.ret))))
theorem con_slices_Equal_int {v0 : (List Int)} {v1 : (List Int)} {r : Bool} (h : sh_slices_Equal_int v0 v1 = some r) : Con Try.prog 91 [(cLs cI rfl).enc v0, (cLs cI rfl).enc v1] [] (rs_slices_Equal_int r) := by
  delta sh_slices_Equal_int at h
  refine top (out := none) (f := Try.f91) (m := m91) (rs := [.t 4]) (by kernel_rfl) rfl (by kernel_rfl) (by kernel_rfl) (by kernel_rfl) (by kernel_rfl) (by kernel_rfl) ?_
  exact
   ini [(0, .d ((cLs cI rfl).enc v0)), (1, .d ((cLs cI rfl).enc v1))] rfl <| wpC_seq <| reg_s <| x_asg (sc cB false rfl) <| seqN [(0, .d ((cLs cI rfl).enc v0)), (1, .d ((cLs cI rfl).enc v1))] (by kernel_rfl) <|
    xn <| wpC_seq <| wpC_kp <| wpC_seq <| reg_s <| st rfl <| mvd rfl rfl <| stw rfl <| lens rfl fun l8 => st rfl <| mvd rfl rfl <| stw rfl <| lens rfl fun l9 => st rfl <| b_neq (k := .i64) rfl rfl <| seqN [(0, .d ((cLs cI rfl).enc v0)), (1, .d ((cLs cI rfl).enc v1)), (10, .d (cB.enc (decide ((v0.length : Int) ≠ (v1.length : Int)))))] (by kernel_rfl) <|
    xn <| cnd rfl h (fun b10 h => wpC_seq <| reg_s <| x_asg (sc cB false rfl) <| seqN [(4, .d (cB.enc false))] (by kernel_rfl) <|
    xn <| wpC_ret <| rt <| rt <| re <| fin h (r1 (ss rfl rfl) <| r0) rfl)
    (fun b10 h => wpC_skip <| kpN [(0, .d ((cLs cI rfl).enc v0)), (1, .d ((cLs cI rfl).enc v1))] (by kernel_rfl) <| xn <| wpC_seq <| wpC_kp <| wpC_seq <| reg_s <| st rfl <| mvd rfl rfl <| stw rfl <| lens rfl fun l50 => st rfl <| mvc cI (0 : Int) rfl <| seqN [(0, .d ((cLs cI rfl).enc v0)), (1, .d ((cLs cI rfl).enc v1)), (12, .d (cI.enc (v0.length : Int))), (13, .d (cI.enc (0 : Int)))] (by kernel_rfl) <|
    xn <| wpC_blk <| lpR (fun (k52 : Nat) (s51 : Unit) => [(0, .d ((cLs cI rfl).enc v0)), (1, .d ((cLs cI rfl).enc v1)), (12, .d (cI.enc (v0.length : Int))), (13, .d (cI.enc (k52 : Int)))]) () rfl h
    (fun G72 s51 h => wpC_seq <| reg_s <| st rfl <| b_lss (k := .i64) rfl rfl <| seqN [(0, .d ((cLs cI rfl).enc v0)), (1, .d ((cLs cI rfl).enc v1)), (12, .d (cI.enc (v0.length : Int))), (13, .d (cI.enc (v0.length : Int))), (14, .d (cB.enc (decide ((v0.length : Int) < (v0.length : Int)))))] (by kernel_rfl) <|
    xn <| wpC_seq <| wpC_kp <| cnd0 rfl (dlf _) <| wpC_exit <| xt <| xt <| xt <| xb <| kpN [] (by kernel_rfl) <| xn <| wpC_seq <| reg_s <| x_asg (sc cB true rfl) <| seqN [(4, .d (cB.enc true))] (by kernel_rfl) <|
    xn <| wpC_ret <| re <| fin h (r1 (ss rfl rfl) <| r0) rfl)
    (fun G72 nx70 k52 s51 x53 hk54 hx55 hn71 h => wpC_seq <| reg_s <| st rfl <| b_lss (k := .i64) rfl rfl <| seqN [(0, .d ((cLs cI rfl).enc v0)), (1, .d ((cLs cI rfl).enc v1)), (12, .d (cI.enc (v0.length : Int))), (13, .d (cI.enc (k52 : Int))), (14, .d (cB.enc (decide ((k52 : Int) < (v0.length : Int)))))] (by kernel_rfl) <|
    xn <| wpC_seq <| wpC_kp <| cnd1 rfl (dlt hk54) <| wpC_skip <| kpN [(0, .d ((cLs cI rfl).enc v0)), (1, .d ((cLs cI rfl).enc v1)), (12, .d (cI.enc (v0.length : Int))), (13, .d (cI.enc (k52 : Int)))] (by kernel_rfl) <| xn <| wpC_seq <| wpC_kp <| wpC_blk <| wpC_seq <| reg_s <| st rfl <| mvd rfl rfl <| x_asg (ss rfl rfl) <| seqN [(0, .d ((cLs cI rfl).enc v0)), (1, .d ((cLs cI rfl).enc v1)), (5, .d (cI.enc (k52 : Int))), (12, .d (cI.enc (v0.length : Int))), (13, .d (cI.enc (k52 : Int)))] (by kernel_rfl) <|
    xn <| wpC_seq <| drw_s <| pst rfl <| mvd rfl rfl ⟨rfl, pst rfl <| mvd rfl rfl ⟨rfl, pst rfl <| ias rfl rfl (Int.natCast_nonneg _) hx55 rfl ⟨rfl, pst rfl <| ldi rfl rfl rfl rfl ⟨rfl, pst rfl <| mvd rfl rfl ⟨rfl, pst rfl <| mvd rfl rfl ⟨rfl, getO_kp h fun x83 i84 g85 h => pst rfl <| ias rfl rfl i84 g85 rfl ⟨rfl, pst rfl <| ldi rfl rfl rfl rfl ⟨rfl, pst rfl <| b_neq (k := .i64) rfl rfl ⟨rfl, preN <| seqN [(0, .d ((cLs cI rfl).enc v0)), (1, .d ((cLs cI rfl).enc v1)), (12, .d (cI.enc (v0.length : Int))), (13, .d (cI.enc (k52 : Int))), (24, .d (cB.enc (decide (x53 ≠ x83))))] (by kernel_rfl) <|
    xn <| cnd rfl h (fun b86 h => wpC_seq <| reg_s <| x_asg (sc cB false rfl) <| seqN [(4, .d (cB.enc false))] (by kernel_rfl) <|
    xn <| wpC_ret <| rb <| rt <| rt <| rt <| rb <| rt <| rt <| re <| fin h (r1 (ss rfl rfl) <| r0) rfl)
    (fun b86 h => wpC_skip <| xbb <| kpN [(0, .d ((cLs cI rfl).enc v0)), (1, .d ((cLs cI rfl).enc v1)), (12, .d (cI.enc (v0.length : Int))), (13, .d (cI.enc (k52 : Int)))] (by kernel_rfl) <| xn <| reg_s <| st rfl <| b_inc rfl rfl l50 hk54 <| st rfl <| mvd rfl rfl <| seqN [(0, .d ((cLs cI rfl).enc v0)), (1, .d ((cLs cI rfl).enc v1)), (12, .d (cI.enc (v0.length : Int))), (13, .d (cI.enc ((k52 + 1 : Nat) : Int)))] (by kernel_rfl) <|
    xn <| hn71 () h)⟩⟩⟩⟩⟩⟩⟩⟩⟩))

def rs_impl_DifferenceOf (r : (XCube × Bool)) : List D := [(cXCube (cLo cI) (cLo cI)).enc r.1, cB.enc r.2]
def m47 : MC := .seq (.reg [⟨some 2, .box (.t 0), none⟩,
    ⟨some 3, .box (.t 1), none⟩,
    ⟨some 4, .alloc (.agg [.slice true [], .slice true []]), none⟩,
    ⟨some 5, .asg (.c (.bool false)), none⟩] [2, 3, 4])
  (.seq (.kp [2, 3, 4] (.seq (.reg [⟨some 9, .ld 2 2 true, none⟩,
    ⟨some 10, .call 29 [(.t 9)], none⟩,
    ⟨some 11, .nt (.t 10), none⟩,
    ⟨some 12, .mv (.t 11), none⟩,
    ⟨some 13, .ld 3 2 true, some (12, false)⟩,
    ⟨some 14, .call 29 [(.t 13)], some (12, false)⟩,
    ⟨some 15, .nt (.t 14), some (12, false)⟩,
    ⟨some 16, .pick (.t 12) (.c (.bool true)) (.t 15), none⟩,
    ⟨some 17, .mv (.t 16), none⟩,
    ⟨some 18, .fa 2 0 0, some (17, false)⟩,
    ⟨some 19, .ld 18 1 false, some (17, false)⟩,
    ⟨some 20, .fa 3 0 0, some (17, false)⟩,
    ⟨some 21, .ld 20 1 false, some (17, false)⟩,
    ⟨some 22, .call 91 [(.t 19), (.t 21)], some (17, false)⟩,
    ⟨some 23, .nt (.t 22), some (17, false)⟩,
    ⟨some 24, .pick (.t 17) (.c (.bool true)) (.t 23), none⟩] [2, 3, 4, 24])
  (.cond (.t 24) (.seq (.reg [⟨some 25, .bld [.slice true [], .slice true []] [], none⟩,
    ⟨none, .st 4 (.t 25) 2, none⟩,
    ⟨some 5, .asg (.c (.bool false)), none⟩] [4, 5])
  (.ret)) (.skip))))
  (.seq (.drg [⟨0, ⟨some 26, .fa 2 0 0, none⟩, [6, 27, 28, 29, 30, 31]⟩,
    ⟨1, ⟨some 27, .ld 26 1 false, none⟩, [6, 28, 29, 30, 31]⟩,
    ⟨2, ⟨some 28, .call 57 [(.t 27)], none⟩, [6, 29, 30, 31]⟩,
    ⟨3, ⟨some 29, .fa 2 1 1, none⟩, [6, 26, 27, 28, 30, 31]⟩,
    ⟨4, ⟨some 30, .ld 29 1 false, none⟩, [6, 26, 27, 28, 31]⟩,
    ⟨5, ⟨some 31, .call 57 [(.t 30)], none⟩, [6]⟩,
    ⟨7, ⟨some 6, .alloc (.agg [.slice true [], .slice true []]), none⟩, [26, 27, 28, 29, 30, 31]⟩]
    [(7, ⟨some 6, .alloc (.agg [.slice true [], .slice true []]), none⟩),
    (6, ⟨some 32, .bld [.slice true [], .slice true []] [(0, (.t 28)), (1, (.t 31))], none⟩),
    (8, ⟨none, .st 6 (.t 32) 2, none⟩)] [3, 4, 6] [6, 28, 31, 32, 3, 4] [([false, false, false], 0), ([false, false, false], 1), ([true, false, false], 1), ([false, true, false], 0), ([true, true, false], 2)])
  (.seq (.kp [4, 6] (.seq (.reg [⟨some 33, .fa 3 1 1, none⟩,
    ⟨some 34, .ld 33 1 false, none⟩,
    ⟨some 35, .len false (.t 34), none⟩,
    ⟨some 36, .mv (.c (.int .i64 0)), none⟩] [3, 4, 6, 33, 34, 35, 36])
  (.blk 0 (.loop (.seq (.reg [⟨some 37, .bin .lss (.t 36) (.t 35), none⟩] [3, 4, 6, 33, 34, 35, 36, 37])
  (.seq (.kp [3, 4, 6, 33, 34, 35, 36] (.cond (.t 37) (.skip) (.exit 0)))
  (.seq (.kp [3, 4, 6, 33, 34, 35, 36] (.blk 1 (.seq (.reg [⟨some 38, .mv (.t 36), none⟩,
    ⟨some 39, .ia 34 (.t 36) 1, none⟩,
    ⟨some 40, .ld 39 1 false, none⟩,
    ⟨some 7, .asg (.t 38), none⟩,
    ⟨some 8, .asg (.t 40), none⟩] [3, 4, 6, 7, 8, 33, 34, 35, 36])
  (.reg [⟨some 41, .fa 6 1 1, none⟩,
    ⟨some 42, .ld 41 1 false, none⟩,
    ⟨some 43, .mv (.t 7), none⟩,
    ⟨some 44, .ia 42 (.t 43) 1, none⟩,
    ⟨some 45, .ld 44 1 false, none⟩,
    ⟨some 46, .mv (.t 8), none⟩,
    ⟨some 47, .bin .sub (.t 45) (.t 46), none⟩,
    ⟨some 48, .ia 42 (.t 43) 1, none⟩,
    ⟨none, .st 48 (.t 47) 1, none⟩] [3, 4, 6, 33, 34, 35, 36]))))
  (.reg [⟨some 49, .bin .add (.t 36) (.c (.int .i64 1)), none⟩,
    ⟨some 36, .mv (.t 49), none⟩] [3, 4, 6, 33, 34, 35, 36]))))))))
  (.seq (.kp [4, 6] (.seq (.reg [⟨some 50, .fa 6 1 1, none⟩,
    ⟨some 51, .ld 50 1 false, none⟩,
    ⟨some 52, .call 92 [(.t 51)], none⟩,
    ⟨some 53, .nt (.t 52), none⟩] [4, 6, 53])
  (.cond (.t 53) (.seq (.reg [⟨some 54, .bld [.slice true [], .slice true []] [], none⟩,
    ⟨none, .st 4 (.t 54) 2, none⟩,
    ⟨some 5, .asg (.c (.bool false)), none⟩] [4, 5])
  (.ret)) (.skip))))
  (.seq (.reg [⟨some 55, .ld 6 2 true, none⟩,
    ⟨none, .st 4 (.t 55) 2, none⟩,
    ⟨some 5, .asg (.c (.bool true)), none⟩] [4, 5])
  (.ret))))))
theorem con_impl_DifferenceOf {v0 : XCube} {v1 : XCube} {r : (XCube × Bool)} (h : sh_impl_DifferenceOf v0 v1 = some r) : Con Try.prog 47 [(cXCube (cLs cI rfl) (cLs cI rfl)).enc v0, (cXCube (cLs cI rfl) (cLs cI rfl)).enc v1] [] (rs_impl_DifferenceOf r) := by
  delta sh_impl_DifferenceOf at h
  refine top (out := none) (f := Try.f47) (m := m47) (rs := [.c 4 2 true, .t 5]) (by kernel_rfl) rfl (by kernel_rfl) (by kernel_rfl) (by kernel_rfl) (by kernel_rfl) (by kernel_rfl) ?_
  exact
   ini [(0, .d ((cXCube (cLs cI rfl) (cLs cI rfl)).enc v0)), (1, .d ((cXCube (cLs cI rfl) (cLs cI rfl)).enc v1))] rfl <| wpC_seq <| reg_s <| x_box (ss rfl rfl) <| x_box (ss rfl rfl) <| x_all (cXCube (cLo cI) (cLo cI)) (⟨([] : List Int), ([] : List Int)⟩ : XCube) rfl <| x_asg (sc cB false rfl) <| seqN [(2, .box ((cXCube (cLs cI rfl) (cLs cI rfl)).enc v0)), (3, .box ((cXCube (cLs cI rfl) (cLs cI rfl)).enc v1)), (4, .box ((cXCube (cLo cI) (cLo cI)).enc (⟨([] : List Int), ([] : List Int)⟩ : XCube)))] (by kernel_rfl) <|
    xn <| wpC_seq <| wpC_kp <| wpC_seq <| reg_s <| st rfl <| ldb rfl rfl rfl rfl <| bnd h fun x26 e27 h => st rfl <| o_call (a1 (c := (cXCube (cLs cI rfl) (cLs cI rfl))) (tXCube (tLs tK) (tLs tK)) rfl a0) (con_impl_IsCube e27) (.inl (so1 sB so0)) <| st rfl <| o_nt rfl <| st rfl <| mvd rfl rfl <| ite_k h (fun b28 h => gf rfl b28 <| gf rfl b28 <| gf rfl b28 <| st rfl <| pick1 rfl b28 (cd := cB) (v := true) rfl rfl <| st rfl <| mvd rfl rfl <| gf rfl rfl <| gf rfl rfl <| gf rfl rfl <| gf rfl rfl <| gf rfl rfl <| gf rfl rfl <| st rfl <| pick1 rfl rfl (cd := cB) (v := true) rfl rfl <| seqN [(2, .box ((cXCube (cLs cI rfl) (cLs cI rfl)).enc v0)), (3, .box ((cXCube (cLs cI rfl) (cLs cI rfl)).enc v1)), (4, .box ((cXCube (cLo cI) (cLo cI)).enc (⟨([] : List Int), ([] : List Int)⟩ : XCube))), (24, .d (cB.enc true))] (by kernel_rfl) <|
    xn <| cnd1 rfl rfl <| wpC_seq <| reg_s <| x_bld ((cXCube (cLo cI) (cLo cI)).enc (⟨([] : List Int), ([] : List Int)⟩ : XCube)) t0 rfl rfl <| x_stb (so rfl rfl) rfl (Cd.h_sz _ _) rfl <| x_asg (sc cB false rfl) <| seqN [(4, .box ((cXCube (cLo cI) (cLo cI)).enc (⟨([] : List Int), ([] : List Int)⟩ : XCube))), (5, .d (cB.enc false))] (by kernel_rfl) <|
    xn <| wpC_ret <| rt <| rt <| re <| fin h (r2 rfl rfl rfl <| r1 (ss rfl rfl) <| r0) rfl)
    (fun b28 h => gt' rfl b28 <| st rfl <| ldb rfl rfl rfl rfl <| gt' rfl b28 <| bnd h fun x29 e30 h => st rfl <| o_call (a1 (c := (cXCube (cLs cI rfl) (cLs cI rfl))) (tXCube (tLs tK) (tLs tK)) rfl a0) (con_impl_IsCube e30) (.inl (so1 sB so0)) <| gt' rfl b28 <| st rfl <| o_nt rfl <| st rfl <| pick0 rfl b28 (cd := cB) (v := (!x29)) rfl rfl <| st rfl <| mvd rfl rfl <| ite_k h (fun b31 h => gf rfl b31 <| gf rfl b31 <| gf rfl b31 <| gf rfl b31 <| gf rfl b31 <| gf rfl b31 <| st rfl <| pick1 rfl b31 (cd := cB) (v := true) rfl rfl <| seqN [(2, .box ((cXCube (cLs cI rfl) (cLs cI rfl)).enc v0)), (3, .box ((cXCube (cLs cI rfl) (cLs cI rfl)).enc v1)), (4, .box ((cXCube (cLo cI) (cLo cI)).enc (⟨([] : List Int), ([] : List Int)⟩ : XCube))), (24, .d (cB.enc true))] (by kernel_rfl) <|
    xn <| cnd1 rfl rfl <| wpC_seq <| reg_s <| x_bld ((cXCube (cLo cI) (cLo cI)).enc (⟨([] : List Int), ([] : List Int)⟩ : XCube)) t0 rfl rfl <| x_stb (so rfl rfl) rfl (Cd.h_sz _ _) rfl <| x_asg (sc cB false rfl) <| seqN [(4, .box ((cXCube (cLo cI) (cLo cI)).enc (⟨([] : List Int), ([] : List Int)⟩ : XCube))), (5, .d (cB.enc false))] (by kernel_rfl) <|
    xn <| wpC_ret <| rt <| rt <| re <| fin h (r2 rfl rfl rfl <| r1 (ss rfl rfl) <| r0) rfl)
    (fun b31 h => gt' rfl b31 <| st rfl <| fab rfl rfl rfl rfl <| gt' rfl b31 <| st rfl <| lda rfl rfl rfl rfl rfl rfl <| gt' rfl b31 <| st rfl <| fab rfl rfl rfl rfl <| gt' rfl b31 <| st rfl <| lda rfl rfl rfl rfl rfl rfl <| gt' rfl b31 <| bnd h fun x32 e33 h => st rfl <| o_call (a1 (c := (cLs cI rfl)) (tLs tK) rfl (a1 (c := (cLs cI rfl)) (tLs tK) rfl a0)) (con_slices_Equal_int e33) (.inl (so1 sB so0)) <| gt' rfl b31 <| st rfl <| o_nt rfl <| st rfl <| pick0 rfl b31 (cd := cB) (v := (!x32)) rfl rfl <| seqN [(2, .box ((cXCube (cLs cI rfl) (cLs cI rfl)).enc v0)), (3, .box ((cXCube (cLs cI rfl) (cLs cI rfl)).enc v1)), (4, .box ((cXCube (cLo cI) (cLo cI)).enc (⟨([] : List Int), ([] : List Int)⟩ : XCube))), (24, .d (cB.enc (!x32)))] (by kernel_rfl) <|
    xn <| cnd rfl h (fun b34 h => wpC_seq <| reg_s <| x_bld ((cXCube (cLo cI) (cLo cI)).enc (⟨([] : List Int), ([] : List Int)⟩ : XCube)) t0 rfl rfl <| x_stb (so rfl rfl) rfl (Cd.h_sz _ _) rfl <| x_asg (sc cB false rfl) <| seqN [(4, .box ((cXCube (cLo cI) (cLo cI)).enc (⟨([] : List Int), ([] : List Int)⟩ : XCube))), (5, .d (cB.enc false))] (by kernel_rfl) <|
    xn <| wpC_ret <| rt <| rt <| re <| fin h (r2 rfl rfl rfl <| r1 (ss rfl rfl) <| r0) rfl)
    (fun b34 h => wpC_skip <| kpN [(2, .box ((cXCube (cLs cI rfl) (cLs cI rfl)).enc v0)), (3, .box ((cXCube (cLs cI rfl) (cLs cI rfl)).enc v1)), (4, .box ((cXCube (cLo cI) (cLo cI)).enc (⟨([] : List Int), ([] : List Int)⟩ : XCube)))] (by kernel_rfl) <| xn <| wpC_seq <| drg_s <| pst rfl <| fab rfl rfl rfl rfl ⟨rfl, pst rfl <| lda rfl rfl rfl rfl rfl rfl ⟨rfl, bndp h fun x39 e40 h => pst rfl <| o_call (a1 (c := (cLs cI rfl)) (tLs tK) rfl a0) (con_slices_Clone_int e40) (.inl (so1 (sLo sK) so0)) ⟨rfl, pst rfl <| fab rfl rfl rfl rfl ⟨rfl, pst rfl <| lda rfl rfl rfl rfl rfl rfl ⟨rfl, bndp h fun x41 e42 h => pst rfl <| o_call (a1 (c := (cLs cI rfl)) (tLs tK) rfl a0) (con_slices_Clone_int e42) (.inl (so1 (sLo sK) so0)) ⟨rfl, pst rfl <| p_all (cXCube (cLo cI) (cLo cI)) (⟨([] : List Int), ([] : List Int)⟩ : XCube) rfl ⟨rfl, preN <| gr_s [(3, .box ((cXCube (cLs cI rfl) (cLs cI rfl)).enc v1)), (4, .box ((cXCube (cLo cI) (cLo cI)).enc (⟨([] : List Int), ([] : List Int)⟩ : XCube)))] [([false, false, false], [(6, .un), (28, .d ((cLo cI).enc x39)), (31, .d ((cLo cI).enc x41)), (32, .un)]),
     ([true, false, false], [(6, .box ((cXCube (cLo cI) (cLo cI)).enc (⟨([] : List Int), ([] : List Int)⟩ : XCube))), (28, .d ((cLo cI).enc x39)), (31, .d ((cLo cI).enc x41)), (32, .un)]),
     ([false, true, false], [(6, .un), (28, .un), (31, .un), (32, .d ((cXCube (cLo cI) (cLo cI)).enc (⟨x39, x41⟩ : XCube)))]),
     ([true, true, false], [(6, .box ((cXCube (cLo cI) (cLo cI)).enc (⟨([] : List Int), ([] : List Int)⟩ : XCube))), (28, .un), (31, .un), (32, .d ((cXCube (cLo cI) (cLo cI)).enc (⟨x39, x41⟩ : XCube)))]),
     ([true, true, true], [(6, .box ((cXCube (cLo cI) (cLo cI)).enc (⟨x39, x41⟩ : XCube))), (28, .un), (31, .un), (32, .un)])] [(3, .box ((cXCube (cLs cI rfl) (cLs cI rfl)).enc v1)), (4, .box ((cXCube (cLo cI) (cLo cI)).enc (⟨([] : List Int), ([] : List Int)⟩ : XCube))), (6, .box ((cXCube (cLo cI) (cLo cI)).enc (⟨x39, x41⟩ : XCube)))] [([false, false, false], [6]), ([true, false, false], [])] (by kernel_rfl) (sa1 rfl (by kernel_rfl) <| sa1 rfl (by kernel_rfl) <| sa0) rfl
    (ob1 rfl rfl rfl (x_all (cXCube (cLo cI) (cLo cI)) (⟨([] : List Int), ([] : List Int)⟩ : XCube) rfl <| obN (by kernel_rfl)) <|
    ob1 rfl rfl rfl (x_bld ((cXCube (cLo cI) (cLo cI)).enc (⟨x39, x41⟩ : XCube)) (t1 (so rfl rfl) rfl (t1 (so rfl rfl) rfl t0)) rfl rfl <| obN (by kernel_rfl)) <|
    ob1 rfl rfl rfl (x_bld ((cXCube (cLo cI) (cLo cI)).enc (⟨x39, x41⟩ : XCube)) (t1 (so rfl rfl) rfl (t1 (so rfl rfl) rfl t0)) rfl rfl <| obN (by kernel_rfl)) <|
    ob1 rfl rfl rfl (x_all (cXCube (cLo cI) (cLo cI)) (⟨([] : List Int), ([] : List Int)⟩ : XCube) rfl <| obN (by kernel_rfl)) <|
    ob1 rfl rfl rfl (x_stb (so rfl rfl) rfl (Cd.h_sz _ _) rfl <| obN (by kernel_rfl)) <|
    ob0)
    (by kernel_rfl) <|
    xn <| wpC_seq <| wpC_kp <| wpC_seq <| reg_s <| st rfl <| fab rfl rfl rfl rfl <| st rfl <| lda rfl rfl rfl rfl rfl rfl <| stw rfl <| lens rfl fun l78 => st rfl <| mvc cI (0 : Int) rfl <| seqN [(3, .box ((cXCube (cLs cI rfl) (cLs cI rfl)).enc v1)), (4, .box ((cXCube (cLo cI) (cLo cI)).enc (⟨([] : List Int), ([] : List Int)⟩ : XCube))), (6, .box ((cXCube (cLo cI) (cLo cI)).enc (⟨x39, x41⟩ : XCube))), (33, .adr 3 [.fld 1]), (34, .d ((cLs cI rfl).enc v1.Cells)), (35, .d (cI.enc (v1.Cells.length : Int))), (36, .d (cI.enc (0 : Int)))] (by kernel_rfl) <|
    xn <| wpC_blk <| lpR (fun (k80 : Nat) (s79 : XCube) => [(3, .box ((cXCube (cLs cI rfl) (cLs cI rfl)).enc v1)), (4, .box ((cXCube (cLo cI) (cLo cI)).enc (⟨([] : List Int), ([] : List Int)⟩ : XCube))), (6, .box ((cXCube (cLo cI) (cLo cI)).enc s79)), (33, .adr 3 [.fld 1]), (34, .d ((cLs cI rfl).enc v1.Cells)), (35, .d (cI.enc (v1.Cells.length : Int))), (36, .d (cI.enc (k80 : Int)))]) (⟨x39, x41⟩ : XCube) rfl h
    (fun G102 s79 h => wpC_seq <| reg_s <| st rfl <| b_lss (k := .i64) rfl rfl <| seqN [(3, .box ((cXCube (cLs cI rfl) (cLs cI rfl)).enc v1)), (4, .box ((cXCube (cLo cI) (cLo cI)).enc (⟨([] : List Int), ([] : List Int)⟩ : XCube))), (6, .box ((cXCube (cLo cI) (cLo cI)).enc s79)), (33, .adr 3 [.fld 1]), (34, .d ((cLs cI rfl).enc v1.Cells)), (35, .d (cI.enc (v1.Cells.length : Int))), (36, .d (cI.enc (v1.Cells.length : Int))), (37, .d (cB.enc (decide ((v1.Cells.length : Int) < (v1.Cells.length : Int)))))] (by kernel_rfl) <|
    xn <| wpC_seq <| wpC_kp <| cnd0 rfl (dlf _) <| wpC_exit <| xt <| xt <| xt <| xb <| kpN [(4, .box ((cXCube (cLo cI) (cLo cI)).enc (⟨([] : List Int), ([] : List Int)⟩ : XCube))), (6, .box ((cXCube (cLo cI) (cLo cI)).enc s79))] (by kernel_rfl) <| xn <| wpC_seq <| wpC_kp <| wpC_seq <| reg_s <| st rfl <| fab rfl rfl rfl rfl <| st rfl <| ldao rfl rfl rfl rfl rfl rfl <| bnd h fun x110 e111 h => st rfl <| o_call (a1 (c := (cLo cI)) (tLo tK) rfl a0) (con_impl_areCubeValues e111) (.inl (so1 sB so0)) <| st rfl <| o_nt rfl <| seqN [(4, .box ((cXCube (cLo cI) (cLo cI)).enc (⟨([] : List Int), ([] : List Int)⟩ : XCube))), (6, .box ((cXCube (cLo cI) (cLo cI)).enc s79)), (53, .d (cB.enc (!x110)))] (by kernel_rfl) <|
    xn <| cnd rfl h (fun b112 h => wpC_seq <| reg_s <| x_bld ((cXCube (cLo cI) (cLo cI)).enc (⟨([] : List Int), ([] : List Int)⟩ : XCube)) t0 rfl rfl <| x_stb (so rfl rfl) rfl (Cd.h_sz _ _) rfl <| x_asg (sc cB false rfl) <| seqN [(4, .box ((cXCube (cLo cI) (cLo cI)).enc (⟨([] : List Int), ([] : List Int)⟩ : XCube))), (5, .d (cB.enc false))] (by kernel_rfl) <|
    xn <| wpC_ret <| rt <| rt <| re <| fin h (r2 rfl rfl rfl <| r1 (ss rfl rfl) <| r0) rfl)
    (fun b112 h => wpC_skip <| kpN [(4, .box ((cXCube (cLo cI) (cLo cI)).enc (⟨([] : List Int), ([] : List Int)⟩ : XCube))), (6, .box ((cXCube (cLo cI) (cLo cI)).enc s79))] (by kernel_rfl) <| xn <| wpC_seq <| reg_s <| st rfl <| ldbo rfl rfl rfl rfl <| x_stb (sb rfl rfl) rfl (Cd.h_sz _ _) rfl <| x_asg (sc cB true rfl) <| seqN [(4, .box ((cXCube (cLo cI) (cLo cI)).enc s79)), (5, .d (cB.enc true))] (by kernel_rfl) <|
    xn <| wpC_ret <| re <| fin h (r2 rfl rfl rfl <| r1 (ss rfl rfl) <| r0) rfl))
    (fun G102 nx100 k80 s79 x81 hk82 hx83 hn101 h => wpC_seq <| reg_s <| st rfl <| b_lss (k := .i64) rfl rfl <| seqN [(3, .box ((cXCube (cLs cI rfl) (cLs cI rfl)).enc v1)), (4, .box ((cXCube (cLo cI) (cLo cI)).enc (⟨([] : List Int), ([] : List Int)⟩ : XCube))), (6, .box ((cXCube (cLo cI) (cLo cI)).enc s79)), (33, .adr 3 [.fld 1]), (34, .d ((cLs cI rfl).enc v1.Cells)), (35, .d (cI.enc (v1.Cells.length : Int))), (36, .d (cI.enc (k80 : Int))), (37, .d (cB.enc (decide ((k80 : Int) < (v1.Cells.length : Int)))))] (by kernel_rfl) <|
    xn <| wpC_seq <| wpC_kp <| cnd1 rfl (dlt hk82) <| wpC_skip <| kpN [(3, .box ((cXCube (cLs cI rfl) (cLs cI rfl)).enc v1)), (4, .box ((cXCube (cLo cI) (cLo cI)).enc (⟨([] : List Int), ([] : List Int)⟩ : XCube))), (6, .box ((cXCube (cLo cI) (cLo cI)).enc s79)), (33, .adr 3 [.fld 1]), (34, .d ((cLs cI rfl).enc v1.Cells)), (35, .d (cI.enc (v1.Cells.length : Int))), (36, .d (cI.enc (k80 : Int)))] (by kernel_rfl) <| xn <| wpC_seq <| wpC_kp <| wpC_blk <| wpC_seq <| reg_s <| st rfl <| mvd rfl rfl <| st rfl <| ias rfl rfl (Int.natCast_nonneg _) hx83 rfl <| st rfl <| ldi rfl rfl rfl rfl <| x_asg (ss rfl rfl) <| x_asg (ss rfl rfl) <| seqN [(3, .box ((cXCube (cLs cI rfl) (cLs cI rfl)).enc v1)), (4, .box ((cXCube (cLo cI) (cLo cI)).enc (⟨([] : List Int), ([] : List Int)⟩ : XCube))), (6, .box ((cXCube (cLo cI) (cLo cI)).enc s79)), (7, .d (cI.enc (k80 : Int))), (8, .d (cI.enc x81)), (33, .adr 3 [.fld 1]), (34, .d ((cLs cI rfl).enc v1.Cells)), (35, .d (cI.enc (v1.Cells.length : Int))), (36, .d (cI.enc (k80 : Int)))] (by kernel_rfl) <|
    xn <| reg_s <| st rfl <| fab rfl rfl rfl rfl <| st rfl <| ldao rfl rfl rfl rfl rfl rfl <| st rfl <| mvd rfl rfl <| getO_k h fun x117 i118 g119 h => st rfl <| iar rfl rfl rfl rfl i118 g119 rfl <| st rfl <| lda rfl rfl (Gt.fld rfl rfl (Gt.idx g119 Gt.nil)) rfl rfl rfl <| st rfl <| mvd rfl rfl <| ckI_k h fun i120 h => st rfl <| b_sub (k := .i64) rfl rfl i120 <| st rfl <| iar rfl rfl rfl rfl i118 g119 rfl <| x_sta ((cXCube (cLo cI) (cLo cI)).enc (⟨s79.Sizes, (s79.Cells.set ((k80 : Int)).toNat (x117 - x81))⟩ : XCube)) (ss rfl rfl) rfl rfl (Ln.fld rfl rfl (Ln.idx g119 Ln.nil) rfl) (Cd.h_sz cI _) rfl <| seqN [(3, .box ((cXCube (cLs cI rfl) (cLs cI rfl)).enc v1)), (4, .box ((cXCube (cLo cI) (cLo cI)).enc (⟨([] : List Int), ([] : List Int)⟩ : XCube))), (6, .box ((cXCube (cLo cI) (cLo cI)).enc (⟨s79.Sizes, (s79.Cells.set ((k80 : Int)).toNat (x117 - x81))⟩ : XCube))), (33, .adr 3 [.fld 1]), (34, .d ((cLs cI rfl).enc v1.Cells)), (35, .d (cI.enc (v1.Cells.length : Int))), (36, .d (cI.enc (k80 : Int)))] (by kernel_rfl) <|
    xbb <| kpN [(3, .box ((cXCube (cLs cI rfl) (cLs cI rfl)).enc v1)), (4, .box ((cXCube (cLo cI) (cLo cI)).enc (⟨([] : List Int), ([] : List Int)⟩ : XCube))), (6, .box ((cXCube (cLo cI) (cLo cI)).enc (⟨s79.Sizes, (s79.Cells.set ((k80 : Int)).toNat (x117 - x81))⟩ : XCube))), (33, .adr 3 [.fld 1]), (34, .d ((cLs cI rfl).enc v1.Cells)), (35, .d (cI.enc (v1.Cells.length : Int))), (36, .d (cI.enc (k80 : Int)))] (by kernel_rfl) <| xn <| reg_s <| st rfl <| b_inc rfl rfl l78 hk82 <| st rfl <| mvd rfl rfl <| seqN [(3, .box ((cXCube (cLs cI rfl) (cLs cI rfl)).enc v1)), (4, .box ((cXCube (cLo cI) (cLo cI)).enc (⟨([] : List Int), ([] : List Int)⟩ : XCube))), (6, .box ((cXCube (cLo cI) (cLo cI)).enc (⟨s79.Sizes, (s79.Cells.set ((k80 : Int)).toNat (x117 - x81))⟩ : XCube))), (33, .adr 3 [.fld 1]), (34, .d ((cLs cI rfl).enc v1.Cells)), (35, .d (cI.enc (v1.Cells.length : Int))), (36, .d (cI.enc ((k80 + 1 : Nat) : Int)))] (by kernel_rfl) <|
    xn <| hn101 (⟨s79.Sizes, (s79.Cells.set ((k80 : Int)).toNat (x117 - x81))⟩ : XCube) h)⟩⟩⟩⟩⟩⟩⟩)))

def rs_laws_FnExactDifferenceOf (r : Bool) : List D := [cB.enc r]
def m11 : MC := .seq (.reg [⟨some 2, .box (.t 0), none⟩,
    ⟨some 3, .box (.t 1), none⟩,
    ⟨some 4, .asg (.c (.bool false)), none⟩] [2, 3])
  (.seq (.reg [⟨some 5, .asg (.c (.int .i64 1048576)), none⟩] [2, 3, 5])
  (.seq (.reg [⟨some 17, .ld 2 2 true, none⟩,
    ⟨some 18, .mv (.t 5), none⟩,
    ⟨some 19, .call 26 [(.t 17), (.t 18)], none⟩,
    ⟨some 5, .asg (.t 19), none⟩] [2, 3, 5])
  (.seq (.kp [2, 3, 5] (.seq (.reg [⟨some 20, .mv (.t 5), none⟩,
    ⟨some 21, .bin .lss (.t 20) (.c (.int .i64 0)), none⟩] [2, 3, 5, 21])
  (.cond (.t 21) (.seq (.reg [⟨some 4, .asg (.c (.bool true)), none⟩] [4])
  (.ret)) (.skip))))
  (.seq (.reg [⟨some 22, .ld 3 2 true, none⟩,
    ⟨some 23, .mv (.t 5), none⟩,
    ⟨some 24, .call 26 [(.t 22), (.t 23)], none⟩,
    ⟨some 5, .asg (.t 24), none⟩] [2, 3, 5])
  (.seq (.kp [2, 3] (.seq (.reg [⟨some 25, .mv (.t 5), none⟩,
    ⟨some 26, .bin .lss (.t 25) (.c (.int .i64 0)), none⟩] [2, 3, 26])
  (.cond (.t 26) (.seq (.reg [⟨some 4, .asg (.c (.bool true)), none⟩] [4])
  (.ret)) (.skip))))
  (.seq (.drg [⟨0, ⟨some 28, .ld 2 2 true, none⟩, [6, 29, 30, 31, 32]⟩,
    ⟨1, ⟨some 29, .call 28 [(.t 28)], none⟩, [6, 30, 31, 32]⟩,
    ⟨2, ⟨some 30, .ld 3 2 true, none⟩, [6, 28, 29, 31, 32]⟩,
    ⟨3, ⟨some 31, .call 28 [(.t 30)], none⟩, [6, 32]⟩,
    ⟨4, ⟨some 32, .call 46 [(.t 29), (.t 31)], none⟩, [6]⟩,
    ⟨8, ⟨some 6, .alloc (.agg [.slice true [], .slice true []]), none⟩, [28, 29, 30, 31, 32]⟩]
    [(8, ⟨some 6, .alloc (.agg [.slice true [], .slice true []]), none⟩),
    (5, ⟨some 27, .mvt 32, none⟩),
    (6, ⟨some 33, .ext 27 0, none⟩),
    (7, ⟨some 34, .ext 27 1, none⟩),
    (9, ⟨none, .st 6 (.t 33) 2, none⟩),
    (10, ⟨some 7, .asg (.t 34), none⟩)] [2, 3, 6, 7] [6, 7, 27, 32, 33, 34, 2, 3] [([false, false, false, false, false, false], 0), ([false, false, false, false, false, false], 1), ([true, false, false, false, false, false], 1), ([false, true, false, false, false, false], 0), ([false, true, false, false, false, false], 2), ([false, true, false, false, false, false], 3), ([true, true, false, false, false, false], 2), ([true, true, false, false, false, false], 3), ([false, true, true, false, false, false], 0), ([false, true, true, false, false, false], 3), ([false, true, false, true, false, false], 0), ([false, true, false, true, false, false], 2), ([true, true, true, false, false, false], 3), ([true, true, true, false, false, false], 4), ([true, true, false, true, false, false], 2), ([false, true, true, true, false, false], 0), ([true, true, true, true, false, false], 4), ([true, true, true, false, true, false], 3), ([true, true, true, true, true, false], 5)])
  (.seq (.reg [⟨some 35, .ld 2 2 true, none⟩,
    ⟨some 36, .call 28 [(.t 35)], none⟩,
    ⟨some 8, .alloc (.agg [.slice true [], .slice true []]), none⟩,
    ⟨none, .st 8 (.t 36) 2, none⟩] [2, 3, 6, 7, 8])
  (.seq (.reg [⟨some 37, .ld 3 2 true, none⟩,
    ⟨some 38, .call 28 [(.t 37)], none⟩,
    ⟨some 9, .alloc (.agg [.slice true [], .slice true []]), none⟩,
    ⟨none, .st 9 (.t 38) 2, none⟩] [2, 3, 6, 7, 8, 9])
  (.seq (.reg [⟨some 40, .ld 8 2 true, none⟩,
    ⟨some 41, .ld 9 2 true, none⟩,
    ⟨some 42, .call 47 [(.t 40), (.t 41)], none⟩,
    ⟨some 39, .mvt 42, none⟩,
    ⟨some 43, .ext 39 0, none⟩,
    ⟨some 44, .ext 39 1, none⟩,
    ⟨some 10, .alloc (.agg [.slice true [], .slice true []]), none⟩,
    ⟨none, .st 10 (.t 43) 2, none⟩,
    ⟨some 11, .asg (.t 44), none⟩] [2, 3, 6, 7, 8, 9, 10, 11])
  (.seq (.kp [2, 3, 6, 7, 8, 9, 10, 11] (.seq (.reg [⟨some 45, .ld 10 2 true, none⟩,
    ⟨some 46, .ld 6 2 true, none⟩,
    ⟨some 47, .call 30 [(.t 45), (.t 46)], none⟩,
    ⟨some 48, .nt (.t 47), none⟩,
    ⟨some 49, .mv (.t 48), none⟩,
    ⟨some 50, .mv (.t 11), some (49, false)⟩,
    ⟨some 51, .mv (.t 7), some (49, false)⟩,
    ⟨some 52, .eqb true (.t 50) (.t 51), some (49, false)⟩,
    ⟨some 53, .pick (.t 49) (.c (.bool true)) (.t 52), none⟩] [2, 3, 6, 7, 8, 9, 10, 11, 53])
  (.cond (.t 53) (.seq (.reg [⟨some 4, .asg (.c (.bool false)), none⟩] [4])
  (.ret)) (.skip))))
  (.seq (.kp [2, 3, 6, 7, 8, 9, 10, 11] (.seq (.drw [⟨0, ⟨some 54, .ld 8 2 true, none⟩, [55, 56, 57, 58]⟩,
    ⟨1, ⟨some 55, .ld 2 2 true, none⟩, [54, 56, 57, 58]⟩,
    ⟨2, ⟨some 56, .call 28 [(.t 55)], none⟩, [54, 57, 58]⟩,
    ⟨3, ⟨some 57, .call 30 [(.t 54), (.t 56)], none⟩, [58]⟩,
    ⟨4, ⟨some 58, .nt (.t 57), none⟩, []⟩]
    [] [2, 3, 6, 7, 8, 9, 10, 11, 58])
  (.cond (.t 58) (.seq (.reg [⟨some 4, .asg (.c (.bool false)), none⟩] [4])
  (.ret)) (.skip))))
  (.seq (.kp [2, 3, 6, 7, 8, 9, 10, 11] (.seq (.drw [⟨0, ⟨some 59, .ld 9 2 true, none⟩, [60, 61, 62, 63]⟩,
    ⟨1, ⟨some 60, .ld 3 2 true, none⟩, [59, 61, 62, 63]⟩,
    ⟨2, ⟨some 61, .call 28 [(.t 60)], none⟩, [59, 62, 63]⟩,
    ⟨3, ⟨some 62, .call 30 [(.t 59), (.t 61)], none⟩, [63]⟩,
    ⟨4, ⟨some 63, .nt (.t 62), none⟩, []⟩]
    [] [2, 3, 6, 7, 8, 9, 10, 11, 63])
  (.cond (.t 63) (.seq (.reg [⟨some 4, .asg (.c (.bool false)), none⟩] [4])
  (.ret)) (.skip))))
  (.seq (.reg [⟨some 12, .asg (.c (.int .i64 1)), none⟩] [2, 3, 6, 7, 8, 9, 10, 11, 12])
  (.seq (.reg [⟨some 64, .ld 8 2 true, none⟩,
    ⟨some 65, .mv (.t 12), none⟩,
    ⟨some 66, .callO 42 [(.t 64), (.t 65)], none⟩,
    ⟨some 12, .asg (.t 66), none⟩] [2, 3, 6, 7, 9, 10, 11, 12])
  (.seq (.reg [⟨some 67, .ld 9 2 true, none⟩,
    ⟨some 68, .mv (.t 12), none⟩,
    ⟨some 69, .callO 42 [(.t 67), (.t 68)], none⟩,
    ⟨some 12, .asg (.t 69), none⟩] [2, 3, 6, 7, 10, 11, 12])
  (.seq (.kp [2, 3, 6, 7, 10] (.seq (.reg [⟨some 70, .mv (.t 12), none⟩,
    ⟨some 71, .bin .lss (.t 70) (.c (.int .i64 0)), none⟩,
    ⟨some 72, .mv (.t 71), none⟩,
    ⟨some 73, .ld 10 2 true, some (72, false)⟩,
    ⟨some 74, .ld 6 2 true, some (72, false)⟩,
    ⟨some 75, .call 30 [(.t 73), (.t 74)], some (72, false)⟩,
    ⟨some 76, .nt (.t 75), some (72, false)⟩,
    ⟨some 77, .pick (.t 72) (.c (.bool true)) (.t 76), none⟩,
    ⟨some 78, .mv (.t 77), none⟩,
    ⟨some 79, .mv (.t 11), some (78, false)⟩,
    ⟨some 80, .mv (.t 7), some (78, false)⟩,
    ⟨some 81, .eqb true (.t 79) (.t 80), some (78, false)⟩,
    ⟨some 82, .pick (.t 78) (.c (.bool true)) (.t 81), none⟩] [2, 3, 6, 7, 10, 82])
  (.cond (.t 82) (.seq (.reg [⟨some 4, .asg (.c (.bool false)), none⟩] [4])
  (.ret)) (.skip))))
  (.seq (.reg [⟨some 13, .asg (.c (.int .i64 1)), none⟩] [2, 3, 6, 7, 10, 13])
  (.seq (.reg [⟨some 83, .ld 10 2 true, none⟩,
    ⟨some 84, .mv (.t 13), none⟩,
    ⟨some 85, .callO 42 [(.t 83), (.t 84)], none⟩,
    ⟨some 13, .asg (.t 85), none⟩] [2, 3, 6, 7, 10, 13])
  (.seq (.reg [⟨some 14, .asg (.c (.int .i64 1)), none⟩] [2, 3, 6, 7, 10, 13, 14])
  (.seq (.reg [⟨some 86, .ld 10 2 true, none⟩,
    ⟨some 87, .mv (.t 14), none⟩,
    ⟨some 88, .call 45 [(.t 86), (.t 87)], none⟩,
    ⟨some 14, .asg (.t 88), none⟩] [2, 3, 6, 7, 10, 13, 14])
  (.seq (.kp [2, 3, 6, 7, 10, 13, 14] (.seq (.reg [⟨some 89, .mv (.t 14), none⟩,
    ⟨some 90, .bin .lss (.t 89) (.c (.int .i64 0)), none⟩] [2, 3, 6, 7, 10, 13, 14, 90])
  (.cond (.t 90) (.seq (.reg [⟨some 4, .asg (.c (.bool false)), none⟩] [4])
  (.ret)) (.skip))))
  (.seq (.kp [2, 3, 6, 7, 10, 13] (.seq (.reg [⟨some 91, .mv (.t 14), none⟩,
    ⟨some 92, .mv (.t 13), none⟩,
    ⟨some 93, .bin .neq (.t 91) (.t 92), none⟩] [2, 3, 6, 7, 10, 13, 93])
  (.cond (.t 93) (.seq (.reg [⟨some 4, .asg (.c (.bool false)), none⟩] [4])
  (.ret)) (.skip))))
  (.seq (.drg [⟨0, ⟨some 95, .ld 2 2 true, none⟩, [15, 96, 97, 98, 99]⟩,
    ⟨1, ⟨some 96, .call 28 [(.t 95)], none⟩, [15, 97, 98, 99]⟩,
    ⟨2, ⟨some 97, .ld 3 2 true, none⟩, [15, 95, 96, 98, 99]⟩,
    ⟨3, ⟨some 98, .call 28 [(.t 97)], none⟩, [15, 99]⟩,
    ⟨4, ⟨some 99, .call 47 [(.t 96), (.t 98)], none⟩, [15]⟩,
    ⟨8, ⟨some 15, .alloc (.agg [.slice true [], .slice true []]), none⟩, [95, 96, 97, 98, 99]⟩]
    [(8, ⟨some 15, .alloc (.agg [.slice true [], .slice true []]), none⟩),
    (5, ⟨some 94, .mvt 99, none⟩),
    (6, ⟨some 100, .ext 94 0, none⟩),
    (7, ⟨some 101, .ext 94 1, none⟩),
    (9, ⟨none, .st 15 (.t 100) 2, none⟩),
    (10, ⟨some 16, .asg (.t 101), none⟩)] [6, 7, 10, 13, 15, 16] [15, 16, 94, 99, 100, 101, 6, 7, 10, 13] [([false, false, false, false, false, false], 0), ([false, false, false, false, false, false], 1), ([true, false, false, false, false, false], 1), ([false, true, false, false, false, false], 0), ([false, true, false, false, false, false], 2), ([false, true, false, false, false, false], 3), ([true, true, false, false, false, false], 2), ([true, true, false, false, false, false], 3), ([false, true, true, false, false, false], 0), ([false, true, true, false, false, false], 3), ([false, true, false, true, false, false], 0), ([false, true, false, true, false, false], 2), ([true, true, true, false, false, false], 3), ([true, true, true, false, false, false], 4), ([true, true, false, true, false, false], 2), ([false, true, true, true, false, false], 0), ([true, true, true, true, false, false], 4), ([true, true, true, false, true, false], 3), ([true, true, true, true, true, false], 5)])
  (.seq (.kp [10, 13] (.seq (.reg [⟨some 102, .ld 15 2 true, none⟩,
    ⟨some 103, .ld 6 2 true, none⟩,
    ⟨some 104, .call 30 [(.t 102), (.t 103)], none⟩,
    ⟨some 105, .nt (.t 104), none⟩,
    ⟨some 106, .mv (.t 105), none⟩,
    ⟨some 107, .mv (.t 16), some (106, false)⟩,
    ⟨some 108, .mv (.t 7), some (106, false)⟩,
    ⟨some 109, .eqb true (.t 107) (.t 108), some (106, false)⟩,
    ⟨some 110, .pick (.t 106) (.c (.bool true)) (.t 109), none⟩] [10, 13, 110])
  (.cond (.t 110) (.seq (.reg [⟨some 4, .asg (.c (.bool false)), none⟩] [4])
  (.ret)) (.skip))))
  (.seq (.reg [⟨some 14, .asg (.c (.int .i64 1)), none⟩] [10, 13, 14])
  (.seq (.reg [⟨some 111, .ld 10 2 true, none⟩,
    ⟨some 112, .mv (.t 14), none⟩,
    ⟨some 113, .call 45 [(.t 111), (.t 112)], none⟩,
    ⟨some 14, .asg (.t 113), none⟩] [13, 14])
  (.seq (.kp [13, 14] (.seq (.reg [⟨some 114, .mv (.t 14), none⟩,
    ⟨some 115, .bin .lss (.t 114) (.c (.int .i64 0)), none⟩] [13, 14, 115])
  (.cond (.t 115) (.seq (.reg [⟨some 4, .asg (.c (.bool false)), none⟩] [4])
  (.ret)) (.skip))))
  (.seq (.kp [] (.seq (.reg [⟨some 116, .mv (.t 14), none⟩,
    ⟨some 117, .mv (.t 13), none⟩,
    ⟨some 118, .bin .neq (.t 116) (.t 117), none⟩] [118])
  (.cond (.t 118) (.seq (.reg [⟨some 4, .asg (.c (.bool false)), none⟩] [4])
  (.ret)) (.skip))))
  (.seq (.reg [⟨some 4, .asg (.c (.bool true)), none⟩] [4])
  (.ret))))))))))))))))))))))))))))))
theorem con_laws_FnExactDifferenceOf {v0 : XCube} {v1 : XCube} {r : Bool} (h : sh_laws_FnExactDifferenceOf v0 v1 = some r) : Con Try.prog 11 [(cXCube (cLs cI rfl) (cLs cI rfl)).enc v0, (cXCube (cLs cI rfl) (cLs cI rfl)).enc v1] [] (rs_laws_FnExactDifferenceOf r) := by
  delta sh_laws_FnExactDifferenceOf at h
  refine top (out := none) (f := Try.f11) (m := m11) (rs := [.t 4]) (by kernel_rfl) rfl (by kernel_rfl) (by kernel_rfl) (by kernel_rfl) (by kernel_rfl) (by kernel_rfl) ?_
  exact
   ini [(0, .d ((cXCube (cLs cI rfl) (cLs cI rfl)).enc v0)), (1, .d ((cXCube (cLs cI rfl) (cLs cI rfl)).enc v1))] rfl <| wpC_seq <| reg_s <| x_box (ss rfl rfl) <| x_box (ss rfl rfl) <| x_asg (sc cB false rfl) <| seqN [(2, .box ((cXCube (cLs cI rfl) (cLs cI rfl)).enc v0)), (3, .box ((cXCube (cLs cI rfl) (cLs cI rfl)).enc v1))] (by kernel_rfl) <|
    xn <| wpC_seq <| reg_s <| x_asg (sc cI (1048576 : Int) rfl) <| seqN [(2, .box ((cXCube (cLs cI rfl) (cLs cI rfl)).enc v0)), (3, .box ((cXCube (cLs cI rfl) (cLs cI rfl)).enc v1)), (5, .d (cI.enc (1048576 : Int)))] (by kernel_rfl) <|
    xn <| wpC_seq <| reg_s <| st rfl <| ldb rfl rfl rfl rfl <| st rfl <| mvd rfl rfl <| bnd h fun x3 e4 h => st rfl <| o_call (a1 (c := (cXCube (cLs cI rfl) (cLs cI rfl))) (tXCube (tLs tK) (tLs tK)) rfl (a1 (c := cI) tK rfl a0)) (con_laws_szCube e4) (.inl (so1 sK so0)) <| x_asg (ss rfl rfl) <| seqN [(2, .box ((cXCube (cLs cI rfl) (cLs cI rfl)).enc v0)), (3, .box ((cXCube (cLs cI rfl) (cLs cI rfl)).enc v1)), (5, .d (cI.enc x3))] (by kernel_rfl) <|
    xn <| wpC_seq <| wpC_kp <| wpC_seq <| reg_s <| st rfl <| mvd rfl rfl <| st rfl <| b_lss (k := .i64) rfl rfl <| seqN [(2, .box ((cXCube (cLs cI rfl) (cLs cI rfl)).enc v0)), (3, .box ((cXCube (cLs cI rfl) (cLs cI rfl)).enc v1)), (5, .d (cI.enc x3)), (21, .d (cB.enc (decide (x3 < (0 : Int)))))] (by kernel_rfl) <|
    xn <| cnd rfl h (fun b6 h => wpC_seq <| reg_s <| x_asg (sc cB true rfl) <| seqN [(4, .d (cB.enc true))] (by kernel_rfl) <|
    xn <| wpC_ret <| rt <| rt <| re <| fin h (r1 (ss rfl rfl) <| r0) rfl)
    (fun b6 h => wpC_skip <| kpN [(2, .box ((cXCube (cLs cI rfl) (cLs cI rfl)).enc v0)), (3, .box ((cXCube (cLs cI rfl) (cLs cI rfl)).enc v1)), (5, .d (cI.enc x3))] (by kernel_rfl) <| xn <| wpC_seq <| reg_s <| st rfl <| ldb rfl rfl rfl rfl <| st rfl <| mvd rfl rfl <| bnd h fun x9 e10 h => st rfl <| o_call (a1 (c := (cXCube (cLs cI rfl) (cLs cI rfl))) (tXCube (tLs tK) (tLs tK)) rfl (a1 (c := cI) tK rfl a0)) (con_laws_szCube e10) (.inl (so1 sK so0)) <| x_asg (ss rfl rfl) <| seqN [(2, .box ((cXCube (cLs cI rfl) (cLs cI rfl)).enc v0)), (3, .box ((cXCube (cLs cI rfl) (cLs cI rfl)).enc v1)), (5, .d (cI.enc x9))] (by kernel_rfl) <|
    xn <| wpC_seq <| wpC_kp <| wpC_seq <| reg_s <| st rfl <| mvd rfl rfl <| st rfl <| b_lss (k := .i64) rfl rfl <| seqN [(2, .box ((cXCube (cLs cI rfl) (cLs cI rfl)).enc v0)), (3, .box ((cXCube (cLs cI rfl) (cLs cI rfl)).enc v1)), (26, .d (cB.enc (decide (x9 < (0 : Int)))))] (by kernel_rfl) <|
    xn <| cnd rfl h (fun b12 h => wpC_seq <| reg_s <| x_asg (sc cB true rfl) <| seqN [(4, .d (cB.enc true))] (by kernel_rfl) <|
    xn <| wpC_ret <| rt <| rt <| re <| fin h (r1 (ss rfl rfl) <| r0) rfl)
    (fun b12 h => wpC_skip <| kpN [(2, .box ((cXCube (cLs cI rfl) (cLs cI rfl)).enc v0)), (3, .box ((cXCube (cLs cI rfl) (cLs cI rfl)).enc v1))] (by kernel_rfl) <| xn <| wpC_seq <| drg_s <| pst rfl <| ldb rfl rfl rfl rfl ⟨rfl, bndp h fun x19 e20 h => pst rfl <| o_call (a1 (c := (cXCube (cLs cI rfl) (cLs cI rfl))) (tXCube (tLs tK) (tLs tK)) rfl a0) (con_laws_toCube e20) (.inl (so1 (sXCube (sLo sK) (sLo sK)) so0)) ⟨rfl, pst rfl <| ldb rfl rfl rfl rfl ⟨rfl, bndp h fun x21 e22 h => pst rfl <| o_call (a1 (c := (cXCube (cLs cI rfl) (cLs cI rfl))) (tXCube (tLs tK) (tLs tK)) rfl a0) (con_laws_toCube e22) (.inl (so1 (sXCube (sLo sK) (sLo sK)) so0)) ⟨rfl, bndp h fun x23 e24 h => pst rfl <| o_call (a1 (c := (cXCube (cLo cI) (cLo cI))) (tXCube (tLo tK) (tLo tK)) rfl (a1 (c := (cXCube (cLo cI) (cLo cI))) (tXCube (tLo tK) (tLo tK)) rfl a0)) (con_spec_DifferenceOf e24) (.inl (so1 (sXCube (sLo sK) (sLo sK)) (so1 sB so0))) ⟨rfl, pst rfl <| p_all (cXCube (cLo cI) (cLo cI)) (⟨([] : List Int), ([] : List Int)⟩ : XCube) rfl ⟨rfl, preN <| gr_s [(2, .box ((cXCube (cLs cI rfl) (cLs cI rfl)).enc v0)), (3, .box ((cXCube (cLs cI rfl) (cLs cI rfl)).enc v1))] [([false, false, false, false, false, false], [(6, .un), (7, .un), (27, .un), (32, .tup [some ((cXCube (cLo cI) (cLo cI)).enc x23.1), some (cB.enc x23.2)]), (33, .un), (34, .un)]),
     ([true, false, false, false, false, false], [(6, .box ((cXCube (cLo cI) (cLo cI)).enc (⟨([] : List Int), ([] : List Int)⟩ : XCube))), (7, .un), (27, .un), (32, .tup [some ((cXCube (cLo cI) (cLo cI)).enc x23.1), some (cB.enc x23.2)]), (33, .un), (34, .un)]),
     ([false, true, false, false, false, false], [(6, .un), (7, .un), (27, .tup [some ((cXCube (cLo cI) (cLo cI)).enc x23.1), some (cB.enc x23.2)]), (32, .un), (33, .un), (34, .un)]),
     ([true, true, false, false, false, false], [(6, .box ((cXCube (cLo cI) (cLo cI)).enc (⟨([] : List Int), ([] : List Int)⟩ : XCube))), (7, .un), (27, .tup [some ((cXCube (cLo cI) (cLo cI)).enc x23.1), some (cB.enc x23.2)]), (32, .un), (33, .un), (34, .un)]),
     ([false, true, true, false, false, false], [(6, .un), (7, .un), (27, .tup [none, some (cB.enc x23.2)]), (32, .un), (33, .d ((cXCube (cLo cI) (cLo cI)).enc x23.1)), (34, .un)]),
     ([false, true, false, true, false, false], [(6, .un), (7, .un), (27, .tup [some ((cXCube (cLo cI) (cLo cI)).enc x23.1), none]), (32, .un), (33, .un), (34, .d (cB.enc x23.2))]),
     ([true, true, true, false, false, false], [(6, .box ((cXCube (cLo cI) (cLo cI)).enc (⟨([] : List Int), ([] : List Int)⟩ : XCube))), (7, .un), (27, .tup [none, some (cB.enc x23.2)]), (32, .un), (33, .d ((cXCube (cLo cI) (cLo cI)).enc x23.1)), (34, .un)]),
     ([true, true, false, true, false, false], [(6, .box ((cXCube (cLo cI) (cLo cI)).enc (⟨([] : List Int), ([] : List Int)⟩ : XCube))), (7, .un), (27, .tup [some ((cXCube (cLo cI) (cLo cI)).enc x23.1), none]), (32, .un), (33, .un), (34, .d (cB.enc x23.2))]),
     ([false, true, true, true, false, false], [(6, .un), (7, .un), (27, .tup [none, none]), (32, .un), (33, .d ((cXCube (cLo cI) (cLo cI)).enc x23.1)), (34, .d (cB.enc x23.2))]),
     ([true, true, true, true, false, false], [(6, .box ((cXCube (cLo cI) (cLo cI)).enc (⟨([] : List Int), ([] : List Int)⟩ : XCube))), (7, .un), (27, .tup [none, none]), (32, .un), (33, .d ((cXCube (cLo cI) (cLo cI)).enc x23.1)), (34, .d (cB.enc x23.2))]),
     ([true, true, true, false, true, false], [(6, .box ((cXCube (cLo cI) (cLo cI)).enc x23.1)), (7, .un), (27, .tup [none, some (cB.enc x23.2)]), (32, .un), (33, .un), (34, .un)]),
     ([true, true, true, true, true, false], [(6, .box ((cXCube (cLo cI) (cLo cI)).enc x23.1)), (7, .un), (27, .tup [none, none]), (32, .un), (33, .un), (34, .d (cB.enc x23.2))]),
     ([true, true, true, true, true, true], [(6, .box ((cXCube (cLo cI) (cLo cI)).enc x23.1)), (7, .d (cB.enc x23.2)), (27, .tup [none, none]), (32, .un), (33, .un), (34, .d (cB.enc x23.2))])] [(2, .box ((cXCube (cLs cI rfl) (cLs cI rfl)).enc v0)), (3, .box ((cXCube (cLs cI rfl) (cLs cI rfl)).enc v1)), (6, .box ((cXCube (cLo cI) (cLo cI)).enc x23.1)), (7, .d (cB.enc x23.2))] [([false, false, false, false, false, false], [6]), ([true, false, false, false, false, false], [])] (by kernel_rfl) (sa1 rfl (by kernel_rfl) <| sa1 rfl (by kernel_rfl) <| sa0) rfl
    (ob1 rfl rfl rfl (x_all (cXCube (cLo cI) (cLo cI)) (⟨([] : List Int), ([] : List Int)⟩ : XCube) rfl <| obN (by kernel_rfl)) <|
    ob1 rfl rfl rfl (x_mvt rfl <| obN (by kernel_rfl)) <|
    ob1 rfl rfl rfl (x_mvt rfl <| obN (by kernel_rfl)) <|
    ob1 rfl rfl rfl (x_all (cXCube (cLo cI) (cLo cI)) (⟨([] : List Int), ([] : List Int)⟩ : XCube) rfl <| obN (by kernel_rfl)) <|
    ob1 rfl rfl rfl (x_ext rfl rfl <| obN (by kernel_rfl)) <|
    ob1 rfl rfl rfl (x_ext rfl rfl <| obN (by kernel_rfl)) <|
    ob1 rfl rfl rfl (x_ext rfl rfl <| obN (by kernel_rfl)) <|
    ob1 rfl rfl rfl (x_ext rfl rfl <| obN (by kernel_rfl)) <|
    ob1 rfl rfl rfl (x_all (cXCube (cLo cI) (cLo cI)) (⟨([] : List Int), ([] : List Int)⟩ : XCube) rfl <| obN (by kernel_rfl)) <|
    ob1 rfl rfl rfl (x_ext rfl rfl <| obN (by kernel_rfl)) <|
    ob1 rfl rfl rfl (x_all (cXCube (cLo cI) (cLo cI)) (⟨([] : List Int), ([] : List Int)⟩ : XCube) rfl <| obN (by kernel_rfl)) <|
    ob1 rfl rfl rfl (x_ext rfl rfl <| obN (by kernel_rfl)) <|
    ob1 rfl rfl rfl (x_ext rfl rfl <| obN (by kernel_rfl)) <|
    ob1 rfl rfl rfl (x_stb (so rfl rfl) rfl (Cd.h_sz _ _) rfl <| obN (by kernel_rfl)) <|
    ob1 rfl rfl rfl (x_ext rfl rfl <| obN (by kernel_rfl)) <|
    ob1 rfl rfl rfl (x_all (cXCube (cLo cI) (cLo cI)) (⟨([] : List Int), ([] : List Int)⟩ : XCube) rfl <| obN (by kernel_rfl)) <|
    ob1 rfl rfl rfl (x_stb (so rfl rfl) rfl (Cd.h_sz _ _) rfl <| obN (by kernel_rfl)) <|
    ob1 rfl rfl rfl (x_ext rfl rfl <| obN (by kernel_rfl)) <|
    ob1 rfl rfl rfl (x_asg (ss rfl rfl) <| obN (by kernel_rfl)) <|
    ob0)
    (by kernel_rfl) <|
    xn <| wpC_seq <| reg_s <| st rfl <| ldb rfl rfl rfl rfl <| bnd h fun x27 e28 h => st rfl <| o_call (a1 (c := (cXCube (cLs cI rfl) (cLs cI rfl))) (tXCube (tLs tK) (tLs tK)) rfl a0) (con_laws_toCube e28) (.inl (so1 (sXCube (sLo sK) (sLo sK)) so0)) <| x_all (cXCube (cLo cI) (cLo cI)) (⟨([] : List Int), ([] : List Int)⟩ : XCube) rfl <| x_stb (so rfl rfl) rfl (Cd.h_sz _ _) rfl <| seqN [(2, .box ((cXCube (cLs cI rfl) (cLs cI rfl)).enc v0)), (3, .box ((cXCube (cLs cI rfl) (cLs cI rfl)).enc v1)), (6, .box ((cXCube (cLo cI) (cLo cI)).enc x23.1)), (7, .d (cB.enc x23.2)), (8, .box ((cXCube (cLo cI) (cLo cI)).enc x27))] (by kernel_rfl) <|
    xn <| wpC_seq <| reg_s <| st rfl <| ldb rfl rfl rfl rfl <| bnd h fun x31 e32 h => st rfl <| o_call (a1 (c := (cXCube (cLs cI rfl) (cLs cI rfl))) (tXCube (tLs tK) (tLs tK)) rfl a0) (con_laws_toCube e32) (.inl (so1 (sXCube (sLo sK) (sLo sK)) so0)) <| x_all (cXCube (cLo cI) (cLo cI)) (⟨([] : List Int), ([] : List Int)⟩ : XCube) rfl <| x_stb (so rfl rfl) rfl (Cd.h_sz _ _) rfl <| seqN [(2, .box ((cXCube (cLs cI rfl) (cLs cI rfl)).enc v0)), (3, .box ((cXCube (cLs cI rfl) (cLs cI rfl)).enc v1)), (6, .box ((cXCube (cLo cI) (cLo cI)).enc x23.1)), (7, .d (cB.enc x23.2)), (8, .box ((cXCube (cLo cI) (cLo cI)).enc x27)), (9, .box ((cXCube (cLo cI) (cLo cI)).enc x31))] (by kernel_rfl) <|
    xn <| wpC_seq <| reg_s <| st rfl <| ldbo rfl rfl rfl rfl <| st rfl <| ldbo rfl rfl rfl rfl <| bnd h fun x35 e36 h => st rfl <| o_call (a1 (c := (cXCube (cLo cI) (cLo cI))) (tXCube (tLo tK) (tLo tK)) rfl (a1 (c := (cXCube (cLo cI) (cLo cI))) (tXCube (tLo tK) (tLo tK)) rfl a0)) (con_impl_DifferenceOf e36) (.inl (so1 (sXCube (sLo sK) (sLo sK)) (so1 sB so0))) <| x_mvt rfl <| x_ext rfl rfl <| x_ext rfl rfl <| x_all (cXCube (cLo cI) (cLo cI)) (⟨([] : List Int), ([] : List Int)⟩ : XCube) rfl <| x_stb (so rfl rfl) rfl (Cd.h_sz _ _) rfl <| x_asg (ss rfl rfl) <| seqN [(2, .box ((cXCube (cLs cI rfl) (cLs cI rfl)).enc v0)), (3, .box ((cXCube (cLs cI rfl) (cLs cI rfl)).enc v1)), (6, .box ((cXCube (cLo cI) (cLo cI)).enc x23.1)), (7, .d (cB.enc x23.2)), (8, .box ((cXCube (cLo cI) (cLo cI)).enc x27)), (9, .box ((cXCube (cLo cI) (cLo cI)).enc x31)), (10, .box ((cXCube (cLo cI) (cLo cI)).enc x35.1)), (11, .d (cB.enc x35.2))] (by kernel_rfl) <|
    xn <| wpC_seq <| wpC_kp <| wpC_seq <| reg_s <| st rfl <| ldbo rfl rfl rfl rfl <| st rfl <| ldbo rfl rfl rfl rfl <| bnd h fun x47 e48 h => st rfl <| o_call (a1 (c := (cXCube (cLo cI) (cLo cI))) (tXCube (tLo tK) (tLo tK)) rfl (a1 (c := (cXCube (cLo cI) (cLo cI))) (tXCube (tLo tK) (tLo tK)) rfl a0)) (con_laws_eqCube e48) (.inl (so1 sB so0)) <| st rfl <| o_nt rfl <| st rfl <| mvd rfl rfl <| ite_k h (fun b49 h => gf rfl b49 <| gf rfl b49 <| gf rfl b49 <| st rfl <| pick1 rfl b49 (cd := cB) (v := true) rfl rfl <| seqN [(2, .box ((cXCube (cLs cI rfl) (cLs cI rfl)).enc v0)), (3, .box ((cXCube (cLs cI rfl) (cLs cI rfl)).enc v1)), (6, .box ((cXCube (cLo cI) (cLo cI)).enc x23.1)), (7, .d (cB.enc x23.2)), (8, .box ((cXCube (cLo cI) (cLo cI)).enc x27)), (9, .box ((cXCube (cLo cI) (cLo cI)).enc x31)), (10, .box ((cXCube (cLo cI) (cLo cI)).enc x35.1)), (11, .d (cB.enc x35.2)), (53, .d (cB.enc true))] (by kernel_rfl) <|
    xn <| cnd1 rfl rfl <| wpC_seq <| reg_s <| x_asg (sc cB false rfl) <| seqN [(4, .d (cB.enc false))] (by kernel_rfl) <|
    xn <| wpC_ret <| rt <| rt <| re <| fin h (r1 (ss rfl rfl) <| r0) rfl)
    (fun b49 h => gt' rfl b49 <| st rfl <| mvd rfl rfl <| gt' rfl b49 <| st rfl <| mvd rfl rfl <| gt' rfl b49 <| st rfl <| eqb1 rfl rfl <| st rfl <| pick0 rfl b49 (cd := cB) (v := (x35.2 != x23.2)) rfl rfl <| seqN [(2, .box ((cXCube (cLs cI rfl) (cLs cI rfl)).enc v0)), (3, .box ((cXCube (cLs cI rfl) (cLs cI rfl)).enc v1)), (6, .box ((cXCube (cLo cI) (cLo cI)).enc x23.1)), (7, .d (cB.enc x23.2)), (8, .box ((cXCube (cLo cI) (cLo cI)).enc x27)), (9, .box ((cXCube (cLo cI) (cLo cI)).enc x31)), (10, .box ((cXCube (cLo cI) (cLo cI)).enc x35.1)), (11, .d (cB.enc x35.2)), (53, .d (cB.enc (x35.2 != x23.2)))] (by kernel_rfl) <|
    xn <| cnd rfl h (fun b50 h => wpC_seq <| reg_s <| x_asg (sc cB false rfl) <| seqN [(4, .d (cB.enc false))] (by kernel_rfl) <|
    xn <| wpC_ret <| rt <| rt <| re <| fin h (r1 (ss rfl rfl) <| r0) rfl)
    (fun b50 h => wpC_skip <| kpN [(2, .box ((cXCube (cLs cI rfl) (cLs cI rfl)).enc v0)), (3, .box ((cXCube (cLs cI rfl) (cLs cI rfl)).enc v1)), (6, .box ((cXCube (cLo cI) (cLo cI)).enc x23.1)), (7, .d (cB.enc x23.2)), (8, .box ((cXCube (cLo cI) (cLo cI)).enc x27)), (9, .box ((cXCube (cLo cI) (cLo cI)).enc x31)), (10, .box ((cXCube (cLo cI) (cLo cI)).enc x35.1)), (11, .d (cB.enc x35.2))] (by kernel_rfl) <| xn <| wpC_seq <| wpC_kp <| wpC_seq <| drw_s <| pst rfl <| ldbo rfl rfl rfl rfl ⟨rfl, pst rfl <| ldb rfl rfl rfl rfl ⟨rfl, bndp h fun x64 e65 h => pst rfl <| o_call (a1 (c := (cXCube (cLs cI rfl) (cLs cI rfl))) (tXCube (tLs tK) (tLs tK)) rfl a0) (con_laws_toCube e65) (.inl (so1 (sXCube (sLo sK) (sLo sK)) so0)) ⟨rfl, bndp h fun x66 e67 h => pst rfl <| o_call (a1 (c := (cXCube (cLo cI) (cLo cI))) (tXCube (tLo tK) (tLo tK)) rfl (a1 (c := (cXCube (cLo cI) (cLo cI))) (tXCube (tLo tK) (tLo tK)) rfl a0)) (con_laws_eqCube e67) (.inl (so1 sB so0)) ⟨rfl, pst rfl <| o_nt rfl ⟨rfl, preN <| seqN [(2, .box ((cXCube (cLs cI rfl) (cLs cI rfl)).enc v0)), (3, .box ((cXCube (cLs cI rfl) (cLs cI rfl)).enc v1)), (6, .box ((cXCube (cLo cI) (cLo cI)).enc x23.1)), (7, .d (cB.enc x23.2)), (8, .box ((cXCube (cLo cI) (cLo cI)).enc x27)), (9, .box ((cXCube (cLo cI) (cLo cI)).enc x31)), (10, .box ((cXCube (cLo cI) (cLo cI)).enc x35.1)), (11, .d (cB.enc x35.2)), (58, .d (cB.enc (!x66)))] (by kernel_rfl) <|
    xn <| cnd rfl h (fun b68 h => wpC_seq <| reg_s <| x_asg (sc cB false rfl) <| seqN [(4, .d (cB.enc false))] (by kernel_rfl) <|
    xn <| wpC_ret <| rt <| rt <| re <| fin h (r1 (ss rfl rfl) <| r0) rfl)
    (fun b68 h => wpC_skip <| kpN [(2, .box ((cXCube (cLs cI rfl) (cLs cI rfl)).enc v0)), (3, .box ((cXCube (cLs cI rfl) (cLs cI rfl)).enc v1)), (6, .box ((cXCube (cLo cI) (cLo cI)).enc x23.1)), (7, .d (cB.enc x23.2)), (8, .box ((cXCube (cLo cI) (cLo cI)).enc x27)), (9, .box ((cXCube (cLo cI) (cLo cI)).enc x31)), (10, .box ((cXCube (cLo cI) (cLo cI)).enc x35.1)), (11, .d (cB.enc x35.2))] (by kernel_rfl) <| xn <| wpC_seq <| wpC_kp <| wpC_seq <| drw_s <| pst rfl <| ldbo rfl rfl rfl rfl ⟨rfl, pst rfl <| ldb rfl rfl rfl rfl ⟨rfl, bndp h fun x82 e83 h => pst rfl <| o_call (a1 (c := (cXCube (cLs cI rfl) (cLs cI rfl))) (tXCube (tLs tK) (tLs tK)) rfl a0) (con_laws_toCube e83) (.inl (so1 (sXCube (sLo sK) (sLo sK)) so0)) ⟨rfl, bndp h fun x84 e85 h => pst rfl <| o_call (a1 (c := (cXCube (cLo cI) (cLo cI))) (tXCube (tLo tK) (tLo tK)) rfl (a1 (c := (cXCube (cLo cI) (cLo cI))) (tXCube (tLo tK) (tLo tK)) rfl a0)) (con_laws_eqCube e85) (.inl (so1 sB so0)) ⟨rfl, pst rfl <| o_nt rfl ⟨rfl, preN <| seqN [(2, .box ((cXCube (cLs cI rfl) (cLs cI rfl)).enc v0)), (3, .box ((cXCube (cLs cI rfl) (cLs cI rfl)).enc v1)), (6, .box ((cXCube (cLo cI) (cLo cI)).enc x23.1)), (7, .d (cB.enc x23.2)), (8, .box ((cXCube (cLo cI) (cLo cI)).enc x27)), (9, .box ((cXCube (cLo cI) (cLo cI)).enc x31)), (10, .box ((cXCube (cLo cI) (cLo cI)).enc x35.1)), (11, .d (cB.enc x35.2)), (63, .d (cB.enc (!x84)))] (by kernel_rfl) <|
    xn <| cnd rfl h (fun b86 h => wpC_seq <| reg_s <| x_asg (sc cB false rfl) <| seqN [(4, .d (cB.enc false))] (by kernel_rfl) <|
    xn <| wpC_ret <| rt <| rt <| re <| fin h (r1 (ss rfl rfl) <| r0) rfl)
    (fun b86 h => wpC_skip <| kpN [(2, .box ((cXCube (cLs cI rfl) (cLs cI rfl)).enc v0)), (3, .box ((cXCube (cLs cI rfl) (cLs cI rfl)).enc v1)), (6, .box ((cXCube (cLo cI) (cLo cI)).enc x23.1)), (7, .d (cB.enc x23.2)), (8, .box ((cXCube (cLo cI) (cLo cI)).enc x27)), (9, .box ((cXCube (cLo cI) (cLo cI)).enc x31)), (10, .box ((cXCube (cLo cI) (cLo cI)).enc x35.1)), (11, .d (cB.enc x35.2))] (by kernel_rfl) <| xn <| wpC_seq <| reg_s <| x_asg (sc cI (1 : Int) rfl) <| seqN [(2, .box ((cXCube (cLs cI rfl) (cLs cI rfl)).enc v0)), (3, .box ((cXCube (cLs cI rfl) (cLs cI rfl)).enc v1)), (6, .box ((cXCube (cLo cI) (cLo cI)).enc x23.1)), (7, .d (cB.enc x23.2)), (8, .box ((cXCube (cLo cI) (cLo cI)).enc x27)), (9, .box ((cXCube (cLo cI) (cLo cI)).enc x31)), (10, .box ((cXCube (cLo cI) (cLo cI)).enc x35.1)), (11, .d (cB.enc x35.2)), (12, .d (cI.enc (1 : Int)))] (by kernel_rfl) <|
    xn <| wpC_seq <| reg_s <| st rfl <| ldbo rfl rfl rfl rfl <| st rfl <| mvd rfl rfl <| bnd h fun x89 e90 h => x_clr (c := (cXCube (cLo cI) (cLo cI))) (c' := (cXCube (cLo cI) (cLo cI))) ((cXCube (cLo cI) (cLo cI)).enc x89.1) (sXCube (sLo sK) (sLo sK)) rfl (a1 (c := cI) tK rfl a0) rfl Ln.nil (con_laws_markCube e90) rfl rfl (so1 sK so0) <| x_asg (ss rfl rfl) <| seqN [(2, .box ((cXCube (cLs cI rfl) (cLs cI rfl)).enc v0)), (3, .box ((cXCube (cLs cI rfl) (cLs cI rfl)).enc v1)), (6, .box ((cXCube (cLo cI) (cLo cI)).enc x23.1)), (7, .d (cB.enc x23.2)), (9, .box ((cXCube (cLo cI) (cLo cI)).enc x31)), (10, .box ((cXCube (cLo cI) (cLo cI)).enc x35.1)), (11, .d (cB.enc x35.2)), (12, .d (cI.enc x89.2))] (by kernel_rfl) <|
    xn <| wpC_seq <| reg_s <| st rfl <| ldbo rfl rfl rfl rfl <| st rfl <| mvd rfl rfl <| bnd h fun x93 e94 h => x_clr (c := (cXCube (cLo cI) (cLo cI))) (c' := (cXCube (cLo cI) (cLo cI))) ((cXCube (cLo cI) (cLo cI)).enc x93.1) (sXCube (sLo sK) (sLo sK)) rfl (a1 (c := cI) tK rfl a0) rfl Ln.nil (con_laws_markCube e94) rfl rfl (so1 sK so0) <| x_asg (ss rfl rfl) <| seqN [(2, .box ((cXCube (cLs cI rfl) (cLs cI rfl)).enc v0)), (3, .box ((cXCube (cLs cI rfl) (cLs cI rfl)).enc v1)), (6, .box ((cXCube (cLo cI) (cLo cI)).enc x23.1)), (7, .d (cB.enc x23.2)), (10, .box ((cXCube (cLo cI) (cLo cI)).enc x35.1)), (11, .d (cB.enc x35.2)), (12, .d (cI.enc x93.2))] (by kernel_rfl) <|
    xn <| wpC_seq <| wpC_kp <| wpC_seq <| reg_s <| st rfl <| mvd rfl rfl <| st rfl <| b_lss (k := .i64) rfl rfl <| st rfl <| mvd rfl rfl <| ite_k h (fun b107 h => gf rfl b107 <| gf rfl b107 <| gf rfl b107 <| gf rfl b107 <| st rfl <| pick1 rfl b107 (cd := cB) (v := true) rfl rfl <| st rfl <| mvd rfl rfl <| gf rfl rfl <| gf rfl rfl <| gf rfl rfl <| st rfl <| pick1 rfl rfl (cd := cB) (v := true) rfl rfl <| seqN [(2, .box ((cXCube (cLs cI rfl) (cLs cI rfl)).enc v0)), (3, .box ((cXCube (cLs cI rfl) (cLs cI rfl)).enc v1)), (6, .box ((cXCube (cLo cI) (cLo cI)).enc x23.1)), (7, .d (cB.enc x23.2)), (10, .box ((cXCube (cLo cI) (cLo cI)).enc x35.1)), (82, .d (cB.enc true))] (by kernel_rfl) <|
    xn <| cnd1 rfl rfl <| wpC_seq <| reg_s <| x_asg (sc cB false rfl) <| seqN [(4, .d (cB.enc false))] (by kernel_rfl) <|
    xn <| wpC_ret <| rt <| rt <| re <| fin h (r1 (ss rfl rfl) <| r0) rfl)
    (fun b107 h => gt' rfl b107 <| st rfl <| ldbo rfl rfl rfl rfl <| gt' rfl b107 <| st rfl <| ldbo rfl rfl rfl rfl <| gt' rfl b107 <| bnd h fun x108 e109 h => st rfl <| o_call (a1 (c := (cXCube (cLo cI) (cLo cI))) (tXCube (tLo tK) (tLo tK)) rfl (a1 (c := (cXCube (cLo cI) (cLo cI))) (tXCube (tLo tK) (tLo tK)) rfl a0)) (con_laws_eqCube e109) (.inl (so1 sB so0)) <| gt' rfl b107 <| st rfl <| o_nt rfl <| st rfl <| pick0 rfl b107 (cd := cB) (v := (!x108)) rfl rfl <| st rfl <| mvd rfl rfl <| ite_k h (fun b110 h => gf rfl b110 <| gf rfl b110 <| gf rfl b110 <| st rfl <| pick1 rfl b110 (cd := cB) (v := true) rfl rfl <| seqN [(2, .box ((cXCube (cLs cI rfl) (cLs cI rfl)).enc v0)), (3, .box ((cXCube (cLs cI rfl) (cLs cI rfl)).enc v1)), (6, .box ((cXCube (cLo cI) (cLo cI)).enc x23.1)), (7, .d (cB.enc x23.2)), (10, .box ((cXCube (cLo cI) (cLo cI)).enc x35.1)), (82, .d (cB.enc true))] (by kernel_rfl) <|
    xn <| cnd1 rfl rfl <| wpC_seq <| reg_s <| x_asg (sc cB false rfl) <| seqN [(4, .d (cB.enc false))] (by kernel_rfl) <|
    xn <| wpC_ret <| rt <| rt <| re <| fin h (r1 (ss rfl rfl) <| r0) rfl)
    (fun b110 h => gt' rfl b110 <| st rfl <| mvd rfl rfl <| gt' rfl b110 <| st rfl <| mvd rfl rfl <| gt' rfl b110 <| st rfl <| eqb1 rfl rfl <| st rfl <| pick0 rfl b110 (cd := cB) (v := (x35.2 != x23.2)) rfl rfl <| seqN [(2, .box ((cXCube (cLs cI rfl) (cLs cI rfl)).enc v0)), (3, .box ((cXCube (cLs cI rfl) (cLs cI rfl)).enc v1)), (6, .box ((cXCube (cLo cI) (cLo cI)).enc x23.1)), (7, .d (cB.enc x23.2)), (10, .box ((cXCube (cLo cI) (cLo cI)).enc x35.1)), (82, .d (cB.enc (x35.2 != x23.2)))] (by kernel_rfl) <|
    xn <| cnd0 rfl b50 <| wpC_skip <| kpN [(2, .box ((cXCube (cLs cI rfl) (cLs cI rfl)).enc v0)), (3, .box ((cXCube (cLs cI rfl) (cLs cI rfl)).enc v1)), (6, .box ((cXCube (cLo cI) (cLo cI)).enc x23.1)), (7, .d (cB.enc x23.2)), (10, .box ((cXCube (cLo cI) (cLo cI)).enc x35.1))] (by kernel_rfl) <| xn <| wpC_seq <| reg_s <| x_asg (sc cI (1 : Int) rfl) <| seqN [(2, .box ((cXCube (cLs cI rfl) (cLs cI rfl)).enc v0)), (3, .box ((cXCube (cLs cI rfl) (cLs cI rfl)).enc v1)), (6, .box ((cXCube (cLo cI) (cLo cI)).enc x23.1)), (7, .d (cB.enc x23.2)), (10, .box ((cXCube (cLo cI) (cLo cI)).enc x35.1)), (13, .d (cI.enc (1 : Int)))] (by kernel_rfl) <|
    xn <| wpC_seq <| reg_s <| st rfl <| ldbo rfl rfl rfl rfl <| st rfl <| mvd rfl rfl <| bnd h fun x113 e114 h => x_clr (c := (cXCube (cLo cI) (cLo cI))) (c' := (cXCube (cLo cI) (cLo cI))) ((cXCube (cLo cI) (cLo cI)).enc x113.1) (sXCube (sLo sK) (sLo sK)) rfl (a1 (c := cI) tK rfl a0) rfl Ln.nil (con_laws_markCube e114) rfl rfl (so1 sK so0) <| x_asg (ss rfl rfl) <| seqN [(2, .box ((cXCube (cLs cI rfl) (cLs cI rfl)).enc v0)), (3, .box ((cXCube (cLs cI rfl) (cLs cI rfl)).enc v1)), (6, .box ((cXCube (cLo cI) (cLo cI)).enc x23.1)), (7, .d (cB.enc x23.2)), (10, .box ((cXCube (cLo cI) (cLo cI)).enc x113.1)), (13, .d (cI.enc x113.2))] (by kernel_rfl) <|
    xn <| wpC_seq <| reg_s <| x_asg (sc cI (1 : Int) rfl) <| seqN [(2, .box ((cXCube (cLs cI rfl) (cLs cI rfl)).enc v0)), (3, .box ((cXCube (cLs cI rfl) (cLs cI rfl)).enc v1)), (6, .box ((cXCube (cLo cI) (cLo cI)).enc x23.1)), (7, .d (cB.enc x23.2)), (10, .box ((cXCube (cLo cI) (cLo cI)).enc x113.1)), (13, .d (cI.enc x113.2)), (14, .d (cI.enc (1 : Int)))] (by kernel_rfl) <|
    xn <| wpC_seq <| reg_s <| st rfl <| ldbo rfl rfl rfl rfl <| st rfl <| mvd rfl rfl <| bnd h fun x117 e118 h => st rfl <| o_call (a1 (c := (cXCube (cLo cI) (cLo cI))) (tXCube (tLo tK) (tLo tK)) rfl (a1 (c := cI) tK rfl a0)) (con_laws_heldCube e118) (.inl (so1 sK so0)) <| x_asg (ss rfl rfl) <| seqN [(2, .box ((cXCube (cLs cI rfl) (cLs cI rfl)).enc v0)), (3, .box ((cXCube (cLs cI rfl) (cLs cI rfl)).enc v1)), (6, .box ((cXCube (cLo cI) (cLo cI)).enc x23.1)), (7, .d (cB.enc x23.2)), (10, .box ((cXCube (cLo cI) (cLo cI)).enc x113.1)), (13, .d (cI.enc x113.2)), (14, .d (cI.enc x117))] (by kernel_rfl) <|
    xn <| wpC_seq <| wpC_kp <| wpC_seq <| reg_s <| st rfl <| mvd rfl rfl <| st rfl <| b_lss (k := .i64) rfl rfl <| seqN [(2, .box ((cXCube (cLs cI rfl) (cLs cI rfl)).enc v0)), (3, .box ((cXCube (cLs cI rfl) (cLs cI rfl)).enc v1)), (6, .box ((cXCube (cLo cI) (cLo cI)).enc x23.1)), (7, .d (cB.enc x23.2)), (10, .box ((cXCube (cLo cI) (cLo cI)).enc x113.1)), (13, .d (cI.enc x113.2)), (14, .d (cI.enc x117)), (90, .d (cB.enc (decide (x117 < (0 : Int)))))] (by kernel_rfl) <|
    xn <| cnd rfl h (fun b120 h => wpC_seq <| reg_s <| x_asg (sc cB false rfl) <| seqN [(4, .d (cB.enc false))] (by kernel_rfl) <|
    xn <| wpC_ret <| rt <| rt <| re <| fin h (r1 (ss rfl rfl) <| r0) rfl)
    (fun b120 h => wpC_skip <| kpN [(2, .box ((cXCube (cLs cI rfl) (cLs cI rfl)).enc v0)), (3, .box ((cXCube (cLs cI rfl) (cLs cI rfl)).enc v1)), (6, .box ((cXCube (cLo cI) (cLo cI)).enc x23.1)), (7, .d (cB.enc x23.2)), (10, .box ((cXCube (cLo cI) (cLo cI)).enc x113.1)), (13, .d (cI.enc x113.2)), (14, .d (cI.enc x117))] (by kernel_rfl) <| xn <| wpC_seq <| wpC_kp <| wpC_seq <| reg_s <| st rfl <| mvd rfl rfl <| st rfl <| mvd rfl rfl <| st rfl <| b_neq (k := .i64) rfl rfl <| seqN [(2, .box ((cXCube (cLs cI rfl) (cLs cI rfl)).enc v0)), (3, .box ((cXCube (cLs cI rfl) (cLs cI rfl)).enc v1)), (6, .box ((cXCube (cLo cI) (cLo cI)).enc x23.1)), (7, .d (cB.enc x23.2)), (10, .box ((cXCube (cLo cI) (cLo cI)).enc x113.1)), (13, .d (cI.enc x113.2)), (93, .d (cB.enc (decide (x117 ≠ x113.2))))] (by kernel_rfl) <|
    xn <| cnd rfl h (fun b122 h => wpC_seq <| reg_s <| x_asg (sc cB false rfl) <| seqN [(4, .d (cB.enc false))] (by kernel_rfl) <|
    xn <| wpC_ret <| rt <| rt <| re <| fin h (r1 (ss rfl rfl) <| r0) rfl)
    (fun b122 h => wpC_skip <| kpN [(2, .box ((cXCube (cLs cI rfl) (cLs cI rfl)).enc v0)), (3, .box ((cXCube (cLs cI rfl) (cLs cI rfl)).enc v1)), (6, .box ((cXCube (cLo cI) (cLo cI)).enc x23.1)), (7, .d (cB.enc x23.2)), (10, .box ((cXCube (cLo cI) (cLo cI)).enc x113.1)), (13, .d (cI.enc x113.2))] (by kernel_rfl) <| xn <| wpC_seq <| drg_s <| pst rfl <| ldb rfl rfl rfl rfl ⟨rfl, bndp h fun x129 e130 h => pst rfl <| o_call (a1 (c := (cXCube (cLs cI rfl) (cLs cI rfl))) (tXCube (tLs tK) (tLs tK)) rfl a0) (con_laws_toCube e130) (.inl (so1 (sXCube (sLo sK) (sLo sK)) so0)) ⟨rfl, pst rfl <| ldb rfl rfl rfl rfl ⟨rfl, bndp h fun x131 e132 h => pst rfl <| o_call (a1 (c := (cXCube (cLs cI rfl) (cLs cI rfl))) (tXCube (tLs tK) (tLs tK)) rfl a0) (con_laws_toCube e132) (.inl (so1 (sXCube (sLo sK) (sLo sK)) so0)) ⟨rfl, bndp h fun x133 e134 h => pst rfl <| o_call (a1 (c := (cXCube (cLo cI) (cLo cI))) (tXCube (tLo tK) (tLo tK)) rfl (a1 (c := (cXCube (cLo cI) (cLo cI))) (tXCube (tLo tK) (tLo tK)) rfl a0)) (con_impl_DifferenceOf e134) (.inl (so1 (sXCube (sLo sK) (sLo sK)) (so1 sB so0))) ⟨rfl, pst rfl <| p_all (cXCube (cLo cI) (cLo cI)) (⟨([] : List Int), ([] : List Int)⟩ : XCube) rfl ⟨rfl, preN <| gr_s [(6, .box ((cXCube (cLo cI) (cLo cI)).enc x23.1)), (7, .d (cB.enc x23.2)), (10, .box ((cXCube (cLo cI) (cLo cI)).enc x113.1)), (13, .d (cI.enc x113.2))] [([false, false, false, false, false, false], [(15, .un), (16, .un), (94, .un), (99, .tup [some ((cXCube (cLo cI) (cLo cI)).enc x133.1), some (cB.enc x133.2)]), (100, .un), (101, .un)]),
     ([true, false, false, false, false, false], [(15, .box ((cXCube (cLo cI) (cLo cI)).enc (⟨([] : List Int), ([] : List Int)⟩ : XCube))), (16, .un), (94, .un), (99, .tup [some ((cXCube (cLo cI) (cLo cI)).enc x133.1), some (cB.enc x133.2)]), (100, .un), (101, .un)]),
     ([false, true, false, false, false, false], [(15, .un), (16, .un), (94, .tup [some ((cXCube (cLo cI) (cLo cI)).enc x133.1), some (cB.enc x133.2)]), (99, .un), (100, .un), (101, .un)]),
     ([true, true, false, false, false, false], [(15, .box ((cXCube (cLo cI) (cLo cI)).enc (⟨([] : List Int), ([] : List Int)⟩ : XCube))), (16, .un), (94, .tup [some ((cXCube (cLo cI) (cLo cI)).enc x133.1), some (cB.enc x133.2)]), (99, .un), (100, .un), (101, .un)]),
     ([false, true, true, false, false, false], [(15, .un), (16, .un), (94, .tup [none, some (cB.enc x133.2)]), (99, .un), (100, .d ((cXCube (cLo cI) (cLo cI)).enc x133.1)), (101, .un)]),
     ([false, true, false, true, false, false], [(15, .un), (16, .un), (94, .tup [some ((cXCube (cLo cI) (cLo cI)).enc x133.1), none]), (99, .un), (100, .un), (101, .d (cB.enc x133.2))]),
     ([true, true, true, false, false, false], [(15, .box ((cXCube (cLo cI) (cLo cI)).enc (⟨([] : List Int), ([] : List Int)⟩ : XCube))), (16, .un), (94, .tup [none, some (cB.enc x133.2)]), (99, .un), (100, .d ((cXCube (cLo cI) (cLo cI)).enc x133.1)), (101, .un)]),
     ([true, true, false, true, false, false], [(15, .box ((cXCube (cLo cI) (cLo cI)).enc (⟨([] : List Int), ([] : List Int)⟩ : XCube))), (16, .un), (94, .tup [some ((cXCube (cLo cI) (cLo cI)).enc x133.1), none]), (99, .un), (100, .un), (101, .d (cB.enc x133.2))]),
     ([false, true, true, true, false, false], [(15, .un), (16, .un), (94, .tup [none, none]), (99, .un), (100, .d ((cXCube (cLo cI) (cLo cI)).enc x133.1)), (101, .d (cB.enc x133.2))]),
     ([true, true, true, true, false, false], [(15, .box ((cXCube (cLo cI) (cLo cI)).enc (⟨([] : List Int), ([] : List Int)⟩ : XCube))), (16, .un), (94, .tup [none, none]), (99, .un), (100, .d ((cXCube (cLo cI) (cLo cI)).enc x133.1)), (101, .d (cB.enc x133.2))]),
     ([true, true, true, false, true, false], [(15, .box ((cXCube (cLo cI) (cLo cI)).enc x133.1)), (16, .un), (94, .tup [none, some (cB.enc x133.2)]), (99, .un), (100, .un), (101, .un)]),
     ([true, true, true, true, true, false], [(15, .box ((cXCube (cLo cI) (cLo cI)).enc x133.1)), (16, .un), (94, .tup [none, none]), (99, .un), (100, .un), (101, .d (cB.enc x133.2))]),
     ([true, true, true, true, true, true], [(15, .box ((cXCube (cLo cI) (cLo cI)).enc x133.1)), (16, .d (cB.enc x133.2)), (94, .tup [none, none]), (99, .un), (100, .un), (101, .d (cB.enc x133.2))])] [(6, .box ((cXCube (cLo cI) (cLo cI)).enc x23.1)), (7, .d (cB.enc x23.2)), (10, .box ((cXCube (cLo cI) (cLo cI)).enc x113.1)), (13, .d (cI.enc x113.2)), (15, .box ((cXCube (cLo cI) (cLo cI)).enc x133.1)), (16, .d (cB.enc x133.2))] [([false, false, false, false, false, false], [15]), ([true, false, false, false, false, false], [])] (by kernel_rfl) (sa1 rfl (by kernel_rfl) <| sa1 rfl (by kernel_rfl) <| sa0) rfl
    (ob1 rfl rfl rfl (x_all (cXCube (cLo cI) (cLo cI)) (⟨([] : List Int), ([] : List Int)⟩ : XCube) rfl <| obN (by kernel_rfl)) <|
    ob1 rfl rfl rfl (x_mvt rfl <| obN (by kernel_rfl)) <|
    ob1 rfl rfl rfl (x_mvt rfl <| obN (by kernel_rfl)) <|
    ob1 rfl rfl rfl (x_all (cXCube (cLo cI) (cLo cI)) (⟨([] : List Int), ([] : List Int)⟩ : XCube) rfl <| obN (by kernel_rfl)) <|
    ob1 rfl rfl rfl (x_ext rfl rfl <| obN (by kernel_rfl)) <|
    ob1 rfl rfl rfl (x_ext rfl rfl <| obN (by kernel_rfl)) <|
    ob1 rfl rfl rfl (x_ext rfl rfl <| obN (by kernel_rfl)) <|
    ob1 rfl rfl rfl (x_ext rfl rfl <| obN (by kernel_rfl)) <|
    ob1 rfl rfl rfl (x_all (cXCube (cLo cI) (cLo cI)) (⟨([] : List Int), ([] : List Int)⟩ : XCube) rfl <| obN (by kernel_rfl)) <|
    ob1 rfl rfl rfl (x_ext rfl rfl <| obN (by kernel_rfl)) <|
    ob1 rfl rfl rfl (x_all (cXCube (cLo cI) (cLo cI)) (⟨([] : List Int), ([] : List Int)⟩ : XCube) rfl <| obN (by kernel_rfl)) <|
    ob1 rfl rfl rfl (x_ext rfl rfl <| obN (by kernel_rfl)) <|
    ob1 rfl rfl rfl (x_ext rfl rfl <| obN (by kernel_rfl)) <|
    ob1 rfl rfl rfl (x_stb (so rfl rfl) rfl (Cd.h_sz _ _) rfl <| obN (by kernel_rfl)) <|
    ob1 rfl rfl rfl (x_ext rfl rfl <| obN (by kernel_rfl)) <|
    ob1 rfl rfl rfl (x_all (cXCube (cLo cI) (cLo cI)) (⟨([] : List Int), ([] : List Int)⟩ : XCube) rfl <| obN (by kernel_rfl)) <|
    ob1 rfl rfl rfl (x_stb (so rfl rfl) rfl (Cd.h_sz _ _) rfl <| obN (by kernel_rfl)) <|
    ob1 rfl rfl rfl (x_ext rfl rfl <| obN (by kernel_rfl)) <|
    ob1 rfl rfl rfl (x_asg (ss rfl rfl) <| obN (by kernel_rfl)) <|
    ob0)
    (by kernel_rfl) <|
    xn <| wpC_seq <| wpC_kp <| wpC_seq <| reg_s <| st rfl <| ldbo rfl rfl rfl rfl <| st rfl <| ldbo rfl rfl rfl rfl <| bnd h fun x145 e146 h => st rfl <| o_call (a1 (c := (cXCube (cLo cI) (cLo cI))) (tXCube (tLo tK) (tLo tK)) rfl (a1 (c := (cXCube (cLo cI) (cLo cI))) (tXCube (tLo tK) (tLo tK)) rfl a0)) (con_laws_eqCube e146) (.inl (so1 sB so0)) <| st rfl <| o_nt rfl <| st rfl <| mvd rfl rfl <| ite_k h (fun b147 h => gf rfl b147 <| gf rfl b147 <| gf rfl b147 <| st rfl <| pick1 rfl b147 (cd := cB) (v := true) rfl rfl <| seqN [(10, .box ((cXCube (cLo cI) (cLo cI)).enc x113.1)), (13, .d (cI.enc x113.2)), (110, .d (cB.enc true))] (by kernel_rfl) <|
    xn <| cnd1 rfl rfl <| wpC_seq <| reg_s <| x_asg (sc cB false rfl) <| seqN [(4, .d (cB.enc false))] (by kernel_rfl) <|
    xn <| wpC_ret <| rt <| rt <| re <| fin h (r1 (ss rfl rfl) <| r0) rfl)
    (fun b147 h => gt' rfl b147 <| st rfl <| mvd rfl rfl <| gt' rfl b147 <| st rfl <| mvd rfl rfl <| gt' rfl b147 <| st rfl <| eqb1 rfl rfl <| st rfl <| pick0 rfl b147 (cd := cB) (v := (x133.2 != x23.2)) rfl rfl <| seqN [(10, .box ((cXCube (cLo cI) (cLo cI)).enc x113.1)), (13, .d (cI.enc x113.2)), (110, .d (cB.enc (x133.2 != x23.2)))] (by kernel_rfl) <|
    xn <| cnd rfl h (fun b148 h => wpC_seq <| reg_s <| x_asg (sc cB false rfl) <| seqN [(4, .d (cB.enc false))] (by kernel_rfl) <|
    xn <| wpC_ret <| rt <| rt <| re <| fin h (r1 (ss rfl rfl) <| r0) rfl)
    (fun b148 h => wpC_skip <| kpN [(10, .box ((cXCube (cLo cI) (cLo cI)).enc x113.1)), (13, .d (cI.enc x113.2))] (by kernel_rfl) <| xn <| wpC_seq <| reg_s <| x_asg (sc cI (1 : Int) rfl) <| seqN [(10, .box ((cXCube (cLo cI) (cLo cI)).enc x113.1)), (13, .d (cI.enc x113.2)), (14, .d (cI.enc (1 : Int)))] (by kernel_rfl) <|
    xn <| wpC_seq <| reg_s <| st rfl <| ldbo rfl rfl rfl rfl <| st rfl <| mvd rfl rfl <| bnd h fun x151 e152 h => st rfl <| o_call (a1 (c := (cXCube (cLo cI) (cLo cI))) (tXCube (tLo tK) (tLo tK)) rfl (a1 (c := cI) tK rfl a0)) (con_laws_heldCube e152) (.inl (so1 sK so0)) <| x_asg (ss rfl rfl) <| seqN [(13, .d (cI.enc x113.2)), (14, .d (cI.enc x151))] (by kernel_rfl) <|
    xn <| wpC_seq <| wpC_kp <| wpC_seq <| reg_s <| st rfl <| mvd rfl rfl <| st rfl <| b_lss (k := .i64) rfl rfl <| seqN [(13, .d (cI.enc x113.2)), (14, .d (cI.enc x151)), (115, .d (cB.enc (decide (x151 < (0 : Int)))))] (by kernel_rfl) <|
    xn <| cnd rfl h (fun b154 h => wpC_seq <| reg_s <| x_asg (sc cB false rfl) <| seqN [(4, .d (cB.enc false))] (by kernel_rfl) <|
    xn <| wpC_ret <| rt <| rt <| re <| fin h (r1 (ss rfl rfl) <| r0) rfl)
    (fun b154 h => wpC_skip <| kpN [(13, .d (cI.enc x113.2)), (14, .d (cI.enc x151))] (by kernel_rfl) <| xn <| wpC_seq <| wpC_kp <| wpC_seq <| reg_s <| st rfl <| mvd rfl rfl <| st rfl <| mvd rfl rfl <| st rfl <| b_neq (k := .i64) rfl rfl <| seqN [(118, .d (cB.enc (decide (x151 ≠ x113.2))))] (by kernel_rfl) <|
    xn <| cnd rfl h (fun b156 h => wpC_seq <| reg_s <| x_asg (sc cB false rfl) <| seqN [(4, .d (cB.enc false))] (by kernel_rfl) <|
    xn <| wpC_ret <| rt <| rt <| re <| fin h (r1 (ss rfl rfl) <| r0) rfl)
    (fun b156 h => wpC_skip <| kpN [] (by kernel_rfl) <| xn <| wpC_seq <| reg_s <| x_asg (sc cB true rfl) <| seqN [(4, .d (cB.enc true))] (by kernel_rfl) <|
    xn <| wpC_ret <| re <| fin h (r1 (ss rfl rfl) <| r0) rfl))))⟩⟩⟩⟩⟩⟩)))))⟩⟩⟩⟩⟩)⟩⟩⟩⟩⟩))⟩⟩⟩⟩⟩⟩))
end AS.W
