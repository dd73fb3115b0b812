/- The program computes the plain functions. No condition. -/
import Derived.Test.YtjikhkfmddflhaaQGroupCubeS
import Derived.Test.YtjikhkfmddflhaaProg
import Derived.Test.YtjikhkfmddflhaaQGroupCubeL0
set_option maxRecDepth 100000
set_option linter.unusedVariables false
set_option linter.unusedSimpArgs false
namespace AS.W
open Go Go.Proofs
def rs_impl_firstBreak (r : Int) : List D := [cI.enc r]
def m157 : MC := .seq (.reg [⟨some 1, .box (.t 0), none⟩,
    ⟨some 2, .asg (.c (.int .i64 0)), none⟩] [1])
  (.seq (.reg [⟨some 10, .fa 1 0 0, none⟩,
    ⟨some 11, .ld 10 1 false, none⟩,
    ⟨some 12, .call 158 [(.t 11)], none⟩,
    ⟨some 3, .asg (.t 12), none⟩] [1, 3])
  (.seq (.kp [1] (.seq (.reg [⟨some 13, .fa 1 1 1, none⟩,
    ⟨some 14, .ld 13 1 false, none⟩,
    ⟨some 15, .len false (.t 14), none⟩,
    ⟨some 16, .mv (.c (.int .i64 0)), none⟩] [1, 3, 13, 14, 15, 16])
  (.blk 0 (.loop (.seq (.reg [⟨some 17, .bin .lss (.t 16) (.t 15), none⟩] [1, 3, 13, 14, 15, 16, 17])
  (.seq (.kp [1, 3, 13, 14, 15, 16] (.cond (.t 17) (.skip) (.exit 0)))
  (.seq (.kp [1, 3, 13, 14, 15, 16] (.blk 1 (.seq (.reg [⟨some 18, .mv (.t 16), none⟩,
    ⟨some 19, .ia 14 (.t 16) 1, none⟩,
    ⟨some 20, .ld 19 1 false, none⟩,
    ⟨some 4, .asg (.t 18), none⟩,
    ⟨some 5, .asg (.t 20), none⟩] [1, 3, 4, 5, 13, 14, 15, 16])
  (.seq (.reg [⟨some 21, .fa 1 0 0, none⟩,
    ⟨some 22, .ld 21 1 false, none⟩,
    ⟨some 23, .mv (.t 4), none⟩,
    ⟨some 24, .call 120 [(.t 22), (.t 23)], none⟩,
    ⟨some 25, .len false (.t 24), none⟩,
    ⟨some 26, .mv (.c (.int .i64 0)), none⟩] [1, 3, 4, 5, 13, 14, 15, 16, 24, 25, 26])
  (.blk 2 (.loop (.seq (.reg [⟨some 27, .bin .lss (.t 26) (.t 25), none⟩] [1, 3, 4, 5, 13, 14, 15, 16, 24, 25, 26, 27])
  (.seq (.kp [1, 3, 4, 5, 13, 14, 15, 16, 24, 25, 26] (.cond (.t 27) (.skip) (.exit 2)))
  (.seq (.kp [1, 3, 4, 5, 13, 14, 15, 16, 24, 25, 26] (.blk 3 (.seq (.reg [⟨some 28, .mv (.t 26), none⟩,
    ⟨some 29, .ia 24 (.t 26) 1, none⟩,
    ⟨some 30, .ld 29 1 false, none⟩,
    ⟨some 6, .asg (.t 28), none⟩,
    ⟨some 7, .asg (.t 30), none⟩] [1, 3, 4, 5, 6, 7, 13, 14, 15, 16, 24, 25, 26])
  (.seq (.kp [1, 3, 4, 5, 6, 7, 13, 14, 15, 16, 24, 25, 26] (.seq (.reg [⟨some 31, .mv (.t 7), none⟩,
    ⟨some 32, .fa 1 0 0, none⟩,
    ⟨some 33, .ld 32 1 false, none⟩,
    ⟨some 34, .mv (.t 6), none⟩,
    ⟨some 35, .ia 33 (.t 34) 1, none⟩,
    ⟨some 36, .ld 35 1 false, none⟩,
    ⟨some 37, .bin .neq (.t 31) (.t 36), none⟩] [1, 3, 4, 5, 6, 7, 13, 14, 15, 16, 24, 25, 26, 37])
  (.cond (.t 37) (.exit 3) (.skip))))
  (.seq (.reg [⟨some 8, .asg (.c (.int .i64 0)), none⟩] [1, 3, 4, 5, 6, 7, 8, 13, 14, 15, 16, 24, 25, 26])
  (.seq (.kp [1, 3, 4, 5, 8, 13, 14, 15, 16, 24, 25, 26] (.seq (.reg [⟨some 9, .asg (.c (.int .i64 1)), none⟩] [1, 3, 4, 5, 6, 7, 8, 9, 13, 14, 15, 16, 24, 25, 26])
  (.blk 4 (.loop (.seq (.kp [1, 3, 4, 5, 6, 7, 8, 9, 13, 14, 15, 16, 24, 25, 26] (.seq (.reg [⟨some 38, .mv (.t 9), none⟩,
    ⟨some 39, .mv (.t 7), none⟩,
    ⟨some 40, .bin .leq (.t 38) (.t 39), none⟩] [1, 3, 4, 5, 6, 7, 8, 9, 13, 14, 15, 16, 24, 25, 26, 40])
  (.cond (.t 40) (.skip) (.exit 4))))
  (.seq (.kp [1, 3, 4, 5, 6, 7, 8, 9, 13, 14, 15, 16, 24, 25, 26] (.blk 5 (.drw [⟨0, ⟨some 43, .mv (.t 8), none⟩, [44, 45, 46, 47, 48, 49, 50, 51, 52, 53, 54, 55, 56]⟩,
    ⟨1, ⟨some 44, .fa 1 1 1, none⟩, [43, 45, 46, 47, 48, 49, 50, 51, 52, 53, 54, 55, 56]⟩,
    ⟨2, ⟨some 45, .ld 44 1 false, none⟩, [43, 46, 47, 48, 49, 50, 51, 52, 53, 54, 55, 56]⟩,
    ⟨3, ⟨some 46, .mv (.t 4), none⟩, [43, 44, 45, 47, 48, 49, 50, 51, 52, 53, 54, 55, 56]⟩,
    ⟨4, ⟨some 47, .mv (.t 9), none⟩, [43, 44, 45, 46, 48, 49, 50, 51, 52, 53, 54, 55, 56]⟩,
    ⟨5, ⟨some 48, .mv (.t 3), none⟩, [43, 44, 45, 46, 47, 49, 50, 51, 52, 53, 54, 55, 56]⟩,
    ⟨6, ⟨some 49, .mv (.t 6), none⟩, [43, 44, 45, 46, 47, 48, 50, 51, 52, 53, 54, 55, 56]⟩,
    ⟨7, ⟨some 50, .ia 48 (.t 49) 1, none⟩, [43, 44, 45, 46, 47, 51, 52, 53, 54, 55, 56]⟩,
    ⟨8, ⟨some 51, .ld 50 1 false, none⟩, [43, 44, 45, 46, 47, 52, 53, 54, 55, 56]⟩,
    ⟨9, ⟨some 52, .bin .mul (.t 47) (.t 51), none⟩, [43, 44, 45, 46, 53, 54, 55, 56]⟩,
    ⟨10, ⟨some 53, .bin .sub (.t 46) (.t 52), none⟩, [43, 44, 45, 54, 55, 56]⟩,
    ⟨11, ⟨some 54, .ia 45 (.t 53) 1, none⟩, [43, 55, 56]⟩,
    ⟨12, ⟨some 55, .ld 54 1 false, none⟩, [43, 56]⟩,
    ⟨13, ⟨some 56, .bin .add (.t 43) (.t 55), none⟩, []⟩]
    [(14, ⟨some 8, .asg (.t 56), none⟩)] [1, 3, 4, 5, 6, 7, 8, 9, 13, 14, 15, 16, 24, 25, 26])))
  (.reg [⟨some 41, .mv (.t 9), none⟩,
    ⟨some 42, .bin .add (.t 41) (.c (.int .i64 1)), none⟩,
    ⟨some 9, .asg (.t 42), none⟩] [1, 3, 4, 5, 6, 7, 8, 9, 13, 14, 15, 16, 24, 25, 26])))))))
  (.seq (.reg [⟨some 57, .mv (.t 8), none⟩,
    ⟨some 58, .mv (.t 5), none⟩,
    ⟨some 59, .bin .neq (.t 57) (.t 58), none⟩] [1, 3, 4, 5, 13, 14, 15, 16, 24, 25, 26, 59])
  (.cond (.t 59) (.seq (.reg [⟨some 60, .mv (.t 4), none⟩,
    ⟨some 2, .asg (.t 60), none⟩] [2])
  (.ret)) (.skip)))))))))
  (.reg [⟨some 61, .bin .add (.t 26) (.c (.int .i64 1)), none⟩,
    ⟨some 26, .mv (.t 61), none⟩] [1, 3, 4, 5, 13, 14, 15, 16, 24, 25, 26]))))))))))
  (.reg [⟨some 62, .bin .add (.t 16) (.c (.int .i64 1)), none⟩,
    ⟨some 16, .mv (.t 62), none⟩] [1, 3, 13, 14, 15, 16]))))))))
  (.seq (.reg [⟨some 63, .fa 1 1 1, none⟩,
    ⟨some 64, .ld 63 1 false, none⟩,
    ⟨some 65, .len false (.t 64), none⟩,
    ⟨some 2, .asg (.t 65), none⟩] [2])
  (.ret))))
theorem con_impl_firstBreak {v0 : XCube} {r : Int} (h : sh_impl_firstBreak v0 = some r) : Con Try.prog 157 [(cXCube (cLs cI rfl) (cLs cI rfl)).enc v0] [] (rs_impl_firstBreak r) := by
  delta sh_impl_firstBreak at h
  refine top (out := none) (f := Try.f157) (m := m157) (rs := [.t 2]) (by kernel_rfl) rfl (by kernel_rfl) (by kernel_rfl) (by kernel_rfl) (by kernel_rfl) (by kernel_rfl) ?_
  exact
   ini [(0, .d ((cXCube (cLs cI rfl) (cLs cI rfl)).enc v0))] rfl <| wpC_seq <| reg_s <| x_box (ss rfl rfl) <| x_asg (sc cI (0 : Int) rfl) <| seqN [(1, .box ((cXCube (cLs cI rfl) (cLs cI rfl)).enc v0))] (by kernel_rfl) <|
    xn <| wpC_seq <| reg_s <| st rfl <| fab rfl rfl rfl rfl <| st rfl <| lda rfl rfl rfl rfl rfl rfl <| bnd h fun x3 e4 h => st rfl <| o_call (a1 (c := (cLs cI rfl)) (tLs tK) rfl a0) (con_impl_strides e4) (.inl (so1 (sLo sK) so0)) <| x_asg (so rfl rfl) <| seqN [(1, .box ((cXCube (cLs cI rfl) (cLs cI rfl)).enc v0)), (3, .d ((cLo cI).enc x3))] (by kernel_rfl) <|
    xn <| wpC_seq <| wpC_kp <| wpC_seq <| reg_s <| st rfl <| fab rfl rfl rfl rfl <| st rfl <| lda rfl rfl rfl rfl rfl rfl <| stw rfl <| lens rfl fun l2584 => st rfl <| mvc cI (0 : Int) rfl <| seqN [(1, .box ((cXCube (cLs cI rfl) (cLs cI rfl)).enc v0)), (3, .d ((cLo cI).enc x3)), (13, .adr 1 [.fld 1]), (14, .d ((cLs cI rfl).enc v0.Cells)), (15, .d (cI.enc (v0.Cells.length : Int))), (16, .d (cI.enc (0 : Int)))] (by kernel_rfl) <|
    xn <| wpC_blk <| lpR (fun (k2586 : Nat) (s2585 : Unit) => [(1, .box ((cXCube (cLs cI rfl) (cLs cI rfl)).enc v0)), (3, .d ((cLo cI).enc x3)), (13, .adr 1 [.fld 1]), (14, .d ((cLs cI rfl).enc v0.Cells)), (15, .d (cI.enc (v0.Cells.length : Int))), (16, .d (cI.enc (k2586 : Int)))]) () rfl h
    (fun G3876 s2585 h => wpC_seq <| reg_s <| st rfl <| b_lss (k := .i64) rfl rfl <| seqN [(1, .box ((cXCube (cLs cI rfl) (cLs cI rfl)).enc v0)), (3, .d ((cLo cI).enc x3)), (13, .adr 1 [.fld 1]), (14, .d ((cLs cI rfl).enc v0.Cells)), (15, .d (cI.enc (v0.Cells.length : Int))), (16, .d (cI.enc (v0.Cells.length : Int))), (17, .d (cB.enc (decide ((v0.Cells.length : Int) < (v0.Cells.length : Int)))))] (by kernel_rfl) <|
    xn <| wpC_seq <| wpC_kp <| cnd0 rfl (dlf _) <| wpC_exit <| xt <| xt <| xt <| xb <| kpN [(1, .box ((cXCube (cLs cI rfl) (cLs cI rfl)).enc v0))] (by kernel_rfl) <| xn <| wpC_seq <| reg_s <| st rfl <| fab rfl rfl rfl rfl <| st rfl <| lda rfl rfl rfl rfl rfl rfl <| stw rfl <| lens rfl fun l3878 => x_asg (ss rfl rfl) <| seqN [(2, .d (cI.enc (v0.Cells.length : Int)))] (by kernel_rfl) <|
    xn <| wpC_ret <| re <| fin h (r1 (ss rfl rfl) <| r0) rfl)
    (fun G3876 nx3874 k2586 s2585 x2587 hk2588 hx2589 hn3875 h => wpC_seq <| reg_s <| st rfl <| b_lss (k := .i64) rfl rfl <| seqN [(1, .box ((cXCube (cLs cI rfl) (cLs cI rfl)).enc v0)), (3, .d ((cLo cI).enc x3)), (13, .adr 1 [.fld 1]), (14, .d ((cLs cI rfl).enc v0.Cells)), (15, .d (cI.enc (v0.Cells.length : Int))), (16, .d (cI.enc (k2586 : Int))), (17, .d (cB.enc (decide ((k2586 : Int) < (v0.Cells.length : Int)))))] (by kernel_rfl) <|
    xn <| wpC_seq <| wpC_kp <| cnd1 rfl (dlt hk2588) <| wpC_skip <| kpN [(1, .box ((cXCube (cLs cI rfl) (cLs cI rfl)).enc v0)), (3, .d ((cLo cI).enc x3)), (13, .adr 1 [.fld 1]), (14, .d ((cLs cI rfl).enc v0.Cells)), (15, .d (cI.enc (v0.Cells.length : Int))), (16, .d (cI.enc (k2586 : Int)))] (by kernel_rfl) <| xn <| wpC_seq <| wpC_kp <| wpC_blk <| wpC_seq <| reg_s <| st rfl <| mvd rfl rfl <| st rfl <| ias rfl rfl (Int.natCast_nonneg _) hx2589 rfl <| st rfl <| ldi rfl rfl rfl rfl <| x_asg (ss rfl rfl) <| x_asg (ss rfl rfl) <| seqN [(1, .box ((cXCube (cLs cI rfl) (cLs cI rfl)).enc v0)), (3, .d ((cLo cI).enc x3)), (4, .d (cI.enc (k2586 : Int))), (5, .d (cI.enc x2587)), (13, .adr 1 [.fld 1]), (14, .d ((cLs cI rfl).enc v0.Cells)), (15, .d (cI.enc (v0.Cells.length : Int))), (16, .d (cI.enc (k2586 : Int)))] (by kernel_rfl) <|
    xn <| wpC_seq <| reg_s <| st rfl <| fab rfl rfl rfl rfl <| st rfl <| lda rfl rfl rfl rfl rfl rfl <| st rfl <| mvd rfl rfl <| bnd h fun x4524 e4525 h => st rfl <| o_call (a1 (c := (cLs cI rfl)) (tLs tK) rfl (a1 (c := cI) tK rfl a0)) (con_impl_indexOf e4525) (.inl (so1 (sLo sK) so0)) <| stw rfl <| leno rfl fun l4526 => st rfl <| mvc cI (0 : Int) rfl <| seqN [(1, .box ((cXCube (cLs cI rfl) (cLs cI rfl)).enc v0)), (3, .d ((cLo cI).enc x3)), (4, .d (cI.enc (k2586 : Int))), (5, .d (cI.enc x2587)), (13, .adr 1 [.fld 1]), (14, .d ((cLs cI rfl).enc v0.Cells)), (15, .d (cI.enc (v0.Cells.length : Int))), (16, .d (cI.enc (k2586 : Int))), (24, .d ((cLo cI).enc x4524)), (25, .d (cI.enc (x4524.length : Int))), (26, .d (cI.enc (0 : Int)))] (by kernel_rfl) <|
    xn <| wpC_blk <| lpR (fun (k4528 : Nat) (s4527 : Unit) => [(1, .box ((cXCube (cLs cI rfl) (cLs cI rfl)).enc v0)), (3, .d ((cLo cI).enc x3)), (4, .d (cI.enc (k2586 : Int))), (5, .d (cI.enc x2587)), (13, .adr 1 [.fld 1]), (14, .d ((cLs cI rfl).enc v0.Cells)), (15, .d (cI.enc (v0.Cells.length : Int))), (16, .d (cI.enc (k2586 : Int))), (24, .d ((cLo cI).enc x4524)), (25, .d (cI.enc (x4524.length : Int))), (26, .d (cI.enc (k4528 : Int)))]) () rfl h
    (fun G4848 s4527 h => wpC_seq <| reg_s <| st rfl <| b_lss (k := .i64) rfl rfl <| seqN [(1, .box ((cXCube (cLs cI rfl) (cLs cI rfl)).enc v0)), (3, .d ((cLo cI).enc x3)), (4, .d (cI.enc (k2586 : Int))), (5, .d (cI.enc x2587)), (13, .adr 1 [.fld 1]), (14, .d ((cLs cI rfl).enc v0.Cells)), (15, .d (cI.enc (v0.Cells.length : Int))), (16, .d (cI.enc (k2586 : Int))), (24, .d ((cLo cI).enc x4524)), (25, .d (cI.enc (x4524.length : Int))), (26, .d (cI.enc (x4524.length : Int))), (27, .d (cB.enc (decide ((x4524.length : Int) < (x4524.length : Int)))))] (by kernel_rfl) <|
    xn <| wpC_seq <| wpC_kp <| cnd0 rfl (dlf _) <| wpC_exit <| xt <| xt <| xt <| xb <| xbb <| kpN [(1, .box ((cXCube (cLs cI rfl) (cLs cI rfl)).enc v0)), (3, .d ((cLo cI).enc x3)), (13, .adr 1 [.fld 1]), (14, .d ((cLs cI rfl).enc v0.Cells)), (15, .d (cI.enc (v0.Cells.length : Int))), (16, .d (cI.enc (k2586 : Int)))] (by kernel_rfl) <| xn <| reg_s <| st rfl <| b_inc rfl rfl l2584 hk2588 <| st rfl <| mvd rfl rfl <| seqN [(1, .box ((cXCube (cLs cI rfl) (cLs cI rfl)).enc v0)), (3, .d ((cLo cI).enc x3)), (13, .adr 1 [.fld 1]), (14, .d ((cLs cI rfl).enc v0.Cells)), (15, .d (cI.enc (v0.Cells.length : Int))), (16, .d (cI.enc ((k2586 + 1 : Nat) : Int)))] (by kernel_rfl) <|
    xn <| hn3875 () h)
    (fun G4848 nx4846 k4528 s4527 x4529 hk4530 hx4531 hn4847 h => wpC_seq <| reg_s <| st rfl <| b_lss (k := .i64) rfl rfl <| seqN [(1, .box ((cXCube (cLs cI rfl) (cLs cI rfl)).enc v0)), (3, .d ((cLo cI).enc x3)), (4, .d (cI.enc (k2586 : Int))), (5, .d (cI.enc x2587)), (13, .adr 1 [.fld 1]), (14, .d ((cLs cI rfl).enc v0.Cells)), (15, .d (cI.enc (v0.Cells.length : Int))), (16, .d (cI.enc (k2586 : Int))), (24, .d ((cLo cI).enc x4524)), (25, .d (cI.enc (x4524.length : Int))), (26, .d (cI.enc (k4528 : Int))), (27, .d (cB.enc (decide ((k4528 : Int) < (x4524.length : Int)))))] (by kernel_rfl) <|
    xn <| wpC_seq <| wpC_kp <| cnd1 rfl (dlt hk4530) <| wpC_skip <| kpN [(1, .box ((cXCube (cLs cI rfl) (cLs cI rfl)).enc v0)), (3, .d ((cLo cI).enc x3)), (4, .d (cI.enc (k2586 : Int))), (5, .d (cI.enc x2587)), (13, .adr 1 [.fld 1]), (14, .d ((cLs cI rfl).enc v0.Cells)), (15, .d (cI.enc (v0.Cells.length : Int))), (16, .d (cI.enc (k2586 : Int))), (24, .d ((cLo cI).enc x4524)), (25, .d (cI.enc (x4524.length : Int))), (26, .d (cI.enc (k4528 : Int)))] (by kernel_rfl) <| xn <| wpC_seq <| wpC_kp <| wpC_blk <| wpC_seq <| reg_s <| st rfl <| mvd rfl rfl <| st rfl <| iao rfl rfl (Int.natCast_nonneg _) hx4531 rfl <| st rfl <| lda rfl rfl (Gt.idx hx4531 Gt.nil) rfl rfl rfl <| x_asg (ss rfl rfl) <| x_asg (ss rfl rfl) <| seqN [(1, .box ((cXCube (cLs cI rfl) (cLs cI rfl)).enc v0)), (3, .d ((cLo cI).enc x3)), (4, .d (cI.enc (k2586 : Int))), (5, .d (cI.enc x2587)), (6, .d (cI.enc (k4528 : Int))), (7, .d (cI.enc x4529)), (13, .adr 1 [.fld 1]), (14, .d ((cLs cI rfl).enc v0.Cells)), (15, .d (cI.enc (v0.Cells.length : Int))), (16, .d (cI.enc (k2586 : Int))), (24, .d ((cLo cI).enc x4524)), (25, .d (cI.enc (x4524.length : Int))), (26, .d (cI.enc (k4528 : Int)))] (by kernel_rfl) <|
    xn <| wpC_seq <| wpC_kp <| wpC_seq <| reg_s <| st rfl <| mvd rfl rfl <| st rfl <| fab rfl rfl rfl rfl <| st rfl <| lda rfl rfl rfl rfl rfl rfl <| st rfl <| mvd rfl rfl <| getO_k h fun x5016 i5017 g5018 h => st rfl <| ias rfl rfl i5017 g5018 rfl <| st rfl <| ldi rfl rfl rfl rfl <| st rfl <| b_neq (k := .i64) rfl rfl <| seqN [(1, .box ((cXCube (cLs cI rfl) (cLs cI rfl)).enc v0)), (3, .d ((cLo cI).enc x3)), (4, .d (cI.enc (k2586 : Int))), (5, .d (cI.enc x2587)), (6, .d (cI.enc (k4528 : Int))), (7, .d (cI.enc x4529)), (13, .adr 1 [.fld 1]), (14, .d ((cLs cI rfl).enc v0.Cells)), (15, .d (cI.enc (v0.Cells.length : Int))), (16, .d (cI.enc (k2586 : Int))), (24, .d ((cLo cI).enc x4524)), (25, .d (cI.enc (x4524.length : Int))), (26, .d (cI.enc (k4528 : Int))), (37, .d (cB.enc (decide (x4529 ≠ x5016))))] (by kernel_rfl) <|
    xn <| cnd rfl h (fun b5019 h => wpC_exit <| xt <| xt <| xb <| kpN [(1, .box ((cXCube (cLs cI rfl) (cLs cI rfl)).enc v0)), (3, .d ((cLo cI).enc x3)), (4, .d (cI.enc (k2586 : Int))), (5, .d (cI.enc x2587)), (13, .adr 1 [.fld 1]), (14, .d ((cLs cI rfl).enc v0.Cells)), (15, .d (cI.enc (v0.Cells.length : Int))), (16, .d (cI.enc (k2586 : Int))), (24, .d ((cLo cI).enc x4524)), (25, .d (cI.enc (x4524.length : Int))), (26, .d (cI.enc (k4528 : Int)))] (by kernel_rfl) <| xn <| reg_s <| st rfl <| b_inc rfl rfl l4526 hk4530 <| st rfl <| mvd rfl rfl <| seqN [(1, .box ((cXCube (cLs cI rfl) (cLs cI rfl)).enc v0)), (3, .d ((cLo cI).enc x3)), (4, .d (cI.enc (k2586 : Int))), (5, .d (cI.enc x2587)), (13, .adr 1 [.fld 1]), (14, .d ((cLs cI rfl).enc v0.Cells)), (15, .d (cI.enc (v0.Cells.length : Int))), (16, .d (cI.enc (k2586 : Int))), (24, .d ((cLo cI).enc x4524)), (25, .d (cI.enc (x4524.length : Int))), (26, .d (cI.enc ((k4528 + 1 : Nat) : Int)))] (by kernel_rfl) <|
    xn <| hn4847 () h)
    (fun b5019 h => wpC_skip <| kpN [(1, .box ((cXCube (cLs cI rfl) (cLs cI rfl)).enc v0)), (3, .d ((cLo cI).enc x3)), (4, .d (cI.enc (k2586 : Int))), (5, .d (cI.enc x2587)), (6, .d (cI.enc (k4528 : Int))), (7, .d (cI.enc x4529)), (13, .adr 1 [.fld 1]), (14, .d ((cLs cI rfl).enc v0.Cells)), (15, .d (cI.enc (v0.Cells.length : Int))), (16, .d (cI.enc (k2586 : Int))), (24, .d ((cLo cI).enc x4524)), (25, .d (cI.enc (x4524.length : Int))), (26, .d (cI.enc (k4528 : Int)))] (by kernel_rfl) <| xn <| wpC_seq <| reg_s <| x_asg (sc cI (0 : Int) rfl) <| seqN [(1, .box ((cXCube (cLs cI rfl) (cLs cI rfl)).enc v0)), (3, .d ((cLo cI).enc x3)), (4, .d (cI.enc (k2586 : Int))), (5, .d (cI.enc x2587)), (6, .d (cI.enc (k4528 : Int))), (7, .d (cI.enc x4529)), (8, .d (cI.enc (0 : Int))), (13, .adr 1 [.fld 1]), (14, .d ((cLs cI rfl).enc v0.Cells)), (15, .d (cI.enc (v0.Cells.length : Int))), (16, .d (cI.enc (k2586 : Int))), (24, .d ((cLo cI).enc x4524)), (25, .d (cI.enc (x4524.length : Int))), (26, .d (cI.enc (k4528 : Int)))] (by kernel_rfl) <|
    xn <| wpC_seq <| wpC_kp <| wpC_seq <| reg_s <| x_asg (sc cI (1 : Int) rfl) <| seqN [(1, .box ((cXCube (cLs cI rfl) (cLs cI rfl)).enc v0)), (3, .d ((cLo cI).enc x3)), (4, .d (cI.enc (k2586 : Int))), (5, .d (cI.enc x2587)), (6, .d (cI.enc (k4528 : Int))), (7, .d (cI.enc x4529)), (8, .d (cI.enc (0 : Int))), (9, .d (cI.enc (1 : Int))), (13, .adr 1 [.fld 1]), (14, .d ((cLs cI rfl).enc v0.Cells)), (15, .d (cI.enc (v0.Cells.length : Int))), (16, .d (cI.enc (k2586 : Int))), (24, .d ((cLo cI).enc x4524)), (25, .d (cI.enc (x4524.length : Int))), (26, .d (cI.enc (k4528 : Int)))] (by kernel_rfl) <|
    xn <| wpC_blk <| lpF (fun (s5091 : (Int × Int)) => [(1, .box ((cXCube (cLs cI rfl) (cLs cI rfl)).enc v0)), (3, .d ((cLo cI).enc x3)), (4, .d (cI.enc (k2586 : Int))), (5, .d (cI.enc x2587)), (6, .d (cI.enc (k4528 : Int))), (7, .d (cI.enc x4529)), (8, .d (cI.enc s5091.1)), (9, .d (cI.enc s5091.2)), (13, .adr 1 [.fld 1]), (14, .d ((cLs cI rfl).enc v0.Cells)), (15, .d (cI.enc (v0.Cells.length : Int))), (16, .d (cI.enc (k2586 : Int))), (24, .d ((cLo cI).enc x4524)), (25, .d (cI.enc (x4524.length : Int))), (26, .d (cI.enc (k4528 : Int)))]) ((0 : Int), (1 : Int)) rfl h
    fun G5140 nx5138 s5091 hn5139 h => wpC_seq <| wpC_kp <| wpC_seq <| reg_s <| st rfl <| mvd rfl rfl <| st rfl <| mvd rfl rfl <| st rfl <| b_leq (k := .i64) rfl rfl <| seqN [(1, .box ((cXCube (cLs cI rfl) (cLs cI rfl)).enc v0)), (3, .d ((cLo cI).enc x3)), (4, .d (cI.enc (k2586 : Int))), (5, .d (cI.enc x2587)), (6, .d (cI.enc (k4528 : Int))), (7, .d (cI.enc x4529)), (8, .d (cI.enc s5091.1)), (9, .d (cI.enc s5091.2)), (13, .adr 1 [.fld 1]), (14, .d ((cLs cI rfl).enc v0.Cells)), (15, .d (cI.enc (v0.Cells.length : Int))), (16, .d (cI.enc (k2586 : Int))), (24, .d ((cLo cI).enc x4524)), (25, .d (cI.enc (x4524.length : Int))), (26, .d (cI.enc (k4528 : Int))), (40, .d (cB.enc (decide (s5091.2 ≤ x4529))))] (by kernel_rfl) <|
    xn <| cnd rfl h (fun b5142 h => wpC_skip <| kpN [(1, .box ((cXCube (cLs cI rfl) (cLs cI rfl)).enc v0)), (3, .d ((cLo cI).enc x3)), (4, .d (cI.enc (k2586 : Int))), (5, .d (cI.enc x2587)), (6, .d (cI.enc (k4528 : Int))), (7, .d (cI.enc x4529)), (8, .d (cI.enc s5091.1)), (9, .d (cI.enc s5091.2)), (13, .adr 1 [.fld 1]), (14, .d ((cLs cI rfl).enc v0.Cells)), (15, .d (cI.enc (v0.Cells.length : Int))), (16, .d (cI.enc (k2586 : Int))), (24, .d ((cLo cI).enc x4524)), (25, .d (cI.enc (x4524.length : Int))), (26, .d (cI.enc (k4528 : Int)))] (by kernel_rfl) <| xn <| wpC_seq <| wpC_kp <| wpC_blk <| drw_s <| pst rfl <| mvd rfl rfl ⟨rfl, pst rfl <| fab rfl rfl rfl rfl ⟨rfl, pst rfl <| lda rfl rfl rfl rfl rfl rfl ⟨rfl, pst rfl <| mvd rfl rfl ⟨rfl, pst rfl <| mvd rfl rfl ⟨rfl, pst rfl <| mvo rfl rfl ⟨rfl, pst rfl <| mvd rfl rfl ⟨rfl, getO_kp h fun x5152 i5153 g5154 h => pst rfl <| iar rfl rfl rfl rfl i5153 g5154 rfl ⟨rfl, pst rfl <| lda rfl rfl (Gt.idx g5154 Gt.nil) rfl rfl rfl ⟨rfl, ckI_kp h fun i5155 h => pst rfl <| b_mul (k := .i64) rfl rfl i5155 ⟨rfl, ckI_kp h fun i5156 h => pst rfl <| b_sub (k := .i64) rfl rfl i5156 ⟨rfl, getO_kp h fun x5157 i5158 g5159 h => pst rfl <| ias rfl rfl i5158 g5159 rfl ⟨rfl, pst rfl <| ldi rfl rfl rfl rfl ⟨rfl, ckI_kp h fun i5160 h => pst rfl <| b_add (k := .i64) rfl rfl i5160 ⟨rfl, preN <| x_asg (ss rfl rfl) <| seqN [(1, .box ((cXCube (cLs cI rfl) (cLs cI rfl)).enc v0)), (3, .d ((cLo cI).enc x3)), (4, .d (cI.enc (k2586 : Int))), (5, .d (cI.enc x2587)), (6, .d (cI.enc (k4528 : Int))), (7, .d (cI.enc x4529)), (8, .d (cI.enc (s5091.1 + x5157))), (9, .d (cI.enc s5091.2)), (13, .adr 1 [.fld 1]), (14, .d ((cLs cI rfl).enc v0.Cells)), (15, .d (cI.enc (v0.Cells.length : Int))), (16, .d (cI.enc (k2586 : Int))), (24, .d ((cLo cI).enc x4524)), (25, .d (cI.enc (x4524.length : Int))), (26, .d (cI.enc (k4528 : Int)))] (by kernel_rfl) <|
    xbb <| kpN [(1, .box ((cXCube (cLs cI rfl) (cLs cI rfl)).enc v0)), (3, .d ((cLo cI).enc x3)), (4, .d (cI.enc (k2586 : Int))), (5, .d (cI.enc x2587)), (6, .d (cI.enc (k4528 : Int))), (7, .d (cI.enc x4529)), (8, .d (cI.enc (s5091.1 + x5157))), (9, .d (cI.enc s5091.2)), (13, .adr 1 [.fld 1]), (14, .d ((cLs cI rfl).enc v0.Cells)), (15, .d (cI.enc (v0.Cells.length : Int))), (16, .d (cI.enc (k2586 : Int))), (24, .d ((cLo cI).enc x4524)), (25, .d (cI.enc (x4524.length : Int))), (26, .d (cI.enc (k4528 : Int)))] (by kernel_rfl) <| xn <| reg_s <| st rfl <| mvd rfl rfl <| ckI_k h fun i5161 h => st rfl <| b_add (k := .i64) rfl rfl i5161 <| x_asg (ss rfl rfl) <| seqN [(1, .box ((cXCube (cLs cI rfl) (cLs cI rfl)).enc v0)), (3, .d ((cLo cI).enc x3)), (4, .d (cI.enc (k2586 : Int))), (5, .d (cI.enc x2587)), (6, .d (cI.enc (k4528 : Int))), (7, .d (cI.enc x4529)), (8, .d (cI.enc (s5091.1 + x5157))), (9, .d (cI.enc (s5091.2 + (1 : Int)))), (13, .adr 1 [.fld 1]), (14, .d ((cLs cI rfl).enc v0.Cells)), (15, .d (cI.enc (v0.Cells.length : Int))), (16, .d (cI.enc (k2586 : Int))), (24, .d ((cLo cI).enc x4524)), (25, .d (cI.enc (x4524.length : Int))), (26, .d (cI.enc (k4528 : Int)))] (by kernel_rfl) <|
    xn <| hn5139 ((s5091.1 + x5157), (s5091.2 + (1 : Int))) h⟩⟩⟩⟩⟩⟩⟩⟩⟩⟩⟩⟩⟩⟩)
    (fun b5142 h => wpC_exit <| xt <| xt <| xt <| xb <| kpN [(1, .box ((cXCube (cLs cI rfl) (cLs cI rfl)).enc v0)), (3, .d ((cLo cI).enc x3)), (4, .d (cI.enc (k2586 : Int))), (5, .d (cI.enc x2587)), (8, .d (cI.enc s5091.1)), (13, .adr 1 [.fld 1]), (14, .d ((cLs cI rfl).enc v0.Cells)), (15, .d (cI.enc (v0.Cells.length : Int))), (16, .d (cI.enc (k2586 : Int))), (24, .d ((cLo cI).enc x4524)), (25, .d (cI.enc (x4524.length : Int))), (26, .d (cI.enc (k4528 : Int)))] (by kernel_rfl) <| xn <| wpC_seq <| reg_s <| st rfl <| mvd rfl rfl <| st rfl <| mvd rfl rfl <| st rfl <| b_neq (k := .i64) rfl rfl <| seqN [(1, .box ((cXCube (cLs cI rfl) (cLs cI rfl)).enc v0)), (3, .d ((cLo cI).enc x3)), (4, .d (cI.enc (k2586 : Int))), (5, .d (cI.enc x2587)), (13, .adr 1 [.fld 1]), (14, .d ((cLs cI rfl).enc v0.Cells)), (15, .d (cI.enc (v0.Cells.length : Int))), (16, .d (cI.enc (k2586 : Int))), (24, .d ((cLo cI).enc x4524)), (25, .d (cI.enc (x4524.length : Int))), (26, .d (cI.enc (k4528 : Int))), (59, .d (cB.enc (decide (s5091.1 ≠ x2587))))] (by kernel_rfl) <|
    xn <| cnd rfl h (fun b5162 h => wpC_seq <| reg_s <| st rfl <| mvd rfl rfl <| x_asg (ss rfl rfl) <| seqN [(2, .d (cI.enc (k2586 : Int)))] (by kernel_rfl) <|
    xn <| wpC_ret <| rb <| rt <| rt <| rt <| rb <| rb <| rt <| rt <| rt <| rb <| rt <| rt <| re <| fin h (r1 (ss rfl rfl) <| r0) rfl)
    (fun b5162 h => wpC_skip <| xbb <| kpN [(1, .box ((cXCube (cLs cI rfl) (cLs cI rfl)).enc v0)), (3, .d ((cLo cI).enc x3)), (4, .d (cI.enc (k2586 : Int))), (5, .d (cI.enc x2587)), (13, .adr 1 [.fld 1]), (14, .d ((cLs cI rfl).enc v0.Cells)), (15, .d (cI.enc (v0.Cells.length : Int))), (16, .d (cI.enc (k2586 : Int))), (24, .d ((cLo cI).enc x4524)), (25, .d (cI.enc (x4524.length : Int))), (26, .d (cI.enc (k4528 : Int)))] (by kernel_rfl) <| xn <| reg_s <| st rfl <| b_inc rfl rfl l4526 hk4530 <| st rfl <| mvd rfl rfl <| seqN [(1, .box ((cXCube (cLs cI rfl) (cLs cI rfl)).enc v0)), (3, .d ((cLo cI).enc x3)), (4, .d (cI.enc (k2586 : Int))), (5, .d (cI.enc x2587)), (13, .adr 1 [.fld 1]), (14, .d ((cLs cI rfl).enc v0.Cells)), (15, .d (cI.enc (v0.Cells.length : Int))), (16, .d (cI.enc (k2586 : Int))), (24, .d ((cLo cI).enc x4524)), (25, .d (cI.enc (x4524.length : Int))), (26, .d (cI.enc ((k4528 + 1 : Nat) : Int)))] (by kernel_rfl) <|
    xn <| hn4847 () h)))))
def rs_spec_l1Put (r : (List Int)) : List D := [(cLs cI rfl).enc r]
def m155 : MC := .seq (.reg [⟨some 4, .asg (.c (.slice false [])), none⟩] [0, 1])
  (.seq (.reg [⟨some 5, .asg (.c (.int .i64 0)), none⟩] [0, 1, 5])
  (.seq (.kp [0, 1, 5] (.blk 0 (.loop (.kp [0, 1, 5] (.seq (.kp [0, 1, 5] (.seq (.reg [⟨some 7, .mv (.t 5), none⟩,
    ⟨some 8, .mv (.t 0), none⟩,
    ⟨some 9, .len false (.t 8), none⟩,
    ⟨some 10, .bin .lss (.t 7) (.t 9), none⟩,
    ⟨some 11, .mv (.t 10), none⟩,
    ⟨some 12, .mv (.t 0), some (11, true)⟩,
    ⟨some 13, .mv (.t 5), some (11, true)⟩,
    ⟨some 14, .ia 12 (.t 13) 1, some (11, true)⟩,
    ⟨some 15, .ld 14 1 false, some (11, true)⟩,
    ⟨some 16, .mv (.t 1), some (11, true)⟩,
    ⟨some 17, .bin .lss (.t 15) (.t 16), some (11, true)⟩,
    ⟨some 18, .pick (.t 11) (.t 17) (.c (.bool false)), none⟩] [0, 1, 5, 18])
  (.cond (.t 18) (.skip) (.exit 0))))
  (.blk 1 (.reg [⟨some 19, .mv (.t 5), none⟩,
    ⟨some 20, .bin .add (.t 19) (.c (.int .i64 1)), none⟩,
    ⟨some 5, .asg (.t 20), none⟩] [0, 1, 5])))))))
  (.seq (.kp [0, 1, 5] (.seq (.reg [⟨some 21, .mv (.t 5), none⟩,
    ⟨some 22, .mv (.t 0), none⟩,
    ⟨some 23, .len false (.t 22), none⟩,
    ⟨some 24, .bin .lss (.t 21) (.t 23), none⟩,
    ⟨some 25, .mv (.t 24), none⟩,
    ⟨some 26, .mv (.t 0), some (25, true)⟩,
    ⟨some 27, .mv (.t 5), some (25, true)⟩,
    ⟨some 28, .ia 26 (.t 27) 1, some (25, true)⟩,
    ⟨some 29, .ld 28 1 false, some (25, true)⟩,
    ⟨some 30, .mv (.t 1), some (25, true)⟩,
    ⟨some 31, .bin .eql (.t 29) (.t 30), some (25, true)⟩,
    ⟨some 32, .pick (.t 25) (.t 31) (.c (.bool false)), none⟩] [0, 1, 5, 32])
  (.cond (.t 32) (.seq (.reg [⟨some 33, .mv (.t 0), none⟩,
    ⟨some 4, .asg (.t 33), none⟩] [4])
  (.fz 4 (.ret))) (.skip))))
  (.seq (.reg [⟨some 34, .bsl [] 1, none⟩,
    ⟨some 35, .mv (.t 0), none⟩,
    ⟨some 36, .mv (.t 5), none⟩,
    ⟨some 37, .sl (.t 35) none (some (.t 36)) 1, none⟩,
    ⟨some 38, .app (.t 34) (.t 37) 1, none⟩,
    ⟨some 6, .asg (.t 38), none⟩] [0, 1, 5, 6])
  (.seq (.reg [⟨some 39, .mv (.t 6), none⟩,
    ⟨some 40, .mv (.t 1), none⟩,
    ⟨some 41, .bsl [(.t 40)] 1, none⟩,
    ⟨some 42, .app (.t 39) (.t 41) 1, none⟩,
    ⟨some 6, .asg (.t 42), none⟩] [0, 5, 6])
  (.seq (.reg [⟨some 43, .mv (.t 6), none⟩,
    ⟨some 44, .mv (.t 0), none⟩,
    ⟨some 45, .mv (.t 5), none⟩,
    ⟨some 46, .sl (.t 44) (some (.t 45)) none 1, none⟩,
    ⟨some 47, .app (.t 43) (.t 46) 1, none⟩,
    ⟨some 4, .asg (.t 47), none⟩] [4])
  (.fz 4 (.ret))))))))
theorem con_spec_l1Put {v0 : (List Int)} {v1 : Int} {r : (List Int)} (h : sh_spec_l1Put v0 v1 = some r) : Con Try.prog 155 [(cLs cI rfl).enc v0, cI.enc v1] [] (rs_spec_l1Put r) := by
  delta sh_spec_l1Put at h
  refine top (out := none) (f := Try.f155) (m := m155) (rs := [.t 4]) (by kernel_rfl) rfl (by kernel_rfl) (by kernel_rfl) (by kernel_rfl) (by kernel_rfl) (by kernel_rfl) ?_
  exact
   ini [(0, .d ((cLs cI rfl).enc v0)), (1, .d (cI.enc v1))] rfl <| wpC_seq <| reg_s <| x_asg (sc (cLs cI rfl) ([] : List Int) rfl) <| seqN [(0, .d ((cLs cI rfl).enc v0)), (1, .d (cI.enc v1))] (by kernel_rfl) <|
    xn <| wpC_seq <| reg_s <| x_asg (sc cI (0 : Int) rfl) <| seqN [(0, .d ((cLs cI rfl).enc v0)), (1, .d (cI.enc v1)), (5, .d (cI.enc (0 : Int)))] (by kernel_rfl) <|
    xn <| wpC_seq <| jw (fun (s78 : Int) => [(0, .d ((cLs cI rfl).enc v0)), (1, .d (cI.enc v1)), (5, .d (cI.enc s78))]) h (fun s78 h => xn <| sqj (fun (s91 : Unit) => [(0, .d ((cLs cI rfl).enc v0)), (1, .d (cI.enc v1)), (5, .d (cI.enc s78))]) h (fun s91 h => wpC_seq <| reg_s <| x_bsl cI ([] : List Int) t0 rfl rfl <| st rfl <| mvd rfl rfl <| st rfl <| mvd rfl rfl <| ck_k h fun i96 h => st rfl <| o_sl rfl rfl lo0 (hi1 (k := .i64) rfl i96.1) i96.2 <| lnO_k h fun l97 h => x_app (so rfl rfl) (ts rfl) l97 rfl <| x_asg (so rfl rfl) <| seqN [(0, .d ((cLs cI rfl).enc v0)), (1, .d (cI.enc v1)), (5, .d (cI.enc s78)), (6, .d ((cLo cI).enc (([] : List Int) ++ ((v0.take (s78).toNat).drop 0))))] (by kernel_rfl) <|
    xn <| wpC_seq <| reg_s <| st rfl <| mvo rfl rfl <| st rfl <| mvd rfl rfl <| x_bsl cI [v1] (t1 (ss rfl rfl) rfl t0) rfl rfl <| lnO_k h fun l99 h => x_app (sr rfl rfl) (to rfl rfl) l99 rfl <| x_asg (so rfl rfl) <| seqN [(0, .d ((cLs cI rfl).enc v0)), (5, .d (cI.enc s78)), (6, .d ((cLo cI).enc ((([] : List Int) ++ ((v0.take (s78).toNat).drop 0)) ++ [v1])))] (by kernel_rfl) <|
    xn <| wpC_seq <| reg_s <| st rfl <| mvo rfl rfl <| st rfl <| mvd rfl rfl <| st rfl <| mvd rfl rfl <| ck_k h fun i102 h => st rfl <| o_sl rfl rfl (lo1 (k := .i64) rfl i102.1) hi0 i102.2 <| lnO_k h fun l103 h => x_app (sr rfl rfl) (ts rfl) l103 rfl <| x_asg (so rfl rfl) <| seqN [(4, .d ((cLo cI).enc (((([] : List Int) ++ ((v0.take (s78).toNat).drop 0)) ++ [v1]) ++ ((v0.take v0.length).drop (s78).toNat))))] (by kernel_rfl) <|
    xn <| fz_s (tLo tK) rfl <| wpC_ret <| re <| fin h (r1 (ss rfl rfl) <| r0) rfl)
    fun m93 h => wpC_kp <| wpC_seq <| reg_s <| st rfl <| mvd rfl rfl <| st rfl <| mvd rfl rfl <| stw rfl <| lens rfl fun l109 => st rfl <| b_lss (k := .i64) rfl rfl <| st rfl <| mvd rfl rfl <| ite_k h (fun b110 h => gt' rfl b110 <| st rfl <| mvd rfl rfl <| gt' rfl b110 <| st rfl <| mvd rfl rfl <| gt' rfl b110 <| getO_k h fun x111 i112 g113 h => st rfl <| ias rfl rfl i112 g113 rfl <| gt' rfl b110 <| st rfl <| ldi rfl rfl rfl rfl <| gt' rfl b110 <| st rfl <| mvd rfl rfl <| gt' rfl b110 <| st rfl <| b_eql (k := .i64) rfl rfl <| st rfl <| pick1 rfl b110 (cd := cB) (v := (decide (x111 = v1))) rfl rfl <| seqN [(0, .d ((cLs cI rfl).enc v0)), (1, .d (cI.enc v1)), (5, .d (cI.enc s78)), (32, .d (cB.enc (decide (x111 = v1))))] (by kernel_rfl) <|
    xn <| cnd rfl h (fun b114 h => wpC_seq <| reg_s <| st rfl <| mvd rfl rfl <| x_asg (ss rfl rfl) <| seqN [(4, .d ((cLs cI rfl).enc v0))] (by kernel_rfl) <|
    xn <| fz_s (tLs tK) rfl <| wpC_ret <| rt <| rt <| re <| fin h (r1 (ss rfl rfl) <| r0) rfl)
    (fun b114 h => wpC_skip <| kpN [(0, .d ((cLs cI rfl).enc v0)), (1, .d (cI.enc v1)), (5, .d (cI.enc s78))] (by kernel_rfl) <| m93 () h))
    (fun b110 h => gf rfl b110 <| gf rfl b110 <| gf rfl b110 <| gf rfl b110 <| gf rfl b110 <| gf rfl b110 <| st rfl <| pick0 rfl b110 (cd := cB) (v := false) rfl rfl <| seqN [(0, .d ((cLs cI rfl).enc v0)), (1, .d (cI.enc v1)), (5, .d (cI.enc s78)), (32, .d (cB.enc false))] (by kernel_rfl) <|
    xn <| cnd0 rfl rfl <| wpC_skip <| kpN [(0, .d ((cLs cI rfl).enc v0)), (1, .d (cI.enc v1)), (5, .d (cI.enc s78))] (by kernel_rfl) <| m93 () h))
    fun s78' q79 h => wpC_kp <| wpC_blk <| lpF (fun (s115 : Int) => [(0, .d ((cLs cI rfl).enc v0)), (1, .d (cI.enc v1)), (5, .d (cI.enc s115))]) (0 : Int) rfl h
    fun G168 nx166 s115 hn167 h => wpC_kp <| wpC_seq <| wpC_kp <| wpC_seq <| reg_s <| st rfl <| mvd rfl rfl <| st rfl <| mvd rfl rfl <| stw rfl <| lens rfl fun l185 => st rfl <| b_lss (k := .i64) rfl rfl <| st rfl <| mvd rfl rfl <| ite_k h (fun b186 h => gt' rfl b186 <| st rfl <| mvd rfl rfl <| gt' rfl b186 <| st rfl <| mvd rfl rfl <| gt' rfl b186 <| getO_k h fun x187 i188 g189 h => st rfl <| ias rfl rfl i188 g189 rfl <| gt' rfl b186 <| st rfl <| ldi rfl rfl rfl rfl <| gt' rfl b186 <| st rfl <| mvd rfl rfl <| gt' rfl b186 <| st rfl <| b_lss (k := .i64) rfl rfl <| st rfl <| pick1 rfl b186 (cd := cB) (v := (decide (x187 < v1))) rfl rfl <| seqN [(0, .d ((cLs cI rfl).enc v0)), (1, .d (cI.enc v1)), (5, .d (cI.enc s115)), (18, .d (cB.enc (decide (x187 < v1))))] (by kernel_rfl) <|
    xn <| cnd rfl h (fun b190 h => wpC_skip <| kpN [(0, .d ((cLs cI rfl).enc v0)), (1, .d (cI.enc v1)), (5, .d (cI.enc s115))] (by kernel_rfl) <| xn <| wpC_blk <| reg_s <| st rfl <| mvd rfl rfl <| ckI_k h fun i191 h => st rfl <| b_add (k := .i64) rfl rfl i191 <| x_asg (ss rfl rfl) <| seqN [(0, .d ((cLs cI rfl).enc v0)), (1, .d (cI.enc v1)), (5, .d (cI.enc (s115 + (1 : Int))))] (by kernel_rfl) <|
    xbb <| kpN [(0, .d ((cLs cI rfl).enc v0)), (1, .d (cI.enc v1)), (5, .d (cI.enc (s115 + (1 : Int))))] (by kernel_rfl) <| xn <| hn167 (s115 + (1 : Int)) h)
    (fun b190 h => wpC_exit <| xt <| xt <| xt <| xt <| xb <| kpN [(0, .d ((cLs cI rfl).enc v0)), (1, .d (cI.enc v1)), (5, .d (cI.enc s115))] (by kernel_rfl) <| lfn (S := (fun (s78 : Int) => [(0, .d ((cLs cI rfl).enc v0)), (1, .d (cI.enc v1)), (5, .d (cI.enc s78))])) h q79 rfl))
    (fun b186 h => gf rfl b186 <| gf rfl b186 <| gf rfl b186 <| gf rfl b186 <| gf rfl b186 <| gf rfl b186 <| st rfl <| pick0 rfl b186 (cd := cB) (v := false) rfl rfl <| seqN [(0, .d ((cLs cI rfl).enc v0)), (1, .d (cI.enc v1)), (5, .d (cI.enc s115)), (18, .d (cB.enc false))] (by kernel_rfl) <|
    xn <| cnd0 rfl rfl <| wpC_exit <| xt <| xt <| xt <| xt <| xb <| kpN [(0, .d ((cLs cI rfl).enc v0)), (1, .d (cI.enc v1)), (5, .d (cI.enc s115))] (by kernel_rfl) <| lfn (S := (fun (s78 : Int) => [(0, .d ((cLs cI rfl).enc v0)), (1, .d (cI.enc v1)), (5, .d (cI.enc s78))])) h q79 rfl)

def rs_spec_cbGroups (r : Int) : List D := [cI.enc r]
def m112 : MC := .seq (.reg [⟨some 2, .asg (.c (.int .i64 0)), none⟩] [0])
  (.seq (.reg [⟨some 3, .asg (.c (.slice false [])), none⟩] [0, 3])
  (.seq (.kp [3] (.seq (.reg [⟨some 6, .mv (.t 0), none⟩,
    ⟨some 7, .len false (.t 6), none⟩,
    ⟨some 8, .mv (.c (.int .i64 0)), none⟩] [0, 3, 6, 7, 8])
  (.blk 0 (.loop (.seq (.reg [⟨some 9, .bin .lss (.t 8) (.t 7), none⟩] [0, 3, 6, 7, 8, 9])
  (.seq (.kp [0, 3, 6, 7, 8] (.cond (.t 9) (.skip) (.exit 0)))
  (.seq (.kp [0, 3, 6, 7, 8] (.blk 1 (.seq (.reg [⟨some 10, .ia 6 (.t 8) 1, none⟩,
    ⟨some 11, .ld 10 1 false, none⟩,
    ⟨some 5, .asg (.t 11), none⟩] [0, 3, 5, 6, 7, 8])
  (.reg [⟨some 12, .mv (.t 3), none⟩,
    ⟨some 13, .mv (.t 5), none⟩,
    ⟨some 14, .call 155 [(.t 12), (.t 13)], none⟩,
    ⟨some 3, .asg (.t 14), none⟩] [0, 3, 6, 7, 8]))))
  (.reg [⟨some 15, .bin .add (.t 8) (.c (.int .i64 1)), none⟩,
    ⟨some 8, .mv (.t 15), none⟩] [0, 3, 6, 7, 8]))))))))
  (.seq (.kp [3] (.seq (.reg [⟨some 16, .mv (.t 3), none⟩,
    ⟨some 17, .len false (.t 16), none⟩,
    ⟨some 18, .bin .eql (.t 17) (.c (.int .i64 0)), none⟩,
    ⟨some 19, .mv (.t 18), none⟩,
    ⟨some 20, .mv (.t 3), some (19, false)⟩,
    ⟨some 21, .ia 20 (.c (.int .i64 0)) 1, some (19, false)⟩,
    ⟨some 22, .ld 21 1 false, some (19, false)⟩,
    ⟨some 23, .bin .neq (.t 22) (.c (.int .i64 0)), some (19, false)⟩,
    ⟨some 24, .pick (.t 19) (.c (.bool true)) (.t 23), none⟩,
    ⟨some 25, .mv (.t 24), none⟩,
    ⟨some 26, .mv (.t 3), some (25, false)⟩,
    ⟨some 27, .mv (.t 3), some (25, false)⟩,
    ⟨some 28, .len false (.t 27), some (25, false)⟩,
    ⟨some 29, .bin .sub (.t 28) (.c (.int .i64 1)), some (25, false)⟩,
    ⟨some 30, .ia 26 (.t 29) 1, some (25, false)⟩,
    ⟨some 31, .ld 30 1 false, some (25, false)⟩,
    ⟨some 32, .mv (.t 3), some (25, false)⟩,
    ⟨some 33, .len false (.t 32), some (25, false)⟩,
    ⟨some 34, .bin .sub (.t 33) (.c (.int .i64 1)), some (25, false)⟩,
    ⟨some 35, .bin .neq (.t 31) (.t 34), some (25, false)⟩,
    ⟨some 36, .pick (.t 25) (.c (.bool true)) (.t 35), none⟩] [3, 36])
  (.cond (.t 36) (.seq (.reg [⟨some 2, .asg (.c (.int .i64 0)), none⟩] [2])
  (.ret)) (.skip))))
  (.seq (.reg [⟨some 37, .mv (.t 3), none⟩,
    ⟨some 38, .len false (.t 37), none⟩,
    ⟨some 2, .asg (.t 38), none⟩] [2])
  (.ret)))))
theorem con_spec_cbGroups {v0 : (List Int)} {r : Int} (h : sh_spec_cbGroups v0 = some r) : Con Try.prog 112 [(cLs cI rfl).enc v0] [] (rs_spec_cbGroups r) := by
  delta sh_spec_cbGroups at h
  refine top (out := none) (f := Try.f112) (m := m112) (rs := [.t 2]) (by kernel_rfl) rfl (by kernel_rfl) (by kernel_rfl) (by kernel_rfl) (by kernel_rfl) (by kernel_rfl) ?_
  exact
   ini [(0, .d ((cLs cI rfl).enc v0))] rfl <| wpC_seq <| reg_s <| x_asg (sc cI (0 : Int) rfl) <| seqN [(0, .d ((cLs cI rfl).enc v0))] (by kernel_rfl) <|
    xn <| wpC_seq <| reg_s <| x_asg (sc (cLs cI rfl) ([] : List Int) rfl) <| seqN [(0, .d ((cLs cI rfl).enc v0)), (3, .d ((cLs cI rfl).enc ([] : List Int)))] (by kernel_rfl) <|
    xn <| wpC_seq <| wpC_kp <| wpC_seq <| reg_s <| st rfl <| mvd rfl rfl <| stw rfl <| lens rfl fun l24 => st rfl <| mvc cI (0 : Int) rfl <| seqN [(0, .d ((cLs cI rfl).enc v0)), (3, .d ((cLs cI rfl).enc ([] : List Int))), (6, .d ((cLs cI rfl).enc v0)), (7, .d (cI.enc (v0.length : Int))), (8, .d (cI.enc (0 : Int)))] (by kernel_rfl) <|
    xn <| wpC_blk <| lpR (fun (k26 : Nat) (s25 : (List Int)) => [(0, .d ((cLs cI rfl).enc v0)), (3, .d ((cLs cI rfl).enc s25)), (6, .d ((cLs cI rfl).enc v0)), (7, .d (cI.enc (v0.length : Int))), (8, .d (cI.enc (k26 : Int)))]) ([] : List Int) rfl h
    (fun G40 s25 h => wpC_seq <| reg_s <| st rfl <| b_lss (k := .i64) rfl rfl <| seqN [(0, .d ((cLs cI rfl).enc v0)), (3, .d ((cLs cI rfl).enc s25)), (6, .d ((cLs cI rfl).enc v0)), (7, .d (cI.enc (v0.length : Int))), (8, .d (cI.enc (v0.length : Int))), (9, .d (cB.enc (decide ((v0.length : Int) < (v0.length : Int)))))] (by kernel_rfl) <|
    xn <| wpC_seq <| wpC_kp <| cnd0 rfl (dlf _) <| wpC_exit <| xt <| xt <| xt <| xb <| kpN [(3, .d ((cLs cI rfl).enc s25))] (by kernel_rfl) <| xn <| wpC_seq <| wpC_kp <| wpC_seq <| reg_s <| st rfl <| mvd rfl rfl <| stw rfl <| lens rfl fun l81 => st rfl <| b_eql (k := .i64) rfl rfl <| st rfl <| mvd rfl rfl <| ite_k h (fun b82 h => gf rfl b82 <| gf rfl b82 <| gf rfl b82 <| gf rfl b82 <| st rfl <| pick1 rfl b82 (cd := cB) (v := true) rfl rfl <| st rfl <| mvd rfl rfl <| gf rfl rfl <| gf rfl rfl <| gf rfl rfl <| gf rfl rfl <| gf rfl rfl <| gf rfl rfl <| gf rfl rfl <| gf rfl rfl <| gf rfl rfl <| gf rfl rfl <| st rfl <| pick1 rfl rfl (cd := cB) (v := true) rfl rfl <| seqN [(3, .d ((cLs cI rfl).enc s25)), (36, .d (cB.enc true))] (by kernel_rfl) <|
    xn <| cnd1 rfl rfl <| wpC_seq <| reg_s <| x_asg (sc cI (0 : Int) rfl) <| seqN [(2, .d (cI.enc (0 : Int)))] (by kernel_rfl) <|
    xn <| wpC_ret <| rt <| rt <| re <| fin h (r1 (ss rfl rfl) <| r0) rfl)
    (fun b82 h => gt' rfl b82 <| st rfl <| mvd rfl rfl <| gt' rfl b82 <| getO_k h fun x83 i84 g85 h => st rfl <| ias rfl rfl i84 g85 rfl <| gt' rfl b82 <| st rfl <| ldi rfl rfl rfl rfl <| gt' rfl b82 <| st rfl <| b_neq (k := .i64) rfl rfl <| st rfl <| pick0 rfl b82 (cd := cB) (v := (decide (x83 ≠ (0 : Int)))) rfl rfl <| st rfl <| mvd rfl rfl <| ite_k h (fun b86 h => gf rfl b86 <| gf rfl b86 <| gf rfl b86 <| gf rfl b86 <| gf rfl b86 <| gf rfl b86 <| gf rfl b86 <| gf rfl b86 <| gf rfl b86 <| gf rfl b86 <| st rfl <| pick1 rfl b86 (cd := cB) (v := true) rfl rfl <| seqN [(3, .d ((cLs cI rfl).enc s25)), (36, .d (cB.enc true))] (by kernel_rfl) <|
    xn <| cnd1 rfl rfl <| wpC_seq <| reg_s <| x_asg (sc cI (0 : Int) rfl) <| seqN [(2, .d (cI.enc (0 : Int)))] (by kernel_rfl) <|
    xn <| wpC_ret <| rt <| rt <| re <| fin h (r1 (ss rfl rfl) <| r0) rfl)
    (fun b86 h => gt' rfl b86 <| st rfl <| mvd rfl rfl <| gt' rfl b86 <| st rfl <| mvd rfl rfl <| gt' rfl b86 <| stw rfl <| lens rfl fun l87 => gt' rfl b86 <| ckI_k h fun i88 h => st rfl <| b_sub (k := .i64) rfl rfl i88 <| gt' rfl b86 <| getO_k h fun x89 i90 g91 h => st rfl <| ias rfl rfl i90 g91 rfl <| gt' rfl b86 <| st rfl <| ldi rfl rfl rfl rfl <| gt' rfl b86 <| st rfl <| mvd rfl rfl <| gt' rfl b86 <| stw rfl <| lens rfl fun l92 => gt' rfl b86 <| ckI_k h fun i93 h => st rfl <| b_sub (k := .i64) rfl rfl i93 <| gt' rfl b86 <| st rfl <| b_neq (k := .i64) rfl rfl <| st rfl <| pick0 rfl b86 (cd := cB) (v := (decide (x89 ≠ ((s25.length : Int) - (1 : Int))))) rfl rfl <| seqN [(3, .d ((cLs cI rfl).enc s25)), (36, .d (cB.enc (decide (x89 ≠ ((s25.length : Int) - (1 : Int))))))] (by kernel_rfl) <|
    xn <| cnd rfl h (fun b94 h => wpC_seq <| reg_s <| x_asg (sc cI (0 : Int) rfl) <| seqN [(2, .d (cI.enc (0 : Int)))] (by kernel_rfl) <|
    xn <| wpC_ret <| rt <| rt <| re <| fin h (r1 (ss rfl rfl) <| r0) rfl)
    (fun b94 h => wpC_skip <| kpN [(3, .d ((cLs cI rfl).enc s25))] (by kernel_rfl) <| xn <| wpC_seq <| reg_s <| st rfl <| mvd rfl rfl <| stw rfl <| lens rfl fun l96 => x_asg (ss rfl rfl) <| seqN [(2, .d (cI.enc (s25.length : Int)))] (by kernel_rfl) <|
    xn <| wpC_ret <| re <| fin h (r1 (ss rfl rfl) <| r0) rfl))))
    (fun G40 nx38 k26 s25 x27 hk28 hx29 hn39 h => wpC_seq <| reg_s <| st rfl <| b_lss (k := .i64) rfl rfl <| seqN [(0, .d ((cLs cI rfl).enc v0)), (3, .d ((cLs cI rfl).enc s25)), (6, .d ((cLs cI rfl).enc v0)), (7, .d (cI.enc (v0.length : Int))), (8, .d (cI.enc (k26 : Int))), (9, .d (cB.enc (decide ((k26 : Int) < (v0.length : Int)))))] (by kernel_rfl) <|
    xn <| wpC_seq <| wpC_kp <| cnd1 rfl (dlt hk28) <| wpC_skip <| kpN [(0, .d ((cLs cI rfl).enc v0)), (3, .d ((cLs cI rfl).enc s25)), (6, .d ((cLs cI rfl).enc v0)), (7, .d (cI.enc (v0.length : Int))), (8, .d (cI.enc (k26 : Int)))] (by kernel_rfl) <| xn <| wpC_seq <| wpC_kp <| wpC_blk <| wpC_seq <| reg_s <| st rfl <| ias rfl rfl (Int.natCast_nonneg _) hx29 rfl <| st rfl <| ldi rfl rfl rfl rfl <| x_asg (ss rfl rfl) <| seqN [(0, .d ((cLs cI rfl).enc v0)), (3, .d ((cLs cI rfl).enc s25)), (5, .d (cI.enc x27)), (6, .d ((cLs cI rfl).enc v0)), (7, .d (cI.enc (v0.length : Int))), (8, .d (cI.enc (k26 : Int)))] (by kernel_rfl) <|
    xn <| reg_s <| st rfl <| mvd rfl rfl <| st rfl <| mvd rfl rfl <| bnd h fun x99 e100 h => st rfl <| o_call (a1 (c := (cLs cI rfl)) (tLs tK) rfl (a1 (c := cI) tK rfl a0)) (con_spec_l1Put e100) (.inr (hr1 rfl rfl (hr1 rfl rfl hr0))) <| x_asg (ss rfl rfl) <| seqN [(0, .d ((cLs cI rfl).enc v0)), (3, .d ((cLs cI rfl).enc x99)), (6, .d ((cLs cI rfl).enc v0)), (7, .d (cI.enc (v0.length : Int))), (8, .d (cI.enc (k26 : Int)))] (by kernel_rfl) <|
    xbb <| kpN [(0, .d ((cLs cI rfl).enc v0)), (3, .d ((cLs cI rfl).enc x99)), (6, .d ((cLs cI rfl).enc v0)), (7, .d (cI.enc (v0.length : Int))), (8, .d (cI.enc (k26 : Int)))] (by kernel_rfl) <| xn <| reg_s <| st rfl <| b_inc rfl rfl l24 hk28 <| st rfl <| mvd rfl rfl <| seqN [(0, .d ((cLs cI rfl).enc v0)), (3, .d ((cLs cI rfl).enc x99)), (6, .d ((cLs cI rfl).enc v0)), (7, .d (cI.enc (v0.length : Int))), (8, .d (cI.enc ((k26 + 1 : Nat) : Int)))] (by kernel_rfl) <|
    xn <| hn39 x99 h)

def rs_spec_l1Own (r : (List Int)) : List D := [(cLo cI).enc r]
def m90 : MC := .seq (.reg [⟨some 2, .asg (.c (.slice true [])), none⟩] [0])
  (.seq (.reg [⟨some 3, .bsl [] 1, none⟩,
    ⟨some 4, .mv (.t 0), none⟩,
    ⟨some 5, .app (.t 3) (.t 4) 1, none⟩,
    ⟨some 2, .asg (.t 5), none⟩] [2])
  (.ret))
theorem con_spec_l1Own {v0 : (List Int)} {r : (List Int)} (h : sh_spec_l1Own v0 = some r) : Con Try.prog 90 [(cLs cI rfl).enc v0] [] (rs_spec_l1Own r) := by
  delta sh_spec_l1Own at h
  refine top (out := none) (f := Try.f90) (m := m90) (rs := [.t 2]) (by kernel_rfl) rfl (by kernel_rfl) (by kernel_rfl) (by kernel_rfl) (by kernel_rfl) (by kernel_rfl) ?_
  exact
   ini [(0, .d ((cLs cI rfl).enc v0))] rfl <| wpC_seq <| reg_s <| x_asg (sc (cLo cI) ([] : List Int) rfl) <| seqN [(0, .d ((cLs cI rfl).enc v0))] (by kernel_rfl) <|
    xn <| wpC_seq <| reg_s <| x_bsl cI ([] : List Int) t0 rfl rfl <| st rfl <| mvd rfl rfl <| lnO_k h fun l2 h => x_app (so rfl rfl) (ts rfl) l2 rfl <| x_asg (so rfl rfl) <| seqN [(2, .d ((cLo cI).enc (([] : List Int) ++ v0)))] (by kernel_rfl) <|
    xn <| wpC_ret <| re <| fin h (r1 (so rfl rfl) <| r0) rfl

def rs_spec_cbIf (r : (XCube × Bool)) : List D := [(cXCube (cLo cI) (cLo cI)).enc r.1, cB.enc r.2]
def m116 : MC := .seq (.reg [⟨some 1, .box (.t 0), none⟩,
    ⟨some 2, .alloc (.agg [.slice true [], .slice true []]), none⟩,
    ⟨some 3, .asg (.c (.bool false)), none⟩] [1, 2])
  (.seq (.kp [1, 2] (.seq (.reg [⟨some 4, .ld 1 2 true, none⟩,
    ⟨some 5, .call 110 [(.t 4)], none⟩,
    ⟨some 6, .nt (.t 5), none⟩] [1, 2, 6])
  (.cond (.t 6) (.seq (.reg [⟨some 7, .bld [.slice true [], .slice true []] [], none⟩,
    ⟨none, .st 2 (.t 7) 2, none⟩,
    ⟨some 3, .asg (.c (.bool false)), none⟩] [2, 3])
  (.ret)) (.skip))))
  (.seq (.reg [⟨some 8, .ld 1 2 true, none⟩,
    ⟨none, .st 2 (.t 8) 2, none⟩,
    ⟨some 3, .asg (.c (.bool true)), none⟩] [2, 3])
  (.ret)))
theorem con_spec_cbIf {v0 : XCube} {r : (XCube × Bool)} (h : sh_spec_cbIf v0 = some r) : Con Try.prog 116 [(cXCube (cLo cI) (cLo cI)).enc v0] [] (rs_spec_cbIf r) := by
  delta sh_spec_cbIf at h
  refine top (out := none) (f := Try.f116) (m := m116) (rs := [.c 2 2 true, .t 3]) (by kernel_rfl) rfl (by kernel_rfl) (by kernel_rfl) (by kernel_rfl) (by kernel_rfl) (by kernel_rfl) ?_
  exact
   ini [(0, .d ((cXCube (cLo cI) (cLo cI)).enc v0))] rfl <| wpC_seq <| reg_s <| x_box (so rfl rfl) <| x_all (cXCube (cLo cI) (cLo cI)) (⟨([] : List Int), ([] : List Int)⟩ : XCube) rfl <| x_asg (sc cB false rfl) <| seqN [(1, .box ((cXCube (cLo cI) (cLo cI)).enc v0)), (2, .box ((cXCube (cLo cI) (cLo cI)).enc (⟨([] : List Int), ([] : List Int)⟩ : XCube)))] (by kernel_rfl) <|
    xn <| wpC_seq <| wpC_kp <| wpC_seq <| reg_s <| st rfl <| ldbo rfl rfl rfl rfl <| bnd h fun x8 e9 h => st rfl <| o_call (a1 (c := (cXCube (cLo cI) (cLo cI))) (tXCube (tLo tK) (tLo tK)) rfl a0) (con_spec_cbGood e9) (.inl (so1 sB so0)) <| st rfl <| o_nt rfl <| seqN [(1, .box ((cXCube (cLo cI) (cLo cI)).enc v0)), (2, .box ((cXCube (cLo cI) (cLo cI)).enc (⟨([] : List Int), ([] : List Int)⟩ : XCube))), (6, .d (cB.enc (!x8)))] (by kernel_rfl) <|
    xn <| cnd rfl h (fun b10 h => wpC_seq <| reg_s <| x_bld ((cXCube (cLo cI) (cLo cI)).enc (⟨([] : List Int), ([] : List Int)⟩ : XCube)) t0 rfl rfl <| x_stb (so rfl rfl) rfl (Cd.h_sz _ _) rfl <| x_asg (sc cB false rfl) <| seqN [(2, .box ((cXCube (cLo cI) (cLo cI)).enc (⟨([] : List Int), ([] : List Int)⟩ : XCube))), (3, .d (cB.enc false))] (by kernel_rfl) <|
    xn <| wpC_ret <| rt <| rt <| re <| fin h (r2 rfl rfl rfl <| r1 (ss rfl rfl) <| r0) rfl)
    (fun b10 h => wpC_skip <| kpN [(1, .box ((cXCube (cLo cI) (cLo cI)).enc v0)), (2, .box ((cXCube (cLo cI) (cLo cI)).enc (⟨([] : List Int), ([] : List Int)⟩ : XCube)))] (by kernel_rfl) <| xn <| wpC_seq <| reg_s <| st rfl <| ldbo rfl rfl rfl rfl <| x_stb (sb rfl rfl) rfl (Cd.h_sz _ _) rfl <| x_asg (sc cB true rfl) <| seqN [(2, .box ((cXCube (cLo cI) (cLo cI)).enc v0)), (3, .d (cB.enc true))] (by kernel_rfl) <|
    xn <| wpC_ret <| re <| fin h (r2 rfl rfl rfl <| r1 (ss rfl rfl) <| r0) rfl)

def rs_spec_GroupCube (r : (XCube × Bool)) : List D := [(cXCube (cLo cI) (cLo cI)).enc r.1, cB.enc r.2]
def m50 : MC := .seq (.reg [⟨some 3, .box (.t 0), none⟩,
    ⟨some 6, .alloc (.agg [.slice true [], .slice true []]), none⟩,
    ⟨some 7, .asg (.c (.bool false)), none⟩] [1, 2, 3, 6])
  (.seq (.kp [1, 2, 3, 6] (.seq (.reg [⟨some 12, .ld 3 2 true, none⟩,
    ⟨some 13, .call 110 [(.t 12)], none⟩,
    ⟨some 14, .nt (.t 13), none⟩,
    ⟨some 15, .mv (.t 14), none⟩,
    ⟨some 16, .mv (.t 1), some (15, false)⟩,
    ⟨some 17, .fa 3 0 0, some (15, false)⟩,
    ⟨some 18, .ld 17 1 false, some (15, false)⟩,
    ⟨some 19, .len false (.t 18), some (15, false)⟩,
    ⟨some 20, .bin .sub (.t 19) (.c (.int .i64 1)), some (15, false)⟩,
    ⟨some 21, .call 111 [(.t 16), (.c (.int .i64 0)), (.t 20)], some (15, false)⟩,
    ⟨some 22, .nt (.t 21), some (15, false)⟩,
    ⟨some 23, .pick (.t 15) (.c (.bool true)) (.t 22), none⟩,
    ⟨some 24, .mv (.t 23), none⟩,
    ⟨some 25, .mv (.t 2), some (24, false)⟩,
    ⟨some 26, .len false (.t 25), some (24, false)⟩,
    ⟨some 27, .fa 3 0 0, some (24, false)⟩,
    ⟨some 28, .ld 27 1 false, some (24, false)⟩,
    ⟨some 29, .mv (.t 1), some (24, false)⟩,
    ⟨some 30, .ia 28 (.t 29) 1, some (24, false)⟩,
    ⟨some 31, .ld 30 1 false, some (24, false)⟩,
    ⟨some 32, .bin .neq (.t 26) (.t 31), some (24, false)⟩,
    ⟨some 33, .pick (.t 24) (.c (.bool true)) (.t 32), none⟩,
    ⟨some 34, .mv (.t 33), none⟩,
    ⟨some 35, .mv (.t 2), some (34, false)⟩,
    ⟨some 36, .call 112 [(.t 35)], some (34, false)⟩,
    ⟨some 37, .bin .eql (.t 36) (.c (.int .i64 0)), some (34, false)⟩,
    ⟨some 38, .pick (.t 34) (.c (.bool true)) (.t 37), none⟩] [1, 2, 3, 6, 38])
  (.cond (.t 38) (.seq (.reg [⟨some 39, .bld [.slice true [], .slice true []] [], none⟩,
    ⟨none, .st 6 (.t 39) 2, none⟩,
    ⟨some 7, .asg (.c (.bool false)), none⟩] [6, 7])
  (.ret)) (.skip))))
  (.seq (.reg [⟨some 40, .fa 3 0 0, none⟩,
    ⟨some 41, .ld 40 1 false, none⟩,
    ⟨some 42, .call 90 [(.t 41)], none⟩,
    ⟨some 43, .bld [.slice true [], .slice true []] [(0, (.t 42))], none⟩,
    ⟨some 8, .alloc (.agg [.slice true [], .slice true []]), none⟩,
    ⟨none, .st 8 (.t 43) 2, none⟩] [1, 2, 3, 6, 8])
  (.seq (.drw [⟨0, ⟨some 44, .fa 8 0 0, none⟩, [45, 46, 47, 48, 49]⟩,
    ⟨1, ⟨some 45, .ld 44 1 false, none⟩, [46, 47, 48, 49]⟩,
    ⟨2, ⟨some 46, .mv (.t 1), none⟩, [44, 45, 47, 48, 49]⟩,
    ⟨3, ⟨some 47, .mv (.t 2), none⟩, [44, 45, 46, 48, 49]⟩,
    ⟨4, ⟨some 48, .call 112 [(.t 47)], none⟩, [44, 45, 46, 49]⟩,
    ⟨5, ⟨some 49, .ia 45 (.t 46) 1, none⟩, []⟩]
    [(6, ⟨none, .st 49 (.t 48) 1, none⟩)] [1, 2, 3, 6, 8])
  (.seq (.reg [⟨some 50, .fa 8 0 0, none⟩,
    ⟨some 51, .ld 50 1 false, none⟩,
    ⟨some 52, .call 113 [(.t 51)], none⟩,
    ⟨some 53, .mk (.int .i64 0) (.t 52), none⟩,
    ⟨some 54, .fa 8 1 1, none⟩,
    ⟨none, .st 54 (.t 53) 1, none⟩] [1, 2, 3, 6, 8])
  (.seq (.kp [6, 8] (.seq (.reg [⟨some 55, .fa 3 1 1, none⟩,
    ⟨some 56, .ld 55 1 false, none⟩,
    ⟨some 57, .len false (.t 56), none⟩,
    ⟨some 58, .mv (.c (.int .i64 0)), none⟩] [1, 2, 3, 6, 8, 55, 56, 57, 58])
  (.blk 0 (.loop (.seq (.reg [⟨some 59, .bin .lss (.t 58) (.t 57), none⟩] [1, 2, 3, 6, 8, 55, 56, 57, 58, 59])
  (.seq (.kp [1, 2, 3, 6, 8, 55, 56, 57, 58] (.cond (.t 59) (.skip) (.exit 0)))
  (.seq (.kp [1, 2, 3, 6, 8, 55, 56, 57, 58] (.blk 1 (.seq (.reg [⟨some 60, .mv (.t 58), none⟩,
    ⟨some 61, .ia 56 (.t 58) 1, none⟩,
    ⟨some 62, .ld 61 1 false, none⟩,
    ⟨some 9, .asg (.t 60), none⟩,
    ⟨some 10, .asg (.t 62), none⟩] [1, 2, 3, 6, 8, 9, 10, 55, 56, 57, 58])
  (.seq (.reg [⟨some 63, .fa 3 0 0, none⟩,
    ⟨some 64, .ld 63 1 false, none⟩,
    ⟨some 65, .mv (.t 9), none⟩,
    ⟨some 66, .call 114 [(.t 64), (.t 65)], none⟩,
    ⟨some 11, .asg (.t 66), none⟩] [1, 2, 3, 6, 8, 10, 11, 55, 56, 57, 58])
  (.seq (.kp [1, 2, 3, 6, 8, 10, 11, 55, 56, 57, 58] (.seq (.drw [⟨0, ⟨some 67, .mv (.t 11), none⟩, [68, 69, 70, 71, 72, 73, 74, 75, 76]⟩,
    ⟨1, ⟨some 68, .mv (.t 1), none⟩, [67, 69, 70, 71, 72, 73, 74, 75, 76]⟩,
    ⟨2, ⟨some 69, .ia 67 (.t 68) 1, none⟩, [70, 71, 72, 73, 74, 75, 76]⟩,
    ⟨3, ⟨some 70, .ld 69 1 false, none⟩, [71, 72, 73, 74, 75, 76]⟩,
    ⟨4, ⟨some 71, .fa 3 0 0, none⟩, [67, 68, 69, 70, 72, 73, 74, 75, 76]⟩,
    ⟨5, ⟨some 72, .ld 71 1 false, none⟩, [67, 68, 69, 70, 73, 74, 75, 76]⟩,
    ⟨6, ⟨some 73, .mv (.t 1), none⟩, [67, 68, 69, 70, 71, 72, 74, 75, 76]⟩,
    ⟨7, ⟨some 74, .ia 72 (.t 73) 1, none⟩, [67, 68, 69, 70, 75, 76]⟩,
    ⟨8, ⟨some 75, .ld 74 1 false, none⟩, [67, 68, 69, 70, 76]⟩,
    ⟨9, ⟨some 76, .bin .eql (.t 70) (.t 75), none⟩, []⟩]
    [] [1, 2, 3, 6, 8, 10, 11, 55, 56, 57, 58, 76])
  (.cond (.t 76) (.reg [⟨some 77, .mv (.t 11), none⟩,
    ⟨some 78, .mv (.t 1), none⟩,
    ⟨some 79, .fa 8 0 0, none⟩,
    ⟨some 80, .ld 79 1 false, none⟩,
    ⟨some 81, .mv (.t 1), none⟩,
    ⟨some 82, .ia 80 (.t 81) 1, none⟩,
    ⟨some 83, .ld 82 1 false, none⟩,
    ⟨some 84, .ia 77 (.t 78) 1, none⟩,
    ⟨none, .st 84 (.t 83) 1, none⟩] [1, 2, 3, 6, 8, 10, 11, 55, 56, 57, 58]) (.reg [⟨some 85, .mv (.t 11), none⟩,
    ⟨some 86, .mv (.t 1), none⟩,
    ⟨some 87, .mv (.t 2), none⟩,
    ⟨some 88, .mv (.t 11), none⟩,
    ⟨some 89, .mv (.t 1), none⟩,
    ⟨some 90, .ia 88 (.t 89) 1, none⟩,
    ⟨some 91, .ld 90 1 false, none⟩,
    ⟨some 92, .ia 87 (.t 91) 1, none⟩,
    ⟨some 93, .ld 92 1 false, none⟩,
    ⟨some 94, .ia 85 (.t 86) 1, none⟩,
    ⟨none, .st 94 (.t 93) 1, none⟩] [1, 2, 3, 6, 8, 10, 11, 55, 56, 57, 58]))))
  (.drw [⟨0, ⟨some 95, .fa 8 1 1, none⟩, [96, 97, 98, 99, 100, 101, 102, 103, 104, 105]⟩,
    ⟨1, ⟨some 96, .ld 95 1 false, none⟩, [97, 98, 99, 100, 101, 102, 103, 104, 105]⟩,
    ⟨2, ⟨some 97, .fa 8 0 0, none⟩, [95, 96, 98, 99, 100, 101, 102, 103, 104, 105]⟩,
    ⟨3, ⟨some 98, .ld 97 1 false, none⟩, [95, 96, 99, 100, 101, 102, 103, 104, 105]⟩,
    ⟨4, ⟨some 99, .mv (.t 11), none⟩, [95, 96, 97, 98, 100, 101, 102, 103, 104, 105]⟩,
    ⟨5, ⟨some 100, .call 115 [(.t 98), (.t 99)], none⟩, [95, 96, 101, 102, 103, 104, 105]⟩,
    ⟨6, ⟨some 101, .ia 96 (.t 100) 1, none⟩, [102, 103, 104, 105]⟩,
    ⟨7, ⟨some 102, .ld 101 1 false, none⟩, [103, 104, 105]⟩,
    ⟨8, ⟨some 103, .mv (.t 10), none⟩, [95, 96, 97, 98, 99, 100, 101, 102, 104, 105]⟩,
    ⟨9, ⟨some 104, .bin .add (.t 102) (.t 103), none⟩, [105]⟩,
    ⟨10, ⟨some 105, .ia 96 (.t 100) 1, none⟩, []⟩]
    [(11, ⟨none, .st 105 (.t 104) 1, none⟩)] [1, 2, 3, 6, 8, 55, 56, 57, 58]))))))
  (.reg [⟨some 106, .bin .add (.t 58) (.c (.int .i64 1)), none⟩,
    ⟨some 58, .mv (.t 106), none⟩] [1, 2, 3, 6, 8, 55, 56, 57, 58]))))))))
  (.seq (.reg [⟨some 107, .ld 8 2 true, none⟩,
    ⟨some 108, .callT 116 [(true, (.t 107))], none⟩,
    ⟨some 109, .ext 108 0, none⟩,
    ⟨some 110, .ext 108 1, none⟩,
    ⟨none, .st 6 (.t 109) 2, none⟩,
    ⟨some 7, .asg (.t 110), none⟩] [6, 7])
  (.ret)))))))
theorem con_spec_GroupCube {v0 : XCube} {v1 : Int} {v2 : (List Int)} {r : (XCube × Bool)} (h : sh_spec_GroupCube v0 v1 v2 = some r) : Con Try.prog 50 [(cXCube (cLs cI rfl) (cLs cI rfl)).enc v0, cI.enc v1, (cLs cI rfl).enc v2] [] (rs_spec_GroupCube r) := by
  delta sh_spec_GroupCube at h
  refine top (out := none) (f := Try.f50) (m := m50) (rs := [.c 6 2 true, .t 7]) (by kernel_rfl) rfl (by kernel_rfl) (by kernel_rfl) (by kernel_rfl) (by kernel_rfl) (by kernel_rfl) ?_
  exact
   ini [(0, .d ((cXCube (cLs cI rfl) (cLs cI rfl)).enc v0)), (1, .d (cI.enc v1)), (2, .d ((cLs cI rfl).enc v2))] rfl <| wpC_seq <| reg_s <| x_box (ss rfl rfl) <| x_all (cXCube (cLo cI) (cLo cI)) (⟨([] : List Int), ([] : List Int)⟩ : XCube) rfl <| x_asg (sc cB false rfl) <| seqN [(1, .d (cI.enc v1)), (2, .d ((cLs cI rfl).enc v2)), (3, .box ((cXCube (cLs cI rfl) (cLs cI rfl)).enc v0)), (6, .box ((cXCube (cLo cI) (cLo cI)).enc (⟨([] : List Int), ([] : List Int)⟩ : XCube)))] (by kernel_rfl) <|
    xn <| wpC_seq <| wpC_kp <| wpC_seq <| jw (fun (s49 : Bool) => [(1, .d (cI.enc v1)), (2, .d ((cLs cI rfl).enc v2)), (3, .box ((cXCube (cLs cI rfl) (cLs cI rfl)).enc v0)), (6, .box ((cXCube (cLo cI) (cLo cI)).enc (⟨([] : List Int), ([] : List Int)⟩ : XCube))), (38, .d (cB.enc s49))]) h (fun s49 h => xn <| cnd rfl h (fun b51 h => wpC_seq <| reg_s <| x_bld ((cXCube (cLo cI) (cLo cI)).enc (⟨([] : List Int), ([] : List Int)⟩ : XCube)) t0 rfl rfl <| x_stb (so rfl rfl) rfl (Cd.h_sz _ _) rfl <| x_asg (sc cB false rfl) <| seqN [(6, .box ((cXCube (cLo cI) (cLo cI)).enc (⟨([] : List Int), ([] : List Int)⟩ : XCube))), (7, .d (cB.enc false))] (by kernel_rfl) <|
    xn <| wpC_ret <| rt <| rt <| re <| fin h (r2 rfl rfl rfl <| r1 (ss rfl rfl) <| r0) rfl)
    (fun b51 h => wpC_skip <| kpN [(1, .d (cI.enc v1)), (2, .d ((cLs cI rfl).enc v2)), (3, .box ((cXCube (cLs cI rfl) (cLs cI rfl)).enc v0)), (6, .box ((cXCube (cLo cI) (cLo cI)).enc (⟨([] : List Int), ([] : List Int)⟩ : XCube)))] (by kernel_rfl) <| xn <| wpC_seq <| reg_s <| st rfl <| fab rfl rfl rfl rfl <| st rfl <| lda rfl rfl rfl rfl rfl rfl <| bnd h fun x54 e55 h => st rfl <| o_call (a1 (c := (cLs cI rfl)) (tLs tK) rfl a0) (con_spec_l1Own e55) (.inl (so1 (sLo sK) so0)) <| x_bld ((cXCube (cLo cI) (cLo cI)).enc (⟨x54, ([] : List Int)⟩ : XCube)) (t1 (so rfl rfl) rfl t0) rfl rfl <| x_all (cXCube (cLo cI) (cLo cI)) (⟨([] : List Int), ([] : List Int)⟩ : XCube) rfl <| x_stb (so rfl rfl) rfl (Cd.h_sz _ _) rfl <| seqN [(1, .d (cI.enc v1)), (2, .d ((cLs cI rfl).enc v2)), (3, .box ((cXCube (cLs cI rfl) (cLs cI rfl)).enc v0)), (6, .box ((cXCube (cLo cI) (cLo cI)).enc (⟨([] : List Int), ([] : List Int)⟩ : XCube))), (8, .box ((cXCube (cLo cI) (cLo cI)).enc (⟨x54, ([] : List Int)⟩ : XCube)))] (by kernel_rfl) <|
    xn <| wpC_seq <| drw_s <| pst rfl <| fab rfl rfl rfl rfl ⟨rfl, pst rfl <| ldao rfl rfl rfl rfl rfl rfl ⟨rfl, pst rfl <| mvd rfl rfl ⟨rfl, pst rfl <| mvd rfl rfl ⟨rfl, bndp h fun x61 e62 h => pst rfl <| o_call (a1 (c := (cLs cI rfl)) (tLs tK) rfl a0) (con_spec_cbGroups e62) (.inl (so1 sK so0)) ⟨rfl, getO_kp h fun x63 i64 g65 h => pst rfl <| iar rfl rfl rfl rfl i64 g65 rfl ⟨rfl, preN <| x_sta ((cXCube (cLo cI) (cLo cI)).enc (⟨(x54.set (v1).toNat x61), ([] : List Int)⟩ : XCube)) (ss rfl rfl) rfl rfl (Ln.fld rfl rfl (Ln.idx g65 Ln.nil) rfl) (Cd.h_sz cI _) rfl <| seqN [(1, .d (cI.enc v1)), (2, .d ((cLs cI rfl).enc v2)), (3, .box ((cXCube (cLs cI rfl) (cLs cI rfl)).enc v0)), (6, .box ((cXCube (cLo cI) (cLo cI)).enc (⟨([] : List Int), ([] : List Int)⟩ : XCube))), (8, .box ((cXCube (cLo cI) (cLo cI)).enc (⟨(x54.set (v1).toNat x61), ([] : List Int)⟩ : XCube)))] (by kernel_rfl) <|
    xn <| wpC_seq <| reg_s <| st rfl <| fab rfl rfl rfl rfl <| st rfl <| ldao rfl rfl rfl rfl rfl rfl <| bnd h fun x70 e71 h => st rfl <| o_call (a1 (c := (cLo cI)) (tLo tK) rfl a0) (con_spec_cbCount e71) (.inl (so1 sK so0)) <| mkO_k h fun i72 l73 h => st rfl <| o_mk (c := cI) (a0 := (0 : Int)) rfl (k := .i64) rfl i72 l73 <| st rfl <| fab rfl rfl rfl rfl <| x_sta ((cXCube (cLo cI) (cLo cI)).enc (⟨(x54.set (v1).toNat x61), (List.replicate (x70).toNat (0 : Int))⟩ : XCube)) (so rfl rfl) rfl rfl (Ln.fld rfl rfl Ln.nil rfl) (Cd.h_sz (cLo cI) _) rfl <| seqN [(1, .d (cI.enc v1)), (2, .d ((cLs cI rfl).enc v2)), (3, .box ((cXCube (cLs cI rfl) (cLs cI rfl)).enc v0)), (6, .box ((cXCube (cLo cI) (cLo cI)).enc (⟨([] : List Int), ([] : List Int)⟩ : XCube))), (8, .box ((cXCube (cLo cI) (cLo cI)).enc (⟨(x54.set (v1).toNat x61), (List.replicate (x70).toNat (0 : Int))⟩ : XCube)))] (by kernel_rfl) <|
    xn <| wpC_seq <| wpC_kp <| wpC_seq <| reg_s <| st rfl <| fab rfl rfl rfl rfl <| st rfl <| lda rfl rfl rfl rfl rfl rfl <| stw rfl <| lens rfl fun l385 => st rfl <| mvc cI (0 : Int) rfl <| seqN [(1, .d (cI.enc v1)), (2, .d ((cLs cI rfl).enc v2)), (3, .box ((cXCube (cLs cI rfl) (cLs cI rfl)).enc v0)), (6, .box ((cXCube (cLo cI) (cLo cI)).enc (⟨([] : List Int), ([] : List Int)⟩ : XCube))), (8, .box ((cXCube (cLo cI) (cLo cI)).enc (⟨(x54.set (v1).toNat x61), (List.replicate (x70).toNat (0 : Int))⟩ : XCube))), (55, .adr 3 [.fld 1]), (56, .d ((cLs cI rfl).enc v0.Cells)), (57, .d (cI.enc (v0.Cells.length : Int))), (58, .d (cI.enc (0 : Int)))] (by kernel_rfl) <|
    xn <| wpC_blk <| lpR (fun (k387 : Nat) (s386 : XCube) => [(1, .d (cI.enc v1)), (2, .d ((cLs cI rfl).enc v2)), (3, .box ((cXCube (cLs cI rfl) (cLs cI rfl)).enc v0)), (6, .box ((cXCube (cLo cI) (cLo cI)).enc (⟨([] : List Int), ([] : List Int)⟩ : XCube))), (8, .box ((cXCube (cLo cI) (cLo cI)).enc s386)), (55, .adr 3 [.fld 1]), (56, .d ((cLs cI rfl).enc v0.Cells)), (57, .d (cI.enc (v0.Cells.length : Int))), (58, .d (cI.enc (k387 : Int)))]) (⟨(x54.set (v1).toNat x61), (List.replicate (x70).toNat (0 : Int))⟩ : XCube) rfl h
    (fun G593 s386 h => wpC_seq <| reg_s <| st rfl <| b_lss (k := .i64) rfl rfl <| seqN [(1, .d (cI.enc v1)), (2, .d ((cLs cI rfl).enc v2)), (3, .box ((cXCube (cLs cI rfl) (cLs cI rfl)).enc v0)), (6, .box ((cXCube (cLo cI) (cLo cI)).enc (⟨([] : List Int), ([] : List Int)⟩ : XCube))), (8, .box ((cXCube (cLo cI) (cLo cI)).enc s386)), (55, .adr 3 [.fld 1]), (56, .d ((cLs cI rfl).enc v0.Cells)), (57, .d (cI.enc (v0.Cells.length : Int))), (58, .d (cI.enc (v0.Cells.length : Int))), (59, .d (cB.enc (decide ((v0.Cells.length : Int) < (v0.Cells.length : Int)))))] (by kernel_rfl) <|
    xn <| wpC_seq <| wpC_kp <| cnd0 rfl (dlf _) <| wpC_exit <| xt <| xt <| xt <| xb <| kpN [(6, .box ((cXCube (cLo cI) (cLo cI)).enc (⟨([] : List Int), ([] : List Int)⟩ : XCube))), (8, .box ((cXCube (cLo cI) (cLo cI)).enc s386))] (by kernel_rfl) <| xn <| wpC_seq <| reg_s <| st rfl <| ldbo rfl rfl rfl rfl <| bnd h fun x596 e597 h => x_clt (k1 (sb rfl rfl) k0) (m1 m0) (con_spec_cbIf e597) (so1 (sXCube (sLo sK) (sLo sK)) (so1 sB so0)) <| x_ext rfl rfl <| x_ext rfl rfl <| x_stb (so rfl rfl) rfl (Cd.h_sz _ _) rfl <| x_asg (ss rfl rfl) <| seqN [(6, .box ((cXCube (cLo cI) (cLo cI)).enc x596.1)), (7, .d (cB.enc x596.2))] (by kernel_rfl) <|
    xn <| wpC_ret <| re <| fin h (r2 rfl rfl rfl <| r1 (ss rfl rfl) <| r0) rfl)
    (fun G593 nx591 k387 s386 x388 hk389 hx390 hn592 h => wpC_seq <| reg_s <| st rfl <| b_lss (k := .i64) rfl rfl <| seqN [(1, .d (cI.enc v1)), (2, .d ((cLs cI rfl).enc v2)), (3, .box ((cXCube (cLs cI rfl) (cLs cI rfl)).enc v0)), (6, .box ((cXCube (cLo cI) (cLo cI)).enc (⟨([] : List Int), ([] : List Int)⟩ : XCube))), (8, .box ((cXCube (cLo cI) (cLo cI)).enc s386)), (55, .adr 3 [.fld 1]), (56, .d ((cLs cI rfl).enc v0.Cells)), (57, .d (cI.enc (v0.Cells.length : Int))), (58, .d (cI.enc (k387 : Int))), (59, .d (cB.enc (decide ((k387 : Int) < (v0.Cells.length : Int)))))] (by kernel_rfl) <|
    xn <| wpC_seq <| wpC_kp <| cnd1 rfl (dlt hk389) <| wpC_skip <| kpN [(1, .d (cI.enc v1)), (2, .d ((cLs cI rfl).enc v2)), (3, .box ((cXCube (cLs cI rfl) (cLs cI rfl)).enc v0)), (6, .box ((cXCube (cLo cI) (cLo cI)).enc (⟨([] : List Int), ([] : List Int)⟩ : XCube))), (8, .box ((cXCube (cLo cI) (cLo cI)).enc s386)), (55, .adr 3 [.fld 1]), (56, .d ((cLs cI rfl).enc v0.Cells)), (57, .d (cI.enc (v0.Cells.length : Int))), (58, .d (cI.enc (k387 : Int)))] (by kernel_rfl) <| xn <| wpC_seq <| wpC_kp <| wpC_blk <| wpC_seq <| reg_s <| st rfl <| mvd rfl rfl <| st rfl <| ias rfl rfl (Int.natCast_nonneg _) hx390 rfl <| st rfl <| ldi rfl rfl rfl rfl <| x_asg (ss rfl rfl) <| x_asg (ss rfl rfl) <| seqN [(1, .d (cI.enc v1)), (2, .d ((cLs cI rfl).enc v2)), (3, .box ((cXCube (cLs cI rfl) (cLs cI rfl)).enc v0)), (6, .box ((cXCube (cLo cI) (cLo cI)).enc (⟨([] : List Int), ([] : List Int)⟩ : XCube))), (8, .box ((cXCube (cLo cI) (cLo cI)).enc s386)), (9, .d (cI.enc (k387 : Int))), (10, .d (cI.enc x388)), (55, .adr 3 [.fld 1]), (56, .d ((cLs cI rfl).enc v0.Cells)), (57, .d (cI.enc (v0.Cells.length : Int))), (58, .d (cI.enc (k387 : Int)))] (by kernel_rfl) <|
    xn <| wpC_seq <| reg_s <| st rfl <| fab rfl rfl rfl rfl <| st rfl <| lda rfl rfl rfl rfl rfl rfl <| st rfl <| mvd rfl rfl <| bnd h fun x650 e651 h => st rfl <| o_call (a1 (c := (cLs cI rfl)) (tLs tK) rfl (a1 (c := cI) tK rfl a0)) (con_spec_cbIndices e651) (.inl (so1 (sLo sK) so0)) <| x_asg (so rfl rfl) <| seqN [(1, .d (cI.enc v1)), (2, .d ((cLs cI rfl).enc v2)), (3, .box ((cXCube (cLs cI rfl) (cLs cI rfl)).enc v0)), (6, .box ((cXCube (cLo cI) (cLo cI)).enc (⟨([] : List Int), ([] : List Int)⟩ : XCube))), (8, .box ((cXCube (cLo cI) (cLo cI)).enc s386)), (10, .d (cI.enc x388)), (11, .d ((cLo cI).enc x650)), (55, .adr 3 [.fld 1]), (56, .d ((cLs cI rfl).enc v0.Cells)), (57, .d (cI.enc (v0.Cells.length : Int))), (58, .d (cI.enc (k387 : Int)))] (by kernel_rfl) <|
    xn <| wpC_seq <| jw (fun (s671 : (List Int)) => [(1, .d (cI.enc v1)), (2, .d ((cLs cI rfl).enc v2)), (3, .box ((cXCube (cLs cI rfl) (cLs cI rfl)).enc v0)), (6, .box ((cXCube (cLo cI) (cLo cI)).enc (⟨([] : List Int), ([] : List Int)⟩ : XCube))), (8, .box ((cXCube (cLo cI) (cLo cI)).enc s386)), (10, .d (cI.enc x388)), (11, .d ((cLo cI).enc s671)), (55, .adr 3 [.fld 1]), (56, .d ((cLs cI rfl).enc v0.Cells)), (57, .d (cI.enc (v0.Cells.length : Int))), (58, .d (cI.enc (k387 : Int)))]) h (fun s671 h => xn <| drw_s <| pst rfl <| fab rfl rfl rfl rfl ⟨rfl, pst rfl <| ldao rfl rfl rfl rfl rfl rfl ⟨rfl, pst rfl <| fab rfl rfl rfl rfl ⟨rfl, pst rfl <| ldao rfl rfl rfl rfl rfl rfl ⟨rfl, pst rfl <| mvo rfl rfl ⟨rfl, bndp h fun x673 e674 h => pst rfl <| o_call (a1 (c := (cLo cI)) (tLo tK) rfl (a1 (c := (cLo cI)) (tLo tK) rfl a0)) (con_spec_cbAt e674) (.inl (so1 sK so0)) ⟨rfl, getO_kp h fun x675 i676 g677 h => pst rfl <| iar rfl rfl rfl rfl i676 g677 rfl ⟨rfl, pst rfl <| lda rfl rfl (Gt.fld rfl rfl (Gt.idx g677 Gt.nil)) rfl rfl rfl ⟨rfl, pst rfl <| mvd rfl rfl ⟨rfl, ckI_kp h fun i678 h => pst rfl <| b_add (k := .i64) rfl rfl i678 ⟨rfl, pst rfl <| iar rfl rfl rfl rfl i676 g677 rfl ⟨rfl, preN <| x_sta ((cXCube (cLo cI) (cLo cI)).enc (⟨s386.Sizes, (s386.Cells.set (x673).toNat (x675 + x388))⟩ : XCube)) (ss rfl rfl) rfl rfl (Ln.fld rfl rfl (Ln.idx g677 Ln.nil) rfl) (Cd.h_sz cI _) rfl <| seqN [(1, .d (cI.enc v1)), (2, .d ((cLs cI rfl).enc v2)), (3, .box ((cXCube (cLs cI rfl) (cLs cI rfl)).enc v0)), (6, .box ((cXCube (cLo cI) (cLo cI)).enc (⟨([] : List Int), ([] : List Int)⟩ : XCube))), (8, .box ((cXCube (cLo cI) (cLo cI)).enc (⟨s386.Sizes, (s386.Cells.set (x673).toNat (x675 + x388))⟩ : XCube))), (55, .adr 3 [.fld 1]), (56, .d ((cLs cI rfl).enc v0.Cells)), (57, .d (cI.enc (v0.Cells.length : Int))), (58, .d (cI.enc (k387 : Int)))] (by kernel_rfl) <|
    xbb <| kpN [(1, .d (cI.enc v1)), (2, .d ((cLs cI rfl).enc v2)), (3, .box ((cXCube (cLs cI rfl) (cLs cI rfl)).enc v0)), (6, .box ((cXCube (cLo cI) (cLo cI)).enc (⟨([] : List Int), ([] : List Int)⟩ : XCube))), (8, .box ((cXCube (cLo cI) (cLo cI)).enc (⟨s386.Sizes, (s386.Cells.set (x673).toNat (x675 + x388))⟩ : XCube))), (55, .adr 3 [.fld 1]), (56, .d ((cLs cI rfl).enc v0.Cells)), (57, .d (cI.enc (v0.Cells.length : Int))), (58, .d (cI.enc (k387 : Int)))] (by kernel_rfl) <| xn <| reg_s <| st rfl <| b_inc rfl rfl l385 hk389 <| st rfl <| mvd rfl rfl <| seqN [(1, .d (cI.enc v1)), (2, .d ((cLs cI rfl).enc v2)), (3, .box ((cXCube (cLs cI rfl) (cLs cI rfl)).enc v0)), (6, .box ((cXCube (cLo cI) (cLo cI)).enc (⟨([] : List Int), ([] : List Int)⟩ : XCube))), (8, .box ((cXCube (cLo cI) (cLo cI)).enc (⟨s386.Sizes, (s386.Cells.set (x673).toNat (x675 + x388))⟩ : XCube))), (55, .adr 3 [.fld 1]), (56, .d ((cLs cI rfl).enc v0.Cells)), (57, .d (cI.enc (v0.Cells.length : Int))), (58, .d (cI.enc ((k387 + 1 : Nat) : Int)))] (by kernel_rfl) <|
    xn <| hn592 (⟨s386.Sizes, (s386.Cells.set (x673).toNat (x675 + x388))⟩ : XCube) h⟩⟩⟩⟩⟩⟩⟩⟩⟩⟩⟩)
    fun s671' q672 h => wpC_kp <| wpC_seq <| drw_s <| pst rfl <| mvo rfl rfl ⟨rfl, pst rfl <| mvd rfl rfl ⟨rfl, getO_kp h fun x685 i686 g687 h => pst rfl <| iar rfl rfl rfl rfl i686 g687 rfl ⟨rfl, pst rfl <| lda rfl rfl (Gt.idx g687 Gt.nil) rfl rfl rfl ⟨rfl, pst rfl <| fab rfl rfl rfl rfl ⟨rfl, pst rfl <| lda rfl rfl rfl rfl rfl rfl ⟨rfl, pst rfl <| mvd rfl rfl ⟨rfl, getO_kp h fun x688 i689 g690 h => pst rfl <| ias rfl rfl i689 g690 rfl ⟨rfl, pst rfl <| ldi rfl rfl rfl rfl ⟨rfl, pst rfl <| b_eql (k := .i64) rfl rfl ⟨rfl, preN <| seqN [(1, .d (cI.enc v1)), (2, .d ((cLs cI rfl).enc v2)), (3, .box ((cXCube (cLs cI rfl) (cLs cI rfl)).enc v0)), (6, .box ((cXCube (cLo cI) (cLo cI)).enc (⟨([] : List Int), ([] : List Int)⟩ : XCube))), (8, .box ((cXCube (cLo cI) (cLo cI)).enc s386)), (10, .d (cI.enc x388)), (11, .d ((cLo cI).enc x650)), (55, .adr 3 [.fld 1]), (56, .d ((cLs cI rfl).enc v0.Cells)), (57, .d (cI.enc (v0.Cells.length : Int))), (58, .d (cI.enc (k387 : Int))), (76, .d (cB.enc (decide (x685 = x688))))] (by kernel_rfl) <|
    xn <| cnd rfl h (fun b691 h => reg_s <| st rfl <| mvo rfl rfl <| st rfl <| mvd rfl rfl <| st rfl <| fab rfl rfl rfl rfl <| st rfl <| ldao rfl rfl rfl rfl rfl rfl <| st rfl <| mvd rfl rfl <| getO_k h fun x692 i693 g694 h => st rfl <| iar rfl rfl rfl rfl i693 g694 rfl <| st rfl <| lda rfl rfl (Gt.fld rfl rfl (Gt.idx g694 Gt.nil)) rfl rfl rfl <| st rfl <| iar rfl rfl rfl rfl i686 g687 rfl <| x_sta ((cLo cI).enc (x650.set (v1).toNat x692)) (ss rfl rfl) rfl rfl (Ln.idx g687 Ln.nil) (Cd.h_sz cI _) rfl <| seqN [(1, .d (cI.enc v1)), (2, .d ((cLs cI rfl).enc v2)), (3, .box ((cXCube (cLs cI rfl) (cLs cI rfl)).enc v0)), (6, .box ((cXCube (cLo cI) (cLo cI)).enc (⟨([] : List Int), ([] : List Int)⟩ : XCube))), (8, .box ((cXCube (cLo cI) (cLo cI)).enc s386)), (10, .d (cI.enc x388)), (11, .d ((cLo cI).enc (x650.set (v1).toNat x692))), (55, .adr 3 [.fld 1]), (56, .d ((cLs cI rfl).enc v0.Cells)), (57, .d (cI.enc (v0.Cells.length : Int))), (58, .d (cI.enc (k387 : Int)))] (by kernel_rfl) <|
    kpN [(1, .d (cI.enc v1)), (2, .d ((cLs cI rfl).enc v2)), (3, .box ((cXCube (cLs cI rfl) (cLs cI rfl)).enc v0)), (6, .box ((cXCube (cLo cI) (cLo cI)).enc (⟨([] : List Int), ([] : List Int)⟩ : XCube))), (8, .box ((cXCube (cLo cI) (cLo cI)).enc s386)), (10, .d (cI.enc x388)), (11, .d ((cLo cI).enc (x650.set (v1).toNat x692))), (55, .adr 3 [.fld 1]), (56, .d ((cLs cI rfl).enc v0.Cells)), (57, .d (cI.enc (v0.Cells.length : Int))), (58, .d (cI.enc (k387 : Int)))] (by kernel_rfl) <| lfn (S := (fun (s671 : (List Int)) => [(1, .d (cI.enc v1)), (2, .d ((cLs cI rfl).enc v2)), (3, .box ((cXCube (cLs cI rfl) (cLs cI rfl)).enc v0)), (6, .box ((cXCube (cLo cI) (cLo cI)).enc (⟨([] : List Int), ([] : List Int)⟩ : XCube))), (8, .box ((cXCube (cLo cI) (cLo cI)).enc s386)), (10, .d (cI.enc x388)), (11, .d ((cLo cI).enc s671)), (55, .adr 3 [.fld 1]), (56, .d ((cLs cI rfl).enc v0.Cells)), (57, .d (cI.enc (v0.Cells.length : Int))), (58, .d (cI.enc (k387 : Int)))])) h q672 rfl)
    (fun b691 h => reg_s <| st rfl <| mvo rfl rfl <| st rfl <| mvd rfl rfl <| st rfl <| mvd rfl rfl <| st rfl <| mvo rfl rfl <| st rfl <| mvd rfl rfl <| st rfl <| iar rfl rfl rfl rfl i686 g687 rfl <| st rfl <| lda rfl rfl (Gt.idx g687 Gt.nil) rfl rfl rfl <| getO_k h fun x695 i696 g697 h => st rfl <| ias rfl rfl i696 g697 rfl <| st rfl <| ldi rfl rfl rfl rfl <| st rfl <| iar rfl rfl rfl rfl i686 g687 rfl <| x_sta ((cLo cI).enc (x650.set (v1).toNat x695)) (ss rfl rfl) rfl rfl (Ln.idx g687 Ln.nil) (Cd.h_sz cI _) rfl <| seqN [(1, .d (cI.enc v1)), (2, .d ((cLs cI rfl).enc v2)), (3, .box ((cXCube (cLs cI rfl) (cLs cI rfl)).enc v0)), (6, .box ((cXCube (cLo cI) (cLo cI)).enc (⟨([] : List Int), ([] : List Int)⟩ : XCube))), (8, .box ((cXCube (cLo cI) (cLo cI)).enc s386)), (10, .d (cI.enc x388)), (11, .d ((cLo cI).enc (x650.set (v1).toNat x695))), (55, .adr 3 [.fld 1]), (56, .d ((cLs cI rfl).enc v0.Cells)), (57, .d (cI.enc (v0.Cells.length : Int))), (58, .d (cI.enc (k387 : Int)))] (by kernel_rfl) <|
    kpN [(1, .d (cI.enc v1)), (2, .d ((cLs cI rfl).enc v2)), (3, .box ((cXCube (cLs cI rfl) (cLs cI rfl)).enc v0)), (6, .box ((cXCube (cLo cI) (cLo cI)).enc (⟨([] : List Int), ([] : List Int)⟩ : XCube))), (8, .box ((cXCube (cLo cI) (cLo cI)).enc s386)), (10, .d (cI.enc x388)), (11, .d ((cLo cI).enc (x650.set (v1).toNat x695))), (55, .adr 3 [.fld 1]), (56, .d ((cLs cI rfl).enc v0.Cells)), (57, .d (cI.enc (v0.Cells.length : Int))), (58, .d (cI.enc (k387 : Int)))] (by kernel_rfl) <| lfn (S := (fun (s671 : (List Int)) => [(1, .d (cI.enc v1)), (2, .d ((cLs cI rfl).enc v2)), (3, .box ((cXCube (cLs cI rfl) (cLs cI rfl)).enc v0)), (6, .box ((cXCube (cLo cI) (cLo cI)).enc (⟨([] : List Int), ([] : List Int)⟩ : XCube))), (8, .box ((cXCube (cLo cI) (cLo cI)).enc s386)), (10, .d (cI.enc x388)), (11, .d ((cLo cI).enc s671)), (55, .adr 3 [.fld 1]), (56, .d ((cLs cI rfl).enc v0.Cells)), (57, .d (cI.enc (v0.Cells.length : Int))), (58, .d (cI.enc (k387 : Int)))])) h q672 rfl)⟩⟩⟩⟩⟩⟩⟩⟩⟩⟩)⟩⟩⟩⟩⟩⟩))
    fun s49' q50 h => reg_s <| st rfl <| ldb rfl rfl rfl rfl <| bnd h fun x698 e699 h => st rfl <| o_call (a1 (c := (cXCube (cLs cI rfl) (cLs cI rfl))) (tXCube (tLs tK) (tLs tK)) rfl a0) (con_spec_cbGood e699) (.inl (so1 sB so0)) <| st rfl <| o_nt rfl <| st rfl <| mvd rfl rfl <| ite_k h (fun b700 h => gf rfl b700 <| gf rfl b700 <| gf rfl b700 <| gf rfl b700 <| gf rfl b700 <| gf rfl b700 <| gf rfl b700 <| st rfl <| pick1 rfl b700 (cd := cB) (v := true) rfl rfl <| st rfl <| mvd rfl rfl <| gf rfl rfl <| gf rfl rfl <| gf rfl rfl <| gf rfl rfl <| gf rfl rfl <| gf rfl rfl <| gf rfl rfl <| gf rfl rfl <| st rfl <| pick1 rfl rfl (cd := cB) (v := true) rfl rfl <| st rfl <| mvd rfl rfl <| gf rfl rfl <| gf rfl rfl <| gf rfl rfl <| st rfl <| pick1 rfl rfl (cd := cB) (v := true) rfl rfl <| seqN [(1, .d (cI.enc v1)), (2, .d ((cLs cI rfl).enc v2)), (3, .box ((cXCube (cLs cI rfl) (cLs cI rfl)).enc v0)), (6, .box ((cXCube (cLo cI) (cLo cI)).enc (⟨([] : List Int), ([] : List Int)⟩ : XCube))), (38, .d (cB.enc true))] (by kernel_rfl) <|
    lfn (S := (fun (s49 : Bool) => [(1, .d (cI.enc v1)), (2, .d ((cLs cI rfl).enc v2)), (3, .box ((cXCube (cLs cI rfl) (cLs cI rfl)).enc v0)), (6, .box ((cXCube (cLo cI) (cLo cI)).enc (⟨([] : List Int), ([] : List Int)⟩ : XCube))), (38, .d (cB.enc s49))])) h q50 rfl)
    (fun b700 h => gt' rfl b700 <| st rfl <| mvd rfl rfl <| gt' rfl b700 <| st rfl <| fab rfl rfl rfl rfl <| gt' rfl b700 <| st rfl <| lda rfl rfl rfl rfl rfl rfl <| gt' rfl b700 <| stw rfl <| lens rfl fun l701 => gt' rfl b700 <| ckI_k h fun i702 h => st rfl <| b_sub (k := .i64) rfl rfl i702 <| gt' rfl b700 <| bnd h fun x703 e704 h => st rfl <| o_call (a1 (c := cI) tK rfl (a1 (c := cI) tK rfl (a1 (c := cI) tK rfl a0))) (con_spec_l1In e704) (.inl (so1 sB so0)) <| gt' rfl b700 <| st rfl <| o_nt rfl <| st rfl <| pick0 rfl b700 (cd := cB) (v := (!x703)) rfl rfl <| st rfl <| mvd rfl rfl <| ite_k h (fun b705 h => gf rfl b705 <| gf rfl b705 <| gf rfl b705 <| gf rfl b705 <| gf rfl b705 <| gf rfl b705 <| gf rfl b705 <| gf rfl b705 <| st rfl <| pick1 rfl b705 (cd := cB) (v := true) rfl rfl <| st rfl <| mvd rfl rfl <| gf rfl rfl <| gf rfl rfl <| gf rfl rfl <| st rfl <| pick1 rfl rfl (cd := cB) (v := true) rfl rfl <| seqN [(1, .d (cI.enc v1)), (2, .d ((cLs cI rfl).enc v2)), (3, .box ((cXCube (cLs cI rfl) (cLs cI rfl)).enc v0)), (6, .box ((cXCube (cLo cI) (cLo cI)).enc (⟨([] : List Int), ([] : List Int)⟩ : XCube))), (38, .d (cB.enc true))] (by kernel_rfl) <|
    lfn (S := (fun (s49 : Bool) => [(1, .d (cI.enc v1)), (2, .d ((cLs cI rfl).enc v2)), (3, .box ((cXCube (cLs cI rfl) (cLs cI rfl)).enc v0)), (6, .box ((cXCube (cLo cI) (cLo cI)).enc (⟨([] : List Int), ([] : List Int)⟩ : XCube))), (38, .d (cB.enc s49))])) h q50 rfl)
    (fun b705 h => gt' rfl b705 <| st rfl <| mvd rfl rfl <| gt' rfl b705 <| stw rfl <| lens rfl fun l706 => gt' rfl b705 <| st rfl <| fab rfl rfl rfl rfl <| gt' rfl b705 <| st rfl <| lda rfl rfl rfl rfl rfl rfl <| gt' rfl b705 <| st rfl <| mvd rfl rfl <| gt' rfl b705 <| getO_k h fun x707 i708 g709 h => st rfl <| ias rfl rfl i708 g709 rfl <| gt' rfl b705 <| st rfl <| ldi rfl rfl rfl rfl <| gt' rfl b705 <| st rfl <| b_neq (k := .i64) rfl rfl <| st rfl <| pick0 rfl b705 (cd := cB) (v := (decide ((v2.length : Int) ≠ x707))) rfl rfl <| st rfl <| mvd rfl rfl <| ite_k h (fun b710 h => gf rfl b710 <| gf rfl b710 <| gf rfl b710 <| st rfl <| pick1 rfl b710 (cd := cB) (v := true) rfl rfl <| seqN [(1, .d (cI.enc v1)), (2, .d ((cLs cI rfl).enc v2)), (3, .box ((cXCube (cLs cI rfl) (cLs cI rfl)).enc v0)), (6, .box ((cXCube (cLo cI) (cLo cI)).enc (⟨([] : List Int), ([] : List Int)⟩ : XCube))), (38, .d (cB.enc true))] (by kernel_rfl) <|
    lfn (S := (fun (s49 : Bool) => [(1, .d (cI.enc v1)), (2, .d ((cLs cI rfl).enc v2)), (3, .box ((cXCube (cLs cI rfl) (cLs cI rfl)).enc v0)), (6, .box ((cXCube (cLo cI) (cLo cI)).enc (⟨([] : List Int), ([] : List Int)⟩ : XCube))), (38, .d (cB.enc s49))])) h q50 rfl)
    (fun b710 h => gt' rfl b710 <| st rfl <| mvd rfl rfl <| gt' rfl b710 <| bnd h fun x711 e712 h => st rfl <| o_call (a1 (c := (cLs cI rfl)) (tLs tK) rfl a0) (con_spec_cbGroups e712) (.inl (so1 sK so0)) <| gt' rfl b710 <| st rfl <| b_eql (k := .i64) rfl rfl <| st rfl <| pick0 rfl b710 (cd := cB) (v := (decide (x711 = (0 : Int)))) rfl rfl <| seqN [(1, .d (cI.enc v1)), (2, .d ((cLs cI rfl).enc v2)), (3, .box ((cXCube (cLs cI rfl) (cLs cI rfl)).enc v0)), (6, .box ((cXCube (cLo cI) (cLo cI)).enc (⟨([] : List Int), ([] : List Int)⟩ : XCube))), (38, .d (cB.enc (decide (x711 = (0 : Int)))))] (by kernel_rfl) <|
    lfn (S := (fun (s49 : Bool) => [(1, .d (cI.enc v1)), (2, .d ((cLs cI rfl).enc v2)), (3, .box ((cXCube (cLs cI rfl) (cLs cI rfl)).enc v0)), (6, .box ((cXCube (cLo cI) (cLo cI)).enc (⟨([] : List Int), ([] : List Int)⟩ : XCube))), (38, .d (cB.enc s49))])) h q50 rfl)))

def rs_impl_IsCube (r : Bool) : List D := [cB.enc r]
def m117 : MC := .seq (.reg [⟨some 1, .box (.t 0), none⟩,
    ⟨some 2, .asg (.c (.bool false)), none⟩] [1])
  (.seq (.drw [⟨0, ⟨some 3, .ld 1 2 true, none⟩, [4, 5, 6, 7, 8, 9, 10, 11, 12]⟩,
    ⟨1, ⟨some 4, .call 156 [(.t 3)], none⟩, [5, 6, 7, 8, 9, 10, 11, 12]⟩,
    ⟨2, ⟨some 5, .mv (.t 4), none⟩, [6, 7, 8, 9, 10, 11, 12]⟩,
    ⟨3, ⟨some 6, .ld 1 2 true, some (5, true)⟩, [7, 8, 9, 10, 11, 12]⟩,
    ⟨4, ⟨some 7, .call 157 [(.t 6)], some (5, true)⟩, [8, 9, 10, 11, 12]⟩,
    ⟨5, ⟨some 8, .fa 1 1 1, some (5, true)⟩, [6, 7, 9, 10, 11, 12]⟩,
    ⟨6, ⟨some 9, .ld 8 1 false, some (5, true)⟩, [6, 7, 10, 11, 12]⟩,
    ⟨7, ⟨some 10, .len false (.t 9), some (5, true)⟩, [6, 7, 11, 12]⟩,
    ⟨8, ⟨some 11, .bin .eql (.t 7) (.t 10), some (5, true)⟩, [12]⟩,
    ⟨9, ⟨some 12, .pick (.t 5) (.t 11) (.c (.bool false)), none⟩, []⟩]
    [(10, ⟨some 2, .asg (.t 12), none⟩)] [2])
  (.ret))
theorem con_impl_IsCube {v0 : XCube} {r : Bool} (h : sh_impl_IsCube v0 = some r) : Con Try.prog 117 [(cXCube (cLs cI rfl) (cLs cI rfl)).enc v0] [] (rs_impl_IsCube r) := by
  delta sh_impl_IsCube at h
  refine top (out := none) (f := Try.f117) (m := m117) (rs := [.t 2]) (by kernel_rfl) rfl (by kernel_rfl) (by kernel_rfl) (by kernel_rfl) (by kernel_rfl) (by kernel_rfl) ?_
  exact
   ini [(0, .d ((cXCube (cLs cI rfl) (cLs cI rfl)).enc v0))] rfl <| wpC_seq <| reg_s <| x_box (ss rfl rfl) <| x_asg (sc cB false rfl) <| seqN [(1, .box ((cXCube (cLs cI rfl) (cLs cI rfl)).enc v0))] (by kernel_rfl) <|
    xn <| wpC_seq <| drw_s <| pst rfl <| ldb rfl rfl rfl rfl ⟨rfl, bndp h fun x7 e8 h => pst rfl <| o_call (a1 (c := (cXCube (cLs cI rfl) (cLs cI rfl))) (tXCube (tLs tK) (tLs tK)) rfl a0) (con_impl_hasRightForm e8) (.inl (so1 sB so0)) ⟨rfl, pst rfl <| mvd rfl rfl ⟨rfl, ite_kp h (fun b9 h => pgt rfl b9 <| pst rfl <| ldb rfl rfl rfl rfl ⟨rfl, pgt rfl b9 <| bndp h fun x10 e11 h => pst rfl <| o_call (a1 (c := (cXCube (cLs cI rfl) (cLs cI rfl))) (tXCube (tLs tK) (tLs tK)) rfl a0) (con_impl_firstBreak e11) (.inl (so1 sK so0)) ⟨rfl, pgt rfl b9 <| pst rfl <| fab rfl rfl rfl rfl ⟨rfl, pgt rfl b9 <| pst rfl <| lda rfl rfl rfl rfl rfl rfl ⟨rfl, pgt rfl b9 <| lmO_kp h fun l12 h => pst rfl <| plns rfl l12 ⟨rfl, pgt rfl b9 <| pst rfl <| b_eql (k := .i64) rfl rfl ⟨rfl, pst rfl <| pick1 rfl b9 (cd := cB) (v := (decide (x10 = (v0.Cells.length : Int)))) rfl rfl ⟨rfl, preN <| x_asg (ss rfl rfl) <| seqN [(2, .d (cB.enc (decide (x10 = (v0.Cells.length : Int)))))] (by kernel_rfl) <|
    xn <| wpC_ret <| re <| fin h (r1 (ss rfl rfl) <| r0) rfl⟩⟩⟩⟩⟩⟩⟩)
    (fun b9 h => pgf rfl rfl b9 <| pgf rfl rfl b9 <| pgf rfl rfl b9 <| pgf rfl rfl b9 <| pgf rfl rfl b9 <| pgf rfl rfl b9 <| pst rfl <| pick0 rfl b9 (cd := cB) (v := false) rfl rfl ⟨rfl, preN <| x_asg (ss rfl rfl) <| seqN [(2, .d (cB.enc false))] (by kernel_rfl) <|
    xn <| wpC_ret <| re <| fin h (r1 (ss rfl rfl) <| r0) rfl⟩)⟩⟩⟩

def rs_slices_Index_int (r : Int) : List D := [cI.enc r]
def m164 : MC := .seq (.reg [⟨some 4, .asg (.c (.int .i64 0)), none⟩] [0, 1])
  (.seq (.kp [] (.seq (.reg [⟨some 6, .mv (.t 0), none⟩,
    ⟨some 7, .len false (.t 6), none⟩,
    ⟨some 8, .mv (.c (.int .i64 0)), none⟩] [0, 1, 7, 8])
  (.blk 0 (.loop (.seq (.reg [⟨some 9, .bin .lss (.t 8) (.t 7), none⟩] [0, 1, 7, 8, 9])
  (.seq (.kp [0, 1, 7, 8] (.cond (.t 9) (.skip) (.exit 0)))
  (.seq (.kp [0, 1, 7, 8] (.blk 1 (.seq (.reg [⟨some 10, .mv (.t 8), none⟩,
    ⟨some 5, .asg (.t 10), none⟩] [0, 1, 5, 7, 8])
  (.seq (.reg [⟨some 11, .mv (.t 1), none⟩,
    ⟨some 12, .mv (.t 0), none⟩,
    ⟨some 13, .mv (.t 5), none⟩,
    ⟨some 14, .ia 12 (.t 13) 1, none⟩,
    ⟨some 15, .ld 14 1 false, none⟩,
    ⟨some 16, .bin .eql (.t 11) (.t 15), none⟩] [0, 1, 5, 7, 8, 16])
  (.cond (.t 16) (.seq (.reg [⟨some 17, .mv (.t 5), none⟩,
    ⟨some 4, .asg (.t 17), none⟩] [4])
  (.ret)) (.skip))))))
  (.reg [⟨some 18, .bin .add (.t 8) (.c (.int .i64 1)), none⟩,
    ⟨some 8, .mv (.t 18), none⟩] [0, 1, 7, 8]))))))))
  (.seq (.reg [⟨some 4, .asg (.c (.int .i64 (-1))), none⟩] [4])
  (.ret)))
theorem con_slices_Index_int {v0 : (List Int)} {v1 : Int} {r : Int} (h : sh_slices_Index_int v0 v1 = some r) : Con Try.prog 164 [(cLs cI rfl).enc v0, cI.enc v1] [] (rs_slices_Index_int r) := by
  delta sh_slices_Index_int at h
  refine top (out := none) (f := Try.f164) (m := m164) (rs := [.t 4]) (by kernel_rfl) rfl (by kernel_rfl) (by kernel_rfl) (by kernel_rfl) (by kernel_rfl) (by kernel_rfl) ?_
  exact
   ini [(0, .d ((cLs cI rfl).enc v0)), (1, .d (cI.enc v1))] rfl <| wpC_seq <| reg_s <| x_asg (sc cI (0 : Int) rfl) <| seqN [(0, .d ((cLs cI rfl).enc v0)), (1, .d (cI.enc v1))] (by kernel_rfl) <|
    xn <| wpC_seq <| wpC_kp <| wpC_seq <| reg_s <| st rfl <| mvd rfl rfl <| stw rfl <| lens rfl fun l16 => st rfl <| mvc cI (0 : Int) rfl <| seqN [(0, .d ((cLs cI rfl).enc v0)), (1, .d (cI.enc v1)), (7, .d (cI.enc (v0.length : Int))), (8, .d (cI.enc (0 : Int)))] (by kernel_rfl) <|
    xn <| wpC_blk <| lpR (fun (k18 : Nat) (s17 : Unit) => [(0, .d ((cLs cI rfl).enc v0)), (1, .d (cI.enc v1)), (7, .d (cI.enc (v0.length : Int))), (8, .d (cI.enc (k18 : Int)))]) () rfl h
    (fun G26 s17 h => wpC_seq <| reg_s <| st rfl <| b_lss (k := .i64) rfl rfl <| seqN [(0, .d ((cLs cI rfl).enc v0)), (1, .d (cI.enc v1)), (7, .d (cI.enc (v0.length : Int))), (8, .d (cI.enc (v0.length : Int))), (9, .d (cB.enc (decide ((v0.length : Int) < (v0.length : Int)))))] (by kernel_rfl) <|
    xn <| wpC_seq <| wpC_kp <| cnd0 rfl (dlf _) <| wpC_exit <| xt <| xt <| xt <| xb <| kpN [] (by kernel_rfl) <| xn <| wpC_seq <| reg_s <| x_asg (sc cI (-1 : Int) rfl) <| seqN [(4, .d (cI.enc (-1 : Int)))] (by kernel_rfl) <|
    xn <| wpC_ret <| re <| fin h (r1 (ss rfl rfl) <| r0) rfl)
    (fun G26 nx24 k18 s17 x19 hk20 hx21 hn25 h => wpC_seq <| reg_s <| st rfl <| b_lss (k := .i64) rfl rfl <| seqN [(0, .d ((cLs cI rfl).enc v0)), (1, .d (cI.enc v1)), (7, .d (cI.enc (v0.length : Int))), (8, .d (cI.enc (k18 : Int))), (9, .d (cB.enc (decide ((k18 : Int) < (v0.length : Int)))))] (by kernel_rfl) <|
    xn <| wpC_seq <| wpC_kp <| cnd1 rfl (dlt hk20) <| wpC_skip <| kpN [(0, .d ((cLs cI rfl).enc v0)), (1, .d (cI.enc v1)), (7, .d (cI.enc (v0.length : Int))), (8, .d (cI.enc (k18 : Int)))] (by kernel_rfl) <| xn <| wpC_seq <| wpC_kp <| wpC_blk <| wpC_seq <| reg_s <| st rfl <| mvd rfl rfl <| x_asg (ss rfl rfl) <| seqN [(0, .d ((cLs cI rfl).enc v0)), (1, .d (cI.enc v1)), (5, .d (cI.enc (k18 : Int))), (7, .d (cI.enc (v0.length : Int))), (8, .d (cI.enc (k18 : Int)))] (by kernel_rfl) <|
    xn <| wpC_seq <| reg_s <| st rfl <| mvd rfl rfl <| st rfl <| mvd rfl rfl <| st rfl <| mvd rfl rfl <| st rfl <| ias rfl rfl (Int.natCast_nonneg _) hx21 rfl <| st rfl <| ldi rfl rfl rfl rfl <| st rfl <| b_eql (k := .i64) rfl rfl <| seqN [(0, .d ((cLs cI rfl).enc v0)), (1, .d (cI.enc v1)), (5, .d (cI.enc (k18 : Int))), (7, .d (cI.enc (v0.length : Int))), (8, .d (cI.enc (k18 : Int))), (16, .d (cB.enc (decide (v1 = x19))))] (by kernel_rfl) <|
    xn <| cnd rfl h (fun b28 h => wpC_seq <| reg_s <| st rfl <| mvd rfl rfl <| x_asg (ss rfl rfl) <| seqN [(4, .d (cI.enc (k18 : Int)))] (by kernel_rfl) <|
    xn <| wpC_ret <| rb <| rt <| rt <| rt <| rb <| rt <| rt <| re <| fin h (r1 (ss rfl rfl) <| r0) rfl)
    (fun b28 h => wpC_skip <| xbb <| kpN [(0, .d ((cLs cI rfl).enc v0)), (1, .d (cI.enc v1)), (7, .d (cI.enc (v0.length : Int))), (8, .d (cI.enc (k18 : Int)))] (by kernel_rfl) <| xn <| reg_s <| st rfl <| b_inc rfl rfl l16 hk20 <| st rfl <| mvd rfl rfl <| seqN [(0, .d ((cLs cI rfl).enc v0)), (1, .d (cI.enc v1)), (7, .d (cI.enc (v0.length : Int))), (8, .d (cI.enc ((k18 + 1 : Nat) : Int)))] (by kernel_rfl) <|
    xn <| hn25 () h))

def rs_slices_Contains_int (r : Bool) : List D := [cB.enc r]
def m143 : MC := .seq (.reg [⟨some 4, .asg (.c (.bool false)), none⟩] [0, 1])
  (.seq (.reg [⟨some 5, .mv (.t 0), none⟩,
    ⟨some 6, .mv (.t 1), none⟩,
    ⟨some 7, .call 164 [(.t 5), (.t 6)], none⟩,
    ⟨some 8, .bin .geq (.t 7) (.c (.int .i64 0)), none⟩,
    ⟨some 4, .asg (.t 8), none⟩] [4])
  (.ret))
theorem con_slices_Contains_int {v0 : (List Int)} {v1 : Int} {r : Bool} (h : sh_slices_Contains_int v0 v1 = some r) : Con Try.prog 143 [(cLs cI rfl).enc v0, cI.enc v1] [] (rs_slices_Contains_int r) := by
  delta sh_slices_Contains_int at h
  refine top (out := none) (f := Try.f143) (m := m143) (rs := [.t 4]) (by kernel_rfl) rfl (by kernel_rfl) (by kernel_rfl) (by kernel_rfl) (by kernel_rfl) (by kernel_rfl) ?_
  exact
   ini [(0, .d ((cLs cI rfl).enc v0)), (1, .d (cI.enc v1))] rfl <| wpC_seq <| reg_s <| x_asg (sc cB false rfl) <| seqN [(0, .d ((cLs cI rfl).enc v0)), (1, .d (cI.enc v1))] (by kernel_rfl) <|
    xn <| wpC_seq <| reg_s <| st rfl <| mvd rfl rfl <| st rfl <| mvd rfl rfl <| bnd h fun x3 e4 h => st rfl <| o_call (a1 (c := (cLs cI rfl)) (tLs tK) rfl (a1 (c := cI) tK rfl a0)) (con_slices_Index_int e4) (.inl (so1 sK so0)) <| st rfl <| b_geq (k := .i64) rfl rfl <| x_asg (ss rfl rfl) <| seqN [(4, .d (cB.enc (decide ((0 : Int) ≤ x3))))] (by kernel_rfl) <|
    xn <| wpC_ret <| re <| fin h (r1 (ss rfl rfl) <| r0) rfl

def rs_impl_groupNumbers (r : Int) : List D := [cI.enc r]
def m118 : MC := .seq (.reg [⟨some 2, .asg (.c (.int .i64 0)), none⟩] [0])
  (.seq (.reg [⟨some 3, .asg (.c (.int .i64 0)), none⟩] [0, 3])
  (.seq (.kp [0, 3] (.seq (.reg [⟨some 7, .mv (.t 0), none⟩,
    ⟨some 8, .len false (.t 7), none⟩,
    ⟨some 9, .mv (.c (.int .i64 0)), none⟩] [0, 3, 7, 8, 9])
  (.blk 0 (.loop (.seq (.reg [⟨some 10, .bin .lss (.t 9) (.t 8), none⟩] [0, 3, 7, 8, 9, 10])
  (.seq (.kp [0, 3, 7, 8, 9] (.cond (.t 10) (.skip) (.exit 0)))
  (.seq (.kp [0, 3, 7, 8, 9] (.blk 1 (.seq (.reg [⟨some 11, .ia 7 (.t 9) 1, none⟩,
    ⟨some 12, .ld 11 1 false, none⟩,
    ⟨some 5, .asg (.t 12), none⟩] [0, 3, 5, 7, 8, 9])
  (.seq (.kp [0, 3, 5, 7, 8, 9] (.seq (.reg [⟨some 13, .mv (.t 5), none⟩,
    ⟨some 14, .bin .lss (.t 13) (.c (.int .i64 0)), none⟩,
    ⟨some 15, .mv (.t 14), none⟩,
    ⟨some 16, .mv (.t 5), some (15, false)⟩,
    ⟨some 17, .mv (.t 0), some (15, false)⟩,
    ⟨some 18, .len false (.t 17), some (15, false)⟩,
    ⟨some 19, .bin .geq (.t 16) (.t 18), some (15, false)⟩,
    ⟨some 20, .pick (.t 15) (.c (.bool true)) (.t 19), none⟩] [0, 3, 5, 7, 8, 9, 20])
  (.cond (.t 20) (.seq (.reg [⟨some 2, .asg (.c (.int .i64 0)), none⟩] [2])
  (.ret)) (.skip))))
  (.reg [⟨some 21, .mv (.t 3), none⟩,
    ⟨some 22, .mv (.t 5), none⟩,
    ⟨some 23, .bin .add (.t 22) (.c (.int .i64 1)), none⟩,
    ⟨some 24, .mmx true (.t 21) (.t 23), none⟩,
    ⟨some 3, .asg (.t 24), none⟩] [0, 3, 7, 8, 9])))))
  (.reg [⟨some 25, .bin .add (.t 9) (.c (.int .i64 1)), none⟩,
    ⟨some 9, .mv (.t 25), none⟩] [0, 3, 7, 8, 9]))))))))
  (.seq (.kp [3] (.seq (.reg [⟨some 26, .mv (.t 3), none⟩,
    ⟨some 27, .mv (.c (.int .i64 0)), none⟩] [0, 3, 26, 27])
  (.blk 2 (.loop (.seq (.reg [⟨some 28, .bin .lss (.t 27) (.t 26), none⟩] [0, 3, 26, 27, 28])
  (.seq (.kp [0, 3, 26, 27] (.cond (.t 28) (.skip) (.exit 2)))
  (.seq (.kp [0, 3, 26, 27] (.blk 3 (.seq (.reg [⟨some 29, .mv (.t 27), none⟩,
    ⟨some 6, .asg (.t 29), none⟩] [0, 3, 6, 26, 27])
  (.seq (.reg [⟨some 30, .mv (.t 0), none⟩,
    ⟨some 31, .mv (.t 6), none⟩,
    ⟨some 32, .call 143 [(.t 30), (.t 31)], none⟩,
    ⟨some 33, .nt (.t 32), none⟩] [0, 3, 26, 27, 33])
  (.cond (.t 33) (.seq (.reg [⟨some 2, .asg (.c (.int .i64 0)), none⟩] [2])
  (.ret)) (.skip))))))
  (.reg [⟨some 34, .bin .add (.t 27) (.c (.int .i64 1)), none⟩,
    ⟨some 27, .mv (.t 34), none⟩] [0, 3, 26, 27]))))))))
  (.seq (.reg [⟨some 35, .mv (.t 3), none⟩,
    ⟨some 2, .asg (.t 35), none⟩] [2])
  (.ret)))))
theorem con_impl_groupNumbers {v0 : (List Int)} {r : Int} (h : sh_impl_groupNumbers v0 = some r) : Con Try.prog 118 [(cLs cI rfl).enc v0] [] (rs_impl_groupNumbers r) := by
  delta sh_impl_groupNumbers at h
  refine top (out := none) (f := Try.f118) (m := m118) (rs := [.t 2]) (by kernel_rfl) rfl (by kernel_rfl) (by kernel_rfl) (by kernel_rfl) (by kernel_rfl) (by kernel_rfl) ?_
  exact
   ini [(0, .d ((cLs cI rfl).enc v0))] rfl <| wpC_seq <| reg_s <| x_asg (sc cI (0 : Int) rfl) <| seqN [(0, .d ((cLs cI rfl).enc v0))] (by kernel_rfl) <|
    xn <| wpC_seq <| reg_s <| x_asg (sc cI (0 : Int) rfl) <| seqN [(0, .d ((cLs cI rfl).enc v0)), (3, .d (cI.enc (0 : Int)))] (by kernel_rfl) <|
    xn <| wpC_seq <| wpC_kp <| wpC_seq <| reg_s <| st rfl <| mvd rfl rfl <| stw rfl <| lens rfl fun l78 => st rfl <| mvc cI (0 : Int) rfl <| seqN [(0, .d ((cLs cI rfl).enc v0)), (3, .d (cI.enc (0 : Int))), (7, .d ((cLs cI rfl).enc v0)), (8, .d (cI.enc (v0.length : Int))), (9, .d (cI.enc (0 : Int)))] (by kernel_rfl) <|
    xn <| wpC_blk <| lpR (fun (k80 : Nat) (s79 : Int) => [(0, .d ((cLs cI rfl).enc v0)), (3, .d (cI.enc s79)), (7, .d ((cLs cI rfl).enc v0)), (8, .d (cI.enc (v0.length : Int))), (9, .d (cI.enc (k80 : Int)))]) (0 : Int) rfl h
    (fun G130 s79 h => wpC_seq <| reg_s <| st rfl <| b_lss (k := .i64) rfl rfl <| seqN [(0, .d ((cLs cI rfl).enc v0)), (3, .d (cI.enc s79)), (7, .d ((cLs cI rfl).enc v0)), (8, .d (cI.enc (v0.length : Int))), (9, .d (cI.enc (v0.length : Int))), (10, .d (cB.enc (decide ((v0.length : Int) < (v0.length : Int)))))] (by kernel_rfl) <|
    xn <| wpC_seq <| wpC_kp <| cnd0 rfl (dlf _) <| wpC_exit <| xt <| xt <| xt <| xb <| kpN [(0, .d ((cLs cI rfl).enc v0)), (3, .d (cI.enc s79))] (by kernel_rfl) <| xn <| wpC_seq <| wpC_kp <| wpC_seq <| reg_s <| st rfl <| mvd rfl rfl <| st rfl <| mvc cI (0 : Int) rfl <| seqN [(0, .d ((cLs cI rfl).enc v0)), (3, .d (cI.enc s79)), (26, .d (cI.enc s79)), (27, .d (cI.enc (0 : Int)))] (by kernel_rfl) <|
    xn <| wpC_blk <| lpF (fun (s178 : Int) => [(0, .d ((cLs cI rfl).enc v0)), (3, .d (cI.enc s79)), (26, .d (cI.enc s79)), (27, .d (cI.enc s178))]) (0 : Int) rfl h
    fun G211 nx209 s178 hn210 h => wpC_seq <| reg_s <| st rfl <| b_lss (k := .i64) rfl rfl <| seqN [(0, .d ((cLs cI rfl).enc v0)), (3, .d (cI.enc s79)), (26, .d (cI.enc s79)), (27, .d (cI.enc s178)), (28, .d (cB.enc (decide (s178 < s79))))] (by kernel_rfl) <|
    xn <| wpC_seq <| wpC_kp <| cnd rfl h (fun b213 h => wpC_skip <| kpN [(0, .d ((cLs cI rfl).enc v0)), (3, .d (cI.enc s79)), (26, .d (cI.enc s79)), (27, .d (cI.enc s178))] (by kernel_rfl) <| xn <| wpC_seq <| wpC_kp <| wpC_blk <| wpC_seq <| reg_s <| st rfl <| mvd rfl rfl <| x_asg (ss rfl rfl) <| seqN [(0, .d ((cLs cI rfl).enc v0)), (3, .d (cI.enc s79)), (6, .d (cI.enc s178)), (26, .d (cI.enc s79)), (27, .d (cI.enc s178))] (by kernel_rfl) <|
    xn <| wpC_seq <| reg_s <| st rfl <| mvd rfl rfl <| st rfl <| mvd rfl rfl <| bnd h fun x221 e222 h => st rfl <| o_call (a1 (c := (cLs cI rfl)) (tLs tK) rfl (a1 (c := cI) tK rfl a0)) (con_slices_Contains_int e222) (.inl (so1 sB so0)) <| st rfl <| o_nt rfl <| seqN [(0, .d ((cLs cI rfl).enc v0)), (3, .d (cI.enc s79)), (26, .d (cI.enc s79)), (27, .d (cI.enc s178)), (33, .d (cB.enc (!x221)))] (by kernel_rfl) <|
    xn <| cnd rfl h (fun b223 h => wpC_seq <| reg_s <| x_asg (sc cI (0 : Int) rfl) <| seqN [(2, .d (cI.enc (0 : Int)))] (by kernel_rfl) <|
    xn <| wpC_ret <| rb <| rt <| rt <| rt <| rb <| rt <| rt <| re <| fin h (r1 (ss rfl rfl) <| r0) rfl)
    (fun b223 h => wpC_skip <| xbb <| kpN [(0, .d ((cLs cI rfl).enc v0)), (3, .d (cI.enc s79)), (26, .d (cI.enc s79)), (27, .d (cI.enc s178))] (by kernel_rfl) <| xn <| reg_s <| ckI_k h fun i224 h => st rfl <| b_add (k := .i64) rfl rfl i224 <| st rfl <| mvd rfl rfl <| seqN [(0, .d ((cLs cI rfl).enc v0)), (3, .d (cI.enc s79)), (26, .d (cI.enc s79)), (27, .d (cI.enc (s178 + (1 : Int))))] (by kernel_rfl) <|
    xn <| hn210 (s178 + (1 : Int)) h))
    (fun b213 h => wpC_exit <| xt <| xt <| xt <| xb <| kpN [(3, .d (cI.enc s79))] (by kernel_rfl) <| xn <| wpC_seq <| reg_s <| st rfl <| mvd rfl rfl <| x_asg (ss rfl rfl) <| seqN [(2, .d (cI.enc s79))] (by kernel_rfl) <|
    xn <| wpC_ret <| re <| fin h (r1 (ss rfl rfl) <| r0) rfl))
    (fun G130 nx128 k80 s79 x81 hk82 hx83 hn129 h => wpC_seq <| reg_s <| st rfl <| b_lss (k := .i64) rfl rfl <| seqN [(0, .d ((cLs cI rfl).enc v0)), (3, .d (cI.enc s79)), (7, .d ((cLs cI rfl).enc v0)), (8, .d (cI.enc (v0.length : Int))), (9, .d (cI.enc (k80 : Int))), (10, .d (cB.enc (decide ((k80 : Int) < (v0.length : Int)))))] (by kernel_rfl) <|
    xn <| wpC_seq <| wpC_kp <| cnd1 rfl (dlt hk82) <| wpC_skip <| kpN [(0, .d ((cLs cI rfl).enc v0)), (3, .d (cI.enc s79)), (7, .d ((cLs cI rfl).enc v0)), (8, .d (cI.enc (v0.length : Int))), (9, .d (cI.enc (k80 : Int)))] (by kernel_rfl) <| xn <| wpC_seq <| wpC_kp <| wpC_blk <| wpC_seq <| reg_s <| st rfl <| ias rfl rfl (Int.natCast_nonneg _) hx83 rfl <| st rfl <| ldi rfl rfl rfl rfl <| x_asg (ss rfl rfl) <| seqN [(0, .d ((cLs cI rfl).enc v0)), (3, .d (cI.enc s79)), (5, .d (cI.enc x81)), (7, .d ((cLs cI rfl).enc v0)), (8, .d (cI.enc (v0.length : Int))), (9, .d (cI.enc (k80 : Int)))] (by kernel_rfl) <|
    xn <| wpC_seq <| wpC_kp <| wpC_seq <| reg_s <| st rfl <| mvd rfl rfl <| st rfl <| b_lss (k := .i64) rfl rfl <| st rfl <| mvd rfl rfl <| ite_k h (fun b243 h => gf rfl b243 <| gf rfl b243 <| gf rfl b243 <| gf rfl b243 <| st rfl <| pick1 rfl b243 (cd := cB) (v := true) rfl rfl <| seqN [(0, .d ((cLs cI rfl).enc v0)), (3, .d (cI.enc s79)), (5, .d (cI.enc x81)), (7, .d ((cLs cI rfl).enc v0)), (8, .d (cI.enc (v0.length : Int))), (9, .d (cI.enc (k80 : Int))), (20, .d (cB.enc true))] (by kernel_rfl) <|
    xn <| cnd1 rfl rfl <| wpC_seq <| reg_s <| x_asg (sc cI (0 : Int) rfl) <| seqN [(2, .d (cI.enc (0 : Int)))] (by kernel_rfl) <|
    xn <| wpC_ret <| rt <| rt <| rb <| rt <| rt <| rt <| rb <| rt <| rt <| re <| fin h (r1 (ss rfl rfl) <| r0) rfl)
    (fun b243 h => gt' rfl b243 <| st rfl <| mvd rfl rfl <| gt' rfl b243 <| st rfl <| mvd rfl rfl <| gt' rfl b243 <| stw rfl <| lens rfl fun l244 => gt' rfl b243 <| st rfl <| b_geq (k := .i64) rfl rfl <| st rfl <| pick0 rfl b243 (cd := cB) (v := (decide ((v0.length : Int) ≤ x81))) rfl rfl <| seqN [(0, .d ((cLs cI rfl).enc v0)), (3, .d (cI.enc s79)), (5, .d (cI.enc x81)), (7, .d ((cLs cI rfl).enc v0)), (8, .d (cI.enc (v0.length : Int))), (9, .d (cI.enc (k80 : Int))), (20, .d (cB.enc (decide ((v0.length : Int) ≤ x81))))] (by kernel_rfl) <|
    xn <| cnd rfl h (fun b245 h => wpC_seq <| reg_s <| x_asg (sc cI (0 : Int) rfl) <| seqN [(2, .d (cI.enc (0 : Int)))] (by kernel_rfl) <|
    xn <| wpC_ret <| rt <| rt <| rb <| rt <| rt <| rt <| rb <| rt <| rt <| re <| fin h (r1 (ss rfl rfl) <| r0) rfl)
    (fun b245 h => wpC_skip <| kpN [(0, .d ((cLs cI rfl).enc v0)), (3, .d (cI.enc s79)), (5, .d (cI.enc x81)), (7, .d ((cLs cI rfl).enc v0)), (8, .d (cI.enc (v0.length : Int))), (9, .d (cI.enc (k80 : Int)))] (by kernel_rfl) <| xn <| reg_s <| st rfl <| mvd rfl rfl <| st rfl <| mvd rfl rfl <| ckI_k h fun i246 h => st rfl <| b_add (k := .i64) rfl rfl i246 <| st rfl <| o_max (k := .i64) rfl rfl <| x_asg (ss rfl rfl) <| seqN [(0, .d ((cLs cI rfl).enc v0)), (3, .d (cI.enc (max s79 (x81 + (1 : Int))))), (7, .d ((cLs cI rfl).enc v0)), (8, .d (cI.enc (v0.length : Int))), (9, .d (cI.enc (k80 : Int)))] (by kernel_rfl) <|
    xbb <| kpN [(0, .d ((cLs cI rfl).enc v0)), (3, .d (cI.enc (max s79 (x81 + (1 : Int))))), (7, .d ((cLs cI rfl).enc v0)), (8, .d (cI.enc (v0.length : Int))), (9, .d (cI.enc (k80 : Int)))] (by kernel_rfl) <| xn <| reg_s <| st rfl <| b_inc rfl rfl l78 hk82 <| st rfl <| mvd rfl rfl <| seqN [(0, .d ((cLs cI rfl).enc v0)), (3, .d (cI.enc (max s79 (x81 + (1 : Int))))), (7, .d ((cLs cI rfl).enc v0)), (8, .d (cI.enc (v0.length : Int))), (9, .d (cI.enc ((k80 + 1 : Nat) : Int)))] (by kernel_rfl) <|
    xn <| hn129 (max s79 (x81 + (1 : Int))) h)))

def rs_slices_Clone_int (r : (List Int)) : List D := [(cLo cI).enc r]
def m92 : MC := .seq (.reg [⟨some 2, .asg (.c (.slice true [])), none⟩] [0])
  (.seq (.kp [0] (.seq (.reg [⟨some 3, .mv (.t 0), none⟩,
    ⟨some 4, .eqn false (.t 3), none⟩] [0, 4])
  (.cond (.t 4) (.seq (.reg [⟨some 2, .asg (.c (.slice true [])), none⟩] [2])
  (.ret)) (.skip))))
  (.seq (.reg [⟨some 5, .bsl [] 1, none⟩,
    ⟨some 6, .mv (.t 0), none⟩,
    ⟨some 7, .app (.t 5) (.t 6) 1, none⟩,
    ⟨some 2, .asg (.t 7), none⟩] [2])
  (.ret)))
theorem con_slices_Clone_int {v0 : (List Int)} {r : (List Int)} (h : sh_slices_Clone_int v0 = some r) : Con Try.prog 92 [(cLs cI rfl).enc v0] [] (rs_slices_Clone_int r) := by
  delta sh_slices_Clone_int at h
  refine top (out := none) (f := Try.f92) (m := m92) (rs := [.t 2]) (by kernel_rfl) rfl (by kernel_rfl) (by kernel_rfl) (by kernel_rfl) (by kernel_rfl) (by kernel_rfl) ?_
  exact
   ini [(0, .d ((cLs cI rfl).enc v0))] rfl <| wpC_seq <| reg_s <| x_asg (sc (cLo cI) ([] : List Int) rfl) <| seqN [(0, .d ((cLs cI rfl).enc v0))] (by kernel_rfl) <|
    xn <| wpC_seq <| wpC_kp <| wpC_seq <| reg_s <| st rfl <| mvd rfl rfl <| nilO_k h fun u12 w13 => stw rfl <| eqs rfl u12 w13 fun b11 h => seqN [(0, .d ((cLs cI rfl).enc v0)), (4, .d (cB.enc b11))] (by kernel_rfl) <|
    xn <| cnd rfl h (fun b14 h => wpC_seq <| reg_s <| x_asg (sc (cLo cI) ([] : List Int) rfl) <| seqN [(2, .d ((cLo cI).enc ([] : List Int)))] (by kernel_rfl) <|
    xn <| wpC_ret <| rt <| rt <| re <| fin h (r1 (so rfl rfl) <| r0) rfl)
    (fun b14 h => wpC_skip <| kpN [(0, .d ((cLs cI rfl).enc v0))] (by kernel_rfl) <| xn <| wpC_seq <| reg_s <| x_bsl cI ([] : List Int) t0 rfl rfl <| st rfl <| mvd rfl rfl <| lnO_k h fun l16 h => x_app (so rfl rfl) (ts rfl) l16 rfl <| x_asg (so rfl rfl) <| seqN [(2, .d ((cLo cI).enc (([] : List Int) ++ v0)))] (by kernel_rfl) <|
    xn <| wpC_ret <| re <| fin h (r1 (so rfl rfl) <| r0) rfl)

def rs_impl_GroupCube (r : (XCube × Bool)) : List D := [(cXCube (cLo cI) (cLo cI)).enc r.1, cB.enc r.2]
def m52 : MC := .seq (.reg [⟨some 3, .box (.t 0), none⟩,
    ⟨some 6, .alloc (.agg [.slice true [], .slice true []]), none⟩,
    ⟨some 7, .asg (.c (.bool false)), none⟩] [1, 2, 3, 6, 9, 55])
  (.seq (.kp [1, 2, 3, 6, 9, 55] (.seq (.reg [⟨some 13, .ld 3 2 true, none⟩,
    ⟨some 14, .call 117 [(.t 13)], none⟩,
    ⟨some 15, .nt (.t 14), none⟩,
    ⟨some 16, .mv (.t 15), none⟩,
    ⟨some 17, .mv (.t 1), some (16, false)⟩,
    ⟨some 18, .bin .lss (.t 17) (.c (.int .i64 0)), some (16, false)⟩,
    ⟨some 19, .pick (.t 16) (.c (.bool true)) (.t 18), none⟩,
    ⟨some 20, .mv (.t 19), none⟩,
    ⟨some 21, .mv (.t 1), some (20, false)⟩,
    ⟨some 22, .fa 3 0 0, some (20, false)⟩,
    ⟨some 23, .ld 22 1 false, some (20, false)⟩,
    ⟨some 24, .len false (.t 23), some (20, false)⟩,
    ⟨some 25, .bin .geq (.t 21) (.t 24), some (20, false)⟩,
    ⟨some 26, .pick (.t 20) (.c (.bool true)) (.t 25), none⟩,
    ⟨some 27, .mv (.t 26), none⟩,
    ⟨some 28, .mv (.t 2), some (27, false)⟩,
    ⟨some 29, .len false (.t 28), some (27, false)⟩,
    ⟨some 30, .fa 3 0 0, some (27, false)⟩,
    ⟨some 31, .ld 30 1 false, some (27, false)⟩,
    ⟨some 32, .mv (.t 1), some (27, false)⟩,
    ⟨some 33, .ia 31 (.t 32) 1, some (27, false)⟩,
    ⟨some 34, .ld 33 1 false, some (27, false)⟩,
    ⟨some 35, .bin .neq (.t 29) (.t 34), some (27, false)⟩,
    ⟨some 36, .pick (.t 27) (.c (.bool true)) (.t 35), none⟩,
    ⟨some 37, .mv (.t 36), none⟩,
    ⟨some 38, .mv (.t 2), some (37, false)⟩,
    ⟨some 39, .call 118 [(.t 38)], some (37, false)⟩,
    ⟨some 40, .bin .eql (.t 39) (.c (.int .i64 0)), some (37, false)⟩,
    ⟨some 41, .pick (.t 37) (.c (.bool true)) (.t 40), none⟩] [1, 2, 3, 6, 9, 41, 55])
  (.cond (.t 41) (.seq (.reg [⟨some 42, .bld [.slice true [], .slice true []] [], none⟩,
    ⟨none, .st 6 (.t 42) 2, none⟩,
    ⟨some 7, .asg (.c (.bool false)), none⟩] [6, 7])
  (.ret)) (.skip))))
  (.seq (.reg [⟨some 43, .fa 3 0 0, none⟩,
    ⟨some 44, .ld 43 1 false, none⟩,
    ⟨some 45, .call 92 [(.t 44)], none⟩,
    ⟨some 8, .asg (.t 45), none⟩] [1, 2, 3, 6, 8, 9, 55])
  (.seq (.reg [⟨some 46, .mv (.t 8), none⟩,
    ⟨some 47, .mv (.t 1), none⟩,
    ⟨some 48, .mv (.t 2), none⟩,
    ⟨some 49, .call 118 [(.t 48)], none⟩,
    ⟨some 50, .ia 46 (.t 47) 1, none⟩,
    ⟨none, .st 50 (.t 49) 1, none⟩] [1, 2, 3, 6, 8, 9, 55])
  (.seq (.reg [⟨some 51, .mv (.t 8), none⟩,
    ⟨some 52, .mv (.t 8), none⟩,
    ⟨some 53, .call 119 [(.t 52)], none⟩,
    ⟨some 54, .mk (.int .i64 0) (.t 53), none⟩,
    ⟨some 55, .bldw [.slice true [], .slice true []] 0 51 [(1, (.t 54))] 8, none⟩,
    ⟨some 9, .alloc (.agg [.slice true [], .slice true []]), none⟩,
    ⟨none, .stw 9 55 2 8 0, none⟩] [1, 2, 3, 6, 8, 9, 55])
  (.seq (.kp [6, 9] (.seq (.reg [⟨some 56, .fa 3 1 1, none⟩,
    ⟨some 57, .ld 56 1 false, none⟩,
    ⟨some 58, .len false (.t 57), none⟩,
    ⟨some 59, .mv (.c (.int .i64 0)), none⟩] [1, 2, 3, 6, 8, 9, 55, 56, 57, 58, 59])
  (.blk 0 (.loop (.seq (.reg [⟨some 60, .bin .lss (.t 59) (.t 58), none⟩] [1, 2, 3, 6, 8, 9, 55, 56, 57, 58, 59, 60])
  (.seq (.kp [1, 2, 3, 6, 8, 9, 55, 56, 57, 58, 59] (.cond (.t 60) (.skip) (.exit 0)))
  (.seq (.kp [1, 2, 3, 6, 8, 9, 55, 56, 57, 58, 59] (.blk 1 (.seq (.reg [⟨some 61, .mv (.t 59), none⟩,
    ⟨some 62, .ia 57 (.t 59) 1, none⟩,
    ⟨some 63, .ld 62 1 false, none⟩,
    ⟨some 10, .asg (.t 61), none⟩,
    ⟨some 11, .asg (.t 63), none⟩] [1, 2, 3, 6, 8, 9, 10, 11, 55, 56, 57, 58, 59])
  (.seq (.reg [⟨some 64, .fa 3 0 0, none⟩,
    ⟨some 65, .ld 64 1 false, none⟩,
    ⟨some 66, .mv (.t 10), none⟩,
    ⟨some 67, .call 120 [(.t 65), (.t 66)], none⟩,
    ⟨some 12, .asg (.t 67), none⟩] [1, 2, 3, 6, 8, 9, 11, 12, 55, 56, 57, 58, 59])
  (.seq (.kp [1, 2, 3, 6, 8, 9, 11, 12, 55, 56, 57, 58, 59] (.seq (.drw [⟨0, ⟨some 68, .mv (.t 12), none⟩, [69, 70, 71, 72, 73, 74, 75, 76, 77]⟩,
    ⟨1, ⟨some 69, .mv (.t 1), none⟩, [68, 70, 71, 72, 73, 74, 75, 76, 77]⟩,
    ⟨2, ⟨some 70, .ia 68 (.t 69) 1, none⟩, [71, 72, 73, 74, 75, 76, 77]⟩,
    ⟨3, ⟨some 71, .ld 70 1 false, none⟩, [72, 73, 74, 75, 76, 77]⟩,
    ⟨4, ⟨some 72, .fa 3 0 0, none⟩, [68, 69, 70, 71, 73, 74, 75, 76, 77]⟩,
    ⟨5, ⟨some 73, .ld 72 1 false, none⟩, [68, 69, 70, 71, 74, 75, 76, 77]⟩,
    ⟨6, ⟨some 74, .mv (.t 1), none⟩, [68, 69, 70, 71, 72, 73, 75, 76, 77]⟩,
    ⟨7, ⟨some 75, .ia 73 (.t 74) 1, none⟩, [68, 69, 70, 71, 76, 77]⟩,
    ⟨8, ⟨some 76, .ld 75 1 false, none⟩, [68, 69, 70, 71, 77]⟩,
    ⟨9, ⟨some 77, .bin .eql (.t 71) (.t 76), none⟩, []⟩]
    [] [1, 2, 3, 6, 8, 9, 11, 12, 55, 56, 57, 58, 59, 77])
  (.cond (.t 77) (.reg [⟨some 78, .mv (.t 12), none⟩,
    ⟨some 79, .mv (.t 1), none⟩,
    ⟨some 80, .mv (.t 8), none⟩,
    ⟨some 81, .mv (.t 1), none⟩,
    ⟨some 82, .ia 80 (.t 81) 1, none⟩,
    ⟨some 83, .ld 82 1 false, none⟩,
    ⟨some 84, .ia 78 (.t 79) 1, none⟩,
    ⟨none, .st 84 (.t 83) 1, none⟩] [1, 2, 3, 6, 8, 9, 11, 12, 55, 56, 57, 58, 59]) (.reg [⟨some 85, .mv (.t 12), none⟩,
    ⟨some 86, .mv (.t 1), none⟩,
    ⟨some 87, .mv (.t 2), none⟩,
    ⟨some 88, .mv (.t 12), none⟩,
    ⟨some 89, .mv (.t 1), none⟩,
    ⟨some 90, .ia 88 (.t 89) 1, none⟩,
    ⟨some 91, .ld 90 1 false, none⟩,
    ⟨some 92, .ia 87 (.t 91) 1, none⟩,
    ⟨some 93, .ld 92 1 false, none⟩,
    ⟨some 94, .ia 85 (.t 86) 1, none⟩,
    ⟨none, .st 94 (.t 93) 1, none⟩] [1, 2, 3, 6, 8, 9, 11, 12, 55, 56, 57, 58, 59]))))
  (.drw [⟨0, ⟨some 95, .fa 9 1 1, none⟩, [96, 97, 98, 99, 100, 101, 102, 103, 104]⟩,
    ⟨1, ⟨some 96, .ld 95 1 false, none⟩, [97, 98, 99, 100, 101, 102, 103, 104]⟩,
    ⟨2, ⟨some 97, .mv (.t 8), none⟩, [95, 96, 98, 99, 100, 101, 102, 103, 104]⟩,
    ⟨3, ⟨some 98, .mv (.t 12), none⟩, [95, 96, 97, 99, 100, 101, 102, 103, 104]⟩,
    ⟨4, ⟨some 99, .call 121 [(.t 97), (.t 98)], none⟩, [95, 96, 100, 101, 102, 103, 104]⟩,
    ⟨5, ⟨some 100, .ia 96 (.t 99) 1, none⟩, [101, 102, 103, 104]⟩,
    ⟨6, ⟨some 101, .ld 100 1 false, none⟩, [102, 103, 104]⟩,
    ⟨7, ⟨some 102, .mv (.t 11), none⟩, [95, 96, 97, 98, 99, 100, 101, 103, 104]⟩,
    ⟨8, ⟨some 103, .bin .add (.t 101) (.t 102), none⟩, [104]⟩,
    ⟨9, ⟨some 104, .ia 96 (.t 99) 1, none⟩, []⟩]
    [(10, ⟨none, .st 104 (.t 103) 1, none⟩)] [1, 2, 3, 6, 8, 9, 55, 56, 57, 58, 59]))))))
  (.reg [⟨some 105, .bin .add (.t 59) (.c (.int .i64 1)), none⟩,
    ⟨some 59, .mv (.t 105), none⟩] [1, 2, 3, 6, 8, 9, 55, 56, 57, 58, 59]))))))))
  (.seq (.kp [6, 9] (.seq (.reg [⟨some 106, .fa 9 1 1, none⟩,
    ⟨some 107, .ld 106 1 false, none⟩,
    ⟨some 108, .call 122 [(.t 107)], none⟩,
    ⟨some 109, .nt (.t 108), none⟩] [6, 9, 109])
  (.cond (.t 109) (.seq (.reg [⟨some 110, .bld [.slice true [], .slice true []] [], none⟩,
    ⟨none, .st 6 (.t 110) 2, none⟩,
    ⟨some 7, .asg (.c (.bool false)), none⟩] [6, 7])
  (.ret)) (.skip))))
  (.seq (.reg [⟨some 111, .ld 9 2 true, none⟩,
    ⟨none, .st 6 (.t 111) 2, none⟩,
    ⟨some 7, .asg (.c (.bool true)), none⟩] [6, 7])
  (.ret))))))))
theorem con_impl_GroupCube {v0 : XCube} {v1 : Int} {v2 : (List Int)} {r : (XCube × Bool)} (h : sh_impl_GroupCube v0 v1 v2 = some r) : Con Try.prog 52 [(cXCube (cLs cI rfl) (cLs cI rfl)).enc v0, cI.enc v1, (cLs cI rfl).enc v2] [] (rs_impl_GroupCube r) := by
  delta sh_impl_GroupCube at h
  refine top (out := none) (f := Try.f52) (m := m52) (rs := [.c 6 2 true, .t 7]) (by kernel_rfl) rfl (by kernel_rfl) (by kernel_rfl) (by kernel_rfl) (by kernel_rfl) (by kernel_rfl) ?_
  exact
   ini [(0, .d ((cXCube (cLs cI rfl) (cLs cI rfl)).enc v0)), (1, .d (cI.enc v1)), (2, .d ((cLs cI rfl).enc v2))] rfl <| wpC_seq <| reg_s <| x_box (ss rfl rfl) <| x_all (cXCube (cLo cI) (cLo cI)) (⟨([] : List Int), ([] : List Int)⟩ : XCube) rfl <| x_asg (sc cB false rfl) <| seqN [(1, .d (cI.enc v1)), (2, .d ((cLs cI rfl).enc v2)), (3, .box ((cXCube (cLs cI rfl) (cLs cI rfl)).enc v0)), (6, .box ((cXCube (cLo cI) (cLo cI)).enc (⟨([] : List Int), ([] : List Int)⟩ : XCube))), (9, .un), (55, .un)] (by kernel_rfl) <|
    xn <| wpC_seq <| wpC_kp <| wpC_seq <| jw (fun (s43 : Bool) => [(1, .d (cI.enc v1)), (2, .d ((cLs cI rfl).enc v2)), (3, .box ((cXCube (cLs cI rfl) (cLs cI rfl)).enc v0)), (6, .box ((cXCube (cLo cI) (cLo cI)).enc (⟨([] : List Int), ([] : List Int)⟩ : XCube))), (9, .un), (41, .d (cB.enc s43)), (55, .un)]) h (fun s43 h => xn <| cnd rfl h (fun b45 h => wpC_seq <| reg_s <| x_bld ((cXCube (cLo cI) (cLo cI)).enc (⟨([] : List Int), ([] : List Int)⟩ : XCube)) t0 rfl rfl <| x_stb (so rfl rfl) rfl (Cd.h_sz _ _) rfl <| x_asg (sc cB false rfl) <| seqN [(6, .box ((cXCube (cLo cI) (cLo cI)).enc (⟨([] : List Int), ([] : List Int)⟩ : XCube))), (7, .d (cB.enc false))] (by kernel_rfl) <|
    xn <| wpC_ret <| rt <| rt <| re <| fin h (r2 rfl rfl rfl <| r1 (ss rfl rfl) <| r0) rfl)
    (fun b45 h => wpC_skip <| kpN [(1, .d (cI.enc v1)), (2, .d ((cLs cI rfl).enc v2)), (3, .box ((cXCube (cLs cI rfl) (cLs cI rfl)).enc v0)), (6, .box ((cXCube (cLo cI) (cLo cI)).enc (⟨([] : List Int), ([] : List Int)⟩ : XCube))), (9, .un), (55, .un)] (by kernel_rfl) <| xn <| wpC_seq <| reg_s <| st rfl <| fab rfl rfl rfl rfl <| st rfl <| lda rfl rfl rfl rfl rfl rfl <| bnd h fun x48 e49 h => st rfl <| o_call (a1 (c := (cLs cI rfl)) (tLs tK) rfl a0) (con_slices_Clone_int e49) (.inl (so1 (sLo sK) so0)) <| x_asg (so rfl rfl) <| seqN [(1, .d (cI.enc v1)), (2, .d ((cLs cI rfl).enc v2)), (3, .box ((cXCube (cLs cI rfl) (cLs cI rfl)).enc v0)), (6, .box ((cXCube (cLo cI) (cLo cI)).enc (⟨([] : List Int), ([] : List Int)⟩ : XCube))), (8, .d ((cLo cI).enc x48)), (9, .un), (55, .un)] (by kernel_rfl) <|
    xn <| wpC_seq <| reg_s <| st rfl <| mvo rfl rfl <| st rfl <| mvd rfl rfl <| st rfl <| mvd rfl rfl <| bnd h fun x55 e56 h => st rfl <| o_call (a1 (c := (cLs cI rfl)) (tLs tK) rfl a0) (con_impl_groupNumbers e56) (.inl (so1 sK so0)) <| getO_k h fun x57 i58 g59 h => st rfl <| iar rfl rfl rfl rfl i58 g59 rfl <| x_sta ((cLo cI).enc (x48.set (v1).toNat x55)) (ss rfl rfl) rfl rfl (Ln.idx g59 Ln.nil) (Cd.h_sz cI _) rfl <| seqN [(1, .d (cI.enc v1)), (2, .d ((cLs cI rfl).enc v2)), (3, .box ((cXCube (cLs cI rfl) (cLs cI rfl)).enc v0)), (6, .box ((cXCube (cLo cI) (cLo cI)).enc (⟨([] : List Int), ([] : List Int)⟩ : XCube))), (8, .d ((cLo cI).enc (x48.set (v1).toNat x55))), (9, .un), (55, .un)] (by kernel_rfl) <|
    xn <| wpC_seq <| reg_s <| st rfl <| mvo rfl rfl <| st rfl <| mvo rfl rfl <| bnd h fun x64 e65 h => st rfl <| o_call (a1 (c := (cLo cI)) (tLo tK) rfl a0) (con_impl_cubeCells e65) (.inl (so1 sK so0)) <| mkO_k h fun i66 l67 h => st rfl <| o_mk (c := cI) (a0 := (0 : Int)) rfl (k := .i64) rfl i66 l67 <| x_bldw ((cXCube (cLo cI) (cLo cI)).enc (⟨(x48.set (v1).toNat x55), (List.replicate (x64).toNat (0 : Int))⟩ : XCube)) (t1 (sr rfl rfl) rfl (t1 (so rfl rfl) rfl t0)) rfl rfl rfl rfl rfl rfl rfl <| x_all (cXCube (cLo cI) (cLo cI)) (⟨([] : List Int), ([] : List Int)⟩ : XCube) rfl <| x_stw rfl rfl (Cd.h_sz _ _) (Cd.h_sz (cXCube (cLo cI) (cLo cI)) _) (Cd.h_im (cXCube (cLo cI) (cLo cI)) _) rfl rfl rfl <| seqN [(1, .d (cI.enc v1)), (2, .d ((cLs cI rfl).enc v2)), (3, .box ((cXCube (cLs cI rfl) (cLs cI rfl)).enc v0)), (6, .box ((cXCube (cLo cI) (cLo cI)).enc (⟨([] : List Int), ([] : List Int)⟩ : XCube))), (8, .ref 9 [.fld 0]), (9, .box ((cXCube (cLo cI) (cLo cI)).enc (⟨(x48.set (v1).toNat x55), (List.replicate (x64).toNat (0 : Int))⟩ : XCube))), (55, .un)] (by kernel_rfl) <|
    xn <| wpC_seq <| wpC_kp <| wpC_seq <| reg_s <| st rfl <| fab rfl rfl rfl rfl <| st rfl <| lda rfl rfl rfl rfl rfl rfl <| stw rfl <| lens rfl fun l379 => st rfl <| mvc cI (0 : Int) rfl <| seqN [(1, .d (cI.enc v1)), (2, .d ((cLs cI rfl).enc v2)), (3, .box ((cXCube (cLs cI rfl) (cLs cI rfl)).enc v0)), (6, .box ((cXCube (cLo cI) (cLo cI)).enc (⟨([] : List Int), ([] : List Int)⟩ : XCube))), (8, .ref 9 [.fld 0]), (9, .box ((cXCube (cLo cI) (cLo cI)).enc (⟨(x48.set (v1).toNat x55), (List.replicate (x64).toNat (0 : Int))⟩ : XCube))), (55, .un), (56, .adr 3 [.fld 1]), (57, .d ((cLs cI rfl).enc v0.Cells)), (58, .d (cI.enc (v0.Cells.length : Int))), (59, .d (cI.enc (0 : Int)))] (by kernel_rfl) <|
    xn <| wpC_blk <| lpR (fun (k381 : Nat) (s380 : XCube) => [(1, .d (cI.enc v1)), (2, .d ((cLs cI rfl).enc v2)), (3, .box ((cXCube (cLs cI rfl) (cLs cI rfl)).enc v0)), (6, .box ((cXCube (cLo cI) (cLo cI)).enc (⟨([] : List Int), ([] : List Int)⟩ : XCube))), (8, .ref 9 [.fld 0]), (9, .box ((cXCube (cLo cI) (cLo cI)).enc s380)), (55, .un), (56, .adr 3 [.fld 1]), (57, .d ((cLs cI rfl).enc v0.Cells)), (58, .d (cI.enc (v0.Cells.length : Int))), (59, .d (cI.enc (k381 : Int)))]) (⟨(x48.set (v1).toNat x55), (List.replicate (x64).toNat (0 : Int))⟩ : XCube) rfl h
    (fun G587 s380 h => wpC_seq <| reg_s <| st rfl <| b_lss (k := .i64) rfl rfl <| seqN [(1, .d (cI.enc v1)), (2, .d ((cLs cI rfl).enc v2)), (3, .box ((cXCube (cLs cI rfl) (cLs cI rfl)).enc v0)), (6, .box ((cXCube (cLo cI) (cLo cI)).enc (⟨([] : List Int), ([] : List Int)⟩ : XCube))), (8, .ref 9 [.fld 0]), (9, .box ((cXCube (cLo cI) (cLo cI)).enc s380)), (55, .un), (56, .adr 3 [.fld 1]), (57, .d ((cLs cI rfl).enc v0.Cells)), (58, .d (cI.enc (v0.Cells.length : Int))), (59, .d (cI.enc (v0.Cells.length : Int))), (60, .d (cB.enc (decide ((v0.Cells.length : Int) < (v0.Cells.length : Int)))))] (by kernel_rfl) <|
    xn <| wpC_seq <| wpC_kp <| cnd0 rfl (dlf _) <| wpC_exit <| xt <| xt <| xt <| xb <| kpN [(6, .box ((cXCube (cLo cI) (cLo cI)).enc (⟨([] : List Int), ([] : List Int)⟩ : XCube))), (9, .box ((cXCube (cLo cI) (cLo cI)).enc s380))] (by kernel_rfl) <| xn <| wpC_seq <| wpC_kp <| wpC_seq <| reg_s <| st rfl <| fab rfl rfl rfl rfl <| st rfl <| ldao rfl rfl rfl rfl rfl rfl <| bnd h fun x595 e596 h => st rfl <| o_call (a1 (c := (cLo cI)) (tLo tK) rfl a0) (con_impl_areCubeValues e596) (.inl (so1 sB so0)) <| st rfl <| o_nt rfl <| seqN [(6, .box ((cXCube (cLo cI) (cLo cI)).enc (⟨([] : List Int), ([] : List Int)⟩ : XCube))), (9, .box ((cXCube (cLo cI) (cLo cI)).enc s380)), (109, .d (cB.enc (!x595)))] (by kernel_rfl) <|
    xn <| cnd rfl h (fun b597 h => wpC_seq <| reg_s <| x_bld ((cXCube (cLo cI) (cLo cI)).enc (⟨([] : List Int), ([] : List Int)⟩ : XCube)) t0 rfl rfl <| x_stb (so rfl rfl) rfl (Cd.h_sz _ _) rfl <| x_asg (sc cB false rfl) <| seqN [(6, .box ((cXCube (cLo cI) (cLo cI)).enc (⟨([] : List Int), ([] : List Int)⟩ : XCube))), (7, .d (cB.enc false))] (by kernel_rfl) <|
    xn <| wpC_ret <| rt <| rt <| re <| fin h (r2 rfl rfl rfl <| r1 (ss rfl rfl) <| r0) rfl)
    (fun b597 h => wpC_skip <| kpN [(6, .box ((cXCube (cLo cI) (cLo cI)).enc (⟨([] : List Int), ([] : List Int)⟩ : XCube))), (9, .box ((cXCube (cLo cI) (cLo cI)).enc s380))] (by kernel_rfl) <| xn <| wpC_seq <| reg_s <| st rfl <| ldbo rfl rfl rfl rfl <| x_stb (sb rfl rfl) rfl (Cd.h_sz _ _) rfl <| x_asg (sc cB true rfl) <| seqN [(6, .box ((cXCube (cLo cI) (cLo cI)).enc s380)), (7, .d (cB.enc true))] (by kernel_rfl) <|
    xn <| wpC_ret <| re <| fin h (r2 rfl rfl rfl <| r1 (ss rfl rfl) <| r0) rfl))
    (fun G587 nx585 k381 s380 x382 hk383 hx384 hn586 h => wpC_seq <| reg_s <| st rfl <| b_lss (k := .i64) rfl rfl <| seqN [(1, .d (cI.enc v1)), (2, .d ((cLs cI rfl).enc v2)), (3, .box ((cXCube (cLs cI rfl) (cLs cI rfl)).enc v0)), (6, .box ((cXCube (cLo cI) (cLo cI)).enc (⟨([] : List Int), ([] : List Int)⟩ : XCube))), (8, .ref 9 [.fld 0]), (9, .box ((cXCube (cLo cI) (cLo cI)).enc s380)), (55, .un), (56, .adr 3 [.fld 1]), (57, .d ((cLs cI rfl).enc v0.Cells)), (58, .d (cI.enc (v0.Cells.length : Int))), (59, .d (cI.enc (k381 : Int))), (60, .d (cB.enc (decide ((k381 : Int) < (v0.Cells.length : Int)))))] (by kernel_rfl) <|
    xn <| wpC_seq <| wpC_kp <| cnd1 rfl (dlt hk383) <| wpC_skip <| kpN [(1, .d (cI.enc v1)), (2, .d ((cLs cI rfl).enc v2)), (3, .box ((cXCube (cLs cI rfl) (cLs cI rfl)).enc v0)), (6, .box ((cXCube (cLo cI) (cLo cI)).enc (⟨([] : List Int), ([] : List Int)⟩ : XCube))), (8, .ref 9 [.fld 0]), (9, .box ((cXCube (cLo cI) (cLo cI)).enc s380)), (55, .un), (56, .adr 3 [.fld 1]), (57, .d ((cLs cI rfl).enc v0.Cells)), (58, .d (cI.enc (v0.Cells.length : Int))), (59, .d (cI.enc (k381 : Int)))] (by kernel_rfl) <| xn <| wpC_seq <| wpC_kp <| wpC_blk <| wpC_seq <| reg_s <| st rfl <| mvd rfl rfl <| st rfl <| ias rfl rfl (Int.natCast_nonneg _) hx384 rfl <| st rfl <| ldi rfl rfl rfl rfl <| x_asg (ss rfl rfl) <| x_asg (ss rfl rfl) <| seqN [(1, .d (cI.enc v1)), (2, .d ((cLs cI rfl).enc v2)), (3, .box ((cXCube (cLs cI rfl) (cLs cI rfl)).enc v0)), (6, .box ((cXCube (cLo cI) (cLo cI)).enc (⟨([] : List Int), ([] : List Int)⟩ : XCube))), (8, .ref 9 [.fld 0]), (9, .box ((cXCube (cLo cI) (cLo cI)).enc s380)), (10, .d (cI.enc (k381 : Int))), (11, .d (cI.enc x382)), (55, .un), (56, .adr 3 [.fld 1]), (57, .d ((cLs cI rfl).enc v0.Cells)), (58, .d (cI.enc (v0.Cells.length : Int))), (59, .d (cI.enc (k381 : Int)))] (by kernel_rfl) <|
    xn <| wpC_seq <| reg_s <| st rfl <| fab rfl rfl rfl rfl <| st rfl <| lda rfl rfl rfl rfl rfl rfl <| st rfl <| mvd rfl rfl <| bnd h fun x650 e651 h => st rfl <| o_call (a1 (c := (cLs cI rfl)) (tLs tK) rfl (a1 (c := cI) tK rfl a0)) (con_impl_indexOf e651) (.inl (so1 (sLo sK) so0)) <| x_asg (so rfl rfl) <| seqN [(1, .d (cI.enc v1)), (2, .d ((cLs cI rfl).enc v2)), (3, .box ((cXCube (cLs cI rfl) (cLs cI rfl)).enc v0)), (6, .box ((cXCube (cLo cI) (cLo cI)).enc (⟨([] : List Int), ([] : List Int)⟩ : XCube))), (8, .ref 9 [.fld 0]), (9, .box ((cXCube (cLo cI) (cLo cI)).enc s380)), (11, .d (cI.enc x382)), (12, .d ((cLo cI).enc x650)), (55, .un), (56, .adr 3 [.fld 1]), (57, .d ((cLs cI rfl).enc v0.Cells)), (58, .d (cI.enc (v0.Cells.length : Int))), (59, .d (cI.enc (k381 : Int)))] (by kernel_rfl) <|
    xn <| wpC_seq <| jw (fun (s671 : (List Int)) => [(1, .d (cI.enc v1)), (2, .d ((cLs cI rfl).enc v2)), (3, .box ((cXCube (cLs cI rfl) (cLs cI rfl)).enc v0)), (6, .box ((cXCube (cLo cI) (cLo cI)).enc (⟨([] : List Int), ([] : List Int)⟩ : XCube))), (8, .ref 9 [.fld 0]), (9, .box ((cXCube (cLo cI) (cLo cI)).enc s380)), (11, .d (cI.enc x382)), (12, .d ((cLo cI).enc s671)), (55, .un), (56, .adr 3 [.fld 1]), (57, .d ((cLs cI rfl).enc v0.Cells)), (58, .d (cI.enc (v0.Cells.length : Int))), (59, .d (cI.enc (k381 : Int)))]) h (fun s671 h => xn <| drw_s <| pst rfl <| fab rfl rfl rfl rfl ⟨rfl, pst rfl <| ldao rfl rfl rfl rfl rfl rfl ⟨rfl, pst rfl <| mvr rfl ⟨rfl, pst rfl <| mvo rfl rfl ⟨rfl, bndp h fun x673 e674 h => pst rfl <| o_call (a1 (c := (cLo cI)) (tLo tK) rfl (a1 (c := (cLo cI)) (tLo tK) rfl a0)) (con_impl_cellOf e674) (.inl (so1 sK so0)) ⟨rfl, getO_kp h fun x675 i676 g677 h => pst rfl <| iar rfl rfl rfl rfl i676 g677 rfl ⟨rfl, pst rfl <| lda rfl rfl (Gt.fld rfl rfl (Gt.idx g677 Gt.nil)) rfl rfl rfl ⟨rfl, pst rfl <| mvd rfl rfl ⟨rfl, ckI_kp h fun i678 h => pst rfl <| b_add (k := .i64) rfl rfl i678 ⟨rfl, pst rfl <| iar rfl rfl rfl rfl i676 g677 rfl ⟨rfl, preN <| x_sta ((cXCube (cLo cI) (cLo cI)).enc (⟨s380.Sizes, (s380.Cells.set (x673).toNat (x675 + x382))⟩ : XCube)) (ss rfl rfl) rfl rfl (Ln.fld rfl rfl (Ln.idx g677 Ln.nil) rfl) (Cd.h_sz cI _) rfl <| seqN [(1, .d (cI.enc v1)), (2, .d ((cLs cI rfl).enc v2)), (3, .box ((cXCube (cLs cI rfl) (cLs cI rfl)).enc v0)), (6, .box ((cXCube (cLo cI) (cLo cI)).enc (⟨([] : List Int), ([] : List Int)⟩ : XCube))), (8, .ref 9 [.fld 0]), (9, .box ((cXCube (cLo cI) (cLo cI)).enc (⟨s380.Sizes, (s380.Cells.set (x673).toNat (x675 + x382))⟩ : XCube))), (55, .un), (56, .adr 3 [.fld 1]), (57, .d ((cLs cI rfl).enc v0.Cells)), (58, .d (cI.enc (v0.Cells.length : Int))), (59, .d (cI.enc (k381 : Int)))] (by kernel_rfl) <|
    xbb <| kpN [(1, .d (cI.enc v1)), (2, .d ((cLs cI rfl).enc v2)), (3, .box ((cXCube (cLs cI rfl) (cLs cI rfl)).enc v0)), (6, .box ((cXCube (cLo cI) (cLo cI)).enc (⟨([] : List Int), ([] : List Int)⟩ : XCube))), (8, .ref 9 [.fld 0]), (9, .box ((cXCube (cLo cI) (cLo cI)).enc (⟨s380.Sizes, (s380.Cells.set (x673).toNat (x675 + x382))⟩ : XCube))), (55, .un), (56, .adr 3 [.fld 1]), (57, .d ((cLs cI rfl).enc v0.Cells)), (58, .d (cI.enc (v0.Cells.length : Int))), (59, .d (cI.enc (k381 : Int)))] (by kernel_rfl) <| xn <| reg_s <| st rfl <| b_inc rfl rfl l379 hk383 <| st rfl <| mvd rfl rfl <| seqN [(1, .d (cI.enc v1)), (2, .d ((cLs cI rfl).enc v2)), (3, .box ((cXCube (cLs cI rfl) (cLs cI rfl)).enc v0)), (6, .box ((cXCube (cLo cI) (cLo cI)).enc (⟨([] : List Int), ([] : List Int)⟩ : XCube))), (8, .ref 9 [.fld 0]), (9, .box ((cXCube (cLo cI) (cLo cI)).enc (⟨s380.Sizes, (s380.Cells.set (x673).toNat (x675 + x382))⟩ : XCube))), (55, .un), (56, .adr 3 [.fld 1]), (57, .d ((cLs cI rfl).enc v0.Cells)), (58, .d (cI.enc (v0.Cells.length : Int))), (59, .d (cI.enc ((k381 + 1 : Nat) : Int)))] (by kernel_rfl) <|
    xn <| hn586 (⟨s380.Sizes, (s380.Cells.set (x673).toNat (x675 + x382))⟩ : XCube) h⟩⟩⟩⟩⟩⟩⟩⟩⟩⟩)
    fun s671' q672 h => wpC_kp <| wpC_seq <| drw_s <| pst rfl <| mvo rfl rfl ⟨rfl, pst rfl <| mvd rfl rfl ⟨rfl, getO_kp h fun x685 i686 g687 h => pst rfl <| iar rfl rfl rfl rfl i686 g687 rfl ⟨rfl, pst rfl <| lda rfl rfl (Gt.idx g687 Gt.nil) rfl rfl rfl ⟨rfl, pst rfl <| fab rfl rfl rfl rfl ⟨rfl, pst rfl <| lda rfl rfl rfl rfl rfl rfl ⟨rfl, pst rfl <| mvd rfl rfl ⟨rfl, getO_kp h fun x688 i689 g690 h => pst rfl <| ias rfl rfl i689 g690 rfl ⟨rfl, pst rfl <| ldi rfl rfl rfl rfl ⟨rfl, pst rfl <| b_eql (k := .i64) rfl rfl ⟨rfl, preN <| seqN [(1, .d (cI.enc v1)), (2, .d ((cLs cI rfl).enc v2)), (3, .box ((cXCube (cLs cI rfl) (cLs cI rfl)).enc v0)), (6, .box ((cXCube (cLo cI) (cLo cI)).enc (⟨([] : List Int), ([] : List Int)⟩ : XCube))), (8, .ref 9 [.fld 0]), (9, .box ((cXCube (cLo cI) (cLo cI)).enc s380)), (11, .d (cI.enc x382)), (12, .d ((cLo cI).enc x650)), (55, .un), (56, .adr 3 [.fld 1]), (57, .d ((cLs cI rfl).enc v0.Cells)), (58, .d (cI.enc (v0.Cells.length : Int))), (59, .d (cI.enc (k381 : Int))), (77, .d (cB.enc (decide (x685 = x688))))] (by kernel_rfl) <|
    xn <| cnd rfl h (fun b691 h => reg_s <| st rfl <| mvo rfl rfl <| st rfl <| mvd rfl rfl <| st rfl <| mvr rfl <| st rfl <| mvd rfl rfl <| getO_k h fun x692 i693 g694 h => st rfl <| iar rfl rfl rfl rfl i693 g694 rfl <| st rfl <| lda rfl rfl (Gt.fld rfl rfl (Gt.idx g694 Gt.nil)) rfl rfl rfl <| st rfl <| iar rfl rfl rfl rfl i686 g687 rfl <| x_sta ((cLo cI).enc (x650.set (v1).toNat x692)) (ss rfl rfl) rfl rfl (Ln.idx g687 Ln.nil) (Cd.h_sz cI _) rfl <| seqN [(1, .d (cI.enc v1)), (2, .d ((cLs cI rfl).enc v2)), (3, .box ((cXCube (cLs cI rfl) (cLs cI rfl)).enc v0)), (6, .box ((cXCube (cLo cI) (cLo cI)).enc (⟨([] : List Int), ([] : List Int)⟩ : XCube))), (8, .ref 9 [.fld 0]), (9, .box ((cXCube (cLo cI) (cLo cI)).enc s380)), (11, .d (cI.enc x382)), (12, .d ((cLo cI).enc (x650.set (v1).toNat x692))), (55, .un), (56, .adr 3 [.fld 1]), (57, .d ((cLs cI rfl).enc v0.Cells)), (58, .d (cI.enc (v0.Cells.length : Int))), (59, .d (cI.enc (k381 : Int)))] (by kernel_rfl) <|
    kpN [(1, .d (cI.enc v1)), (2, .d ((cLs cI rfl).enc v2)), (3, .box ((cXCube (cLs cI rfl) (cLs cI rfl)).enc v0)), (6, .box ((cXCube (cLo cI) (cLo cI)).enc (⟨([] : List Int), ([] : List Int)⟩ : XCube))), (8, .ref 9 [.fld 0]), (9, .box ((cXCube (cLo cI) (cLo cI)).enc s380)), (11, .d (cI.enc x382)), (12, .d ((cLo cI).enc (x650.set (v1).toNat x692))), (55, .un), (56, .adr 3 [.fld 1]), (57, .d ((cLs cI rfl).enc v0.Cells)), (58, .d (cI.enc (v0.Cells.length : Int))), (59, .d (cI.enc (k381 : Int)))] (by kernel_rfl) <| lfn (S := (fun (s671 : (List Int)) => [(1, .d (cI.enc v1)), (2, .d ((cLs cI rfl).enc v2)), (3, .box ((cXCube (cLs cI rfl) (cLs cI rfl)).enc v0)), (6, .box ((cXCube (cLo cI) (cLo cI)).enc (⟨([] : List Int), ([] : List Int)⟩ : XCube))), (8, .ref 9 [.fld 0]), (9, .box ((cXCube (cLo cI) (cLo cI)).enc s380)), (11, .d (cI.enc x382)), (12, .d ((cLo cI).enc s671)), (55, .un), (56, .adr 3 [.fld 1]), (57, .d ((cLs cI rfl).enc v0.Cells)), (58, .d (cI.enc (v0.Cells.length : Int))), (59, .d (cI.enc (k381 : Int)))])) h q672 rfl)
    (fun b691 h => reg_s <| st rfl <| mvo rfl rfl <| st rfl <| mvd rfl rfl <| st rfl <| mvd rfl rfl <| st rfl <| mvo rfl rfl <| st rfl <| mvd rfl rfl <| st rfl <| iar rfl rfl rfl rfl i686 g687 rfl <| st rfl <| lda rfl rfl (Gt.idx g687 Gt.nil) rfl rfl rfl <| getO_k h fun x695 i696 g697 h => st rfl <| ias rfl rfl i696 g697 rfl <| st rfl <| ldi rfl rfl rfl rfl <| st rfl <| iar rfl rfl rfl rfl i686 g687 rfl <| x_sta ((cLo cI).enc (x650.set (v1).toNat x695)) (ss rfl rfl) rfl rfl (Ln.idx g687 Ln.nil) (Cd.h_sz cI _) rfl <| seqN [(1, .d (cI.enc v1)), (2, .d ((cLs cI rfl).enc v2)), (3, .box ((cXCube (cLs cI rfl) (cLs cI rfl)).enc v0)), (6, .box ((cXCube (cLo cI) (cLo cI)).enc (⟨([] : List Int), ([] : List Int)⟩ : XCube))), (8, .ref 9 [.fld 0]), (9, .box ((cXCube (cLo cI) (cLo cI)).enc s380)), (11, .d (cI.enc x382)), (12, .d ((cLo cI).enc (x650.set (v1).toNat x695))), (55, .un), (56, .adr 3 [.fld 1]), (57, .d ((cLs cI rfl).enc v0.Cells)), (58, .d (cI.enc (v0.Cells.length : Int))), (59, .d (cI.enc (k381 : Int)))] (by kernel_rfl) <|
    kpN [(1, .d (cI.enc v1)), (2, .d ((cLs cI rfl).enc v2)), (3, .box ((cXCube (cLs cI rfl) (cLs cI rfl)).enc v0)), (6, .box ((cXCube (cLo cI) (cLo cI)).enc (⟨([] : List Int), ([] : List Int)⟩ : XCube))), (8, .ref 9 [.fld 0]), (9, .box ((cXCube (cLo cI) (cLo cI)).enc s380)), (11, .d (cI.enc x382)), (12, .d ((cLo cI).enc (x650.set (v1).toNat x695))), (55, .un), (56, .adr 3 [.fld 1]), (57, .d ((cLs cI rfl).enc v0.Cells)), (58, .d (cI.enc (v0.Cells.length : Int))), (59, .d (cI.enc (k381 : Int)))] (by kernel_rfl) <| lfn (S := (fun (s671 : (List Int)) => [(1, .d (cI.enc v1)), (2, .d ((cLs cI rfl).enc v2)), (3, .box ((cXCube (cLs cI rfl) (cLs cI rfl)).enc v0)), (6, .box ((cXCube (cLo cI) (cLo cI)).enc (⟨([] : List Int), ([] : List Int)⟩ : XCube))), (8, .ref 9 [.fld 0]), (9, .box ((cXCube (cLo cI) (cLo cI)).enc s380)), (11, .d (cI.enc x382)), (12, .d ((cLo cI).enc s671)), (55, .un), (56, .adr 3 [.fld 1]), (57, .d ((cLs cI rfl).enc v0.Cells)), (58, .d (cI.enc (v0.Cells.length : Int))), (59, .d (cI.enc (k381 : Int)))])) h q672 rfl)⟩⟩⟩⟩⟩⟩⟩⟩⟩⟩)))
    fun s43' q44 h => reg_s <| st rfl <| ldb rfl rfl rfl rfl <| bnd h fun x698 e699 h => st rfl <| o_call (a1 (c := (cXCube (cLs cI rfl) (cLs cI rfl))) (tXCube (tLs tK) (tLs tK)) rfl a0) (con_impl_IsCube e699) (.inl (so1 sB so0)) <| st rfl <| o_nt rfl <| st rfl <| mvd rfl rfl <| ite_k h (fun b700 h => gf rfl b700 <| gf rfl b700 <| st rfl <| pick1 rfl b700 (cd := cB) (v := true) rfl rfl <| st rfl <| mvd rfl rfl <| gf rfl rfl <| gf rfl rfl <| gf rfl rfl <| gf rfl rfl <| gf rfl rfl <| st rfl <| pick1 rfl rfl (cd := cB) (v := true) rfl rfl <| st rfl <| mvd rfl rfl <| gf rfl rfl <| gf rfl rfl <| gf rfl rfl <| gf rfl rfl <| gf rfl rfl <| gf rfl rfl <| gf rfl rfl <| gf rfl rfl <| st rfl <| pick1 rfl rfl (cd := cB) (v := true) rfl rfl <| st rfl <| mvd rfl rfl <| gf rfl rfl <| gf rfl rfl <| gf rfl rfl <| st rfl <| pick1 rfl rfl (cd := cB) (v := true) rfl rfl <| seqN [(1, .d (cI.enc v1)), (2, .d ((cLs cI rfl).enc v2)), (3, .box ((cXCube (cLs cI rfl) (cLs cI rfl)).enc v0)), (6, .box ((cXCube (cLo cI) (cLo cI)).enc (⟨([] : List Int), ([] : List Int)⟩ : XCube))), (9, .un), (41, .d (cB.enc true)), (55, .un)] (by kernel_rfl) <|
    lfn (S := (fun (s43 : Bool) => [(1, .d (cI.enc v1)), (2, .d ((cLs cI rfl).enc v2)), (3, .box ((cXCube (cLs cI rfl) (cLs cI rfl)).enc v0)), (6, .box ((cXCube (cLo cI) (cLo cI)).enc (⟨([] : List Int), ([] : List Int)⟩ : XCube))), (9, .un), (41, .d (cB.enc s43)), (55, .un)])) h q44 rfl)
    (fun b700 h => gt' rfl b700 <| st rfl <| mvd rfl rfl <| gt' rfl b700 <| st rfl <| b_lss (k := .i64) rfl rfl <| st rfl <| pick0 rfl b700 (cd := cB) (v := (decide (v1 < (0 : Int)))) rfl rfl <| st rfl <| mvd rfl rfl <| ite_k h (fun b701 h => gf rfl b701 <| gf rfl b701 <| gf rfl b701 <| gf rfl b701 <| gf rfl b701 <| st rfl <| pick1 rfl b701 (cd := cB) (v := true) rfl rfl <| st rfl <| mvd rfl rfl <| gf rfl rfl <| gf rfl rfl <| gf rfl rfl <| gf rfl rfl <| gf rfl rfl <| gf rfl rfl <| gf rfl rfl <| gf rfl rfl <| st rfl <| pick1 rfl rfl (cd := cB) (v := true) rfl rfl <| st rfl <| mvd rfl rfl <| gf rfl rfl <| gf rfl rfl <| gf rfl rfl <| st rfl <| pick1 rfl rfl (cd := cB) (v := true) rfl rfl <| seqN [(1, .d (cI.enc v1)), (2, .d ((cLs cI rfl).enc v2)), (3, .box ((cXCube (cLs cI rfl) (cLs cI rfl)).enc v0)), (6, .box ((cXCube (cLo cI) (cLo cI)).enc (⟨([] : List Int), ([] : List Int)⟩ : XCube))), (9, .un), (41, .d (cB.enc true)), (55, .un)] (by kernel_rfl) <|
    lfn (S := (fun (s43 : Bool) => [(1, .d (cI.enc v1)), (2, .d ((cLs cI rfl).enc v2)), (3, .box ((cXCube (cLs cI rfl) (cLs cI rfl)).enc v0)), (6, .box ((cXCube (cLo cI) (cLo cI)).enc (⟨([] : List Int), ([] : List Int)⟩ : XCube))), (9, .un), (41, .d (cB.enc s43)), (55, .un)])) h q44 rfl)
    (fun b701 h => gt' rfl b701 <| st rfl <| mvd rfl rfl <| gt' rfl b701 <| st rfl <| fab rfl rfl rfl rfl <| gt' rfl b701 <| st rfl <| lda rfl rfl rfl rfl rfl rfl <| gt' rfl b701 <| stw rfl <| lens rfl fun l702 => gt' rfl b701 <| st rfl <| b_geq (k := .i64) rfl rfl <| st rfl <| pick0 rfl b701 (cd := cB) (v := (decide ((v0.Sizes.length : Int) ≤ v1))) rfl rfl <| st rfl <| mvd rfl rfl <| ite_k h (fun b703 h => gf rfl b703 <| gf rfl b703 <| gf rfl b703 <| gf rfl b703 <| gf rfl b703 <| gf rfl b703 <| gf rfl b703 <| gf rfl b703 <| st rfl <| pick1 rfl b703 (cd := cB) (v := true) rfl rfl <| st rfl <| mvd rfl rfl <| gf rfl rfl <| gf rfl rfl <| gf rfl rfl <| st rfl <| pick1 rfl rfl (cd := cB) (v := true) rfl rfl <| seqN [(1, .d (cI.enc v1)), (2, .d ((cLs cI rfl).enc v2)), (3, .box ((cXCube (cLs cI rfl) (cLs cI rfl)).enc v0)), (6, .box ((cXCube (cLo cI) (cLo cI)).enc (⟨([] : List Int), ([] : List Int)⟩ : XCube))), (9, .un), (41, .d (cB.enc true)), (55, .un)] (by kernel_rfl) <|
    lfn (S := (fun (s43 : Bool) => [(1, .d (cI.enc v1)), (2, .d ((cLs cI rfl).enc v2)), (3, .box ((cXCube (cLs cI rfl) (cLs cI rfl)).enc v0)), (6, .box ((cXCube (cLo cI) (cLo cI)).enc (⟨([] : List Int), ([] : List Int)⟩ : XCube))), (9, .un), (41, .d (cB.enc s43)), (55, .un)])) h q44 rfl)
    (fun b703 h => gt' rfl b703 <| st rfl <| mvd rfl rfl <| gt' rfl b703 <| stw rfl <| lens rfl fun l704 => gt' rfl b703 <| st rfl <| fab rfl rfl rfl rfl <| gt' rfl b703 <| st rfl <| lda rfl rfl rfl rfl rfl rfl <| gt' rfl b703 <| st rfl <| mvd rfl rfl <| gt' rfl b703 <| getO_k h fun x705 i706 g707 h => st rfl <| ias rfl rfl i706 g707 rfl <| gt' rfl b703 <| st rfl <| ldi rfl rfl rfl rfl <| gt' rfl b703 <| st rfl <| b_neq (k := .i64) rfl rfl <| st rfl <| pick0 rfl b703 (cd := cB) (v := (decide ((v2.length : Int) ≠ x705))) rfl rfl <| st rfl <| mvd rfl rfl <| ite_k h (fun b708 h => gf rfl b708 <| gf rfl b708 <| gf rfl b708 <| st rfl <| pick1 rfl b708 (cd := cB) (v := true) rfl rfl <| seqN [(1, .d (cI.enc v1)), (2, .d ((cLs cI rfl).enc v2)), (3, .box ((cXCube (cLs cI rfl) (cLs cI rfl)).enc v0)), (6, .box ((cXCube (cLo cI) (cLo cI)).enc (⟨([] : List Int), ([] : List Int)⟩ : XCube))), (9, .un), (41, .d (cB.enc true)), (55, .un)] (by kernel_rfl) <|
    lfn (S := (fun (s43 : Bool) => [(1, .d (cI.enc v1)), (2, .d ((cLs cI rfl).enc v2)), (3, .box ((cXCube (cLs cI rfl) (cLs cI rfl)).enc v0)), (6, .box ((cXCube (cLo cI) (cLo cI)).enc (⟨([] : List Int), ([] : List Int)⟩ : XCube))), (9, .un), (41, .d (cB.enc s43)), (55, .un)])) h q44 rfl)
    (fun b708 h => gt' rfl b708 <| st rfl <| mvd rfl rfl <| gt' rfl b708 <| bnd h fun x709 e710 h => st rfl <| o_call (a1 (c := (cLs cI rfl)) (tLs tK) rfl a0) (con_impl_groupNumbers e710) (.inl (so1 sK so0)) <| gt' rfl b708 <| st rfl <| b_eql (k := .i64) rfl rfl <| st rfl <| pick0 rfl b708 (cd := cB) (v := (decide (x709 = (0 : Int)))) rfl rfl <| seqN [(1, .d (cI.enc v1)), (2, .d ((cLs cI rfl).enc v2)), (3, .box ((cXCube (cLs cI rfl) (cLs cI rfl)).enc v0)), (6, .box ((cXCube (cLo cI) (cLo cI)).enc (⟨([] : List Int), ([] : List Int)⟩ : XCube))), (9, .un), (41, .d (cB.enc (decide (x709 = (0 : Int))))), (55, .un)] (by kernel_rfl) <|
    lfn (S := (fun (s43 : Bool) => [(1, .d (cI.enc v1)), (2, .d ((cLs cI rfl).enc v2)), (3, .box ((cXCube (cLs cI rfl) (cLs cI rfl)).enc v0)), (6, .box ((cXCube (cLo cI) (cLo cI)).enc (⟨([] : List Int), ([] : List Int)⟩ : XCube))), (9, .un), (41, .d (cB.enc s43)), (55, .un)])) h q44 rfl))))

end AS.W
