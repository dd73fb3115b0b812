/- The program computes the plain functions. No condition. -/
import Derived.Test.YtnjjldjgknkijaaSah
import Derived.Test.YtnjjldjgknkijaaProg
import Derived.Test.YtnjjldjgknkijaaLaa
import Derived.Test.YtnjjldjgknkijaaLab
import Derived.Test.YtnjjldjgknkijaaLad
import Derived.Test.YtnjjldjgknkijaaLae
set_option maxRecDepth 100000
set_option linter.unusedVariables false
set_option linter.unusedSimpArgs false
namespace AS.W
open Go Go.Proofs
def rs_spec_CubeCell (r : (Int × Bool)) : List D := [cI.enc r.1, cB.enc r.2]
def m38 : MC := .seq (.reg [⟨some 2, .box (.t 0), none⟩,
    ⟨some 4, .asg (.c (.int .i64 0)), none⟩,
    ⟨some 5, .asg (.c (.bool false)), none⟩] [1, 2])
  (.seq (.kp [1, 2] (.seq (.reg [⟨some 8, .ld 2 2 true, none⟩,
    ⟨some 9, .call 66 [(.t 8)], none⟩,
    ⟨some 10, .nt (.t 9), none⟩,
    ⟨some 11, .mv (.t 10), none⟩,
    ⟨some 12, .mv (.t 1), some (11, false)⟩,
    ⟨some 13, .len false (.t 12), some (11, false)⟩,
    ⟨some 14, .fa 2 0 0, some (11, false)⟩,
    ⟨some 15, .ld 14 1 false, some (11, false)⟩,
    ⟨some 16, .len false (.t 15), some (11, false)⟩,
    ⟨some 17, .bin .neq (.t 13) (.t 16), some (11, false)⟩,
    ⟨some 18, .pick (.t 11) (.c (.bool true)) (.t 17), none⟩] [1, 2, 18])
  (.cond (.t 18) (.seq (.reg [⟨some 4, .asg (.c (.int .i64 0)), none⟩,
    ⟨some 5, .asg (.c (.bool false)), none⟩] [4, 5])
  (.ret)) (.skip))))
  (.seq (.kp [1, 2] (.seq (.reg [⟨some 19, .mv (.t 1), none⟩,
    ⟨some 20, .len false (.t 19), none⟩,
    ⟨some 21, .mv (.c (.int .i64 0)), none⟩] [1, 2, 19, 20, 21])
  (.blk 0 (.loop (.seq (.reg [⟨some 22, .bin .lss (.t 21) (.t 20), none⟩] [1, 2, 19, 20, 21, 22])
  (.seq (.kp [1, 2, 19, 20, 21] (.cond (.t 22) (.skip) (.exit 0)))
  (.seq (.kp [1, 2, 19, 20, 21] (.blk 1 (.seq (.reg [⟨some 23, .mv (.t 21), none⟩,
    ⟨some 24, .ia 19 (.t 21) 1, none⟩,
    ⟨some 25, .ld 24 1 false, none⟩,
    ⟨some 6, .asg (.t 23), none⟩,
    ⟨some 7, .asg (.t 25), none⟩] [1, 2, 6, 7, 19, 20, 21])
  (.seq (.reg [⟨some 26, .mv (.t 7), none⟩,
    ⟨some 27, .fa 2 0 0, none⟩,
    ⟨some 28, .ld 27 1 false, none⟩,
    ⟨some 29, .mv (.t 6), none⟩,
    ⟨some 30, .ia 28 (.t 29) 1, none⟩,
    ⟨some 31, .ld 30 1 false, none⟩,
    ⟨some 32, .call 58 [(.t 26), (.c (.int .i64 0)), (.t 31)], none⟩,
    ⟨some 33, .nt (.t 32), none⟩] [1, 2, 19, 20, 21, 33])
  (.cond (.t 33) (.seq (.reg [⟨some 4, .asg (.c (.int .i64 0)), none⟩,
    ⟨some 5, .asg (.c (.bool false)), none⟩] [4, 5])
  (.ret)) (.skip))))))
  (.reg [⟨some 34, .bin .add (.t 21) (.c (.int .i64 1)), none⟩,
    ⟨some 21, .mv (.t 34), none⟩] [1, 2, 19, 20, 21]))))))))
  (.seq (.drw [⟨0, ⟨some 35, .fa 2 1 1, none⟩, [36, 37, 38, 39, 40, 41, 42]⟩,
    ⟨1, ⟨some 36, .ld 35 1 false, none⟩, [37, 38, 39, 40, 41, 42]⟩,
    ⟨2, ⟨some 37, .fa 2 0 0, none⟩, [35, 36, 38, 39, 40, 41, 42]⟩,
    ⟨3, ⟨some 38, .ld 37 1 false, none⟩, [35, 36, 39, 40, 41, 42]⟩,
    ⟨4, ⟨some 39, .mv (.t 1), none⟩, [35, 36, 37, 38, 40, 41, 42]⟩,
    ⟨5, ⟨some 40, .call 82 [(.t 38), (.t 39)], none⟩, [35, 36, 41, 42]⟩,
    ⟨6, ⟨some 41, .ia 36 (.t 40) 1, none⟩, [42]⟩,
    ⟨7, ⟨some 42, .ld 41 1 false, none⟩, []⟩]
    [(8, ⟨some 4, .asg (.t 42), none⟩),
    (9, ⟨some 5, .asg (.c (.bool true)), none⟩)] [4, 5])
  (.ret))))
theorem con_spec_CubeCell {v0 : XCube} {v1 : (List Int)} {r : (Int × Bool)} (h : sh_spec_CubeCell v0 v1 = some r) : Con Try.prog 38 [(cXCube (cLs cI rfl) (cLs cI rfl)).enc v0, (cLs cI rfl).enc v1] [] (rs_spec_CubeCell r) := by
  delta sh_spec_CubeCell at h
  refine top (out := none) (f := Try.f38) (m := m38) (rs := [.t 4, .t 5]) (by kernel_rfl) rfl (by kernel_rfl) (by kernel_rfl) (by kernel_rfl) (by kernel_rfl) (by kernel_rfl) ?_
  exact
   ini [(0, .d ((cXCube (cLs cI rfl) (cLs cI rfl)).enc v0)), (1, .d ((cLs cI rfl).enc v1))] rfl <| wpC_seq <| reg_s <| x_box (ss rfl rfl) <| x_asg (sc cI (0 : Int) rfl) <| x_asg (sc cB false rfl) <| seqN [(1, .d ((cLs cI rfl).enc v1)), (2, .box ((cXCube (cLs cI rfl) (cLs cI rfl)).enc v0))] (by kernel_rfl) <|
    xn <| wpC_seq <| wpC_kp <| wpC_seq <| reg_s <| st rfl <| ldb rfl rfl rfl rfl <| bnd h fun x17 e18 h => st rfl <| o_call (a1 (c := (cXCube (cLs cI rfl) (cLs cI rfl))) (tXCube (tLs tK) (tLs tK)) rfl a0) (con_spec_cbGood e18) (.inl (so1 sB so0)) <| st rfl <| o_nt rfl <| st rfl <| mvd rfl rfl <| ite_k h (fun b19 h => gf rfl b19 <| gf rfl b19 <| gf rfl b19 <| gf rfl b19 <| gf rfl b19 <| gf rfl b19 <| st rfl <| pick1 rfl b19 (cd := cB) (v := true) rfl rfl <| seqN [(1, .d ((cLs cI rfl).enc v1)), (2, .box ((cXCube (cLs cI rfl) (cLs cI rfl)).enc v0)), (18, .d (cB.enc true))] (by kernel_rfl) <|
    xn <| cnd1 rfl rfl <| wpC_seq <| reg_s <| x_asg (sc cI (0 : Int) rfl) <| x_asg (sc cB false rfl) <| seqN [(4, .d (cI.enc (0 : Int))), (5, .d (cB.enc false))] (by kernel_rfl) <|
    xn <| wpC_ret <| rt <| rt <| re <| fin h (r1 (ss rfl rfl) <| r1 (ss rfl rfl) <| r0) rfl)
    (fun b19 h => gt' rfl b19 <| st rfl <| mvd rfl rfl <| gt' rfl b19 <| stw rfl <| lens rfl fun l20 => gt' rfl b19 <| st rfl <| fab rfl rfl rfl rfl <| gt' rfl b19 <| st rfl <| lda rfl rfl rfl rfl rfl rfl <| gt' rfl b19 <| stw rfl <| lens rfl fun l21 => gt' rfl b19 <| st rfl <| b_neq (k := .i64) rfl rfl <| st rfl <| pick0 rfl b19 (cd := cB) (v := (decide ((v1.length : Int) ≠ (v0.Sizes.length : Int)))) rfl rfl <| seqN [(1, .d ((cLs cI rfl).enc v1)), (2, .box ((cXCube (cLs cI rfl) (cLs cI rfl)).enc v0)), (18, .d (cB.enc (decide ((v1.length : Int) ≠ (v0.Sizes.length : Int)))))] (by kernel_rfl) <|
    xn <| cnd rfl h (fun b22 h => wpC_seq <| reg_s <| x_asg (sc cI (0 : Int) rfl) <| x_asg (sc cB false rfl) <| seqN [(4, .d (cI.enc (0 : Int))), (5, .d (cB.enc false))] (by kernel_rfl) <|
    xn <| wpC_ret <| rt <| rt <| re <| fin h (r1 (ss rfl rfl) <| r1 (ss rfl rfl) <| r0) rfl)
    (fun b22 h => wpC_skip <| kpN [(1, .d ((cLs cI rfl).enc v1)), (2, .box ((cXCube (cLs cI rfl) (cLs cI rfl)).enc v0))] (by kernel_rfl) <| xn <| wpC_seq <| wpC_kp <| wpC_seq <| reg_s <| st rfl <| mvd rfl rfl <| stw rfl <| lens rfl fun l78 => st rfl <| mvc cI (0 : Int) rfl <| seqN [(1, .d ((cLs cI rfl).enc v1)), (2, .box ((cXCube (cLs cI rfl) (cLs cI rfl)).enc v0)), (19, .d ((cLs cI rfl).enc v1)), (20, .d (cI.enc (v1.length : Int))), (21, .d (cI.enc (0 : Int)))] (by kernel_rfl) <|
    xn <| wpC_blk <| lpR (fun (k80 : Nat) (s79 : Unit) => [(1, .d ((cLs cI rfl).enc v1)), (2, .box ((cXCube (cLs cI rfl) (cLs cI rfl)).enc v0)), (19, .d ((cLs cI rfl).enc v1)), (20, .d (cI.enc (v1.length : Int))), (21, .d (cI.enc (k80 : Int)))]) () rfl h
    (fun G108 s79 h => wpC_seq <| reg_s <| st rfl <| b_lss (k := .i64) rfl rfl <| seqN [(1, .d ((cLs cI rfl).enc v1)), (2, .box ((cXCube (cLs cI rfl) (cLs cI rfl)).enc v0)), (19, .d ((cLs cI rfl).enc v1)), (20, .d (cI.enc (v1.length : Int))), (21, .d (cI.enc (v1.length : Int))), (22, .d (cB.enc (decide ((v1.length : Int) < (v1.length : Int)))))] (by kernel_rfl) <|
    xn <| wpC_seq <| wpC_kp <| cnd0 rfl (dlf _) <| wpC_exit <| xt <| xt <| xt <| xb <| kpN [(1, .d ((cLs cI rfl).enc v1)), (2, .box ((cXCube (cLs cI rfl) (cLs cI rfl)).enc v0))] (by kernel_rfl) <| xn <| wpC_seq <| drw_s <| pst rfl <| fab rfl rfl rfl rfl ⟨rfl, pst rfl <| lda rfl rfl rfl rfl rfl rfl ⟨rfl, pst rfl <| fab rfl rfl rfl rfl ⟨rfl, pst rfl <| lda rfl rfl rfl rfl rfl rfl ⟨rfl, pst rfl <| mvd rfl rfl ⟨rfl, bndp h fun x114 e115 h => pst rfl <| o_call (a1 (c := (cLs cI rfl)) (tLs tK) rfl (a1 (c := (cLs cI rfl)) (tLs tK) rfl a0)) (con_spec_cbAt e115) (.inl (so1 sK so0)) ⟨rfl, getO_kp h fun x116 i117 g118 h => pst rfl <| ias rfl rfl i117 g118 rfl ⟨rfl, pst rfl <| ldi rfl rfl rfl rfl ⟨rfl, preN <| x_asg (ss rfl rfl) <| x_asg (sc cB true rfl) <| seqN [(4, .d (cI.enc x116)), (5, .d (cB.enc true))] (by kernel_rfl) <|
    xn <| wpC_ret <| re <| fin h (r1 (ss rfl rfl) <| r1 (ss rfl rfl) <| r0) rfl⟩⟩⟩⟩⟩⟩⟩⟩)
    (fun G108 nx106 k80 s79 x81 hk82 hx83 hn107 h => wpC_seq <| reg_s <| st rfl <| b_lss (k := .i64) rfl rfl <| seqN [(1, .d ((cLs cI rfl).enc v1)), (2, .box ((cXCube (cLs cI rfl) (cLs cI rfl)).enc v0)), (19, .d ((cLs cI rfl).enc v1)), (20, .d (cI.enc (v1.length : Int))), (21, .d (cI.enc (k80 : Int))), (22, .d (cB.enc (decide ((k80 : Int) < (v1.length : Int)))))] (by kernel_rfl) <|
    xn <| wpC_seq <| wpC_kp <| cnd1 rfl (dlt hk82) <| wpC_skip <| kpN [(1, .d ((cLs cI rfl).enc v1)), (2, .box ((cXCube (cLs cI rfl) (cLs cI rfl)).enc v0)), (19, .d ((cLs cI rfl).enc v1)), (20, .d (cI.enc (v1.length : Int))), (21, .d (cI.enc (k80 : Int)))] (by kernel_rfl) <| xn <| wpC_seq <| wpC_kp <| wpC_blk <| wpC_seq <| reg_s <| st rfl <| mvd rfl rfl <| st rfl <| ias rfl rfl (Int.natCast_nonneg _) hx83 rfl <| st rfl <| ldi rfl rfl rfl rfl <| x_asg (ss rfl rfl) <| x_asg (ss rfl rfl) <| seqN [(1, .d ((cLs cI rfl).enc v1)), (2, .box ((cXCube (cLs cI rfl) (cLs cI rfl)).enc v0)), (6, .d (cI.enc (k80 : Int))), (7, .d (cI.enc x81)), (19, .d ((cLs cI rfl).enc v1)), (20, .d (cI.enc (v1.length : Int))), (21, .d (cI.enc (k80 : Int)))] (by kernel_rfl) <|
    xn <| wpC_seq <| reg_s <| st rfl <| mvd rfl rfl <| st rfl <| fab rfl rfl rfl rfl <| st rfl <| lda rfl rfl rfl rfl rfl rfl <| st rfl <| mvd rfl rfl <| getO_k h fun x135 i136 g137 h => st rfl <| ias rfl rfl i136 g137 rfl <| st rfl <| ldi rfl rfl rfl rfl <| bnd h fun x138 e139 h => st rfl <| o_call (a1 (c := cI) tK rfl (a1 (c := cI) tK rfl (a1 (c := cI) tK rfl a0))) (con_spec_l1In e139) (.inl (so1 sB so0)) <| st rfl <| o_nt rfl <| seqN [(1, .d ((cLs cI rfl).enc v1)), (2, .box ((cXCube (cLs cI rfl) (cLs cI rfl)).enc v0)), (19, .d ((cLs cI rfl).enc v1)), (20, .d (cI.enc (v1.length : Int))), (21, .d (cI.enc (k80 : Int))), (33, .d (cB.enc (!x138)))] (by kernel_rfl) <|
    xn <| cnd rfl h (fun b140 h => wpC_seq <| reg_s <| x_asg (sc cI (0 : Int) rfl) <| x_asg (sc cB false rfl) <| seqN [(4, .d (cI.enc (0 : Int))), (5, .d (cB.enc false))] (by kernel_rfl) <|
    xn <| wpC_ret <| rb <| rt <| rt <| rt <| rb <| rt <| rt <| re <| fin h (r1 (ss rfl rfl) <| r1 (ss rfl rfl) <| r0) rfl)
    (fun b140 h => wpC_skip <| xbb <| kpN [(1, .d ((cLs cI rfl).enc v1)), (2, .box ((cXCube (cLs cI rfl) (cLs cI rfl)).enc v0)), (19, .d ((cLs cI rfl).enc v1)), (20, .d (cI.enc (v1.length : Int))), (21, .d (cI.enc (k80 : Int)))] (by kernel_rfl) <| xn <| reg_s <| st rfl <| b_inc rfl rfl l78 hk82 <| st rfl <| mvd rfl rfl <| seqN [(1, .d ((cLs cI rfl).enc v1)), (2, .box ((cXCube (cLs cI rfl) (cLs cI rfl)).enc v0)), (19, .d ((cLs cI rfl).enc v1)), (20, .d (cI.enc (v1.length : Int))), (21, .d (cI.enc ((k80 + 1 : Nat) : Int)))] (by kernel_rfl) <|
    xn <| hn107 () h))))

def rs_impl_CubeCell (r : (Int × Bool)) : List D := [cI.enc r.1, cB.enc r.2]
def m39 : MC := .seq (.reg [⟨some 2, .box (.t 0), none⟩,
    ⟨some 4, .asg (.c (.int .i64 0)), none⟩,
    ⟨some 5, .asg (.c (.bool false)), none⟩] [1, 2])
  (.seq (.kp [1, 2] (.seq (.reg [⟨some 8, .ld 2 2 true, none⟩,
    ⟨some 9, .call 29 [(.t 8)], none⟩,
    ⟨some 10, .nt (.t 9), none⟩,
    ⟨some 11, .mv (.t 10), none⟩,
    ⟨some 12, .mv (.t 1), some (11, false)⟩,
    ⟨some 13, .len false (.t 12), some (11, false)⟩,
    ⟨some 14, .fa 2 0 0, some (11, false)⟩,
    ⟨some 15, .ld 14 1 false, some (11, false)⟩,
    ⟨some 16, .len false (.t 15), some (11, false)⟩,
    ⟨some 17, .bin .neq (.t 13) (.t 16), some (11, false)⟩,
    ⟨some 18, .pick (.t 11) (.c (.bool true)) (.t 17), none⟩] [1, 2, 18])
  (.cond (.t 18) (.seq (.reg [⟨some 4, .asg (.c (.int .i64 0)), none⟩,
    ⟨some 5, .asg (.c (.bool false)), none⟩] [4, 5])
  (.ret)) (.skip))))
  (.seq (.kp [1, 2] (.seq (.reg [⟨some 19, .mv (.t 1), none⟩,
    ⟨some 20, .len false (.t 19), none⟩,
    ⟨some 21, .mv (.c (.int .i64 0)), none⟩] [1, 2, 19, 20, 21])
  (.blk 0 (.loop (.seq (.reg [⟨some 22, .bin .lss (.t 21) (.t 20), none⟩] [1, 2, 19, 20, 21, 22])
  (.seq (.kp [1, 2, 19, 20, 21] (.cond (.t 22) (.skip) (.exit 0)))
  (.seq (.kp [1, 2, 19, 20, 21] (.blk 1 (.seq (.reg [⟨some 23, .mv (.t 21), none⟩,
    ⟨some 24, .ia 19 (.t 21) 1, none⟩,
    ⟨some 25, .ld 24 1 false, none⟩,
    ⟨some 6, .asg (.t 23), none⟩,
    ⟨some 7, .asg (.t 25), none⟩] [1, 2, 6, 7, 19, 20, 21])
  (.seq (.reg [⟨some 26, .mv (.t 7), none⟩,
    ⟨some 27, .bin .lss (.t 26) (.c (.int .i64 0)), none⟩,
    ⟨some 28, .mv (.t 27), none⟩,
    ⟨some 29, .mv (.t 7), some (28, false)⟩,
    ⟨some 30, .fa 2 0 0, some (28, false)⟩,
    ⟨some 31, .ld 30 1 false, some (28, false)⟩,
    ⟨some 32, .mv (.t 6), some (28, false)⟩,
    ⟨some 33, .ia 31 (.t 32) 1, some (28, false)⟩,
    ⟨some 34, .ld 33 1 false, some (28, false)⟩,
    ⟨some 35, .bin .gtr (.t 29) (.t 34), some (28, false)⟩,
    ⟨some 36, .pick (.t 28) (.c (.bool true)) (.t 35), none⟩] [1, 2, 19, 20, 21, 36])
  (.cond (.t 36) (.seq (.reg [⟨some 4, .asg (.c (.int .i64 0)), none⟩,
    ⟨some 5, .asg (.c (.bool false)), none⟩] [4, 5])
  (.ret)) (.skip))))))
  (.reg [⟨some 37, .bin .add (.t 21) (.c (.int .i64 1)), none⟩,
    ⟨some 21, .mv (.t 37), none⟩] [1, 2, 19, 20, 21]))))))))
  (.seq (.drw [⟨0, ⟨some 38, .fa 2 1 1, none⟩, [39, 40, 41, 42, 43, 44, 45]⟩,
    ⟨1, ⟨some 39, .ld 38 1 false, none⟩, [40, 41, 42, 43, 44, 45]⟩,
    ⟨2, ⟨some 40, .fa 2 0 0, none⟩, [38, 39, 41, 42, 43, 44, 45]⟩,
    ⟨3, ⟨some 41, .ld 40 1 false, none⟩, [38, 39, 42, 43, 44, 45]⟩,
    ⟨4, ⟨some 42, .mv (.t 1), none⟩, [38, 39, 40, 41, 43, 44, 45]⟩,
    ⟨5, ⟨some 43, .call 83 [(.t 41), (.t 42)], none⟩, [38, 39, 44, 45]⟩,
    ⟨6, ⟨some 44, .ia 39 (.t 43) 1, none⟩, [45]⟩,
    ⟨7, ⟨some 45, .ld 44 1 false, none⟩, []⟩]
    [(8, ⟨some 4, .asg (.t 45), none⟩),
    (9, ⟨some 5, .asg (.c (.bool true)), none⟩)] [4, 5])
  (.ret))))
theorem con_impl_CubeCell {v0 : XCube} {v1 : (List Int)} {r : (Int × Bool)} (h : sh_impl_CubeCell v0 v1 = some r) : Con Try.prog 39 [(cXCube (cLs cI rfl) (cLs cI rfl)).enc v0, (cLs cI rfl).enc v1] [] (rs_impl_CubeCell r) := by
  delta sh_impl_CubeCell at h
  refine top (out := none) (f := Try.f39) (m := m39) (rs := [.t 4, .t 5]) (by kernel_rfl) rfl (by kernel_rfl) (by kernel_rfl) (by kernel_rfl) (by kernel_rfl) (by kernel_rfl) ?_
  exact
   ini [(0, .d ((cXCube (cLs cI rfl) (cLs cI rfl)).enc v0)), (1, .d ((cLs cI rfl).enc v1))] rfl <| wpC_seq <| reg_s <| x_box (ss rfl rfl) <| x_asg (sc cI (0 : Int) rfl) <| x_asg (sc cB false rfl) <| seqN [(1, .d ((cLs cI rfl).enc v1)), (2, .box ((cXCube (cLs cI rfl) (cLs cI rfl)).enc v0))] (by kernel_rfl) <|
    xn <| wpC_seq <| wpC_kp <| wpC_seq <| reg_s <| st rfl <| ldb rfl rfl rfl rfl <| bnd h fun x17 e18 h => st rfl <| o_call (a1 (c := (cXCube (cLs cI rfl) (cLs cI rfl))) (tXCube (tLs tK) (tLs tK)) rfl a0) (con_impl_IsCube e18) (.inl (so1 sB so0)) <| st rfl <| o_nt rfl <| st rfl <| mvd rfl rfl <| ite_k h (fun b19 h => gf rfl b19 <| gf rfl b19 <| gf rfl b19 <| gf rfl b19 <| gf rfl b19 <| gf rfl b19 <| st rfl <| pick1 rfl b19 (cd := cB) (v := true) rfl rfl <| seqN [(1, .d ((cLs cI rfl).enc v1)), (2, .box ((cXCube (cLs cI rfl) (cLs cI rfl)).enc v0)), (18, .d (cB.enc true))] (by kernel_rfl) <|
    xn <| cnd1 rfl rfl <| wpC_seq <| reg_s <| x_asg (sc cI (0 : Int) rfl) <| x_asg (sc cB false rfl) <| seqN [(4, .d (cI.enc (0 : Int))), (5, .d (cB.enc false))] (by kernel_rfl) <|
    xn <| wpC_ret <| rt <| rt <| re <| fin h (r1 (ss rfl rfl) <| r1 (ss rfl rfl) <| r0) rfl)
    (fun b19 h => gt' rfl b19 <| st rfl <| mvd rfl rfl <| gt' rfl b19 <| stw rfl <| lens rfl fun l20 => gt' rfl b19 <| st rfl <| fab rfl rfl rfl rfl <| gt' rfl b19 <| st rfl <| lda rfl rfl rfl rfl rfl rfl <| gt' rfl b19 <| stw rfl <| lens rfl fun l21 => gt' rfl b19 <| st rfl <| b_neq (k := .i64) rfl rfl <| st rfl <| pick0 rfl b19 (cd := cB) (v := (decide ((v1.length : Int) ≠ (v0.Sizes.length : Int)))) rfl rfl <| seqN [(1, .d ((cLs cI rfl).enc v1)), (2, .box ((cXCube (cLs cI rfl) (cLs cI rfl)).enc v0)), (18, .d (cB.enc (decide ((v1.length : Int) ≠ (v0.Sizes.length : Int)))))] (by kernel_rfl) <|
    xn <| cnd rfl h (fun b22 h => wpC_seq <| reg_s <| x_asg (sc cI (0 : Int) rfl) <| x_asg (sc cB false rfl) <| seqN [(4, .d (cI.enc (0 : Int))), (5, .d (cB.enc false))] (by kernel_rfl) <|
    xn <| wpC_ret <| rt <| rt <| re <| fin h (r1 (ss rfl rfl) <| r1 (ss rfl rfl) <| r0) rfl)
    (fun b22 h => wpC_skip <| kpN [(1, .d ((cLs cI rfl).enc v1)), (2, .box ((cXCube (cLs cI rfl) (cLs cI rfl)).enc v0))] (by kernel_rfl) <| xn <| wpC_seq <| wpC_kp <| wpC_seq <| reg_s <| st rfl <| mvd rfl rfl <| stw rfl <| lens rfl fun l70 => st rfl <| mvc cI (0 : Int) rfl <| seqN [(1, .d ((cLs cI rfl).enc v1)), (2, .box ((cXCube (cLs cI rfl) (cLs cI rfl)).enc v0)), (19, .d ((cLs cI rfl).enc v1)), (20, .d (cI.enc (v1.length : Int))), (21, .d (cI.enc (0 : Int)))] (by kernel_rfl) <|
    xn <| wpC_blk <| lpR (fun (k72 : Nat) (s71 : Unit) => [(1, .d ((cLs cI rfl).enc v1)), (2, .box ((cXCube (cLs cI rfl) (cLs cI rfl)).enc v0)), (19, .d ((cLs cI rfl).enc v1)), (20, .d (cI.enc (v1.length : Int))), (21, .d (cI.enc (k72 : Int)))]) () rfl h
    (fun G96 s71 h => wpC_seq <| reg_s <| st rfl <| b_lss (k := .i64) rfl rfl <| seqN [(1, .d ((cLs cI rfl).enc v1)), (2, .box ((cXCube (cLs cI rfl) (cLs cI rfl)).enc v0)), (19, .d ((cLs cI rfl).enc v1)), (20, .d (cI.enc (v1.length : Int))), (21, .d (cI.enc (v1.length : Int))), (22, .d (cB.enc (decide ((v1.length : Int) < (v1.length : Int)))))] (by kernel_rfl) <|
    xn <| wpC_seq <| wpC_kp <| cnd0 rfl (dlf _) <| wpC_exit <| xt <| xt <| xt <| xb <| kpN [(1, .d ((cLs cI rfl).enc v1)), (2, .box ((cXCube (cLs cI rfl) (cLs cI rfl)).enc v0))] (by kernel_rfl) <| xn <| wpC_seq <| drw_s <| pst rfl <| fab rfl rfl rfl rfl ⟨rfl, pst rfl <| lda rfl rfl rfl rfl rfl rfl ⟨rfl, pst rfl <| fab rfl rfl rfl rfl ⟨rfl, pst rfl <| lda rfl rfl rfl rfl rfl rfl ⟨rfl, pst rfl <| mvd rfl rfl ⟨rfl, bndp h fun x102 e103 h => pst rfl <| o_call (a1 (c := (cLs cI rfl)) (tLs tK) rfl (a1 (c := (cLs cI rfl)) (tLs tK) rfl a0)) (con_impl_cellOf e103) (.inl (so1 sK so0)) ⟨rfl, getO_kp h fun x104 i105 g106 h => pst rfl <| ias rfl rfl i105 g106 rfl ⟨rfl, pst rfl <| ldi rfl rfl rfl rfl ⟨rfl, preN <| x_asg (ss rfl rfl) <| x_asg (sc cB true rfl) <| seqN [(4, .d (cI.enc x104)), (5, .d (cB.enc true))] (by kernel_rfl) <|
    xn <| wpC_ret <| re <| fin h (r1 (ss rfl rfl) <| r1 (ss rfl rfl) <| r0) rfl⟩⟩⟩⟩⟩⟩⟩⟩)
    (fun G96 nx94 k72 s71 x73 hk74 hx75 hn95 h => wpC_seq <| reg_s <| st rfl <| b_lss (k := .i64) rfl rfl <| seqN [(1, .d ((cLs cI rfl).enc v1)), (2, .box ((cXCube (cLs cI rfl) (cLs cI rfl)).enc v0)), (19, .d ((cLs cI rfl).enc v1)), (20, .d (cI.enc (v1.length : Int))), (21, .d (cI.enc (k72 : Int))), (22, .d (cB.enc (decide ((k72 : Int) < (v1.length : Int)))))] (by kernel_rfl) <|
    xn <| wpC_seq <| wpC_kp <| cnd1 rfl (dlt hk74) <| wpC_skip <| kpN [(1, .d ((cLs cI rfl).enc v1)), (2, .box ((cXCube (cLs cI rfl) (cLs cI rfl)).enc v0)), (19, .d ((cLs cI rfl).enc v1)), (20, .d (cI.enc (v1.length : Int))), (21, .d (cI.enc (k72 : Int)))] (by kernel_rfl) <| xn <| wpC_seq <| wpC_kp <| wpC_blk <| wpC_seq <| reg_s <| st rfl <| mvd rfl rfl <| st rfl <| ias rfl rfl (Int.natCast_nonneg _) hx75 rfl <| st rfl <| ldi rfl rfl rfl rfl <| x_asg (ss rfl rfl) <| x_asg (ss rfl rfl) <| seqN [(1, .d ((cLs cI rfl).enc v1)), (2, .box ((cXCube (cLs cI rfl) (cLs cI rfl)).enc v0)), (6, .d (cI.enc (k72 : Int))), (7, .d (cI.enc x73)), (19, .d ((cLs cI rfl).enc v1)), (20, .d (cI.enc (v1.length : Int))), (21, .d (cI.enc (k72 : Int)))] (by kernel_rfl) <|
    xn <| wpC_seq <| reg_s <| st rfl <| mvd rfl rfl <| st rfl <| b_lss (k := .i64) rfl rfl <| st rfl <| mvd rfl rfl <| ite_k h (fun b120 h => gf rfl b120 <| gf rfl b120 <| gf rfl b120 <| gf rfl b120 <| gf rfl b120 <| gf rfl b120 <| gf rfl b120 <| st rfl <| pick1 rfl b120 (cd := cB) (v := true) rfl rfl <| seqN [(1, .d ((cLs cI rfl).enc v1)), (2, .box ((cXCube (cLs cI rfl) (cLs cI rfl)).enc v0)), (19, .d ((cLs cI rfl).enc v1)), (20, .d (cI.enc (v1.length : Int))), (21, .d (cI.enc (k72 : Int))), (36, .d (cB.enc true))] (by kernel_rfl) <|
    xn <| cnd1 rfl rfl <| wpC_seq <| reg_s <| x_asg (sc cI (0 : Int) rfl) <| x_asg (sc cB false rfl) <| seqN [(4, .d (cI.enc (0 : Int))), (5, .d (cB.enc false))] (by kernel_rfl) <|
    xn <| wpC_ret <| rb <| rt <| rt <| rt <| rb <| rt <| rt <| re <| fin h (r1 (ss rfl rfl) <| r1 (ss rfl rfl) <| r0) rfl)
    (fun b120 h => gt' rfl b120 <| st rfl <| mvd rfl rfl <| gt' rfl b120 <| st rfl <| fab rfl rfl rfl rfl <| gt' rfl b120 <| st rfl <| lda rfl rfl rfl rfl rfl rfl <| gt' rfl b120 <| st rfl <| mvd rfl rfl <| gt' rfl b120 <| getO_k h fun x121 i122 g123 h => st rfl <| ias rfl rfl i122 g123 rfl <| gt' rfl b120 <| st rfl <| ldi rfl rfl rfl rfl <| gt' rfl b120 <| st rfl <| b_gtr (k := .i64) rfl rfl <| st rfl <| pick0 rfl b120 (cd := cB) (v := (decide (x121 < x73))) rfl rfl <| seqN [(1, .d ((cLs cI rfl).enc v1)), (2, .box ((cXCube (cLs cI rfl) (cLs cI rfl)).enc v0)), (19, .d ((cLs cI rfl).enc v1)), (20, .d (cI.enc (v1.length : Int))), (21, .d (cI.enc (k72 : Int))), (36, .d (cB.enc (decide (x121 < x73))))] (by kernel_rfl) <|
    xn <| cnd rfl h (fun b124 h => wpC_seq <| reg_s <| x_asg (sc cI (0 : Int) rfl) <| x_asg (sc cB false rfl) <| seqN [(4, .d (cI.enc (0 : Int))), (5, .d (cB.enc false))] (by kernel_rfl) <|
    xn <| wpC_ret <| rb <| rt <| rt <| rt <| rb <| rt <| rt <| re <| fin h (r1 (ss rfl rfl) <| r1 (ss rfl rfl) <| r0) rfl)
    (fun b124 h => wpC_skip <| xbb <| kpN [(1, .d ((cLs cI rfl).enc v1)), (2, .box ((cXCube (cLs cI rfl) (cLs cI rfl)).enc v0)), (19, .d ((cLs cI rfl).enc v1)), (20, .d (cI.enc (v1.length : Int))), (21, .d (cI.enc (k72 : Int)))] (by kernel_rfl) <| xn <| reg_s <| st rfl <| b_inc rfl rfl l70 hk74 <| st rfl <| mvd rfl rfl <| seqN [(1, .d ((cLs cI rfl).enc v1)), (2, .box ((cXCube (cLs cI rfl) (cLs cI rfl)).enc v0)), (19, .d ((cLs cI rfl).enc v1)), (20, .d (cI.enc (v1.length : Int))), (21, .d (cI.enc ((k72 + 1 : Nat) : Int)))] (by kernel_rfl) <|
    xn <| hn95 () h)))))

def rs_laws_FnExactCubeCell (r : Bool) : List D := [cB.enc r]
def m8 : MC := .seq (.reg [⟨some 2, .box (.t 0), none⟩,
    ⟨some 4, .asg (.c (.bool false)), none⟩] [1, 2])
  (.seq (.kp [1, 2] (.seq (.reg [⟨some 12, .mv (.t 1), none⟩,
    ⟨some 13, .len false (.t 12), none⟩,
    ⟨some 14, .bin .gtr (.t 13) (.c (.int .i64 1048576)), none⟩] [1, 2, 14])
  (.cond (.t 14) (.seq (.reg [⟨some 4, .asg (.c (.bool true)), none⟩] [4])
  (.ret)) (.skip))))
  (.seq (.reg [⟨some 5, .asg (.c (.int .i64 1048576)), none⟩] [1, 2, 5])
  (.seq (.reg [⟨some 15, .ld 2 2 true, none⟩,
    ⟨some 16, .mv (.t 5), none⟩,
    ⟨some 17, .call 26 [(.t 15), (.t 16)], none⟩,
    ⟨some 5, .asg (.t 17), none⟩] [1, 2, 5])
  (.seq (.kp [1, 2] (.seq (.reg [⟨some 18, .mv (.t 5), none⟩,
    ⟨some 19, .bin .lss (.t 18) (.c (.int .i64 0)), none⟩] [1, 2, 19])
  (.cond (.t 19) (.seq (.reg [⟨some 4, .asg (.c (.bool true)), none⟩] [4])
  (.ret)) (.skip))))
  (.seq (.reg [⟨some 21, .ld 2 2 true, none⟩,
    ⟨some 22, .call 28 [(.t 21)], none⟩,
    ⟨some 23, .mv (.t 1), none⟩,
    ⟨some 24, .call 16 [(.t 23)], none⟩,
    ⟨some 25, .call 38 [(.t 22), (.t 24)], none⟩,
    ⟨some 20, .mvt 25, none⟩,
    ⟨some 26, .ext 20 0, none⟩,
    ⟨some 27, .ext 20 1, none⟩,
    ⟨some 6, .asg (.t 26), none⟩,
    ⟨some 7, .asg (.t 27), none⟩] [1, 2, 6, 7])
  (.seq (.reg [⟨some 28, .ld 2 2 true, none⟩,
    ⟨some 29, .call 28 [(.t 28)], none⟩,
    ⟨some 8, .alloc (.agg [.slice true [], .slice true []]), none⟩,
    ⟨none, .st 8 (.t 29) 2, none⟩] [1, 2, 6, 7, 8])
  (.seq (.reg [⟨some 30, .mv (.t 1), none⟩,
    ⟨some 31, .call 16 [(.t 30)], none⟩,
    ⟨some 9, .asg (.t 31), none⟩] [1, 2, 6, 7, 8, 9])
  (.seq (.reg [⟨some 33, .ld 8 2 true, none⟩,
    ⟨some 34, .mv (.t 9), none⟩,
    ⟨some 35, .call 39 [(.t 33), (.t 34)], none⟩,
    ⟨some 32, .mvt 35, none⟩,
    ⟨some 36, .ext 32 0, none⟩,
    ⟨some 37, .ext 32 1, none⟩,
    ⟨some 10, .asg (.t 36), none⟩,
    ⟨some 11, .asg (.t 37), none⟩] [1, 2, 6, 7, 8, 9, 10, 11])
  (.seq (.kp [1, 2, 8, 9] (.seq (.reg [⟨some 38, .mv (.t 10), none⟩,
    ⟨some 39, .mv (.t 6), none⟩,
    ⟨some 40, .bin .neq (.t 38) (.t 39), none⟩,
    ⟨some 41, .mv (.t 40), none⟩,
    ⟨some 42, .mv (.t 11), some (41, false)⟩,
    ⟨some 43, .mv (.t 7), some (41, false)⟩,
    ⟨some 44, .eqb true (.t 42) (.t 43), some (41, false)⟩,
    ⟨some 45, .pick (.t 41) (.c (.bool true)) (.t 44), none⟩] [1, 2, 8, 9, 45])
  (.cond (.t 45) (.seq (.reg [⟨some 4, .asg (.c (.bool false)), none⟩] [4])
  (.ret)) (.skip))))
  (.seq (.kp [1, 9] (.seq (.drw [⟨0, ⟨some 46, .ld 8 2 true, none⟩, [47, 48, 49, 50]⟩,
    ⟨1, ⟨some 47, .ld 2 2 true, none⟩, [46, 48, 49, 50]⟩,
    ⟨2, ⟨some 48, .call 28 [(.t 47)], none⟩, [46, 49, 50]⟩,
    ⟨3, ⟨some 49, .call 30 [(.t 46), (.t 48)], none⟩, [50]⟩,
    ⟨4, ⟨some 50, .nt (.t 49), none⟩, []⟩]
    [] [1, 9, 50])
  (.cond (.t 50) (.seq (.reg [⟨some 4, .asg (.c (.bool false)), none⟩] [4])
  (.ret)) (.skip))))
  (.seq (.kp [] (.seq (.reg [⟨some 51, .mv (.t 9), none⟩,
    ⟨some 52, .mv (.t 1), none⟩,
    ⟨some 53, .call 16 [(.t 52)], none⟩,
    ⟨some 54, .call 18 [(.t 51), (.t 53)], none⟩,
    ⟨some 55, .nt (.t 54), none⟩] [55])
  (.cond (.t 55) (.seq (.reg [⟨some 4, .asg (.c (.bool false)), none⟩] [4])
  (.ret)) (.skip))))
  (.seq (.reg [⟨some 4, .asg (.c (.bool true)), none⟩] [4])
  (.ret)))))))))))))
theorem con_laws_FnExactCubeCell {v0 : XCube} {v1 : (List Int)} {r : Bool} (h : sh_laws_FnExactCubeCell v0 v1 = some r) : Con Try.prog 8 [(cXCube (cLs cI rfl) (cLs cI rfl)).enc v0, (cLs cI rfl).enc v1] [] (rs_laws_FnExactCubeCell r) := by
  delta sh_laws_FnExactCubeCell at h
  refine top (out := none) (f := Try.f8) (m := m8) (rs := [.t 4]) (by kernel_rfl) rfl (by kernel_rfl) (by kernel_rfl) (by kernel_rfl) (by kernel_rfl) (by kernel_rfl) ?_
  exact
   ini [(0, .d ((cXCube (cLs cI rfl) (cLs cI rfl)).enc v0)), (1, .d ((cLs cI rfl).enc v1))] rfl <| wpC_seq <| reg_s <| x_box (ss rfl rfl) <| x_asg (sc cB false rfl) <| seqN [(1, .d ((cLs cI rfl).enc v1)), (2, .box ((cXCube (cLs cI rfl) (cLs cI rfl)).enc v0))] (by kernel_rfl) <|
    xn <| wpC_seq <| wpC_kp <| wpC_seq <| reg_s <| st rfl <| mvd rfl rfl <| stw rfl <| lens rfl fun l5 => st rfl <| b_gtr (k := .i64) rfl rfl <| seqN [(1, .d ((cLs cI rfl).enc v1)), (2, .box ((cXCube (cLs cI rfl) (cLs cI rfl)).enc v0)), (14, .d (cB.enc (decide ((1048576 : Int) < (v1.length : Int)))))] (by kernel_rfl) <|
    xn <| cnd rfl h (fun b6 h => wpC_seq <| reg_s <| x_asg (sc cB true rfl) <| seqN [(4, .d (cB.enc true))] (by kernel_rfl) <|
    xn <| wpC_ret <| rt <| rt <| re <| fin h (r1 (ss rfl rfl) <| r0) rfl)
    (fun b6 h => wpC_skip <| kpN [(1, .d ((cLs cI rfl).enc v1)), (2, .box ((cXCube (cLs cI rfl) (cLs cI rfl)).enc v0))] (by kernel_rfl) <| xn <| wpC_seq <| reg_s <| x_asg (sc cI (1048576 : Int) rfl) <| seqN [(1, .d ((cLs cI rfl).enc v1)), (2, .box ((cXCube (cLs cI rfl) (cLs cI rfl)).enc v0)), (5, .d (cI.enc (1048576 : Int)))] (by kernel_rfl) <|
    xn <| wpC_seq <| reg_s <| st rfl <| ldb rfl rfl rfl rfl <| st rfl <| mvd rfl rfl <| bnd h fun x9 e10 h => st rfl <| o_call (a1 (c := (cXCube (cLs cI rfl) (cLs cI rfl))) (tXCube (tLs tK) (tLs tK)) rfl (a1 (c := cI) tK rfl a0)) (con_laws_szCube e10) (.inl (so1 sK so0)) <| x_asg (ss rfl rfl) <| seqN [(1, .d ((cLs cI rfl).enc v1)), (2, .box ((cXCube (cLs cI rfl) (cLs cI rfl)).enc v0)), (5, .d (cI.enc x9))] (by kernel_rfl) <|
    xn <| wpC_seq <| wpC_kp <| wpC_seq <| reg_s <| st rfl <| mvd rfl rfl <| st rfl <| b_lss (k := .i64) rfl rfl <| seqN [(1, .d ((cLs cI rfl).enc v1)), (2, .box ((cXCube (cLs cI rfl) (cLs cI rfl)).enc v0)), (19, .d (cB.enc (decide (x9 < (0 : Int)))))] (by kernel_rfl) <|
    xn <| cnd rfl h (fun b12 h => wpC_seq <| reg_s <| x_asg (sc cB true rfl) <| seqN [(4, .d (cB.enc true))] (by kernel_rfl) <|
    xn <| wpC_ret <| rt <| rt <| re <| fin h (r1 (ss rfl rfl) <| r0) rfl)
    (fun b12 h => wpC_skip <| kpN [(1, .d ((cLs cI rfl).enc v1)), (2, .box ((cXCube (cLs cI rfl) (cLs cI rfl)).enc v0))] (by kernel_rfl) <| xn <| wpC_seq <| reg_s <| st rfl <| ldb rfl rfl rfl rfl <| bnd h fun x19 e20 h => st rfl <| o_call (a1 (c := (cXCube (cLs cI rfl) (cLs cI rfl))) (tXCube (tLs tK) (tLs tK)) rfl a0) (con_laws_toCube e20) (.inl (so1 (sXCube (sLo sK) (sLo sK)) so0)) <| st rfl <| mvd rfl rfl <| bnd h fun x21 e22 h => st rfl <| o_call (a1 (c := (cLs cI rfl)) (tLs tK) rfl a0) (con_laws_toIntS e22) (.inl (so1 (sLo sK) so0)) <| bnd h fun x23 e24 h => st rfl <| o_call (a1 (c := (cXCube (cLo cI) (cLo cI))) (tXCube (tLo tK) (tLo tK)) rfl (a1 (c := (cLo cI)) (tLo tK) rfl a0)) (con_spec_CubeCell e24) (.inl (so1 sK (so1 sB so0))) <| x_mvt rfl <| x_ext rfl rfl <| x_ext rfl rfl <| x_asg (ss rfl rfl) <| x_asg (ss rfl rfl) <| seqN [(1, .d ((cLs cI rfl).enc v1)), (2, .box ((cXCube (cLs cI rfl) (cLs cI rfl)).enc v0)), (6, .d (cI.enc x23.1)), (7, .d (cB.enc x23.2))] (by kernel_rfl) <|
    xn <| wpC_seq <| reg_s <| st rfl <| ldb rfl rfl rfl rfl <| bnd h fun x27 e28 h => st rfl <| o_call (a1 (c := (cXCube (cLs cI rfl) (cLs cI rfl))) (tXCube (tLs tK) (tLs tK)) rfl a0) (con_laws_toCube e28) (.inl (so1 (sXCube (sLo sK) (sLo sK)) so0)) <| x_all (cXCube (cLo cI) (cLo cI)) (⟨([] : List Int), ([] : List Int)⟩ : XCube) rfl <| x_stb (so rfl rfl) rfl (Cd.h_sz _ _) rfl <| seqN [(1, .d ((cLs cI rfl).enc v1)), (2, .box ((cXCube (cLs cI rfl) (cLs cI rfl)).enc v0)), (6, .d (cI.enc x23.1)), (7, .d (cB.enc x23.2)), (8, .box ((cXCube (cLo cI) (cLo cI)).enc x27))] (by kernel_rfl) <|
    xn <| wpC_seq <| reg_s <| st rfl <| mvd rfl rfl <| bnd h fun x31 e32 h => st rfl <| o_call (a1 (c := (cLs cI rfl)) (tLs tK) rfl a0) (con_laws_toIntS e32) (.inl (so1 (sLo sK) so0)) <| x_asg (so rfl rfl) <| seqN [(1, .d ((cLs cI rfl).enc v1)), (2, .box ((cXCube (cLs cI rfl) (cLs cI rfl)).enc v0)), (6, .d (cI.enc x23.1)), (7, .d (cB.enc x23.2)), (8, .box ((cXCube (cLo cI) (cLo cI)).enc x27)), (9, .d ((cLo cI).enc x31))] (by kernel_rfl) <|
    xn <| wpC_seq <| reg_s <| st rfl <| ldbo rfl rfl rfl rfl <| st rfl <| mvo rfl rfl <| bnd h fun x35 e36 h => st rfl <| o_call (a1 (c := (cXCube (cLo cI) (cLo cI))) (tXCube (tLo tK) (tLo tK)) rfl (a1 (c := (cLo cI)) (tLo tK) rfl a0)) (con_impl_CubeCell e36) (.inl (so1 sK (so1 sB so0))) <| x_mvt rfl <| x_ext rfl rfl <| x_ext rfl rfl <| x_asg (ss rfl rfl) <| x_asg (ss rfl rfl) <| seqN [(1, .d ((cLs cI rfl).enc v1)), (2, .box ((cXCube (cLs cI rfl) (cLs cI rfl)).enc v0)), (6, .d (cI.enc x23.1)), (7, .d (cB.enc x23.2)), (8, .box ((cXCube (cLo cI) (cLo cI)).enc x27)), (9, .d ((cLo cI).enc x31)), (10, .d (cI.enc x35.1)), (11, .d (cB.enc x35.2))] (by kernel_rfl) <|
    xn <| wpC_seq <| wpC_kp <| wpC_seq <| reg_s <| st rfl <| mvd rfl rfl <| st rfl <| mvd rfl rfl <| st rfl <| b_neq (k := .i64) rfl rfl <| st rfl <| mvd rfl rfl <| ite_k h (fun b41 h => gf rfl b41 <| gf rfl b41 <| gf rfl b41 <| st rfl <| pick1 rfl b41 (cd := cB) (v := true) rfl rfl <| seqN [(1, .d ((cLs cI rfl).enc v1)), (2, .box ((cXCube (cLs cI rfl) (cLs cI rfl)).enc v0)), (8, .box ((cXCube (cLo cI) (cLo cI)).enc x27)), (9, .d ((cLo cI).enc x31)), (45, .d (cB.enc true))] (by kernel_rfl) <|
    xn <| cnd1 rfl rfl <| wpC_seq <| reg_s <| x_asg (sc cB false rfl) <| seqN [(4, .d (cB.enc false))] (by kernel_rfl) <|
    xn <| wpC_ret <| rt <| rt <| re <| fin h (r1 (ss rfl rfl) <| r0) rfl)
    (fun b41 h => gt' rfl b41 <| st rfl <| mvd rfl rfl <| gt' rfl b41 <| st rfl <| mvd rfl rfl <| gt' rfl b41 <| st rfl <| eqb1 rfl rfl <| st rfl <| pick0 rfl b41 (cd := cB) (v := (x35.2 != x23.2)) rfl rfl <| seqN [(1, .d ((cLs cI rfl).enc v1)), (2, .box ((cXCube (cLs cI rfl) (cLs cI rfl)).enc v0)), (8, .box ((cXCube (cLo cI) (cLo cI)).enc x27)), (9, .d ((cLo cI).enc x31)), (45, .d (cB.enc (x35.2 != x23.2)))] (by kernel_rfl) <|
    xn <| cnd rfl h (fun b42 h => wpC_seq <| reg_s <| x_asg (sc cB false rfl) <| seqN [(4, .d (cB.enc false))] (by kernel_rfl) <|
    xn <| wpC_ret <| rt <| rt <| re <| fin h (r1 (ss rfl rfl) <| r0) rfl)
    (fun b42 h => wpC_skip <| kpN [(1, .d ((cLs cI rfl).enc v1)), (2, .box ((cXCube (cLs cI rfl) (cLs cI rfl)).enc v0)), (8, .box ((cXCube (cLo cI) (cLo cI)).enc x27)), (9, .d ((cLo cI).enc x31))] (by kernel_rfl) <| xn <| wpC_seq <| wpC_kp <| wpC_seq <| drw_s <| pst rfl <| ldbo rfl rfl rfl rfl ⟨rfl, pst rfl <| ldb rfl rfl rfl rfl ⟨rfl, bndp h fun x56 e57 h => pst rfl <| o_call (a1 (c := (cXCube (cLs cI rfl) (cLs cI rfl))) (tXCube (tLs tK) (tLs tK)) rfl a0) (con_laws_toCube e57) (.inl (so1 (sXCube (sLo sK) (sLo sK)) so0)) ⟨rfl, bndp h fun x58 e59 h => pst rfl <| o_call (a1 (c := (cXCube (cLo cI) (cLo cI))) (tXCube (tLo tK) (tLo tK)) rfl (a1 (c := (cXCube (cLo cI) (cLo cI))) (tXCube (tLo tK) (tLo tK)) rfl a0)) (con_laws_eqCube e59) (.inl (so1 sB so0)) ⟨rfl, pst rfl <| o_nt rfl ⟨rfl, preN <| seqN [(1, .d ((cLs cI rfl).enc v1)), (9, .d ((cLo cI).enc x31)), (50, .d (cB.enc (!x58)))] (by kernel_rfl) <|
    xn <| cnd rfl h (fun b60 h => wpC_seq <| reg_s <| x_asg (sc cB false rfl) <| seqN [(4, .d (cB.enc false))] (by kernel_rfl) <|
    xn <| wpC_ret <| rt <| rt <| re <| fin h (r1 (ss rfl rfl) <| r0) rfl)
    (fun b60 h => wpC_skip <| kpN [(1, .d ((cLs cI rfl).enc v1)), (9, .d ((cLo cI).enc x31))] (by kernel_rfl) <| xn <| wpC_seq <| wpC_kp <| wpC_seq <| reg_s <| st rfl <| mvo rfl rfl <| st rfl <| mvd rfl rfl <| bnd h fun x74 e75 h => st rfl <| o_call (a1 (c := (cLs cI rfl)) (tLs tK) rfl a0) (con_laws_toIntS e75) (.inl (so1 (sLo sK) so0)) <| bnd h fun x76 e77 h => st rfl <| o_call (a1 (c := (cLo cI)) (tLo tK) rfl (a1 (c := (cLo cI)) (tLo tK) rfl a0)) (con_laws_eqIntS e77) (.inl (so1 sB so0)) <| st rfl <| o_nt rfl <| seqN [(55, .d (cB.enc (!x76)))] (by kernel_rfl) <|
    xn <| cnd rfl h (fun b78 h => wpC_seq <| reg_s <| x_asg (sc cB false rfl) <| seqN [(4, .d (cB.enc false))] (by kernel_rfl) <|
    xn <| wpC_ret <| rt <| rt <| re <| fin h (r1 (ss rfl rfl) <| r0) rfl)
    (fun b78 h => wpC_skip <| kpN [] (by kernel_rfl) <| xn <| wpC_seq <| reg_s <| x_asg (sc cB true rfl) <| seqN [(4, .d (cB.enc true))] (by kernel_rfl) <|
    xn <| wpC_ret <| re <| fin h (r1 (ss rfl rfl) <| r0) rfl))⟩⟩⟩⟩⟩))))
end AS.W
