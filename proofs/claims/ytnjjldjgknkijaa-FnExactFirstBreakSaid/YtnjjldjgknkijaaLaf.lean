/- The program computes the plain functions. No condition. -/
import Derived.Test.YtnjjldjgknkijaaSaf
import Derived.Test.YtnjjldjgknkijaaProg
import Derived.Test.YtnjjldjgknkijaaLad
set_option maxRecDepth 100000
set_option linter.unusedVariables false
set_option linter.unusedSimpArgs false
namespace AS.W
open Go Go.Proofs
def rs_spec_FirstBreak (r : (Int × Bool)) : List D := [cI.enc r.1, cB.enc r.2]
def m31 : MC := .seq (.reg [⟨some 1, .box (.t 0), none⟩,
    ⟨some 2, .asg (.c (.int .i64 0)), none⟩,
    ⟨some 3, .asg (.c (.bool false)), none⟩] [1])
  (.seq (.kp [1] (.seq (.reg [⟨some 4, .ld 1 2 true, none⟩,
    ⟨some 5, .call 69 [(.t 4)], none⟩,
    ⟨some 6, .nt (.t 5), none⟩] [1, 6])
  (.cond (.t 6) (.seq (.reg [⟨some 2, .asg (.c (.int .i64 0)), none⟩,
    ⟨some 3, .asg (.c (.bool false)), none⟩] [2, 3])
  (.ret)) (.skip))))
  (.seq (.reg [⟨some 7, .ld 1 2 true, none⟩,
    ⟨some 8, .call 70 [(.t 7)], none⟩,
    ⟨some 2, .asg (.t 8), none⟩,
    ⟨some 3, .asg (.c (.bool true)), none⟩] [2, 3])
  (.ret)))
theorem con_spec_FirstBreak {v0 : XCube} {r : (Int × Bool)} (h : sh_spec_FirstBreak v0 = some r) : Con Try.prog 31 [(cXCube (cLs cI rfl) (cLs cI rfl)).enc v0] [] (rs_spec_FirstBreak r) := by
  delta sh_spec_FirstBreak at h
  refine top (out := none) (f := Try.f31) (m := m31) (rs := [.t 2, .t 3]) (by kernel_rfl) rfl (by kernel_rfl) (by kernel_rfl) (by kernel_rfl) (by kernel_rfl) (by kernel_rfl) ?_
  exact
   ini [(0, .d ((cXCube (cLs cI rfl) (cLs cI rfl)).enc v0))] rfl <| wpC_seq <| reg_s <| x_box (ss rfl rfl) <| x_asg (sc cI (0 : Int) rfl) <| x_asg (sc cB false rfl) <| seqN [(1, .box ((cXCube (cLs cI rfl) (cLs cI rfl)).enc v0))] (by kernel_rfl) <|
    xn <| wpC_seq <| wpC_kp <| wpC_seq <| reg_s <| st rfl <| ldb rfl rfl rfl rfl <| bnd h fun x8 e9 h => st rfl <| o_call (a1 (c := (cXCube (cLs cI rfl) (cLs cI rfl))) (tXCube (tLs tK) (tLs tK)) rfl a0) (con_spec_cbForm e9) (.inl (so1 sB so0)) <| st rfl <| o_nt rfl <| seqN [(1, .box ((cXCube (cLs cI rfl) (cLs cI rfl)).enc v0)), (6, .d (cB.enc (!x8)))] (by kernel_rfl) <|
    xn <| cnd rfl h (fun b10 h => wpC_seq <| reg_s <| x_asg (sc cI (0 : Int) rfl) <| x_asg (sc cB false rfl) <| seqN [(2, .d (cI.enc (0 : Int))), (3, .d (cB.enc false))] (by kernel_rfl) <|
    xn <| wpC_ret <| rt <| rt <| re <| fin h (r1 (ss rfl rfl) <| r1 (ss rfl rfl) <| r0) rfl)
    (fun b10 h => wpC_skip <| kpN [(1, .box ((cXCube (cLs cI rfl) (cLs cI rfl)).enc v0))] (by kernel_rfl) <| xn <| wpC_seq <| reg_s <| st rfl <| ldb rfl rfl rfl rfl <| bnd h fun x13 e14 h => st rfl <| o_call (a1 (c := (cXCube (cLs cI rfl) (cLs cI rfl))) (tXCube (tLs tK) (tLs tK)) rfl a0) (con_spec_cbFirst e14) (.inl (so1 sK so0)) <| x_asg (ss rfl rfl) <| x_asg (sc cB true rfl) <| seqN [(2, .d (cI.enc x13)), (3, .d (cB.enc true))] (by kernel_rfl) <|
    xn <| wpC_ret <| re <| fin h (r1 (ss rfl rfl) <| r1 (ss rfl rfl) <| r0) rfl)

def rs_impl_FirstBreak (r : (Int × Bool)) : List D := [cI.enc r.1, cB.enc r.2]
def m32 : MC := .seq (.reg [⟨some 1, .box (.t 0), none⟩,
    ⟨some 2, .asg (.c (.int .i64 0)), none⟩,
    ⟨some 3, .asg (.c (.bool false)), none⟩] [1])
  (.seq (.kp [1] (.seq (.reg [⟨some 4, .ld 1 2 true, none⟩,
    ⟨some 5, .call 67 [(.t 4)], none⟩,
    ⟨some 6, .nt (.t 5), none⟩] [1, 6])
  (.cond (.t 6) (.seq (.reg [⟨some 2, .asg (.c (.int .i64 0)), none⟩,
    ⟨some 3, .asg (.c (.bool false)), none⟩] [2, 3])
  (.ret)) (.skip))))
  (.seq (.reg [⟨some 7, .ld 1 2 true, none⟩,
    ⟨some 8, .call 68 [(.t 7)], none⟩,
    ⟨some 2, .asg (.t 8), none⟩,
    ⟨some 3, .asg (.c (.bool true)), none⟩] [2, 3])
  (.ret)))
theorem con_impl_FirstBreak {v0 : XCube} {r : (Int × Bool)} (h : sh_impl_FirstBreak v0 = some r) : Con Try.prog 32 [(cXCube (cLs cI rfl) (cLs cI rfl)).enc v0] [] (rs_impl_FirstBreak r) := by
  delta sh_impl_FirstBreak at h
  refine top (out := none) (f := Try.f32) (m := m32) (rs := [.t 2, .t 3]) (by kernel_rfl) rfl (by kernel_rfl) (by kernel_rfl) (by kernel_rfl) (by kernel_rfl) (by kernel_rfl) ?_
  exact
   ini [(0, .d ((cXCube (cLs cI rfl) (cLs cI rfl)).enc v0))] rfl <| wpC_seq <| reg_s <| x_box (ss rfl rfl) <| x_asg (sc cI (0 : Int) rfl) <| x_asg (sc cB false rfl) <| seqN [(1, .box ((cXCube (cLs cI rfl) (cLs cI rfl)).enc v0))] (by kernel_rfl) <|
    xn <| wpC_seq <| wpC_kp <| wpC_seq <| reg_s <| st rfl <| ldb rfl rfl rfl rfl <| bnd h fun x8 e9 h => st rfl <| o_call (a1 (c := (cXCube (cLs cI rfl) (cLs cI rfl))) (tXCube (tLs tK) (tLs tK)) rfl a0) (con_impl_hasRightForm e9) (.inl (so1 sB so0)) <| st rfl <| o_nt rfl <| seqN [(1, .box ((cXCube (cLs cI rfl) (cLs cI rfl)).enc v0)), (6, .d (cB.enc (!x8)))] (by kernel_rfl) <|
    xn <| cnd rfl h (fun b10 h => wpC_seq <| reg_s <| x_asg (sc cI (0 : Int) rfl) <| x_asg (sc cB false rfl) <| seqN [(2, .d (cI.enc (0 : Int))), (3, .d (cB.enc false))] (by kernel_rfl) <|
    xn <| wpC_ret <| rt <| rt <| re <| fin h (r1 (ss rfl rfl) <| r1 (ss rfl rfl) <| r0) rfl)
    (fun b10 h => wpC_skip <| kpN [(1, .box ((cXCube (cLs cI rfl) (cLs cI rfl)).enc v0))] (by kernel_rfl) <| xn <| wpC_seq <| reg_s <| st rfl <| ldb rfl rfl rfl rfl <| bnd h fun x13 e14 h => st rfl <| o_call (a1 (c := (cXCube (cLs cI rfl) (cLs cI rfl))) (tXCube (tLs tK) (tLs tK)) rfl a0) (con_impl_firstBreak e14) (.inl (so1 sK so0)) <| x_asg (ss rfl rfl) <| x_asg (sc cB true rfl) <| seqN [(2, .d (cI.enc x13)), (3, .d (cB.enc true))] (by kernel_rfl) <|
    xn <| wpC_ret <| re <| fin h (r1 (ss rfl rfl) <| r1 (ss rfl rfl) <| r0) rfl)

def rs_laws_FnExactFirstBreak (r : Bool) : List D := [cB.enc r]
def m6 : MC := .seq (.reg [⟨some 1, .box (.t 0), none⟩,
    ⟨some 2, .asg (.c (.bool false)), none⟩] [1])
  (.seq (.reg [⟨some 3, .asg (.c (.int .i64 1048576)), none⟩] [1, 3])
  (.seq (.reg [⟨some 9, .ld 1 2 true, none⟩,
    ⟨some 10, .mv (.t 3), none⟩,
    ⟨some 11, .call 26 [(.t 9), (.t 10)], none⟩,
    ⟨some 3, .asg (.t 11), none⟩] [1, 3])
  (.seq (.kp [1] (.seq (.reg [⟨some 12, .mv (.t 3), none⟩,
    ⟨some 13, .bin .lss (.t 12) (.c (.int .i64 0)), none⟩] [1, 13])
  (.cond (.t 13) (.seq (.reg [⟨some 2, .asg (.c (.bool true)), none⟩] [2])
  (.ret)) (.skip))))
  (.seq (.reg [⟨some 15, .ld 1 2 true, none⟩,
    ⟨some 16, .call 28 [(.t 15)], none⟩,
    ⟨some 17, .call 31 [(.t 16)], none⟩,
    ⟨some 14, .mvt 17, none⟩,
    ⟨some 18, .ext 14 0, none⟩,
    ⟨some 19, .ext 14 1, none⟩,
    ⟨some 4, .asg (.t 18), none⟩,
    ⟨some 5, .asg (.t 19), none⟩] [1, 4, 5])
  (.seq (.reg [⟨some 20, .ld 1 2 true, none⟩,
    ⟨some 21, .call 28 [(.t 20)], none⟩,
    ⟨some 6, .alloc (.agg [.slice true [], .slice true []]), none⟩,
    ⟨none, .st 6 (.t 21) 2, none⟩] [1, 4, 5, 6])
  (.seq (.reg [⟨some 23, .ld 6 2 true, none⟩,
    ⟨some 24, .call 32 [(.t 23)], none⟩,
    ⟨some 22, .mvt 24, none⟩,
    ⟨some 25, .ext 22 0, none⟩,
    ⟨some 26, .ext 22 1, none⟩,
    ⟨some 7, .asg (.t 25), none⟩,
    ⟨some 8, .asg (.t 26), none⟩] [1, 4, 5, 6, 7, 8])
  (.seq (.kp [1, 6] (.seq (.reg [⟨some 27, .mv (.t 7), none⟩,
    ⟨some 28, .mv (.t 4), none⟩,
    ⟨some 29, .bin .neq (.t 27) (.t 28), none⟩,
    ⟨some 30, .mv (.t 29), none⟩,
    ⟨some 31, .mv (.t 8), some (30, false)⟩,
    ⟨some 32, .mv (.t 5), some (30, false)⟩,
    ⟨some 33, .eqb true (.t 31) (.t 32), some (30, false)⟩,
    ⟨some 34, .pick (.t 30) (.c (.bool true)) (.t 33), none⟩] [1, 6, 34])
  (.cond (.t 34) (.seq (.reg [⟨some 2, .asg (.c (.bool false)), none⟩] [2])
  (.ret)) (.skip))))
  (.seq (.kp [] (.seq (.drw [⟨0, ⟨some 35, .ld 6 2 true, none⟩, [36, 37, 38, 39]⟩,
    ⟨1, ⟨some 36, .ld 1 2 true, none⟩, [35, 37, 38, 39]⟩,
    ⟨2, ⟨some 37, .call 28 [(.t 36)], none⟩, [35, 38, 39]⟩,
    ⟨3, ⟨some 38, .call 30 [(.t 35), (.t 37)], none⟩, [39]⟩,
    ⟨4, ⟨some 39, .nt (.t 38), none⟩, []⟩]
    [] [39])
  (.cond (.t 39) (.seq (.reg [⟨some 2, .asg (.c (.bool false)), none⟩] [2])
  (.ret)) (.skip))))
  (.seq (.reg [⟨some 2, .asg (.c (.bool true)), none⟩] [2])
  (.ret))))))))))
theorem con_laws_FnExactFirstBreak {v0 : XCube} {r : Bool} (h : sh_laws_FnExactFirstBreak v0 = some r) : Con Try.prog 6 [(cXCube (cLs cI rfl) (cLs cI rfl)).enc v0] [] (rs_laws_FnExactFirstBreak r) := by
  delta sh_laws_FnExactFirstBreak at h
  refine top (out := none) (f := Try.f6) (m := m6) (rs := [.t 2]) (by kernel_rfl) rfl (by kernel_rfl) (by kernel_rfl) (by kernel_rfl) (by kernel_rfl) (by kernel_rfl) ?_
  exact
   ini [(0, .d ((cXCube (cLs cI rfl) (cLs cI rfl)).enc v0))] rfl <| wpC_seq <| reg_s <| x_box (ss rfl rfl) <| x_asg (sc cB false rfl) <| seqN [(1, .box ((cXCube (cLs cI rfl) (cLs cI rfl)).enc v0))] (by kernel_rfl) <|
    xn <| wpC_seq <| reg_s <| x_asg (sc cI (1048576 : Int) rfl) <| seqN [(1, .box ((cXCube (cLs cI rfl) (cLs cI rfl)).enc v0)), (3, .d (cI.enc (1048576 : Int)))] (by kernel_rfl) <|
    xn <| wpC_seq <| reg_s <| st rfl <| ldb rfl rfl rfl rfl <| st rfl <| mvd rfl rfl <| bnd h fun x3 e4 h => st rfl <| o_call (a1 (c := (cXCube (cLs cI rfl) (cLs cI rfl))) (tXCube (tLs tK) (tLs tK)) rfl (a1 (c := cI) tK rfl a0)) (con_laws_szCube e4) (.inl (so1 sK so0)) <| x_asg (ss rfl rfl) <| seqN [(1, .box ((cXCube (cLs cI rfl) (cLs cI rfl)).enc v0)), (3, .d (cI.enc x3))] (by kernel_rfl) <|
    xn <| wpC_seq <| wpC_kp <| wpC_seq <| reg_s <| st rfl <| mvd rfl rfl <| st rfl <| b_lss (k := .i64) rfl rfl <| seqN [(1, .box ((cXCube (cLs cI rfl) (cLs cI rfl)).enc v0)), (13, .d (cB.enc (decide (x3 < (0 : Int)))))] (by kernel_rfl) <|
    xn <| cnd rfl h (fun b6 h => wpC_seq <| reg_s <| x_asg (sc cB true rfl) <| seqN [(2, .d (cB.enc true))] (by kernel_rfl) <|
    xn <| wpC_ret <| rt <| rt <| re <| fin h (r1 (ss rfl rfl) <| r0) rfl)
    (fun b6 h => wpC_skip <| kpN [(1, .box ((cXCube (cLs cI rfl) (cLs cI rfl)).enc v0))] (by kernel_rfl) <| xn <| wpC_seq <| reg_s <| st rfl <| ldb rfl rfl rfl rfl <| bnd h fun x11 e12 h => st rfl <| o_call (a1 (c := (cXCube (cLs cI rfl) (cLs cI rfl))) (tXCube (tLs tK) (tLs tK)) rfl a0) (con_laws_toCube e12) (.inl (so1 (sXCube (sLo sK) (sLo sK)) so0)) <| bnd h fun x13 e14 h => st rfl <| o_call (a1 (c := (cXCube (cLo cI) (cLo cI))) (tXCube (tLo tK) (tLo tK)) rfl a0) (con_spec_FirstBreak e14) (.inl (so1 sK (so1 sB so0))) <| x_mvt rfl <| x_ext rfl rfl <| x_ext rfl rfl <| x_asg (ss rfl rfl) <| x_asg (ss rfl rfl) <| seqN [(1, .box ((cXCube (cLs cI rfl) (cLs cI rfl)).enc v0)), (4, .d (cI.enc x13.1)), (5, .d (cB.enc x13.2))] (by kernel_rfl) <|
    xn <| wpC_seq <| reg_s <| st rfl <| ldb rfl rfl rfl rfl <| bnd h fun x17 e18 h => st rfl <| o_call (a1 (c := (cXCube (cLs cI rfl) (cLs cI rfl))) (tXCube (tLs tK) (tLs tK)) rfl a0) (con_laws_toCube e18) (.inl (so1 (sXCube (sLo sK) (sLo sK)) so0)) <| x_all (cXCube (cLo cI) (cLo cI)) (⟨([] : List Int), ([] : List Int)⟩ : XCube) rfl <| x_stb (so rfl rfl) rfl (Cd.h_sz _ _) rfl <| seqN [(1, .box ((cXCube (cLs cI rfl) (cLs cI rfl)).enc v0)), (4, .d (cI.enc x13.1)), (5, .d (cB.enc x13.2)), (6, .box ((cXCube (cLo cI) (cLo cI)).enc x17))] (by kernel_rfl) <|
    xn <| wpC_seq <| reg_s <| st rfl <| ldbo rfl rfl rfl rfl <| bnd h fun x21 e22 h => st rfl <| o_call (a1 (c := (cXCube (cLo cI) (cLo cI))) (tXCube (tLo tK) (tLo tK)) rfl a0) (con_impl_FirstBreak e22) (.inl (so1 sK (so1 sB so0))) <| x_mvt rfl <| x_ext rfl rfl <| x_ext rfl rfl <| x_asg (ss rfl rfl) <| x_asg (ss rfl rfl) <| seqN [(1, .box ((cXCube (cLs cI rfl) (cLs cI rfl)).enc v0)), (4, .d (cI.enc x13.1)), (5, .d (cB.enc x13.2)), (6, .box ((cXCube (cLo cI) (cLo cI)).enc x17)), (7, .d (cI.enc x21.1)), (8, .d (cB.enc x21.2))] (by kernel_rfl) <|
    xn <| wpC_seq <| wpC_kp <| wpC_seq <| reg_s <| st rfl <| mvd rfl rfl <| st rfl <| mvd rfl rfl <| st rfl <| b_neq (k := .i64) rfl rfl <| st rfl <| mvd rfl rfl <| ite_k h (fun b27 h => gf rfl b27 <| gf rfl b27 <| gf rfl b27 <| st rfl <| pick1 rfl b27 (cd := cB) (v := true) rfl rfl <| seqN [(1, .box ((cXCube (cLs cI rfl) (cLs cI rfl)).enc v0)), (6, .box ((cXCube (cLo cI) (cLo cI)).enc x17)), (34, .d (cB.enc true))] (by kernel_rfl) <|
    xn <| cnd1 rfl rfl <| wpC_seq <| reg_s <| x_asg (sc cB false rfl) <| seqN [(2, .d (cB.enc false))] (by kernel_rfl) <|
    xn <| wpC_ret <| rt <| rt <| re <| fin h (r1 (ss rfl rfl) <| r0) rfl)
    (fun b27 h => gt' rfl b27 <| st rfl <| mvd rfl rfl <| gt' rfl b27 <| st rfl <| mvd rfl rfl <| gt' rfl b27 <| st rfl <| eqb1 rfl rfl <| st rfl <| pick0 rfl b27 (cd := cB) (v := (x21.2 != x13.2)) rfl rfl <| seqN [(1, .box ((cXCube (cLs cI rfl) (cLs cI rfl)).enc v0)), (6, .box ((cXCube (cLo cI) (cLo cI)).enc x17)), (34, .d (cB.enc (x21.2 != x13.2)))] (by kernel_rfl) <|
    xn <| cnd rfl h (fun b28 h => wpC_seq <| reg_s <| x_asg (sc cB false rfl) <| seqN [(2, .d (cB.enc false))] (by kernel_rfl) <|
    xn <| wpC_ret <| rt <| rt <| re <| fin h (r1 (ss rfl rfl) <| r0) rfl)
    (fun b28 h => wpC_skip <| kpN [(1, .box ((cXCube (cLs cI rfl) (cLs cI rfl)).enc v0)), (6, .box ((cXCube (cLo cI) (cLo cI)).enc x17))] (by kernel_rfl) <| xn <| wpC_seq <| wpC_kp <| wpC_seq <| drw_s <| pst rfl <| ldbo rfl rfl rfl rfl ⟨rfl, pst rfl <| ldb rfl rfl rfl rfl ⟨rfl, bndp h fun x42 e43 h => pst rfl <| o_call (a1 (c := (cXCube (cLs cI rfl) (cLs cI rfl))) (tXCube (tLs tK) (tLs tK)) rfl a0) (con_laws_toCube e43) (.inl (so1 (sXCube (sLo sK) (sLo sK)) so0)) ⟨rfl, bndp h fun x44 e45 h => pst rfl <| o_call (a1 (c := (cXCube (cLo cI) (cLo cI))) (tXCube (tLo tK) (tLo tK)) rfl (a1 (c := (cXCube (cLo cI) (cLo cI))) (tXCube (tLo tK) (tLo tK)) rfl a0)) (con_laws_eqCube e45) (.inl (so1 sB so0)) ⟨rfl, pst rfl <| o_nt rfl ⟨rfl, preN <| seqN [(39, .d (cB.enc (!x44)))] (by kernel_rfl) <|
    xn <| cnd rfl h (fun b46 h => wpC_seq <| reg_s <| x_asg (sc cB false rfl) <| seqN [(2, .d (cB.enc false))] (by kernel_rfl) <|
    xn <| wpC_ret <| rt <| rt <| re <| fin h (r1 (ss rfl rfl) <| r0) rfl)
    (fun b46 h => wpC_skip <| kpN [] (by kernel_rfl) <| xn <| wpC_seq <| reg_s <| x_asg (sc cB true rfl) <| seqN [(2, .d (cB.enc true))] (by kernel_rfl) <|
    xn <| wpC_ret <| re <| fin h (r1 (ss rfl rfl) <| r0) rfl)⟩⟩⟩⟩⟩)))
end AS.W
