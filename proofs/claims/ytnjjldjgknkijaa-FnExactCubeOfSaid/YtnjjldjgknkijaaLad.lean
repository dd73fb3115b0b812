/- The program computes the plain functions. No condition. -/
import Derived.Test.YtnjjldjgknkijaaSad
import Derived.Test.YtnjjldjgknkijaaProg
import Derived.Test.YtnjjldjgknkijaaLaa
import Derived.Test.YtnjjldjgknkijaaLab
import Derived.Test.YtnjjldjgknkijaaLac
set_option maxRecDepth 100000
set_option linter.unusedVariables false
set_option linter.unusedSimpArgs false
namespace AS.W
open Go Go.Proofs
def rs_laws_szIntS (r : Int) : List D := [cI.enc r]
def m65 : MC := .seq (.reg [⟨some 4, .asg (.c (.int .i64 0)), none⟩] [0, 1])
  (.seq (.reg [⟨some 5, .mv (.t 1), none⟩,
    ⟨some 6, .mv (.t 0), none⟩,
    ⟨some 7, .len false (.t 6), none⟩,
    ⟨some 8, .bin .sub (.t 5) (.t 7), none⟩,
    ⟨some 1, .asg (.t 8), none⟩] [1])
  (.seq (.kp [1] (.seq (.reg [⟨some 9, .mv (.t 1), none⟩,
    ⟨some 10, .bin .lss (.t 9) (.c (.int .i64 0)), none⟩] [1, 10])
  (.cond (.t 10) (.seq (.reg [⟨some 4, .asg (.c (.int .i64 (-1))), none⟩] [4])
  (.ret)) (.skip))))
  (.seq (.reg [⟨some 11, .mv (.t 1), none⟩,
    ⟨some 4, .asg (.t 11), none⟩] [4])
  (.ret))))
theorem con_laws_szIntS {v0 : (List Int)} {v1 : Int} {r : Int} (h : sh_laws_szIntS v0 v1 = some r) : Con Try.prog 65 [(cLs cI rfl).enc v0, cI.enc v1] [] (rs_laws_szIntS r) := by
  delta sh_laws_szIntS at h
  refine top (out := none) (f := Try.f65) (m := m65) (rs := [.t 4]) (by kernel_rfl) rfl (by kernel_rfl) (by kernel_rfl) (by kernel_rfl) (by kernel_rfl) (by kernel_rfl) ?_
  exact
   ini [(0, .d ((cLs cI rfl).enc v0)), (1, .d (cI.enc v1))] rfl <| wpC_seq <| reg_s <| x_asg (sc cI (0 : Int) rfl) <| seqN [(0, .d ((cLs cI rfl).enc v0)), (1, .d (cI.enc v1))] (by kernel_rfl) <|
    xn <| wpC_seq <| reg_s <| st rfl <| mvd rfl rfl <| st rfl <| mvd rfl rfl <| stw rfl <| lens rfl fun l3 => ckI_k h fun i4 h => st rfl <| b_sub (k := .i64) rfl rfl i4 <| x_asg (ss rfl rfl) <| seqN [(1, .d (cI.enc (v1 - (v0.length : Int))))] (by kernel_rfl) <|
    xn <| wpC_seq <| wpC_kp <| wpC_seq <| reg_s <| st rfl <| mvd rfl rfl <| st rfl <| b_lss (k := .i64) rfl rfl <| seqN [(1, .d (cI.enc (v1 - (v0.length : Int)))), (10, .d (cB.enc (decide ((v1 - (v0.length : Int)) < (0 : Int)))))] (by kernel_rfl) <|
    xn <| cnd rfl h (fun b6 h => wpC_seq <| reg_s <| x_asg (sc cI (-1 : Int) rfl) <| seqN [(4, .d (cI.enc (-1 : Int)))] (by kernel_rfl) <|
    xn <| wpC_ret <| rt <| rt <| re <| fin h (r1 (ss rfl rfl) <| r0) rfl)
    (fun b6 h => wpC_skip <| kpN [(1, .d (cI.enc (v1 - (v0.length : Int))))] (by kernel_rfl) <| xn <| wpC_seq <| reg_s <| st rfl <| mvd rfl rfl <| x_asg (ss rfl rfl) <| seqN [(4, .d (cI.enc (v1 - (v0.length : Int))))] (by kernel_rfl) <|
    xn <| wpC_ret <| re <| fin h (r1 (ss rfl rfl) <| r0) rfl)

def rs_laws_szCube (r : Int) : List D := [cI.enc r]
def m26 : MC := .seq (.reg [⟨some 2, .box (.t 0), none⟩,
    ⟨some 4, .asg (.c (.int .i64 0)), none⟩] [1, 2])
  (.seq (.reg [⟨some 5, .fa 2 0 0, none⟩,
    ⟨some 6, .ld 5 1 false, none⟩,
    ⟨some 7, .mv (.t 1), none⟩,
    ⟨some 8, .call 65 [(.t 6), (.t 7)], none⟩,
    ⟨some 1, .asg (.t 8), none⟩] [1, 2])
  (.seq (.kp [1, 2] (.seq (.reg [⟨some 9, .mv (.t 1), none⟩,
    ⟨some 10, .bin .lss (.t 9) (.c (.int .i64 0)), none⟩] [1, 2, 10])
  (.cond (.t 10) (.seq (.reg [⟨some 4, .asg (.c (.int .i64 (-1))), none⟩] [4])
  (.ret)) (.skip))))
  (.seq (.reg [⟨some 11, .fa 2 1 1, none⟩,
    ⟨some 12, .ld 11 1 false, none⟩,
    ⟨some 13, .mv (.t 1), none⟩,
    ⟨some 14, .call 65 [(.t 12), (.t 13)], none⟩,
    ⟨some 1, .asg (.t 14), none⟩] [1])
  (.seq (.kp [1] (.seq (.reg [⟨some 15, .mv (.t 1), none⟩,
    ⟨some 16, .bin .lss (.t 15) (.c (.int .i64 0)), none⟩] [1, 16])
  (.cond (.t 16) (.seq (.reg [⟨some 4, .asg (.c (.int .i64 (-1))), none⟩] [4])
  (.ret)) (.skip))))
  (.seq (.reg [⟨some 17, .mv (.t 1), none⟩,
    ⟨some 4, .asg (.t 17), none⟩] [4])
  (.ret))))))
theorem con_laws_szCube {v0 : XCube} {v1 : Int} {r : Int} (h : sh_laws_szCube v0 v1 = some r) : Con Try.prog 26 [(cXCube (cLs cI rfl) (cLs cI rfl)).enc v0, cI.enc v1] [] (rs_laws_szCube r) := by
  delta sh_laws_szCube at h
  refine top (out := none) (f := Try.f26) (m := m26) (rs := [.t 4]) (by kernel_rfl) rfl (by kernel_rfl) (by kernel_rfl) (by kernel_rfl) (by kernel_rfl) (by kernel_rfl) ?_
  exact
   ini [(0, .d ((cXCube (cLs cI rfl) (cLs cI rfl)).enc v0)), (1, .d (cI.enc v1))] rfl <| wpC_seq <| reg_s <| x_box (ss rfl rfl) <| x_asg (sc cI (0 : Int) rfl) <| seqN [(1, .d (cI.enc v1)), (2, .box ((cXCube (cLs cI rfl) (cLs cI rfl)).enc v0))] (by kernel_rfl) <|
    xn <| wpC_seq <| reg_s <| st rfl <| fab rfl rfl rfl rfl <| st rfl <| lda rfl rfl rfl rfl rfl rfl <| st rfl <| mvd rfl rfl <| bnd h fun x3 e4 h => st rfl <| o_call (a1 (c := (cLs cI rfl)) (tLs tK) rfl (a1 (c := cI) tK rfl a0)) (con_laws_szIntS e4) (.inl (so1 sK so0)) <| x_asg (ss rfl rfl) <| seqN [(1, .d (cI.enc x3)), (2, .box ((cXCube (cLs cI rfl) (cLs cI rfl)).enc v0))] (by kernel_rfl) <|
    xn <| wpC_seq <| wpC_kp <| wpC_seq <| reg_s <| st rfl <| mvd rfl rfl <| st rfl <| b_lss (k := .i64) rfl rfl <| seqN [(1, .d (cI.enc x3)), (2, .box ((cXCube (cLs cI rfl) (cLs cI rfl)).enc v0)), (10, .d (cB.enc (decide (x3 < (0 : Int)))))] (by kernel_rfl) <|
    xn <| cnd rfl h (fun b6 h => wpC_seq <| reg_s <| x_asg (sc cI (-1 : Int) rfl) <| seqN [(4, .d (cI.enc (-1 : Int)))] (by kernel_rfl) <|
    xn <| wpC_ret <| rt <| rt <| re <| fin h (r1 (ss rfl rfl) <| r0) rfl)
    (fun b6 h => wpC_skip <| kpN [(1, .d (cI.enc x3)), (2, .box ((cXCube (cLs cI rfl) (cLs cI rfl)).enc v0))] (by kernel_rfl) <| xn <| wpC_seq <| reg_s <| st rfl <| fab rfl rfl rfl rfl <| st rfl <| lda rfl rfl rfl rfl rfl rfl <| st rfl <| mvd rfl rfl <| bnd h fun x9 e10 h => st rfl <| o_call (a1 (c := (cLs cI rfl)) (tLs tK) rfl (a1 (c := cI) tK rfl a0)) (con_laws_szIntS e10) (.inl (so1 sK so0)) <| x_asg (ss rfl rfl) <| seqN [(1, .d (cI.enc x9))] (by kernel_rfl) <|
    xn <| wpC_seq <| wpC_kp <| wpC_seq <| reg_s <| st rfl <| mvd rfl rfl <| st rfl <| b_lss (k := .i64) rfl rfl <| seqN [(1, .d (cI.enc x9)), (16, .d (cB.enc (decide (x9 < (0 : Int)))))] (by kernel_rfl) <|
    xn <| cnd rfl h (fun b12 h => wpC_seq <| reg_s <| x_asg (sc cI (-1 : Int) rfl) <| seqN [(4, .d (cI.enc (-1 : Int)))] (by kernel_rfl) <|
    xn <| wpC_ret <| rt <| rt <| re <| fin h (r1 (ss rfl rfl) <| r0) rfl)
    (fun b12 h => wpC_skip <| kpN [(1, .d (cI.enc x9))] (by kernel_rfl) <| xn <| wpC_seq <| reg_s <| st rfl <| mvd rfl rfl <| x_asg (ss rfl rfl) <| seqN [(4, .d (cI.enc x9))] (by kernel_rfl) <|
    xn <| wpC_ret <| re <| fin h (r1 (ss rfl rfl) <| r0) rfl))

def rs_laws_toCube (r : XCube) : List D := [(cXCube (cLo cI) (cLo cI)).enc r]
def m28 : MC := .seq (.reg [⟨some 1, .box (.t 0), none⟩,
    ⟨some 2, .alloc (.agg [.slice true [], .slice true []]), none⟩] [1, 2])
  (.seq (.reg [⟨some 3, .alloc (.agg [.slice true [], .slice true []]), none⟩] [1, 2, 3])
  (.seq (.reg [⟨some 4, .fa 1 0 0, none⟩,
    ⟨some 5, .ld 4 1 false, none⟩,
    ⟨some 6, .call 16 [(.t 5)], none⟩,
    ⟨some 7, .fa 3 0 0, none⟩,
    ⟨none, .st 7 (.t 6) 1, none⟩] [1, 2, 3])
  (.seq (.reg [⟨some 8, .fa 1 1 1, none⟩,
    ⟨some 9, .ld 8 1 false, none⟩,
    ⟨some 10, .call 16 [(.t 9)], none⟩,
    ⟨some 11, .fa 3 1 1, none⟩,
    ⟨none, .st 11 (.t 10) 1, none⟩] [2, 3])
  (.seq (.reg [⟨some 12, .ld 3 2 true, none⟩,
    ⟨none, .st 2 (.t 12) 2, none⟩] [2])
  (.ret)))))
theorem con_laws_toCube {v0 : XCube} {r : XCube} (h : sh_laws_toCube v0 = some r) : Con Try.prog 28 [(cXCube (cLs cI rfl) (cLs cI rfl)).enc v0] [] (rs_laws_toCube r) := by
  delta sh_laws_toCube at h
  refine top (out := none) (f := Try.f28) (m := m28) (rs := [.c 2 2 true]) (by kernel_rfl) rfl (by kernel_rfl) (by kernel_rfl) (by kernel_rfl) (by kernel_rfl) (by kernel_rfl) ?_
  exact
   ini [(0, .d ((cXCube (cLs cI rfl) (cLs cI rfl)).enc v0))] rfl <| wpC_seq <| reg_s <| x_box (ss rfl rfl) <| x_all (cXCube (cLo cI) (cLo cI)) (⟨([] : List Int), ([] : List Int)⟩ : XCube) rfl <| seqN [(1, .box ((cXCube (cLs cI rfl) (cLs cI rfl)).enc v0)), (2, .box ((cXCube (cLo cI) (cLo cI)).enc (⟨([] : List Int), ([] : List Int)⟩ : XCube)))] (by kernel_rfl) <|
    xn <| wpC_seq <| reg_s <| x_all (cXCube (cLo cI) (cLo cI)) (⟨([] : List Int), ([] : List Int)⟩ : XCube) rfl <| seqN [(1, .box ((cXCube (cLs cI rfl) (cLs cI rfl)).enc v0)), (2, .box ((cXCube (cLo cI) (cLo cI)).enc (⟨([] : List Int), ([] : List Int)⟩ : XCube))), (3, .box ((cXCube (cLo cI) (cLo cI)).enc (⟨([] : List Int), ([] : List Int)⟩ : XCube)))] (by kernel_rfl) <|
    xn <| wpC_seq <| reg_s <| st rfl <| fab rfl rfl rfl rfl <| st rfl <| lda rfl rfl rfl rfl rfl rfl <| bnd h fun x3 e4 h => st rfl <| o_call (a1 (c := (cLs cI rfl)) (tLs tK) rfl a0) (con_laws_toIntS e4) (.inl (so1 (sLo sK) so0)) <| st rfl <| fab rfl rfl rfl rfl <| x_sta ((cXCube (cLo cI) (cLo cI)).enc (⟨x3, ([] : List Int)⟩ : XCube)) (so rfl rfl) rfl rfl (Ln.fld rfl rfl Ln.nil rfl) (Cd.h_sz (cLo cI) _) rfl <| seqN [(1, .box ((cXCube (cLs cI rfl) (cLs cI rfl)).enc v0)), (2, .box ((cXCube (cLo cI) (cLo cI)).enc (⟨([] : List Int), ([] : List Int)⟩ : XCube))), (3, .box ((cXCube (cLo cI) (cLo cI)).enc (⟨x3, ([] : List Int)⟩ : XCube)))] (by kernel_rfl) <|
    xn <| wpC_seq <| reg_s <| st rfl <| fab rfl rfl rfl rfl <| st rfl <| lda rfl rfl rfl rfl rfl rfl <| bnd h fun x7 e8 h => st rfl <| o_call (a1 (c := (cLs cI rfl)) (tLs tK) rfl a0) (con_laws_toIntS e8) (.inl (so1 (sLo sK) so0)) <| st rfl <| fab rfl rfl rfl rfl <| x_sta ((cXCube (cLo cI) (cLo cI)).enc (⟨x3, x7⟩ : XCube)) (so rfl rfl) rfl rfl (Ln.fld rfl rfl Ln.nil rfl) (Cd.h_sz (cLo cI) _) rfl <| seqN [(2, .box ((cXCube (cLo cI) (cLo cI)).enc (⟨([] : List Int), ([] : List Int)⟩ : XCube))), (3, .box ((cXCube (cLo cI) (cLo cI)).enc (⟨x3, x7⟩ : XCube)))] (by kernel_rfl) <|
    xn <| wpC_seq <| reg_s <| st rfl <| ldbo rfl rfl rfl rfl <| x_stb (sb rfl rfl) rfl (Cd.h_sz _ _) rfl <| seqN [(2, .box ((cXCube (cLo cI) (cLo cI)).enc (⟨x3, x7⟩ : XCube)))] (by kernel_rfl) <|
    xn <| wpC_ret <| re <| fin h (r2 rfl rfl rfl <| r0) rfl

def rs_laws_eqCube (r : Bool) : List D := [cB.enc r]
def m30 : MC := .seq (.reg [⟨some 2, .box (.t 0), none⟩,
    ⟨some 3, .box (.t 1), none⟩,
    ⟨some 4, .asg (.c (.bool false)), none⟩] [2, 3])
  (.seq (.kp [2, 3] (.seq (.reg [⟨some 5, .fa 2 0 0, none⟩,
    ⟨some 6, .ld 5 1 false, none⟩,
    ⟨some 7, .fa 3 0 0, none⟩,
    ⟨some 8, .ld 7 1 false, none⟩,
    ⟨some 9, .call 18 [(.t 6), (.t 8)], none⟩,
    ⟨some 10, .nt (.t 9), none⟩] [2, 3, 10])
  (.cond (.t 10) (.seq (.reg [⟨some 4, .asg (.c (.bool false)), none⟩] [4])
  (.ret)) (.skip))))
  (.seq (.kp [] (.seq (.reg [⟨some 11, .fa 2 1 1, none⟩,
    ⟨some 12, .ld 11 1 false, none⟩,
    ⟨some 13, .fa 3 1 1, none⟩,
    ⟨some 14, .ld 13 1 false, none⟩,
    ⟨some 15, .call 18 [(.t 12), (.t 14)], none⟩,
    ⟨some 16, .nt (.t 15), none⟩] [16])
  (.cond (.t 16) (.seq (.reg [⟨some 4, .asg (.c (.bool false)), none⟩] [4])
  (.ret)) (.skip))))
  (.seq (.reg [⟨some 4, .asg (.c (.bool true)), none⟩] [4])
  (.ret))))
theorem con_laws_eqCube {v0 : XCube} {v1 : XCube} {r : Bool} (h : sh_laws_eqCube v0 v1 = some r) : Con Try.prog 30 [(cXCube (cLs cI rfl) (cLs cI rfl)).enc v0, (cXCube (cLs cI rfl) (cLs cI rfl)).enc v1] [] (rs_laws_eqCube r) := by
  delta sh_laws_eqCube at h
  refine top (out := none) (f := Try.f30) (m := m30) (rs := [.t 4]) (by kernel_rfl) rfl (by kernel_rfl) (by kernel_rfl) (by kernel_rfl) (by kernel_rfl) (by kernel_rfl) ?_
  exact
   ini [(0, .d ((cXCube (cLs cI rfl) (cLs cI rfl)).enc v0)), (1, .d ((cXCube (cLs cI rfl) (cLs cI rfl)).enc v1))] rfl <| wpC_seq <| reg_s <| x_box (ss rfl rfl) <| x_box (ss rfl rfl) <| x_asg (sc cB false rfl) <| seqN [(2, .box ((cXCube (cLs cI rfl) (cLs cI rfl)).enc v0)), (3, .box ((cXCube (cLs cI rfl) (cLs cI rfl)).enc v1))] (by kernel_rfl) <|
    xn <| wpC_seq <| wpC_kp <| wpC_seq <| reg_s <| st rfl <| fab rfl rfl rfl rfl <| st rfl <| lda rfl rfl rfl rfl rfl rfl <| st rfl <| fab rfl rfl rfl rfl <| st rfl <| lda rfl rfl rfl rfl rfl rfl <| bnd h fun x8 e9 h => st rfl <| o_call (a1 (c := (cLs cI rfl)) (tLs tK) rfl (a1 (c := (cLs cI rfl)) (tLs tK) rfl a0)) (con_laws_eqIntS e9) (.inl (so1 sB so0)) <| st rfl <| o_nt rfl <| seqN [(2, .box ((cXCube (cLs cI rfl) (cLs cI rfl)).enc v0)), (3, .box ((cXCube (cLs cI rfl) (cLs cI rfl)).enc v1)), (10, .d (cB.enc (!x8)))] (by kernel_rfl) <|
    xn <| cnd rfl h (fun b10 h => wpC_seq <| reg_s <| x_asg (sc cB false rfl) <| seqN [(4, .d (cB.enc false))] (by kernel_rfl) <|
    xn <| wpC_ret <| rt <| rt <| re <| fin h (r1 (ss rfl rfl) <| r0) rfl)
    (fun b10 h => wpC_skip <| kpN [(2, .box ((cXCube (cLs cI rfl) (cLs cI rfl)).enc v0)), (3, .box ((cXCube (cLs cI rfl) (cLs cI rfl)).enc v1))] (by kernel_rfl) <| xn <| wpC_seq <| wpC_kp <| wpC_seq <| reg_s <| st rfl <| fab rfl rfl rfl rfl <| st rfl <| lda rfl rfl rfl rfl rfl rfl <| st rfl <| fab rfl rfl rfl rfl <| st rfl <| lda rfl rfl rfl rfl rfl rfl <| bnd h fun x18 e19 h => st rfl <| o_call (a1 (c := (cLs cI rfl)) (tLs tK) rfl (a1 (c := (cLs cI rfl)) (tLs tK) rfl a0)) (con_laws_eqIntS e19) (.inl (so1 sB so0)) <| st rfl <| o_nt rfl <| seqN [(16, .d (cB.enc (!x18)))] (by kernel_rfl) <|
    xn <| cnd rfl h (fun b20 h => wpC_seq <| reg_s <| x_asg (sc cB false rfl) <| seqN [(4, .d (cB.enc false))] (by kernel_rfl) <|
    xn <| wpC_ret <| rt <| rt <| re <| fin h (r1 (ss rfl rfl) <| r0) rfl)
    (fun b20 h => wpC_skip <| kpN [] (by kernel_rfl) <| xn <| wpC_seq <| reg_s <| x_asg (sc cB true rfl) <| seqN [(4, .d (cB.enc true))] (by kernel_rfl) <|
    xn <| wpC_ret <| re <| fin h (r1 (ss rfl rfl) <| r0) rfl))

def os_laws_markCube (r : (XCube × Int)) : D := (cXCube (cLo cI) (cLo cI)).enc r.1
def rs_laws_markCube (r : (XCube × Int)) : List D := [cI.enc r.2]
def m42 : MC := .seq (.reg [⟨some 2, .boxm 0, none⟩,
    ⟨some 4, .asg (.c (.int .i64 0)), none⟩] [0, 1, 2])
  (.seq (.reg [⟨some 5, .fa 2 0 0, none⟩,
    ⟨some 6, .ld 5 1 false, none⟩,
    ⟨some 7, .mv (.t 1), none⟩,
    ⟨some 8, .callO 19 [(.t 6), (.t 7)], none⟩,
    ⟨some 1, .asg (.t 8), none⟩] [0, 1, 2])
  (.seq (.reg [⟨some 9, .fa 2 1 1, none⟩,
    ⟨some 10, .ld 9 1 false, none⟩,
    ⟨some 11, .mv (.t 1), none⟩,
    ⟨some 12, .callO 19 [(.t 10), (.t 11)], none⟩,
    ⟨some 1, .asg (.t 12), none⟩] [0, 1])
  (.seq (.reg [⟨some 13, .mv (.t 1), none⟩,
    ⟨some 4, .asg (.t 13), none⟩] [0, 4])
  (.ret))))
theorem con_laws_markCube {v0 : XCube} {v1 : Int} {r : (XCube × Int)} (h : sh_laws_markCube v0 v1 = some r) : Con Try.prog 42 [(cXCube (cLo cI) (cLo cI)).enc v0, cI.enc v1] (outsOf (some (os_laws_markCube r))) (rs_laws_markCube r) := by
  delta sh_laws_markCube at h
  refine top (out := some (os_laws_markCube r)) (f := Try.f42) (m := m42) (rs := [.t 4]) (by kernel_rfl) rfl (by kernel_rfl) (by kernel_rfl) (by kernel_rfl) (by kernel_rfl) (by kernel_rfl) ?_
  exact
   ini [(0, .d ((cXCube (cLo cI) (cLo cI)).enc v0)), (1, .d (cI.enc v1))] rfl <| wpC_seq <| reg_s <| x_boxm rfl rfl <| x_asg (sc cI (0 : Int) rfl) <| seqN [(0, .d ((cXCube (cLo cI) (cLo cI)).enc v0)), (1, .d (cI.enc v1)), (2, .mad 0 [])] (by kernel_rfl) <|
    xn <| wpC_seq <| reg_s <| st rfl <| fam rfl rfl rfl rfl rfl rfl <| st rfl <| ldmo rfl rfl rfl rfl rfl rfl <| st rfl <| mvd rfl rfl <| bnd h fun x3 e4 h => x_clr (c := (cLo cI)) (c' := (cLo cI)) ((cXCube (cLo cI) (cLo cI)).enc (⟨x3.1, v0.Cells⟩ : XCube)) (sLo sK) rfl (a1 (c := cI) tK rfl a0) rfl (Ln.fld rfl rfl Ln.nil rfl) (con_laws_markIntS e4) rfl rfl (so1 sK so0) <| x_asg (ss rfl rfl) <| seqN [(0, .d ((cXCube (cLo cI) (cLo cI)).enc (⟨x3.1, v0.Cells⟩ : XCube))), (1, .d (cI.enc x3.2)), (2, .mad 0 [])] (by kernel_rfl) <|
    xn <| wpC_seq <| reg_s <| st rfl <| fam rfl rfl rfl rfl rfl rfl <| st rfl <| ldmo rfl rfl rfl rfl rfl rfl <| st rfl <| mvd rfl rfl <| bnd h fun x7 e8 h => x_clr (c := (cLo cI)) (c' := (cLo cI)) ((cXCube (cLo cI) (cLo cI)).enc (⟨x3.1, x7.1⟩ : XCube)) (sLo sK) rfl (a1 (c := cI) tK rfl a0) rfl (Ln.fld rfl rfl Ln.nil rfl) (con_laws_markIntS e8) rfl rfl (so1 sK so0) <| x_asg (ss rfl rfl) <| seqN [(0, .d ((cXCube (cLo cI) (cLo cI)).enc (⟨x3.1, x7.1⟩ : XCube))), (1, .d (cI.enc x7.2))] (by kernel_rfl) <|
    xn <| wpC_seq <| reg_s <| st rfl <| mvd rfl rfl <| x_asg (ss rfl rfl) <| seqN [(0, .d ((cXCube (cLo cI) (cLo cI)).enc (⟨x3.1, x7.1⟩ : XCube))), (4, .d (cI.enc x7.2))] (by kernel_rfl) <|
    xn <| wpC_ret <| re <| finO h (r1 (ss rfl rfl) <| r0) rfl rfl

def rs_laws_heldCube (r : Int) : List D := [cI.enc r]
def m45 : MC := .seq (.reg [⟨some 2, .box (.t 0), none⟩,
    ⟨some 4, .asg (.c (.int .i64 0)), none⟩] [1, 2])
  (.seq (.reg [⟨some 5, .fa 2 0 0, none⟩,
    ⟨some 6, .ld 5 1 false, none⟩,
    ⟨some 7, .mv (.t 1), none⟩,
    ⟨some 8, .call 20 [(.t 6), (.t 7)], none⟩,
    ⟨some 1, .asg (.t 8), none⟩] [1, 2])
  (.seq (.kp [1, 2] (.seq (.reg [⟨some 9, .mv (.t 1), none⟩,
    ⟨some 10, .bin .lss (.t 9) (.c (.int .i64 0)), none⟩] [1, 2, 10])
  (.cond (.t 10) (.seq (.reg [⟨some 4, .asg (.c (.int .i64 (-1))), none⟩] [4])
  (.ret)) (.skip))))
  (.seq (.reg [⟨some 11, .fa 2 1 1, none⟩,
    ⟨some 12, .ld 11 1 false, none⟩,
    ⟨some 13, .mv (.t 1), none⟩,
    ⟨some 14, .call 20 [(.t 12), (.t 13)], none⟩,
    ⟨some 1, .asg (.t 14), none⟩] [1])
  (.seq (.kp [1] (.seq (.reg [⟨some 15, .mv (.t 1), none⟩,
    ⟨some 16, .bin .lss (.t 15) (.c (.int .i64 0)), none⟩] [1, 16])
  (.cond (.t 16) (.seq (.reg [⟨some 4, .asg (.c (.int .i64 (-1))), none⟩] [4])
  (.ret)) (.skip))))
  (.seq (.reg [⟨some 17, .mv (.t 1), none⟩,
    ⟨some 4, .asg (.t 17), none⟩] [4])
  (.ret))))))
theorem con_laws_heldCube {v0 : XCube} {v1 : Int} {r : Int} (h : sh_laws_heldCube v0 v1 = some r) : Con Try.prog 45 [(cXCube (cLs cI rfl) (cLs cI rfl)).enc v0, cI.enc v1] [] (rs_laws_heldCube r) := by
  delta sh_laws_heldCube at h
  refine top (out := none) (f := Try.f45) (m := m45) (rs := [.t 4]) (by kernel_rfl) rfl (by kernel_rfl) (by kernel_rfl) (by kernel_rfl) (by kernel_rfl) (by kernel_rfl) ?_
  exact
   ini [(0, .d ((cXCube (cLs cI rfl) (cLs cI rfl)).enc v0)), (1, .d (cI.enc v1))] rfl <| wpC_seq <| reg_s <| x_box (ss rfl rfl) <| x_asg (sc cI (0 : Int) rfl) <| seqN [(1, .d (cI.enc v1)), (2, .box ((cXCube (cLs cI rfl) (cLs cI rfl)).enc v0))] (by kernel_rfl) <|
    xn <| wpC_seq <| reg_s <| st rfl <| fab rfl rfl rfl rfl <| st rfl <| lda rfl rfl rfl rfl rfl rfl <| st rfl <| mvd rfl rfl <| bnd h fun x3 e4 h => st rfl <| o_call (a1 (c := (cLs cI rfl)) (tLs tK) rfl (a1 (c := cI) tK rfl a0)) (con_laws_heldIntS e4) (.inl (so1 sK so0)) <| x_asg (ss rfl rfl) <| seqN [(1, .d (cI.enc x3)), (2, .box ((cXCube (cLs cI rfl) (cLs cI rfl)).enc v0))] (by kernel_rfl) <|
    xn <| wpC_seq <| wpC_kp <| wpC_seq <| reg_s <| st rfl <| mvd rfl rfl <| st rfl <| b_lss (k := .i64) rfl rfl <| seqN [(1, .d (cI.enc x3)), (2, .box ((cXCube (cLs cI rfl) (cLs cI rfl)).enc v0)), (10, .d (cB.enc (decide (x3 < (0 : Int)))))] (by kernel_rfl) <|
    xn <| cnd rfl h (fun b6 h => wpC_seq <| reg_s <| x_asg (sc cI (-1 : Int) rfl) <| seqN [(4, .d (cI.enc (-1 : Int)))] (by kernel_rfl) <|
    xn <| wpC_ret <| rt <| rt <| re <| fin h (r1 (ss rfl rfl) <| r0) rfl)
    (fun b6 h => wpC_skip <| kpN [(1, .d (cI.enc x3)), (2, .box ((cXCube (cLs cI rfl) (cLs cI rfl)).enc v0))] (by kernel_rfl) <| xn <| wpC_seq <| reg_s <| st rfl <| fab rfl rfl rfl rfl <| st rfl <| lda rfl rfl rfl rfl rfl rfl <| st rfl <| mvd rfl rfl <| bnd h fun x9 e10 h => st rfl <| o_call (a1 (c := (cLs cI rfl)) (tLs tK) rfl (a1 (c := cI) tK rfl a0)) (con_laws_heldIntS e10) (.inl (so1 sK so0)) <| x_asg (ss rfl rfl) <| seqN [(1, .d (cI.enc x9))] (by kernel_rfl) <|
    xn <| wpC_seq <| wpC_kp <| wpC_seq <| reg_s <| st rfl <| mvd rfl rfl <| st rfl <| b_lss (k := .i64) rfl rfl <| seqN [(1, .d (cI.enc x9)), (16, .d (cB.enc (decide (x9 < (0 : Int)))))] (by kernel_rfl) <|
    xn <| cnd rfl h (fun b12 h => wpC_seq <| reg_s <| x_asg (sc cI (-1 : Int) rfl) <| seqN [(4, .d (cI.enc (-1 : Int)))] (by kernel_rfl) <|
    xn <| wpC_ret <| rt <| rt <| re <| fin h (r1 (ss rfl rfl) <| r0) rfl)
    (fun b12 h => wpC_skip <| kpN [(1, .d (cI.enc x9))] (by kernel_rfl) <| xn <| wpC_seq <| reg_s <| st rfl <| mvd rfl rfl <| x_asg (ss rfl rfl) <| seqN [(4, .d (cI.enc x9))] (by kernel_rfl) <|
    xn <| wpC_ret <| re <| fin h (r1 (ss rfl rfl) <| r0) rfl))

def rs_spec_cbForm (r : Bool) : List D := [cB.enc r]
def m69 : MC := .seq (.reg [⟨some 1, .box (.t 0), none⟩,
    ⟨some 2, .asg (.c (.bool false)), none⟩] [1])
  (.seq (.reg [⟨some 4, .fa 1 0 0, none⟩,
    ⟨some 5, .ld 4 1 false, none⟩,
    ⟨some 6, .call 59 [(.t 5)], none⟩,
    ⟨some 3, .asg (.t 6), none⟩] [1, 3])
  (.seq (.reg [⟨some 7, .mv (.t 3), none⟩,
    ⟨some 8, .bin .gtr (.t 7) (.c (.int .i64 0)), none⟩,
    ⟨some 9, .mv (.t 8), none⟩,
    ⟨some 10, .fa 1 1 1, some (9, true)⟩,
    ⟨some 11, .ld 10 1 false, some (9, true)⟩,
    ⟨some 12, .len false (.t 11), some (9, true)⟩,
    ⟨some 13, .mv (.t 3), some (9, true)⟩,
    ⟨some 14, .bin .eql (.t 12) (.t 13), some (9, true)⟩,
    ⟨some 15, .pick (.t 9) (.t 14) (.c (.bool false)), none⟩,
    ⟨some 16, .mv (.t 15), none⟩,
    ⟨some 17, .fa 1 1 1, some (16, true)⟩,
    ⟨some 18, .ld 17 1 false, some (16, true)⟩,
    ⟨some 19, .call 54 [(.t 18), (.c (.int .i64 (-1000000))), (.c (.int .i64 1000000))], some (16, true)⟩,
    ⟨some 20, .pick (.t 16) (.t 19) (.c (.bool false)), none⟩,
    ⟨some 2, .asg (.t 20), none⟩] [2])
  (.ret)))
theorem con_spec_cbForm {v0 : XCube} {r : Bool} (h : sh_spec_cbForm v0 = some r) : Con Try.prog 69 [(cXCube (cLs cI rfl) (cLs cI rfl)).enc v0] [] (rs_spec_cbForm r) := by
  delta sh_spec_cbForm at h
  refine top (out := none) (f := Try.f69) (m := m69) (rs := [.t 2]) (by kernel_rfl) rfl (by kernel_rfl) (by kernel_rfl) (by kernel_rfl) (by kernel_rfl) (by kernel_rfl) ?_
  exact
   ini [(0, .d ((cXCube (cLs cI rfl) (cLs cI rfl)).enc v0))] rfl <| wpC_seq <| reg_s <| x_box (ss rfl rfl) <| x_asg (sc cB false rfl) <| seqN [(1, .box ((cXCube (cLs cI rfl) (cLs cI rfl)).enc v0))] (by kernel_rfl) <|
    xn <| wpC_seq <| reg_s <| st rfl <| fab rfl rfl rfl rfl <| st rfl <| lda rfl rfl rfl rfl rfl rfl <| bnd h fun x3 e4 h => st rfl <| o_call (a1 (c := (cLs cI rfl)) (tLs tK) rfl a0) (con_spec_cbCount e4) (.inl (so1 sK so0)) <| x_asg (ss rfl rfl) <| seqN [(1, .box ((cXCube (cLs cI rfl) (cLs cI rfl)).enc v0)), (3, .d (cI.enc x3))] (by kernel_rfl) <|
    xn <| wpC_seq <| reg_s <| st rfl <| mvd rfl rfl <| st rfl <| b_gtr (k := .i64) rfl rfl <| st rfl <| mvd rfl rfl <| ite_k h (fun b10 h => gt' rfl b10 <| st rfl <| fab rfl rfl rfl rfl <| gt' rfl b10 <| st rfl <| lda rfl rfl rfl rfl rfl rfl <| gt' rfl b10 <| stw rfl <| lens rfl fun l11 => gt' rfl b10 <| st rfl <| mvd rfl rfl <| gt' rfl b10 <| st rfl <| b_eql (k := .i64) rfl rfl <| st rfl <| pick1 rfl b10 (cd := cB) (v := (decide ((v0.Cells.length : Int) = x3))) rfl rfl <| st rfl <| mvd rfl rfl <| ite_k h (fun b12 h => gt' rfl b12 <| st rfl <| fab rfl rfl rfl rfl <| gt' rfl b12 <| st rfl <| lda rfl rfl rfl rfl rfl rfl <| gt' rfl b12 <| bnd h fun x13 e14 h => st rfl <| o_call (a1 (c := (cLs cI rfl)) (tLs tK) rfl (a1 (c := cI) tK rfl (a1 (c := cI) tK rfl a0))) (con_spec_l1All e14) (.inl (so1 sB so0)) <| st rfl <| pick1 rfl b12 (cd := cB) (v := x13) rfl rfl <| x_asg (ss rfl rfl) <| seqN [(2, .d (cB.enc x13))] (by kernel_rfl) <|
    xn <| wpC_ret <| re <| fin h (r1 (ss rfl rfl) <| r0) rfl)
    (fun b12 h => gf rfl b12 <| gf rfl b12 <| gf rfl b12 <| st rfl <| pick0 rfl b12 (cd := cB) (v := false) rfl rfl <| x_asg (ss rfl rfl) <| seqN [(2, .d (cB.enc false))] (by kernel_rfl) <|
    xn <| wpC_ret <| re <| fin h (r1 (ss rfl rfl) <| r0) rfl))
    (fun b10 h => gf rfl b10 <| gf rfl b10 <| gf rfl b10 <| gf rfl b10 <| gf rfl b10 <| st rfl <| pick0 rfl b10 (cd := cB) (v := false) rfl rfl <| st rfl <| mvd rfl rfl <| gf rfl rfl <| gf rfl rfl <| gf rfl rfl <| st rfl <| pick0 rfl rfl (cd := cB) (v := false) rfl rfl <| x_asg (ss rfl rfl) <| seqN [(2, .d (cB.enc false))] (by kernel_rfl) <|
    xn <| wpC_ret <| re <| fin h (r1 (ss rfl rfl) <| r0) rfl)

def rs_spec_cbBroken (r : Bool) : List D := [cB.enc r]
def m98 : MC := .seq (.reg [⟨some 2, .box (.t 0), none⟩,
    ⟨some 4, .asg (.c (.bool false)), none⟩] [1, 2])
  (.seq (.kp [] (.seq (.reg [⟨some 10, .fa 2 0 0, none⟩,
    ⟨some 11, .ld 10 1 false, none⟩,
    ⟨some 12, .mv (.t 1), none⟩,
    ⟨some 13, .call 60 [(.t 11), (.t 12)], none⟩,
    ⟨some 14, .len false (.t 13), none⟩,
    ⟨some 15, .mv (.c (.int .i64 0)), none⟩] [1, 2, 13, 14, 15])
  (.blk 0 (.loop (.seq (.reg [⟨some 16, .bin .lss (.t 15) (.t 14), none⟩] [1, 2, 13, 14, 15, 16])
  (.seq (.kp [1, 2, 13, 14, 15] (.cond (.t 16) (.skip) (.exit 0)))
  (.seq (.kp [1, 2, 13, 14, 15] (.blk 1 (.seq (.reg [⟨some 17, .mv (.t 15), none⟩,
    ⟨some 18, .ia 13 (.t 15) 1, none⟩,
    ⟨some 19, .ld 18 1 false, none⟩,
    ⟨some 5, .asg (.t 17), none⟩,
    ⟨some 6, .asg (.t 19), none⟩] [1, 2, 5, 6, 13, 14, 15])
  (.seq (.kp [1, 2, 5, 13, 14, 15] (.seq (.reg [⟨some 20, .mv (.t 6), none⟩,
    ⟨some 21, .fa 2 0 0, none⟩,
    ⟨some 22, .ld 21 1 false, none⟩,
    ⟨some 23, .mv (.t 5), none⟩,
    ⟨some 24, .ia 22 (.t 23) 1, none⟩,
    ⟨some 25, .ld 24 1 false, none⟩,
    ⟨some 26, .bin .neq (.t 20) (.t 25), none⟩] [1, 2, 5, 13, 14, 15, 26])
  (.cond (.t 26) (.exit 1) (.skip))))
  (.seq (.reg [⟨some 7, .asg (.c (.int .i64 0)), none⟩] [1, 2, 5, 7, 13, 14, 15])
  (.seq (.kp [1, 2, 7, 13, 14, 15] (.seq (.reg [⟨some 27, .fa 2 0 0, none⟩,
    ⟨some 28, .ld 27 1 false, none⟩,
    ⟨some 29, .mv (.t 1), none⟩,
    ⟨some 30, .mv (.t 5), none⟩,
    ⟨some 31, .call 61 [(.t 28), (.t 29), (.t 30)], none⟩,
    ⟨some 32, .len false (.t 31), none⟩,
    ⟨some 33, .mv (.c (.int .i64 0)), none⟩] [1, 2, 7, 13, 14, 15, 31, 32, 33])
  (.blk 2 (.loop (.seq (.reg [⟨some 34, .bin .lss (.t 33) (.t 32), none⟩] [1, 2, 7, 13, 14, 15, 31, 32, 33, 34])
  (.seq (.kp [1, 2, 7, 13, 14, 15, 31, 32, 33] (.cond (.t 34) (.skip) (.exit 2)))
  (.seq (.kp [1, 2, 7, 13, 14, 15, 31, 32, 33] (.blk 3 (.seq (.reg [⟨some 35, .ia 31 (.t 33) 1, none⟩,
    ⟨some 36, .ld 35 1 false, none⟩,
    ⟨some 9, .asg (.t 36), none⟩] [1, 2, 7, 9, 13, 14, 15, 31, 32, 33])
  (.reg [⟨some 37, .mv (.t 7), none⟩,
    ⟨some 38, .fa 2 1 1, none⟩,
    ⟨some 39, .ld 38 1 false, none⟩,
    ⟨some 40, .mv (.t 9), none⟩,
    ⟨some 41, .ia 39 (.t 40) 1, none⟩,
    ⟨some 42, .ld 41 1 false, none⟩,
    ⟨some 43, .bin .add (.t 37) (.t 42), none⟩,
    ⟨some 7, .asg (.t 43), none⟩] [1, 2, 7, 13, 14, 15, 31, 32, 33]))))
  (.reg [⟨some 44, .bin .add (.t 33) (.c (.int .i64 1)), none⟩,
    ⟨some 33, .mv (.t 44), none⟩] [1, 2, 7, 13, 14, 15, 31, 32, 33]))))))))
  (.seq (.reg [⟨some 45, .mv (.t 7), none⟩,
    ⟨some 46, .fa 2 1 1, none⟩,
    ⟨some 47, .ld 46 1 false, none⟩,
    ⟨some 48, .mv (.t 1), none⟩,
    ⟨some 49, .ia 47 (.t 48) 1, none⟩,
    ⟨some 50, .ld 49 1 false, none⟩,
    ⟨some 51, .bin .neq (.t 45) (.t 50), none⟩] [1, 2, 13, 14, 15, 51])
  (.cond (.t 51) (.seq (.reg [⟨some 4, .asg (.c (.bool true)), none⟩] [4])
  (.ret)) (.skip)))))))))
  (.reg [⟨some 52, .bin .add (.t 15) (.c (.int .i64 1)), none⟩,
    ⟨some 15, .mv (.t 52), none⟩] [1, 2, 13, 14, 15]))))))))
  (.seq (.reg [⟨some 4, .asg (.c (.bool false)), none⟩] [4])
  (.ret)))
theorem con_spec_cbBroken {v0 : XCube} {v1 : Int} {r : Bool} (h : sh_spec_cbBroken v0 v1 = some r) : Con Try.prog 98 [(cXCube (cLs cI rfl) (cLs cI rfl)).enc v0, cI.enc v1] [] (rs_spec_cbBroken r) := by
  delta sh_spec_cbBroken at h
  refine top (out := none) (f := Try.f98) (m := m98) (rs := [.t 4]) (by kernel_rfl) rfl (by kernel_rfl) (by kernel_rfl) (by kernel_rfl) (by kernel_rfl) (by kernel_rfl) ?_
  exact
   ini [(0, .d ((cXCube (cLs cI rfl) (cLs cI rfl)).enc v0)), (1, .d (cI.enc v1))] rfl <| wpC_seq <| reg_s <| x_box (ss rfl rfl) <| x_asg (sc cB false rfl) <| seqN [(1, .d (cI.enc v1)), (2, .box ((cXCube (cLs cI rfl) (cLs cI rfl)).enc v0))] (by kernel_rfl) <|
    xn <| wpC_seq <| wpC_kp <| wpC_seq <| reg_s <| st rfl <| fab rfl rfl rfl rfl <| st rfl <| lda rfl rfl rfl rfl rfl rfl <| st rfl <| mvd rfl rfl <| bnd h fun x406 e407 h => st rfl <| o_call (a1 (c := (cLs cI rfl)) (tLs tK) rfl (a1 (c := cI) tK rfl a0)) (con_spec_cbIndices e407) (.inl (so1 (sLo sK) so0)) <| stw rfl <| leno rfl fun l408 => st rfl <| mvc cI (0 : Int) rfl <| seqN [(1, .d (cI.enc v1)), (2, .box ((cXCube (cLs cI rfl) (cLs cI rfl)).enc v0)), (13, .d ((cLo cI).enc x406)), (14, .d (cI.enc (x406.length : Int))), (15, .d (cI.enc (0 : Int)))] (by kernel_rfl) <|
    xn <| wpC_blk <| lpR (fun (k410 : Nat) (s409 : Unit) => [(1, .d (cI.enc v1)), (2, .box ((cXCube (cLs cI rfl) (cLs cI rfl)).enc v0)), (13, .d ((cLo cI).enc x406)), (14, .d (cI.enc (x406.length : Int))), (15, .d (cI.enc (k410 : Int)))]) () rfl h
    (fun G610 s409 h => wpC_seq <| reg_s <| st rfl <| b_lss (k := .i64) rfl rfl <| seqN [(1, .d (cI.enc v1)), (2, .box ((cXCube (cLs cI rfl) (cLs cI rfl)).enc v0)), (13, .d ((cLo cI).enc x406)), (14, .d (cI.enc (x406.length : Int))), (15, .d (cI.enc (x406.length : Int))), (16, .d (cB.enc (decide ((x406.length : Int) < (x406.length : Int)))))] (by kernel_rfl) <|
    xn <| wpC_seq <| wpC_kp <| cnd0 rfl (dlf _) <| wpC_exit <| xt <| xt <| xt <| xb <| kpN [] (by kernel_rfl) <| xn <| wpC_seq <| reg_s <| x_asg (sc cB false rfl) <| seqN [(4, .d (cB.enc false))] (by kernel_rfl) <|
    xn <| wpC_ret <| re <| fin h (r1 (ss rfl rfl) <| r0) rfl)
    (fun G610 nx608 k410 s409 x411 hk412 hx413 hn609 h => wpC_seq <| reg_s <| st rfl <| b_lss (k := .i64) rfl rfl <| seqN [(1, .d (cI.enc v1)), (2, .box ((cXCube (cLs cI rfl) (cLs cI rfl)).enc v0)), (13, .d ((cLo cI).enc x406)), (14, .d (cI.enc (x406.length : Int))), (15, .d (cI.enc (k410 : Int))), (16, .d (cB.enc (decide ((k410 : Int) < (x406.length : Int)))))] (by kernel_rfl) <|
    xn <| wpC_seq <| wpC_kp <| cnd1 rfl (dlt hk412) <| wpC_skip <| kpN [(1, .d (cI.enc v1)), (2, .box ((cXCube (cLs cI rfl) (cLs cI rfl)).enc v0)), (13, .d ((cLo cI).enc x406)), (14, .d (cI.enc (x406.length : Int))), (15, .d (cI.enc (k410 : Int)))] (by kernel_rfl) <| xn <| wpC_seq <| wpC_kp <| wpC_blk <| wpC_seq <| reg_s <| st rfl <| mvd rfl rfl <| st rfl <| iao rfl rfl (Int.natCast_nonneg _) hx413 rfl <| st rfl <| lda rfl rfl (Gt.idx hx413 Gt.nil) rfl rfl rfl <| x_asg (ss rfl rfl) <| x_asg (ss rfl rfl) <| seqN [(1, .d (cI.enc v1)), (2, .box ((cXCube (cLs cI rfl) (cLs cI rfl)).enc v0)), (5, .d (cI.enc (k410 : Int))), (6, .d (cI.enc x411)), (13, .d ((cLo cI).enc x406)), (14, .d (cI.enc (x406.length : Int))), (15, .d (cI.enc (k410 : Int)))] (by kernel_rfl) <|
    xn <| wpC_seq <| wpC_kp <| wpC_seq <| reg_s <| st rfl <| mvd rfl rfl <| st rfl <| fab rfl rfl rfl rfl <| st rfl <| lda rfl rfl rfl rfl rfl rfl <| st rfl <| mvd rfl rfl <| getO_k h fun x718 i719 g720 h => st rfl <| ias rfl rfl i719 g720 rfl <| st rfl <| ldi rfl rfl rfl rfl <| st rfl <| b_neq (k := .i64) rfl rfl <| seqN [(1, .d (cI.enc v1)), (2, .box ((cXCube (cLs cI rfl) (cLs cI rfl)).enc v0)), (5, .d (cI.enc (k410 : Int))), (13, .d ((cLo cI).enc x406)), (14, .d (cI.enc (x406.length : Int))), (15, .d (cI.enc (k410 : Int))), (26, .d (cB.enc (decide (x411 ≠ x718))))] (by kernel_rfl) <|
    xn <| cnd rfl h (fun b721 h => wpC_exit <| xt <| xt <| xb <| kpN [(1, .d (cI.enc v1)), (2, .box ((cXCube (cLs cI rfl) (cLs cI rfl)).enc v0)), (13, .d ((cLo cI).enc x406)), (14, .d (cI.enc (x406.length : Int))), (15, .d (cI.enc (k410 : Int)))] (by kernel_rfl) <| xn <| reg_s <| st rfl <| b_inc rfl rfl l408 hk412 <| st rfl <| mvd rfl rfl <| seqN [(1, .d (cI.enc v1)), (2, .box ((cXCube (cLs cI rfl) (cLs cI rfl)).enc v0)), (13, .d ((cLo cI).enc x406)), (14, .d (cI.enc (x406.length : Int))), (15, .d (cI.enc ((k410 + 1 : Nat) : Int)))] (by kernel_rfl) <|
    xn <| hn609 () h)
    (fun b721 h => wpC_skip <| kpN [(1, .d (cI.enc v1)), (2, .box ((cXCube (cLs cI rfl) (cLs cI rfl)).enc v0)), (5, .d (cI.enc (k410 : Int))), (13, .d ((cLo cI).enc x406)), (14, .d (cI.enc (x406.length : Int))), (15, .d (cI.enc (k410 : Int)))] (by kernel_rfl) <| xn <| wpC_seq <| reg_s <| x_asg (sc cI (0 : Int) rfl) <| seqN [(1, .d (cI.enc v1)), (2, .box ((cXCube (cLs cI rfl) (cLs cI rfl)).enc v0)), (5, .d (cI.enc (k410 : Int))), (7, .d (cI.enc (0 : Int))), (13, .d ((cLo cI).enc x406)), (14, .d (cI.enc (x406.length : Int))), (15, .d (cI.enc (k410 : Int)))] (by kernel_rfl) <|
    xn <| wpC_seq <| wpC_kp <| wpC_seq <| reg_s <| st rfl <| fab rfl rfl rfl rfl <| st rfl <| lda rfl rfl rfl rfl rfl rfl <| st rfl <| mvd rfl rfl <| st rfl <| mvd rfl rfl <| bnd h fun x763 e764 h => st rfl <| o_call (a1 (c := (cLs cI rfl)) (tLs tK) rfl (a1 (c := cI) tK rfl (a1 (c := cI) tK rfl a0))) (con_spec_cbParts e764) (.inl (so1 (sLo sK) so0)) <| stw rfl <| leno rfl fun l765 => st rfl <| mvc cI (0 : Int) rfl <| seqN [(1, .d (cI.enc v1)), (2, .box ((cXCube (cLs cI rfl) (cLs cI rfl)).enc v0)), (7, .d (cI.enc (0 : Int))), (13, .d ((cLo cI).enc x406)), (14, .d (cI.enc (x406.length : Int))), (15, .d (cI.enc (k410 : Int))), (31, .d ((cLo cI).enc x763)), (32, .d (cI.enc (x763.length : Int))), (33, .d (cI.enc (0 : Int)))] (by kernel_rfl) <|
    xn <| wpC_blk <| lpR (fun (k767 : Nat) (s766 : Int) => [(1, .d (cI.enc v1)), (2, .box ((cXCube (cLs cI rfl) (cLs cI rfl)).enc v0)), (7, .d (cI.enc s766)), (13, .d ((cLo cI).enc x406)), (14, .d (cI.enc (x406.length : Int))), (15, .d (cI.enc (k410 : Int))), (31, .d ((cLo cI).enc x763)), (32, .d (cI.enc (x763.length : Int))), (33, .d (cI.enc (k767 : Int)))]) (0 : Int) rfl h
    (fun G789 s766 h => wpC_seq <| reg_s <| st rfl <| b_lss (k := .i64) rfl rfl <| seqN [(1, .d (cI.enc v1)), (2, .box ((cXCube (cLs cI rfl) (cLs cI rfl)).enc v0)), (7, .d (cI.enc s766)), (13, .d ((cLo cI).enc x406)), (14, .d (cI.enc (x406.length : Int))), (15, .d (cI.enc (k410 : Int))), (31, .d ((cLo cI).enc x763)), (32, .d (cI.enc (x763.length : Int))), (33, .d (cI.enc (x763.length : Int))), (34, .d (cB.enc (decide ((x763.length : Int) < (x763.length : Int)))))] (by kernel_rfl) <|
    xn <| wpC_seq <| wpC_kp <| cnd0 rfl (dlf _) <| wpC_exit <| xt <| xt <| xt <| xb <| kpN [(1, .d (cI.enc v1)), (2, .box ((cXCube (cLs cI rfl) (cLs cI rfl)).enc v0)), (7, .d (cI.enc s766)), (13, .d ((cLo cI).enc x406)), (14, .d (cI.enc (x406.length : Int))), (15, .d (cI.enc (k410 : Int)))] (by kernel_rfl) <| xn <| wpC_seq <| reg_s <| st rfl <| mvd rfl rfl <| st rfl <| fab rfl rfl rfl rfl <| st rfl <| lda rfl rfl rfl rfl rfl rfl <| st rfl <| mvd rfl rfl <| getO_k h fun x793 i794 g795 h => st rfl <| ias rfl rfl i794 g795 rfl <| st rfl <| ldi rfl rfl rfl rfl <| st rfl <| b_neq (k := .i64) rfl rfl <| seqN [(1, .d (cI.enc v1)), (2, .box ((cXCube (cLs cI rfl) (cLs cI rfl)).enc v0)), (13, .d ((cLo cI).enc x406)), (14, .d (cI.enc (x406.length : Int))), (15, .d (cI.enc (k410 : Int))), (51, .d (cB.enc (decide (s766 ≠ x793))))] (by kernel_rfl) <|
    xn <| cnd rfl h (fun b796 h => wpC_seq <| reg_s <| x_asg (sc cB true rfl) <| seqN [(4, .d (cB.enc true))] (by kernel_rfl) <|
    xn <| wpC_ret <| rb <| rt <| rt <| rt <| rb <| rt <| rt <| re <| fin h (r1 (ss rfl rfl) <| r0) rfl)
    (fun b796 h => wpC_skip <| xbb <| kpN [(1, .d (cI.enc v1)), (2, .box ((cXCube (cLs cI rfl) (cLs cI rfl)).enc v0)), (13, .d ((cLo cI).enc x406)), (14, .d (cI.enc (x406.length : Int))), (15, .d (cI.enc (k410 : Int)))] (by kernel_rfl) <| xn <| reg_s <| st rfl <| b_inc rfl rfl l408 hk412 <| st rfl <| mvd rfl rfl <| seqN [(1, .d (cI.enc v1)), (2, .box ((cXCube (cLs cI rfl) (cLs cI rfl)).enc v0)), (13, .d ((cLo cI).enc x406)), (14, .d (cI.enc (x406.length : Int))), (15, .d (cI.enc ((k410 + 1 : Nat) : Int)))] (by kernel_rfl) <|
    xn <| hn609 () h))
    (fun G789 nx787 k767 s766 x768 hk769 hx770 hn788 h => wpC_seq <| reg_s <| st rfl <| b_lss (k := .i64) rfl rfl <| seqN [(1, .d (cI.enc v1)), (2, .box ((cXCube (cLs cI rfl) (cLs cI rfl)).enc v0)), (7, .d (cI.enc s766)), (13, .d ((cLo cI).enc x406)), (14, .d (cI.enc (x406.length : Int))), (15, .d (cI.enc (k410 : Int))), (31, .d ((cLo cI).enc x763)), (32, .d (cI.enc (x763.length : Int))), (33, .d (cI.enc (k767 : Int))), (34, .d (cB.enc (decide ((k767 : Int) < (x763.length : Int)))))] (by kernel_rfl) <|
    xn <| wpC_seq <| wpC_kp <| cnd1 rfl (dlt hk769) <| wpC_skip <| kpN [(1, .d (cI.enc v1)), (2, .box ((cXCube (cLs cI rfl) (cLs cI rfl)).enc v0)), (7, .d (cI.enc s766)), (13, .d ((cLo cI).enc x406)), (14, .d (cI.enc (x406.length : Int))), (15, .d (cI.enc (k410 : Int))), (31, .d ((cLo cI).enc x763)), (32, .d (cI.enc (x763.length : Int))), (33, .d (cI.enc (k767 : Int)))] (by kernel_rfl) <| xn <| wpC_seq <| wpC_kp <| wpC_blk <| wpC_seq <| reg_s <| st rfl <| iao rfl rfl (Int.natCast_nonneg _) hx770 rfl <| st rfl <| lda rfl rfl (Gt.idx hx770 Gt.nil) rfl rfl rfl <| x_asg (ss rfl rfl) <| seqN [(1, .d (cI.enc v1)), (2, .box ((cXCube (cLs cI rfl) (cLs cI rfl)).enc v0)), (7, .d (cI.enc s766)), (9, .d (cI.enc x768)), (13, .d ((cLo cI).enc x406)), (14, .d (cI.enc (x406.length : Int))), (15, .d (cI.enc (k410 : Int))), (31, .d ((cLo cI).enc x763)), (32, .d (cI.enc (x763.length : Int))), (33, .d (cI.enc (k767 : Int)))] (by kernel_rfl) <|
    xn <| reg_s <| st rfl <| mvd rfl rfl <| st rfl <| fab rfl rfl rfl rfl <| st rfl <| lda rfl rfl rfl rfl rfl rfl <| st rfl <| mvd rfl rfl <| getO_k h fun x801 i802 g803 h => st rfl <| ias rfl rfl i802 g803 rfl <| st rfl <| ldi rfl rfl rfl rfl <| ckI_k h fun i804 h => st rfl <| b_add (k := .i64) rfl rfl i804 <| x_asg (ss rfl rfl) <| seqN [(1, .d (cI.enc v1)), (2, .box ((cXCube (cLs cI rfl) (cLs cI rfl)).enc v0)), (7, .d (cI.enc (s766 + x801))), (13, .d ((cLo cI).enc x406)), (14, .d (cI.enc (x406.length : Int))), (15, .d (cI.enc (k410 : Int))), (31, .d ((cLo cI).enc x763)), (32, .d (cI.enc (x763.length : Int))), (33, .d (cI.enc (k767 : Int)))] (by kernel_rfl) <|
    xbb <| kpN [(1, .d (cI.enc v1)), (2, .box ((cXCube (cLs cI rfl) (cLs cI rfl)).enc v0)), (7, .d (cI.enc (s766 + x801))), (13, .d ((cLo cI).enc x406)), (14, .d (cI.enc (x406.length : Int))), (15, .d (cI.enc (k410 : Int))), (31, .d ((cLo cI).enc x763)), (32, .d (cI.enc (x763.length : Int))), (33, .d (cI.enc (k767 : Int)))] (by kernel_rfl) <| xn <| reg_s <| st rfl <| b_inc rfl rfl l765 hk769 <| st rfl <| mvd rfl rfl <| seqN [(1, .d (cI.enc v1)), (2, .box ((cXCube (cLs cI rfl) (cLs cI rfl)).enc v0)), (7, .d (cI.enc (s766 + x801))), (13, .d ((cLo cI).enc x406)), (14, .d (cI.enc (x406.length : Int))), (15, .d (cI.enc (k410 : Int))), (31, .d ((cLo cI).enc x763)), (32, .d (cI.enc (x763.length : Int))), (33, .d (cI.enc ((k767 + 1 : Nat) : Int)))] (by kernel_rfl) <|
    xn <| hn788 (s766 + x801) h)))

def rs_spec_cbFirst (r : Int) : List D := [cI.enc r]
def m70 : MC := .seq (.reg [⟨some 1, .box (.t 0), none⟩,
    ⟨some 2, .asg (.c (.int .i64 0)), none⟩] [1])
  (.seq (.kp [1] (.seq (.reg [⟨some 4, .fa 1 1 1, none⟩,
    ⟨some 5, .ld 4 1 false, none⟩,
    ⟨some 6, .len false (.t 5), none⟩,
    ⟨some 7, .mv (.c (.int .i64 0)), none⟩] [1, 6, 7])
  (.blk 0 (.loop (.seq (.reg [⟨some 8, .bin .lss (.t 7) (.t 6), none⟩] [1, 6, 7, 8])
  (.seq (.kp [1, 6, 7] (.cond (.t 8) (.skip) (.exit 0)))
  (.seq (.kp [1, 6, 7] (.blk 1 (.seq (.reg [⟨some 9, .mv (.t 7), none⟩,
    ⟨some 3, .asg (.t 9), none⟩] [1, 3, 6, 7])
  (.seq (.reg [⟨some 10, .ld 1 2 true, none⟩,
    ⟨some 11, .mv (.t 3), none⟩,
    ⟨some 12, .call 98 [(.t 10), (.t 11)], none⟩] [1, 3, 6, 7, 12])
  (.cond (.t 12) (.seq (.reg [⟨some 13, .mv (.t 3), none⟩,
    ⟨some 2, .asg (.t 13), none⟩] [2])
  (.ret)) (.skip))))))
  (.reg [⟨some 14, .bin .add (.t 7) (.c (.int .i64 1)), none⟩,
    ⟨some 7, .mv (.t 14), none⟩] [1, 6, 7]))))))))
  (.seq (.reg [⟨some 15, .fa 1 1 1, none⟩,
    ⟨some 16, .ld 15 1 false, none⟩,
    ⟨some 17, .len false (.t 16), none⟩,
    ⟨some 2, .asg (.t 17), none⟩] [2])
  (.ret)))
theorem con_spec_cbFirst {v0 : XCube} {r : Int} (h : sh_spec_cbFirst v0 = some r) : Con Try.prog 70 [(cXCube (cLs cI rfl) (cLs cI rfl)).enc v0] [] (rs_spec_cbFirst r) := by
  delta sh_spec_cbFirst at h
  refine top (out := none) (f := Try.f70) (m := m70) (rs := [.t 2]) (by kernel_rfl) rfl (by kernel_rfl) (by kernel_rfl) (by kernel_rfl) (by kernel_rfl) (by kernel_rfl) ?_
  exact
   ini [(0, .d ((cXCube (cLs cI rfl) (cLs cI rfl)).enc v0))] rfl <| wpC_seq <| reg_s <| x_box (ss rfl rfl) <| x_asg (sc cI (0 : Int) rfl) <| seqN [(1, .box ((cXCube (cLs cI rfl) (cLs cI rfl)).enc v0))] (by kernel_rfl) <|
    xn <| wpC_seq <| wpC_kp <| wpC_seq <| reg_s <| st rfl <| fab rfl rfl rfl rfl <| st rfl <| lda rfl rfl rfl rfl rfl rfl <| stw rfl <| lens rfl fun l32 => st rfl <| mvc cI (0 : Int) rfl <| seqN [(1, .box ((cXCube (cLs cI rfl) (cLs cI rfl)).enc v0)), (6, .d (cI.enc (v0.Cells.length : Int))), (7, .d (cI.enc (0 : Int)))] (by kernel_rfl) <|
    xn <| wpC_blk <| lpR (fun (k34 : Nat) (s33 : Unit) => [(1, .box ((cXCube (cLs cI rfl) (cLs cI rfl)).enc v0)), (6, .d (cI.enc (v0.Cells.length : Int))), (7, .d (cI.enc (k34 : Int)))]) () rfl h
    (fun G50 s33 h => wpC_seq <| reg_s <| st rfl <| b_lss (k := .i64) rfl rfl <| seqN [(1, .box ((cXCube (cLs cI rfl) (cLs cI rfl)).enc v0)), (6, .d (cI.enc (v0.Cells.length : Int))), (7, .d (cI.enc (v0.Cells.length : Int))), (8, .d (cB.enc (decide ((v0.Cells.length : Int) < (v0.Cells.length : Int)))))] (by kernel_rfl) <|
    xn <| wpC_seq <| wpC_kp <| cnd0 rfl (dlf _) <| wpC_exit <| xt <| xt <| xt <| xb <| kpN [(1, .box ((cXCube (cLs cI rfl) (cLs cI rfl)).enc v0))] (by kernel_rfl) <| xn <| wpC_seq <| reg_s <| st rfl <| fab rfl rfl rfl rfl <| st rfl <| lda rfl rfl rfl rfl rfl rfl <| stw rfl <| lens rfl fun l52 => x_asg (ss rfl rfl) <| seqN [(2, .d (cI.enc (v0.Cells.length : Int)))] (by kernel_rfl) <|
    xn <| wpC_ret <| re <| fin h (r1 (ss rfl rfl) <| r0) rfl)
    (fun G50 nx48 k34 s33 x35 hk36 hx37 hn49 h => wpC_seq <| reg_s <| st rfl <| b_lss (k := .i64) rfl rfl <| seqN [(1, .box ((cXCube (cLs cI rfl) (cLs cI rfl)).enc v0)), (6, .d (cI.enc (v0.Cells.length : Int))), (7, .d (cI.enc (k34 : Int))), (8, .d (cB.enc (decide ((k34 : Int) < (v0.Cells.length : Int)))))] (by kernel_rfl) <|
    xn <| wpC_seq <| wpC_kp <| cnd1 rfl (dlt hk36) <| wpC_skip <| kpN [(1, .box ((cXCube (cLs cI rfl) (cLs cI rfl)).enc v0)), (6, .d (cI.enc (v0.Cells.length : Int))), (7, .d (cI.enc (k34 : Int)))] (by kernel_rfl) <| xn <| wpC_seq <| wpC_kp <| wpC_blk <| wpC_seq <| reg_s <| st rfl <| mvd rfl rfl <| x_asg (ss rfl rfl) <| seqN [(1, .box ((cXCube (cLs cI rfl) (cLs cI rfl)).enc v0)), (3, .d (cI.enc (k34 : Int))), (6, .d (cI.enc (v0.Cells.length : Int))), (7, .d (cI.enc (k34 : Int)))] (by kernel_rfl) <|
    xn <| wpC_seq <| reg_s <| st rfl <| ldb rfl rfl rfl rfl <| st rfl <| mvd rfl rfl <| bnd h fun x60 e61 h => st rfl <| o_call (a1 (c := (cXCube (cLs cI rfl) (cLs cI rfl))) (tXCube (tLs tK) (tLs tK)) rfl (a1 (c := cI) tK rfl a0)) (con_spec_cbBroken e61) (.inl (so1 sB so0)) <| seqN [(1, .box ((cXCube (cLs cI rfl) (cLs cI rfl)).enc v0)), (3, .d (cI.enc (k34 : Int))), (6, .d (cI.enc (v0.Cells.length : Int))), (7, .d (cI.enc (k34 : Int))), (12, .d (cB.enc x60))] (by kernel_rfl) <|
    xn <| cnd rfl h (fun b62 h => wpC_seq <| reg_s <| st rfl <| mvd rfl rfl <| x_asg (ss rfl rfl) <| seqN [(2, .d (cI.enc (k34 : Int)))] (by kernel_rfl) <|
    xn <| wpC_ret <| rb <| rt <| rt <| rt <| rb <| rt <| rt <| re <| fin h (r1 (ss rfl rfl) <| r0) rfl)
    (fun b62 h => wpC_skip <| xbb <| kpN [(1, .box ((cXCube (cLs cI rfl) (cLs cI rfl)).enc v0)), (6, .d (cI.enc (v0.Cells.length : Int))), (7, .d (cI.enc (k34 : Int)))] (by kernel_rfl) <| xn <| reg_s <| st rfl <| b_inc rfl rfl l32 hk36 <| st rfl <| mvd rfl rfl <| seqN [(1, .box ((cXCube (cLs cI rfl) (cLs cI rfl)).enc v0)), (6, .d (cI.enc (v0.Cells.length : Int))), (7, .d (cI.enc ((k34 + 1 : Nat) : Int)))] (by kernel_rfl) <|
    xn <| hn49 () h))

def rs_spec_cbGood (r : Bool) : List D := [cB.enc r]
def m66 : MC := .seq (.reg [⟨some 1, .box (.t 0), none⟩,
    ⟨some 2, .asg (.c (.bool false)), none⟩] [1])
  (.seq (.drw [⟨0, ⟨some 3, .ld 1 2 true, none⟩, [4, 5, 6, 7, 8, 9, 10, 11, 12]⟩,
    ⟨1, ⟨some 4, .call 69 [(.t 3)], none⟩, [5, 6, 7, 8, 9, 10, 11, 12]⟩,
    ⟨2, ⟨some 5, .mv (.t 4), none⟩, [6, 7, 8, 9, 10, 11, 12]⟩,
    ⟨3, ⟨some 6, .ld 1 2 true, some (5, true)⟩, [7, 8, 9, 10, 11, 12]⟩,
    ⟨4, ⟨some 7, .call 70 [(.t 6)], some (5, true)⟩, [8, 9, 10, 11, 12]⟩,
    ⟨5, ⟨some 8, .fa 1 1 1, some (5, true)⟩, [6, 7, 9, 10, 11, 12]⟩,
    ⟨6, ⟨some 9, .ld 8 1 false, some (5, true)⟩, [6, 7, 10, 11, 12]⟩,
    ⟨7, ⟨some 10, .len false (.t 9), some (5, true)⟩, [6, 7, 11, 12]⟩,
    ⟨8, ⟨some 11, .bin .eql (.t 7) (.t 10), some (5, true)⟩, [12]⟩,
    ⟨9, ⟨some 12, .pick (.t 5) (.t 11) (.c (.bool false)), none⟩, []⟩]
    [(10, ⟨some 2, .asg (.t 12), none⟩)] [2])
  (.ret))
theorem con_spec_cbGood {v0 : XCube} {r : Bool} (h : sh_spec_cbGood v0 = some r) : Con Try.prog 66 [(cXCube (cLs cI rfl) (cLs cI rfl)).enc v0] [] (rs_spec_cbGood r) := by
  delta sh_spec_cbGood at h
  refine top (out := none) (f := Try.f66) (m := m66) (rs := [.t 2]) (by kernel_rfl) rfl (by kernel_rfl) (by kernel_rfl) (by kernel_rfl) (by kernel_rfl) (by kernel_rfl) ?_
  exact
   ini [(0, .d ((cXCube (cLs cI rfl) (cLs cI rfl)).enc v0))] rfl <| wpC_seq <| reg_s <| x_box (ss rfl rfl) <| x_asg (sc cB false rfl) <| seqN [(1, .box ((cXCube (cLs cI rfl) (cLs cI rfl)).enc v0))] (by kernel_rfl) <|
    xn <| wpC_seq <| drw_s <| pst rfl <| ldb rfl rfl rfl rfl ⟨rfl, bndp h fun x7 e8 h => pst rfl <| o_call (a1 (c := (cXCube (cLs cI rfl) (cLs cI rfl))) (tXCube (tLs tK) (tLs tK)) rfl a0) (con_spec_cbForm e8) (.inl (so1 sB so0)) ⟨rfl, pst rfl <| mvd rfl rfl ⟨rfl, ite_kp h (fun b9 h => pgt rfl b9 <| pst rfl <| ldb rfl rfl rfl rfl ⟨rfl, pgt rfl b9 <| bndp h fun x10 e11 h => pst rfl <| o_call (a1 (c := (cXCube (cLs cI rfl) (cLs cI rfl))) (tXCube (tLs tK) (tLs tK)) rfl a0) (con_spec_cbFirst e11) (.inl (so1 sK so0)) ⟨rfl, pgt rfl b9 <| pst rfl <| fab rfl rfl rfl rfl ⟨rfl, pgt rfl b9 <| pst rfl <| lda rfl rfl rfl rfl rfl rfl ⟨rfl, pgt rfl b9 <| lmO_kp h fun l12 h => pst rfl <| plns rfl l12 ⟨rfl, pgt rfl b9 <| pst rfl <| b_eql (k := .i64) rfl rfl ⟨rfl, pst rfl <| pick1 rfl b9 (cd := cB) (v := (decide (x10 = (v0.Cells.length : Int)))) rfl rfl ⟨rfl, preN <| x_asg (ss rfl rfl) <| seqN [(2, .d (cB.enc (decide (x10 = (v0.Cells.length : Int)))))] (by kernel_rfl) <|
    xn <| wpC_ret <| re <| fin h (r1 (ss rfl rfl) <| r0) rfl⟩⟩⟩⟩⟩⟩⟩)
    (fun b9 h => pgf rfl rfl b9 <| pgf rfl rfl b9 <| pgf rfl rfl b9 <| pgf rfl rfl b9 <| pgf rfl rfl b9 <| pgf rfl rfl b9 <| pst rfl <| pick0 rfl b9 (cd := cB) (v := false) rfl rfl ⟨rfl, preN <| x_asg (ss rfl rfl) <| seqN [(2, .d (cB.enc false))] (by kernel_rfl) <|
    xn <| wpC_ret <| re <| fin h (r1 (ss rfl rfl) <| r0) rfl⟩)⟩⟩⟩

def rs_impl_areCubeValues (r : Bool) : List D := [cB.enc r]
def m92 : MC := .seq (.reg [⟨some 2, .asg (.c (.bool false)), none⟩] [0])
  (.seq (.kp [] (.seq (.reg [⟨some 5, .mv (.t 0), none⟩,
    ⟨some 6, .len false (.t 5), none⟩,
    ⟨some 7, .mv (.c (.int .i64 0)), none⟩] [0, 5, 6, 7])
  (.blk 0 (.loop (.seq (.reg [⟨some 8, .bin .lss (.t 7) (.t 6), none⟩] [0, 5, 6, 7, 8])
  (.seq (.kp [0, 5, 6, 7] (.cond (.t 8) (.skip) (.exit 0)))
  (.seq (.kp [0, 5, 6, 7] (.blk 1 (.seq (.reg [⟨some 9, .ia 5 (.t 7) 1, none⟩,
    ⟨some 10, .ld 9 1 false, none⟩,
    ⟨some 4, .asg (.t 10), none⟩] [0, 4, 5, 6, 7])
  (.seq (.reg [⟨some 11, .mv (.t 4), none⟩,
    ⟨some 12, .bin .lss (.t 11) (.c (.int .i64 (-1000000))), none⟩,
    ⟨some 13, .mv (.t 12), none⟩,
    ⟨some 14, .mv (.t 4), some (13, false)⟩,
    ⟨some 15, .bin .gtr (.t 14) (.c (.int .i64 1000000)), some (13, false)⟩,
    ⟨some 16, .pick (.t 13) (.c (.bool true)) (.t 15), none⟩] [0, 5, 6, 7, 16])
  (.cond (.t 16) (.seq (.reg [⟨some 2, .asg (.c (.bool false)), none⟩] [2])
  (.ret)) (.skip))))))
  (.reg [⟨some 17, .bin .add (.t 7) (.c (.int .i64 1)), none⟩,
    ⟨some 7, .mv (.t 17), none⟩] [0, 5, 6, 7]))))))))
  (.seq (.reg [⟨some 2, .asg (.c (.bool true)), none⟩] [2])
  (.ret)))
theorem con_impl_areCubeValues {v0 : (List Int)} {r : Bool} (h : sh_impl_areCubeValues v0 = some r) : Con Try.prog 92 [(cLs cI rfl).enc v0] [] (rs_impl_areCubeValues r) := by
  delta sh_impl_areCubeValues at h
  refine top (out := none) (f := Try.f92) (m := m92) (rs := [.t 2]) (by kernel_rfl) rfl (by kernel_rfl) (by kernel_rfl) (by kernel_rfl) (by kernel_rfl) (by kernel_rfl) ?_
  exact
   ini [(0, .d ((cLs cI rfl).enc v0))] rfl <| wpC_seq <| reg_s <| x_asg (sc cB false rfl) <| seqN [(0, .d ((cLs cI rfl).enc v0))] (by kernel_rfl) <|
    xn <| wpC_seq <| wpC_kp <| wpC_seq <| reg_s <| st rfl <| mvd rfl rfl <| stw rfl <| lens rfl fun l24 => st rfl <| mvc cI (0 : Int) rfl <| seqN [(0, .d ((cLs cI rfl).enc v0)), (5, .d ((cLs cI rfl).enc v0)), (6, .d (cI.enc (v0.length : Int))), (7, .d (cI.enc (0 : Int)))] (by kernel_rfl) <|
    xn <| wpC_blk <| lpR (fun (k26 : Nat) (s25 : Unit) => [(0, .d ((cLs cI rfl).enc v0)), (5, .d ((cLs cI rfl).enc v0)), (6, .d (cI.enc (v0.length : Int))), (7, .d (cI.enc (k26 : Int)))]) () rfl h
    (fun G38 s25 h => wpC_seq <| reg_s <| st rfl <| b_lss (k := .i64) rfl rfl <| seqN [(0, .d ((cLs cI rfl).enc v0)), (5, .d ((cLs cI rfl).enc v0)), (6, .d (cI.enc (v0.length : Int))), (7, .d (cI.enc (v0.length : Int))), (8, .d (cB.enc (decide ((v0.length : Int) < (v0.length : Int)))))] (by kernel_rfl) <|
    xn <| wpC_seq <| wpC_kp <| cnd0 rfl (dlf _) <| wpC_exit <| xt <| xt <| xt <| xb <| kpN [] (by kernel_rfl) <| xn <| wpC_seq <| reg_s <| x_asg (sc cB true rfl) <| seqN [(2, .d (cB.enc true))] (by kernel_rfl) <|
    xn <| wpC_ret <| re <| fin h (r1 (ss rfl rfl) <| r0) rfl)
    (fun G38 nx36 k26 s25 x27 hk28 hx29 hn37 h => wpC_seq <| reg_s <| st rfl <| b_lss (k := .i64) rfl rfl <| seqN [(0, .d ((cLs cI rfl).enc v0)), (5, .d ((cLs cI rfl).enc v0)), (6, .d (cI.enc (v0.length : Int))), (7, .d (cI.enc (k26 : Int))), (8, .d (cB.enc (decide ((k26 : Int) < (v0.length : Int)))))] (by kernel_rfl) <|
    xn <| wpC_seq <| wpC_kp <| cnd1 rfl (dlt hk28) <| wpC_skip <| kpN [(0, .d ((cLs cI rfl).enc v0)), (5, .d ((cLs cI rfl).enc v0)), (6, .d (cI.enc (v0.length : Int))), (7, .d (cI.enc (k26 : Int)))] (by kernel_rfl) <| xn <| wpC_seq <| wpC_kp <| wpC_blk <| wpC_seq <| reg_s <| st rfl <| ias rfl rfl (Int.natCast_nonneg _) hx29 rfl <| st rfl <| ldi rfl rfl rfl rfl <| x_asg (ss rfl rfl) <| seqN [(0, .d ((cLs cI rfl).enc v0)), (4, .d (cI.enc x27)), (5, .d ((cLs cI rfl).enc v0)), (6, .d (cI.enc (v0.length : Int))), (7, .d (cI.enc (k26 : Int)))] (by kernel_rfl) <|
    xn <| wpC_seq <| reg_s <| st rfl <| mvd rfl rfl <| st rfl <| b_lss (k := .i64) rfl rfl <| st rfl <| mvd rfl rfl <| ite_k h (fun b43 h => gf rfl b43 <| gf rfl b43 <| st rfl <| pick1 rfl b43 (cd := cB) (v := true) rfl rfl <| seqN [(0, .d ((cLs cI rfl).enc v0)), (5, .d ((cLs cI rfl).enc v0)), (6, .d (cI.enc (v0.length : Int))), (7, .d (cI.enc (k26 : Int))), (16, .d (cB.enc true))] (by kernel_rfl) <|
    xn <| cnd1 rfl rfl <| wpC_seq <| reg_s <| x_asg (sc cB false rfl) <| seqN [(2, .d (cB.enc false))] (by kernel_rfl) <|
    xn <| wpC_ret <| rb <| rt <| rt <| rt <| rb <| rt <| rt <| re <| fin h (r1 (ss rfl rfl) <| r0) rfl)
    (fun b43 h => gt' rfl b43 <| st rfl <| mvd rfl rfl <| gt' rfl b43 <| st rfl <| b_gtr (k := .i64) rfl rfl <| st rfl <| pick0 rfl b43 (cd := cB) (v := (decide ((1000000 : Int) < x27))) rfl rfl <| seqN [(0, .d ((cLs cI rfl).enc v0)), (5, .d ((cLs cI rfl).enc v0)), (6, .d (cI.enc (v0.length : Int))), (7, .d (cI.enc (k26 : Int))), (16, .d (cB.enc (decide ((1000000 : Int) < x27))))] (by kernel_rfl) <|
    xn <| cnd rfl h (fun b44 h => wpC_seq <| reg_s <| x_asg (sc cB false rfl) <| seqN [(2, .d (cB.enc false))] (by kernel_rfl) <|
    xn <| wpC_ret <| rb <| rt <| rt <| rt <| rb <| rt <| rt <| re <| fin h (r1 (ss rfl rfl) <| r0) rfl)
    (fun b44 h => wpC_skip <| xbb <| kpN [(0, .d ((cLs cI rfl).enc v0)), (5, .d ((cLs cI rfl).enc v0)), (6, .d (cI.enc (v0.length : Int))), (7, .d (cI.enc (k26 : Int)))] (by kernel_rfl) <| xn <| reg_s <| st rfl <| b_inc rfl rfl l24 hk28 <| st rfl <| mvd rfl rfl <| seqN [(0, .d ((cLs cI rfl).enc v0)), (5, .d ((cLs cI rfl).enc v0)), (6, .d (cI.enc (v0.length : Int))), (7, .d (cI.enc ((k26 + 1 : Nat) : Int)))] (by kernel_rfl) <|
    xn <| hn37 () h)))

def rs_impl_hasRightForm (r : Bool) : List D := [cB.enc r]
def m67 : MC := .seq (.reg [⟨some 1, .box (.t 0), none⟩,
    ⟨some 2, .asg (.c (.bool false)), none⟩] [1])
  (.seq (.reg [⟨some 4, .fa 1 0 0, none⟩,
    ⟨some 5, .ld 4 1 false, none⟩,
    ⟨some 6, .call 62 [(.t 5)], none⟩,
    ⟨some 3, .asg (.t 6), none⟩] [1, 3])
  (.seq (.reg [⟨some 7, .mv (.t 3), none⟩,
    ⟨some 8, .bin .gtr (.t 7) (.c (.int .i64 0)), none⟩,
    ⟨some 9, .mv (.t 8), none⟩,
    ⟨some 10, .fa 1 1 1, some (9, true)⟩,
    ⟨some 11, .ld 10 1 false, some (9, true)⟩,
    ⟨some 12, .len false (.t 11), some (9, true)⟩,
    ⟨some 13, .mv (.t 3), some (9, true)⟩,
    ⟨some 14, .bin .eql (.t 12) (.t 13), some (9, true)⟩,
    ⟨some 15, .pick (.t 9) (.t 14) (.c (.bool false)), none⟩,
    ⟨some 16, .mv (.t 15), none⟩,
    ⟨some 17, .fa 1 1 1, some (16, true)⟩,
    ⟨some 18, .ld 17 1 false, some (16, true)⟩,
    ⟨some 19, .call 92 [(.t 18)], some (16, true)⟩,
    ⟨some 20, .pick (.t 16) (.t 19) (.c (.bool false)), none⟩,
    ⟨some 2, .asg (.t 20), none⟩] [2])
  (.ret)))
theorem con_impl_hasRightForm {v0 : XCube} {r : Bool} (h : sh_impl_hasRightForm v0 = some r) : Con Try.prog 67 [(cXCube (cLs cI rfl) (cLs cI rfl)).enc v0] [] (rs_impl_hasRightForm r) := by
  delta sh_impl_hasRightForm at h
  refine top (out := none) (f := Try.f67) (m := m67) (rs := [.t 2]) (by kernel_rfl) rfl (by kernel_rfl) (by kernel_rfl) (by kernel_rfl) (by kernel_rfl) (by kernel_rfl) ?_
  exact
   ini [(0, .d ((cXCube (cLs cI rfl) (cLs cI rfl)).enc v0))] rfl <| wpC_seq <| reg_s <| x_box (ss rfl rfl) <| x_asg (sc cB false rfl) <| seqN [(1, .box ((cXCube (cLs cI rfl) (cLs cI rfl)).enc v0))] (by kernel_rfl) <|
    xn <| wpC_seq <| reg_s <| st rfl <| fab rfl rfl rfl rfl <| st rfl <| lda rfl rfl rfl rfl rfl rfl <| bnd h fun x3 e4 h => st rfl <| o_call (a1 (c := (cLs cI rfl)) (tLs tK) rfl a0) (con_impl_cubeCells e4) (.inl (so1 sK so0)) <| x_asg (ss rfl rfl) <| seqN [(1, .box ((cXCube (cLs cI rfl) (cLs cI rfl)).enc v0)), (3, .d (cI.enc x3))] (by kernel_rfl) <|
    xn <| wpC_seq <| reg_s <| st rfl <| mvd rfl rfl <| st rfl <| b_gtr (k := .i64) rfl rfl <| st rfl <| mvd rfl rfl <| ite_k h (fun b10 h => gt' rfl b10 <| st rfl <| fab rfl rfl rfl rfl <| gt' rfl b10 <| st rfl <| lda rfl rfl rfl rfl rfl rfl <| gt' rfl b10 <| stw rfl <| lens rfl fun l11 => gt' rfl b10 <| st rfl <| mvd rfl rfl <| gt' rfl b10 <| st rfl <| b_eql (k := .i64) rfl rfl <| st rfl <| pick1 rfl b10 (cd := cB) (v := (decide ((v0.Cells.length : Int) = x3))) rfl rfl <| st rfl <| mvd rfl rfl <| ite_k h (fun b12 h => gt' rfl b12 <| st rfl <| fab rfl rfl rfl rfl <| gt' rfl b12 <| st rfl <| lda rfl rfl rfl rfl rfl rfl <| gt' rfl b12 <| bnd h fun x13 e14 h => st rfl <| o_call (a1 (c := (cLs cI rfl)) (tLs tK) rfl a0) (con_impl_areCubeValues e14) (.inl (so1 sB so0)) <| st rfl <| pick1 rfl b12 (cd := cB) (v := x13) rfl rfl <| x_asg (ss rfl rfl) <| seqN [(2, .d (cB.enc x13))] (by kernel_rfl) <|
    xn <| wpC_ret <| re <| fin h (r1 (ss rfl rfl) <| r0) rfl)
    (fun b12 h => gf rfl b12 <| gf rfl b12 <| gf rfl b12 <| st rfl <| pick0 rfl b12 (cd := cB) (v := false) rfl rfl <| x_asg (ss rfl rfl) <| seqN [(2, .d (cB.enc false))] (by kernel_rfl) <|
    xn <| wpC_ret <| re <| fin h (r1 (ss rfl rfl) <| r0) rfl))
    (fun b10 h => gf rfl b10 <| gf rfl b10 <| gf rfl b10 <| gf rfl b10 <| gf rfl b10 <| st rfl <| pick0 rfl b10 (cd := cB) (v := false) rfl rfl <| st rfl <| mvd rfl rfl <| gf rfl rfl <| gf rfl rfl <| gf rfl rfl <| st rfl <| pick0 rfl rfl (cd := cB) (v := false) rfl rfl <| x_asg (ss rfl rfl) <| seqN [(2, .d (cB.enc false))] (by kernel_rfl) <|
    xn <| wpC_ret <| re <| fin h (r1 (ss rfl rfl) <| r0) rfl)

def rs_impl_firstBreak (r : Int) : List D := [cI.enc r]
def m68 : MC := .seq (.reg [⟨some 1, .box (.t 0), none⟩,
    ⟨some 2, .asg (.c (.int .i64 0)), none⟩] [1])
  (.seq (.reg [⟨some 10, .fa 1 0 0, none⟩,
    ⟨some 11, .ld 10 1 false, none⟩,
    ⟨some 12, .call 63 [(.t 11)], none⟩,
    ⟨some 3, .asg (.t 12), none⟩] [1, 3])
  (.seq (.kp [1] (.seq (.reg [⟨some 13, .fa 1 1 1, none⟩,
    ⟨some 14, .ld 13 1 false, none⟩,
    ⟨some 15, .len false (.t 14), none⟩,
    ⟨some 16, .mv (.c (.int .i64 0)), none⟩] [1, 3, 13, 14, 15, 16])
  (.blk 0 (.loop (.seq (.reg [⟨some 17, .bin .lss (.t 16) (.t 15), none⟩] [1, 3, 13, 14, 15, 16, 17])
  (.seq (.kp [1, 3, 13, 14, 15, 16] (.cond (.t 17) (.skip) (.exit 0)))
  (.seq (.kp [1, 3, 13, 14, 15, 16] (.blk 1 (.seq (.reg [⟨some 18, .mv (.t 16), none⟩,
    ⟨some 19, .ia 14 (.t 16) 1, none⟩,
    ⟨some 20, .ld 19 1 false, none⟩,
    ⟨some 4, .asg (.t 18), none⟩,
    ⟨some 5, .asg (.t 20), none⟩] [1, 3, 4, 5, 13, 14, 15, 16])
  (.seq (.reg [⟨some 21, .fa 1 0 0, none⟩,
    ⟨some 22, .ld 21 1 false, none⟩,
    ⟨some 23, .mv (.t 4), none⟩,
    ⟨some 24, .call 64 [(.t 22), (.t 23)], none⟩,
    ⟨some 25, .len false (.t 24), none⟩,
    ⟨some 26, .mv (.c (.int .i64 0)), none⟩] [1, 3, 4, 5, 13, 14, 15, 16, 24, 25, 26])
  (.blk 2 (.loop (.seq (.reg [⟨some 27, .bin .lss (.t 26) (.t 25), none⟩] [1, 3, 4, 5, 13, 14, 15, 16, 24, 25, 26, 27])
  (.seq (.kp [1, 3, 4, 5, 13, 14, 15, 16, 24, 25, 26] (.cond (.t 27) (.skip) (.exit 2)))
  (.seq (.kp [1, 3, 4, 5, 13, 14, 15, 16, 24, 25, 26] (.blk 3 (.seq (.reg [⟨some 28, .mv (.t 26), none⟩,
    ⟨some 29, .ia 24 (.t 26) 1, none⟩,
    ⟨some 30, .ld 29 1 false, none⟩,
    ⟨some 6, .asg (.t 28), none⟩,
    ⟨some 7, .asg (.t 30), none⟩] [1, 3, 4, 5, 6, 7, 13, 14, 15, 16, 24, 25, 26])
  (.seq (.kp [1, 3, 4, 5, 6, 7, 13, 14, 15, 16, 24, 25, 26] (.seq (.reg [⟨some 31, .mv (.t 7), none⟩,
    ⟨some 32, .fa 1 0 0, none⟩,
    ⟨some 33, .ld 32 1 false, none⟩,
    ⟨some 34, .mv (.t 6), none⟩,
    ⟨some 35, .ia 33 (.t 34) 1, none⟩,
    ⟨some 36, .ld 35 1 false, none⟩,
    ⟨some 37, .bin .neq (.t 31) (.t 36), none⟩] [1, 3, 4, 5, 6, 7, 13, 14, 15, 16, 24, 25, 26, 37])
  (.cond (.t 37) (.exit 3) (.skip))))
  (.seq (.reg [⟨some 8, .asg (.c (.int .i64 0)), none⟩] [1, 3, 4, 5, 6, 7, 8, 13, 14, 15, 16, 24, 25, 26])
  (.seq (.kp [1, 3, 4, 5, 8, 13, 14, 15, 16, 24, 25, 26] (.seq (.reg [⟨some 9, .asg (.c (.int .i64 1)), none⟩] [1, 3, 4, 5, 6, 7, 8, 9, 13, 14, 15, 16, 24, 25, 26])
  (.blk 4 (.loop (.seq (.kp [1, 3, 4, 5, 6, 7, 8, 9, 13, 14, 15, 16, 24, 25, 26] (.seq (.reg [⟨some 38, .mv (.t 9), none⟩,
    ⟨some 39, .mv (.t 7), none⟩,
    ⟨some 40, .bin .leq (.t 38) (.t 39), none⟩] [1, 3, 4, 5, 6, 7, 8, 9, 13, 14, 15, 16, 24, 25, 26, 40])
  (.cond (.t 40) (.skip) (.exit 4))))
  (.seq (.kp [1, 3, 4, 5, 6, 7, 8, 9, 13, 14, 15, 16, 24, 25, 26] (.blk 5 (.drw [⟨0, ⟨some 43, .mv (.t 8), none⟩, [44, 45, 46, 47, 48, 49, 50, 51, 52, 53, 54, 55, 56]⟩,
    ⟨1, ⟨some 44, .fa 1 1 1, none⟩, [43, 45, 46, 47, 48, 49, 50, 51, 52, 53, 54, 55, 56]⟩,
    ⟨2, ⟨some 45, .ld 44 1 false, none⟩, [43, 46, 47, 48, 49, 50, 51, 52, 53, 54, 55, 56]⟩,
    ⟨3, ⟨some 46, .mv (.t 4), none⟩, [43, 44, 45, 47, 48, 49, 50, 51, 52, 53, 54, 55, 56]⟩,
    ⟨4, ⟨some 47, .mv (.t 9), none⟩, [43, 44, 45, 46, 48, 49, 50, 51, 52, 53, 54, 55, 56]⟩,
    ⟨5, ⟨some 48, .mv (.t 3), none⟩, [43, 44, 45, 46, 47, 49, 50, 51, 52, 53, 54, 55, 56]⟩,
    ⟨6, ⟨some 49, .mv (.t 6), none⟩, [43, 44, 45, 46, 47, 48, 50, 51, 52, 53, 54, 55, 56]⟩,
    ⟨7, ⟨some 50, .ia 48 (.t 49) 1, none⟩, [43, 44, 45, 46, 47, 51, 52, 53, 54, 55, 56]⟩,
    ⟨8, ⟨some 51, .ld 50 1 false, none⟩, [43, 44, 45, 46, 47, 52, 53, 54, 55, 56]⟩,
    ⟨9, ⟨some 52, .bin .mul (.t 47) (.t 51), none⟩, [43, 44, 45, 46, 53, 54, 55, 56]⟩,
    ⟨10, ⟨some 53, .bin .sub (.t 46) (.t 52), none⟩, [43, 44, 45, 54, 55, 56]⟩,
    ⟨11, ⟨some 54, .ia 45 (.t 53) 1, none⟩, [43, 55, 56]⟩,
    ⟨12, ⟨some 55, .ld 54 1 false, none⟩, [43, 56]⟩,
    ⟨13, ⟨some 56, .bin .add (.t 43) (.t 55), none⟩, []⟩]
    [(14, ⟨some 8, .asg (.t 56), none⟩)] [1, 3, 4, 5, 6, 7, 8, 9, 13, 14, 15, 16, 24, 25, 26])))
  (.reg [⟨some 41, .mv (.t 9), none⟩,
    ⟨some 42, .bin .add (.t 41) (.c (.int .i64 1)), none⟩,
    ⟨some 9, .asg (.t 42), none⟩] [1, 3, 4, 5, 6, 7, 8, 9, 13, 14, 15, 16, 24, 25, 26])))))))
  (.seq (.reg [⟨some 57, .mv (.t 8), none⟩,
    ⟨some 58, .mv (.t 5), none⟩,
    ⟨some 59, .bin .neq (.t 57) (.t 58), none⟩] [1, 3, 4, 5, 13, 14, 15, 16, 24, 25, 26, 59])
  (.cond (.t 59) (.seq (.reg [⟨some 60, .mv (.t 4), none⟩,
    ⟨some 2, .asg (.t 60), none⟩] [2])
  (.ret)) (.skip)))))))))
  (.reg [⟨some 61, .bin .add (.t 26) (.c (.int .i64 1)), none⟩,
    ⟨some 26, .mv (.t 61), none⟩] [1, 3, 4, 5, 13, 14, 15, 16, 24, 25, 26]))))))))))
  (.reg [⟨some 62, .bin .add (.t 16) (.c (.int .i64 1)), none⟩,
    ⟨some 16, .mv (.t 62), none⟩] [1, 3, 13, 14, 15, 16]))))))))
  (.seq (.reg [⟨some 63, .fa 1 1 1, none⟩,
    ⟨some 64, .ld 63 1 false, none⟩,
    ⟨some 65, .len false (.t 64), none⟩,
    ⟨some 2, .asg (.t 65), none⟩] [2])
  (.ret))))
theorem con_impl_firstBreak {v0 : XCube} {r : Int} (h : sh_impl_firstBreak v0 = some r) : Con Try.prog 68 [(cXCube (cLs cI rfl) (cLs cI rfl)).enc v0] [] (rs_impl_firstBreak r) := by
  delta sh_impl_firstBreak at h
  refine top (out := none) (f := Try.f68) (m := m68) (rs := [.t 2]) (by kernel_rfl) rfl (by kernel_rfl) (by kernel_rfl) (by kernel_rfl) (by kernel_rfl) (by kernel_rfl) ?_
  exact
   ini [(0, .d ((cXCube (cLs cI rfl) (cLs cI rfl)).enc v0))] rfl <| wpC_seq <| reg_s <| x_box (ss rfl rfl) <| x_asg (sc cI (0 : Int) rfl) <| seqN [(1, .box ((cXCube (cLs cI rfl) (cLs cI rfl)).enc v0))] (by kernel_rfl) <|
    xn <| wpC_seq <| reg_s <| st rfl <| fab rfl rfl rfl rfl <| st rfl <| lda rfl rfl rfl rfl rfl rfl <| bnd h fun x3 e4 h => st rfl <| o_call (a1 (c := (cLs cI rfl)) (tLs tK) rfl a0) (con_impl_strides e4) (.inl (so1 (sLo sK) so0)) <| x_asg (so rfl rfl) <| seqN [(1, .box ((cXCube (cLs cI rfl) (cLs cI rfl)).enc v0)), (3, .d ((cLo cI).enc x3))] (by kernel_rfl) <|
    xn <| wpC_seq <| wpC_kp <| wpC_seq <| reg_s <| st rfl <| fab rfl rfl rfl rfl <| st rfl <| lda rfl rfl rfl rfl rfl rfl <| stw rfl <| lens rfl fun l2584 => st rfl <| mvc cI (0 : Int) rfl <| seqN [(1, .box ((cXCube (cLs cI rfl) (cLs cI rfl)).enc v0)), (3, .d ((cLo cI).enc x3)), (13, .adr 1 [.fld 1]), (14, .d ((cLs cI rfl).enc v0.Cells)), (15, .d (cI.enc (v0.Cells.length : Int))), (16, .d (cI.enc (0 : Int)))] (by kernel_rfl) <|
    xn <| wpC_blk <| lpR (fun (k2586 : Nat) (s2585 : Unit) => [(1, .box ((cXCube (cLs cI rfl) (cLs cI rfl)).enc v0)), (3, .d ((cLo cI).enc x3)), (13, .adr 1 [.fld 1]), (14, .d ((cLs cI rfl).enc v0.Cells)), (15, .d (cI.enc (v0.Cells.length : Int))), (16, .d (cI.enc (k2586 : Int)))]) () rfl h
    (fun G3876 s2585 h => wpC_seq <| reg_s <| st rfl <| b_lss (k := .i64) rfl rfl <| seqN [(1, .box ((cXCube (cLs cI rfl) (cLs cI rfl)).enc v0)), (3, .d ((cLo cI).enc x3)), (13, .adr 1 [.fld 1]), (14, .d ((cLs cI rfl).enc v0.Cells)), (15, .d (cI.enc (v0.Cells.length : Int))), (16, .d (cI.enc (v0.Cells.length : Int))), (17, .d (cB.enc (decide ((v0.Cells.length : Int) < (v0.Cells.length : Int)))))] (by kernel_rfl) <|
    xn <| wpC_seq <| wpC_kp <| cnd0 rfl (dlf _) <| wpC_exit <| xt <| xt <| xt <| xb <| kpN [(1, .box ((cXCube (cLs cI rfl) (cLs cI rfl)).enc v0))] (by kernel_rfl) <| xn <| wpC_seq <| reg_s <| st rfl <| fab rfl rfl rfl rfl <| st rfl <| lda rfl rfl rfl rfl rfl rfl <| stw rfl <| lens rfl fun l3878 => x_asg (ss rfl rfl) <| seqN [(2, .d (cI.enc (v0.Cells.length : Int)))] (by kernel_rfl) <|
    xn <| wpC_ret <| re <| fin h (r1 (ss rfl rfl) <| r0) rfl)
    (fun G3876 nx3874 k2586 s2585 x2587 hk2588 hx2589 hn3875 h => wpC_seq <| reg_s <| st rfl <| b_lss (k := .i64) rfl rfl <| seqN [(1, .box ((cXCube (cLs cI rfl) (cLs cI rfl)).enc v0)), (3, .d ((cLo cI).enc x3)), (13, .adr 1 [.fld 1]), (14, .d ((cLs cI rfl).enc v0.Cells)), (15, .d (cI.enc (v0.Cells.length : Int))), (16, .d (cI.enc (k2586 : Int))), (17, .d (cB.enc (decide ((k2586 : Int) < (v0.Cells.length : Int)))))] (by kernel_rfl) <|
    xn <| wpC_seq <| wpC_kp <| cnd1 rfl (dlt hk2588) <| wpC_skip <| kpN [(1, .box ((cXCube (cLs cI rfl) (cLs cI rfl)).enc v0)), (3, .d ((cLo cI).enc x3)), (13, .adr 1 [.fld 1]), (14, .d ((cLs cI rfl).enc v0.Cells)), (15, .d (cI.enc (v0.Cells.length : Int))), (16, .d (cI.enc (k2586 : Int)))] (by kernel_rfl) <| xn <| wpC_seq <| wpC_kp <| wpC_blk <| wpC_seq <| reg_s <| st rfl <| mvd rfl rfl <| st rfl <| ias rfl rfl (Int.natCast_nonneg _) hx2589 rfl <| st rfl <| ldi rfl rfl rfl rfl <| x_asg (ss rfl rfl) <| x_asg (ss rfl rfl) <| seqN [(1, .box ((cXCube (cLs cI rfl) (cLs cI rfl)).enc v0)), (3, .d ((cLo cI).enc x3)), (4, .d (cI.enc (k2586 : Int))), (5, .d (cI.enc x2587)), (13, .adr 1 [.fld 1]), (14, .d ((cLs cI rfl).enc v0.Cells)), (15, .d (cI.enc (v0.Cells.length : Int))), (16, .d (cI.enc (k2586 : Int)))] (by kernel_rfl) <|
    xn <| wpC_seq <| reg_s <| st rfl <| fab rfl rfl rfl rfl <| st rfl <| lda rfl rfl rfl rfl rfl rfl <| st rfl <| mvd rfl rfl <| bnd h fun x4524 e4525 h => st rfl <| o_call (a1 (c := (cLs cI rfl)) (tLs tK) rfl (a1 (c := cI) tK rfl a0)) (con_impl_indexOf e4525) (.inl (so1 (sLo sK) so0)) <| stw rfl <| leno rfl fun l4526 => st rfl <| mvc cI (0 : Int) rfl <| seqN [(1, .box ((cXCube (cLs cI rfl) (cLs cI rfl)).enc v0)), (3, .d ((cLo cI).enc x3)), (4, .d (cI.enc (k2586 : Int))), (5, .d (cI.enc x2587)), (13, .adr 1 [.fld 1]), (14, .d ((cLs cI rfl).enc v0.Cells)), (15, .d (cI.enc (v0.Cells.length : Int))), (16, .d (cI.enc (k2586 : Int))), (24, .d ((cLo cI).enc x4524)), (25, .d (cI.enc (x4524.length : Int))), (26, .d (cI.enc (0 : Int)))] (by kernel_rfl) <|
    xn <| wpC_blk <| lpR (fun (k4528 : Nat) (s4527 : Unit) => [(1, .box ((cXCube (cLs cI rfl) (cLs cI rfl)).enc v0)), (3, .d ((cLo cI).enc x3)), (4, .d (cI.enc (k2586 : Int))), (5, .d (cI.enc x2587)), (13, .adr 1 [.fld 1]), (14, .d ((cLs cI rfl).enc v0.Cells)), (15, .d (cI.enc (v0.Cells.length : Int))), (16, .d (cI.enc (k2586 : Int))), (24, .d ((cLo cI).enc x4524)), (25, .d (cI.enc (x4524.length : Int))), (26, .d (cI.enc (k4528 : Int)))]) () rfl h
    (fun G4848 s4527 h => wpC_seq <| reg_s <| st rfl <| b_lss (k := .i64) rfl rfl <| seqN [(1, .box ((cXCube (cLs cI rfl) (cLs cI rfl)).enc v0)), (3, .d ((cLo cI).enc x3)), (4, .d (cI.enc (k2586 : Int))), (5, .d (cI.enc x2587)), (13, .adr 1 [.fld 1]), (14, .d ((cLs cI rfl).enc v0.Cells)), (15, .d (cI.enc (v0.Cells.length : Int))), (16, .d (cI.enc (k2586 : Int))), (24, .d ((cLo cI).enc x4524)), (25, .d (cI.enc (x4524.length : Int))), (26, .d (cI.enc (x4524.length : Int))), (27, .d (cB.enc (decide ((x4524.length : Int) < (x4524.length : Int)))))] (by kernel_rfl) <|
    xn <| wpC_seq <| wpC_kp <| cnd0 rfl (dlf _) <| wpC_exit <| xt <| xt <| xt <| xb <| xbb <| kpN [(1, .box ((cXCube (cLs cI rfl) (cLs cI rfl)).enc v0)), (3, .d ((cLo cI).enc x3)), (13, .adr 1 [.fld 1]), (14, .d ((cLs cI rfl).enc v0.Cells)), (15, .d (cI.enc (v0.Cells.length : Int))), (16, .d (cI.enc (k2586 : Int)))] (by kernel_rfl) <| xn <| reg_s <| st rfl <| b_inc rfl rfl l2584 hk2588 <| st rfl <| mvd rfl rfl <| seqN [(1, .box ((cXCube (cLs cI rfl) (cLs cI rfl)).enc v0)), (3, .d ((cLo cI).enc x3)), (13, .adr 1 [.fld 1]), (14, .d ((cLs cI rfl).enc v0.Cells)), (15, .d (cI.enc (v0.Cells.length : Int))), (16, .d (cI.enc ((k2586 + 1 : Nat) : Int)))] (by kernel_rfl) <|
    xn <| hn3875 () h)
    (fun G4848 nx4846 k4528 s4527 x4529 hk4530 hx4531 hn4847 h => wpC_seq <| reg_s <| st rfl <| b_lss (k := .i64) rfl rfl <| seqN [(1, .box ((cXCube (cLs cI rfl) (cLs cI rfl)).enc v0)), (3, .d ((cLo cI).enc x3)), (4, .d (cI.enc (k2586 : Int))), (5, .d (cI.enc x2587)), (13, .adr 1 [.fld 1]), (14, .d ((cLs cI rfl).enc v0.Cells)), (15, .d (cI.enc (v0.Cells.length : Int))), (16, .d (cI.enc (k2586 : Int))), (24, .d ((cLo cI).enc x4524)), (25, .d (cI.enc (x4524.length : Int))), (26, .d (cI.enc (k4528 : Int))), (27, .d (cB.enc (decide ((k4528 : Int) < (x4524.length : Int)))))] (by kernel_rfl) <|
    xn <| wpC_seq <| wpC_kp <| cnd1 rfl (dlt hk4530) <| wpC_skip <| kpN [(1, .box ((cXCube (cLs cI rfl) (cLs cI rfl)).enc v0)), (3, .d ((cLo cI).enc x3)), (4, .d (cI.enc (k2586 : Int))), (5, .d (cI.enc x2587)), (13, .adr 1 [.fld 1]), (14, .d ((cLs cI rfl).enc v0.Cells)), (15, .d (cI.enc (v0.Cells.length : Int))), (16, .d (cI.enc (k2586 : Int))), (24, .d ((cLo cI).enc x4524)), (25, .d (cI.enc (x4524.length : Int))), (26, .d (cI.enc (k4528 : Int)))] (by kernel_rfl) <| xn <| wpC_seq <| wpC_kp <| wpC_blk <| wpC_seq <| reg_s <| st rfl <| mvd rfl rfl <| st rfl <| iao rfl rfl (Int.natCast_nonneg _) hx4531 rfl <| st rfl <| lda rfl rfl (Gt.idx hx4531 Gt.nil) rfl rfl rfl <| x_asg (ss rfl rfl) <| x_asg (ss rfl rfl) <| seqN [(1, .box ((cXCube (cLs cI rfl) (cLs cI rfl)).enc v0)), (3, .d ((cLo cI).enc x3)), (4, .d (cI.enc (k2586 : Int))), (5, .d (cI.enc x2587)), (6, .d (cI.enc (k4528 : Int))), (7, .d (cI.enc x4529)), (13, .adr 1 [.fld 1]), (14, .d ((cLs cI rfl).enc v0.Cells)), (15, .d (cI.enc (v0.Cells.length : Int))), (16, .d (cI.enc (k2586 : Int))), (24, .d ((cLo cI).enc x4524)), (25, .d (cI.enc (x4524.length : Int))), (26, .d (cI.enc (k4528 : Int)))] (by kernel_rfl) <|
    xn <| wpC_seq <| wpC_kp <| wpC_seq <| reg_s <| st rfl <| mvd rfl rfl <| st rfl <| fab rfl rfl rfl rfl <| st rfl <| lda rfl rfl rfl rfl rfl rfl <| st rfl <| mvd rfl rfl <| getO_k h fun x5016 i5017 g5018 h => st rfl <| ias rfl rfl i5017 g5018 rfl <| st rfl <| ldi rfl rfl rfl rfl <| st rfl <| b_neq (k := .i64) rfl rfl <| seqN [(1, .box ((cXCube (cLs cI rfl) (cLs cI rfl)).enc v0)), (3, .d ((cLo cI).enc x3)), (4, .d (cI.enc (k2586 : Int))), (5, .d (cI.enc x2587)), (6, .d (cI.enc (k4528 : Int))), (7, .d (cI.enc x4529)), (13, .adr 1 [.fld 1]), (14, .d ((cLs cI rfl).enc v0.Cells)), (15, .d (cI.enc (v0.Cells.length : Int))), (16, .d (cI.enc (k2586 : Int))), (24, .d ((cLo cI).enc x4524)), (25, .d (cI.enc (x4524.length : Int))), (26, .d (cI.enc (k4528 : Int))), (37, .d (cB.enc (decide (x4529 ≠ x5016))))] (by kernel_rfl) <|
    xn <| cnd rfl h (fun b5019 h => wpC_exit <| xt <| xt <| xb <| kpN [(1, .box ((cXCube (cLs cI rfl) (cLs cI rfl)).enc v0)), (3, .d ((cLo cI).enc x3)), (4, .d (cI.enc (k2586 : Int))), (5, .d (cI.enc x2587)), (13, .adr 1 [.fld 1]), (14, .d ((cLs cI rfl).enc v0.Cells)), (15, .d (cI.enc (v0.Cells.length : Int))), (16, .d (cI.enc (k2586 : Int))), (24, .d ((cLo cI).enc x4524)), (25, .d (cI.enc (x4524.length : Int))), (26, .d (cI.enc (k4528 : Int)))] (by kernel_rfl) <| xn <| reg_s <| st rfl <| b_inc rfl rfl l4526 hk4530 <| st rfl <| mvd rfl rfl <| seqN [(1, .box ((cXCube (cLs cI rfl) (cLs cI rfl)).enc v0)), (3, .d ((cLo cI).enc x3)), (4, .d (cI.enc (k2586 : Int))), (5, .d (cI.enc x2587)), (13, .adr 1 [.fld 1]), (14, .d ((cLs cI rfl).enc v0.Cells)), (15, .d (cI.enc (v0.Cells.length : Int))), (16, .d (cI.enc (k2586 : Int))), (24, .d ((cLo cI).enc x4524)), (25, .d (cI.enc (x4524.length : Int))), (26, .d (cI.enc ((k4528 + 1 : Nat) : Int)))] (by kernel_rfl) <|
    xn <| hn4847 () h)
    (fun b5019 h => wpC_skip <| kpN [(1, .box ((cXCube (cLs cI rfl) (cLs cI rfl)).enc v0)), (3, .d ((cLo cI).enc x3)), (4, .d (cI.enc (k2586 : Int))), (5, .d (cI.enc x2587)), (6, .d (cI.enc (k4528 : Int))), (7, .d (cI.enc x4529)), (13, .adr 1 [.fld 1]), (14, .d ((cLs cI rfl).enc v0.Cells)), (15, .d (cI.enc (v0.Cells.length : Int))), (16, .d (cI.enc (k2586 : Int))), (24, .d ((cLo cI).enc x4524)), (25, .d (cI.enc (x4524.length : Int))), (26, .d (cI.enc (k4528 : Int)))] (by kernel_rfl) <| xn <| wpC_seq <| reg_s <| x_asg (sc cI (0 : Int) rfl) <| seqN [(1, .box ((cXCube (cLs cI rfl) (cLs cI rfl)).enc v0)), (3, .d ((cLo cI).enc x3)), (4, .d (cI.enc (k2586 : Int))), (5, .d (cI.enc x2587)), (6, .d (cI.enc (k4528 : Int))), (7, .d (cI.enc x4529)), (8, .d (cI.enc (0 : Int))), (13, .adr 1 [.fld 1]), (14, .d ((cLs cI rfl).enc v0.Cells)), (15, .d (cI.enc (v0.Cells.length : Int))), (16, .d (cI.enc (k2586 : Int))), (24, .d ((cLo cI).enc x4524)), (25, .d (cI.enc (x4524.length : Int))), (26, .d (cI.enc (k4528 : Int)))] (by kernel_rfl) <|
    xn <| wpC_seq <| wpC_kp <| wpC_seq <| reg_s <| x_asg (sc cI (1 : Int) rfl) <| seqN [(1, .box ((cXCube (cLs cI rfl) (cLs cI rfl)).enc v0)), (3, .d ((cLo cI).enc x3)), (4, .d (cI.enc (k2586 : Int))), (5, .d (cI.enc x2587)), (6, .d (cI.enc (k4528 : Int))), (7, .d (cI.enc x4529)), (8, .d (cI.enc (0 : Int))), (9, .d (cI.enc (1 : Int))), (13, .adr 1 [.fld 1]), (14, .d ((cLs cI rfl).enc v0.Cells)), (15, .d (cI.enc (v0.Cells.length : Int))), (16, .d (cI.enc (k2586 : Int))), (24, .d ((cLo cI).enc x4524)), (25, .d (cI.enc (x4524.length : Int))), (26, .d (cI.enc (k4528 : Int)))] (by kernel_rfl) <|
    xn <| wpC_blk <| lpF (fun (s5091 : (Int × Int)) => [(1, .box ((cXCube (cLs cI rfl) (cLs cI rfl)).enc v0)), (3, .d ((cLo cI).enc x3)), (4, .d (cI.enc (k2586 : Int))), (5, .d (cI.enc x2587)), (6, .d (cI.enc (k4528 : Int))), (7, .d (cI.enc x4529)), (8, .d (cI.enc s5091.1)), (9, .d (cI.enc s5091.2)), (13, .adr 1 [.fld 1]), (14, .d ((cLs cI rfl).enc v0.Cells)), (15, .d (cI.enc (v0.Cells.length : Int))), (16, .d (cI.enc (k2586 : Int))), (24, .d ((cLo cI).enc x4524)), (25, .d (cI.enc (x4524.length : Int))), (26, .d (cI.enc (k4528 : Int)))]) ((0 : Int), (1 : Int)) rfl h
    fun G5140 nx5138 s5091 hn5139 h => wpC_seq <| wpC_kp <| wpC_seq <| reg_s <| st rfl <| mvd rfl rfl <| st rfl <| mvd rfl rfl <| st rfl <| b_leq (k := .i64) rfl rfl <| seqN [(1, .box ((cXCube (cLs cI rfl) (cLs cI rfl)).enc v0)), (3, .d ((cLo cI).enc x3)), (4, .d (cI.enc (k2586 : Int))), (5, .d (cI.enc x2587)), (6, .d (cI.enc (k4528 : Int))), (7, .d (cI.enc x4529)), (8, .d (cI.enc s5091.1)), (9, .d (cI.enc s5091.2)), (13, .adr 1 [.fld 1]), (14, .d ((cLs cI rfl).enc v0.Cells)), (15, .d (cI.enc (v0.Cells.length : Int))), (16, .d (cI.enc (k2586 : Int))), (24, .d ((cLo cI).enc x4524)), (25, .d (cI.enc (x4524.length : Int))), (26, .d (cI.enc (k4528 : Int))), (40, .d (cB.enc (decide (s5091.2 ≤ x4529))))] (by kernel_rfl) <|
    xn <| cnd rfl h (fun b5142 h => wpC_skip <| kpN [(1, .box ((cXCube (cLs cI rfl) (cLs cI rfl)).enc v0)), (3, .d ((cLo cI).enc x3)), (4, .d (cI.enc (k2586 : Int))), (5, .d (cI.enc x2587)), (6, .d (cI.enc (k4528 : Int))), (7, .d (cI.enc x4529)), (8, .d (cI.enc s5091.1)), (9, .d (cI.enc s5091.2)), (13, .adr 1 [.fld 1]), (14, .d ((cLs cI rfl).enc v0.Cells)), (15, .d (cI.enc (v0.Cells.length : Int))), (16, .d (cI.enc (k2586 : Int))), (24, .d ((cLo cI).enc x4524)), (25, .d (cI.enc (x4524.length : Int))), (26, .d (cI.enc (k4528 : Int)))] (by kernel_rfl) <| xn <| wpC_seq <| wpC_kp <| wpC_blk <| drw_s <| pst rfl <| mvd rfl rfl ⟨rfl, pst rfl <| fab rfl rfl rfl rfl ⟨rfl, pst rfl <| lda rfl rfl rfl rfl rfl rfl ⟨rfl, pst rfl <| mvd rfl rfl ⟨rfl, pst rfl <| mvd rfl rfl ⟨rfl, pst rfl <| mvo rfl rfl ⟨rfl, pst rfl <| mvd rfl rfl ⟨rfl, getO_kp h fun x5152 i5153 g5154 h => pst rfl <| iar rfl rfl rfl rfl i5153 g5154 rfl ⟨rfl, pst rfl <| lda rfl rfl (Gt.idx g5154 Gt.nil) rfl rfl rfl ⟨rfl, ckI_kp h fun i5155 h => pst rfl <| b_mul (k := .i64) rfl rfl i5155 ⟨rfl, ckI_kp h fun i5156 h => pst rfl <| b_sub (k := .i64) rfl rfl i5156 ⟨rfl, getO_kp h fun x5157 i5158 g5159 h => pst rfl <| ias rfl rfl i5158 g5159 rfl ⟨rfl, pst rfl <| ldi rfl rfl rfl rfl ⟨rfl, ckI_kp h fun i5160 h => pst rfl <| b_add (k := .i64) rfl rfl i5160 ⟨rfl, preN <| x_asg (ss rfl rfl) <| seqN [(1, .box ((cXCube (cLs cI rfl) (cLs cI rfl)).enc v0)), (3, .d ((cLo cI).enc x3)), (4, .d (cI.enc (k2586 : Int))), (5, .d (cI.enc x2587)), (6, .d (cI.enc (k4528 : Int))), (7, .d (cI.enc x4529)), (8, .d (cI.enc (s5091.1 + x5157))), (9, .d (cI.enc s5091.2)), (13, .adr 1 [.fld 1]), (14, .d ((cLs cI rfl).enc v0.Cells)), (15, .d (cI.enc (v0.Cells.length : Int))), (16, .d (cI.enc (k2586 : Int))), (24, .d ((cLo cI).enc x4524)), (25, .d (cI.enc (x4524.length : Int))), (26, .d (cI.enc (k4528 : Int)))] (by kernel_rfl) <|
    xbb <| kpN [(1, .box ((cXCube (cLs cI rfl) (cLs cI rfl)).enc v0)), (3, .d ((cLo cI).enc x3)), (4, .d (cI.enc (k2586 : Int))), (5, .d (cI.enc x2587)), (6, .d (cI.enc (k4528 : Int))), (7, .d (cI.enc x4529)), (8, .d (cI.enc (s5091.1 + x5157))), (9, .d (cI.enc s5091.2)), (13, .adr 1 [.fld 1]), (14, .d ((cLs cI rfl).enc v0.Cells)), (15, .d (cI.enc (v0.Cells.length : Int))), (16, .d (cI.enc (k2586 : Int))), (24, .d ((cLo cI).enc x4524)), (25, .d (cI.enc (x4524.length : Int))), (26, .d (cI.enc (k4528 : Int)))] (by kernel_rfl) <| xn <| reg_s <| st rfl <| mvd rfl rfl <| ckI_k h fun i5161 h => st rfl <| b_add (k := .i64) rfl rfl i5161 <| x_asg (ss rfl rfl) <| seqN [(1, .box ((cXCube (cLs cI rfl) (cLs cI rfl)).enc v0)), (3, .d ((cLo cI).enc x3)), (4, .d (cI.enc (k2586 : Int))), (5, .d (cI.enc x2587)), (6, .d (cI.enc (k4528 : Int))), (7, .d (cI.enc x4529)), (8, .d (cI.enc (s5091.1 + x5157))), (9, .d (cI.enc (s5091.2 + (1 : Int)))), (13, .adr 1 [.fld 1]), (14, .d ((cLs cI rfl).enc v0.Cells)), (15, .d (cI.enc (v0.Cells.length : Int))), (16, .d (cI.enc (k2586 : Int))), (24, .d ((cLo cI).enc x4524)), (25, .d (cI.enc (x4524.length : Int))), (26, .d (cI.enc (k4528 : Int)))] (by kernel_rfl) <|
    xn <| hn5139 ((s5091.1 + x5157), (s5091.2 + (1 : Int))) h⟩⟩⟩⟩⟩⟩⟩⟩⟩⟩⟩⟩⟩⟩)
    (fun b5142 h => wpC_exit <| xt <| xt <| xt <| xb <| kpN [(1, .box ((cXCube (cLs cI rfl) (cLs cI rfl)).enc v0)), (3, .d ((cLo cI).enc x3)), (4, .d (cI.enc (k2586 : Int))), (5, .d (cI.enc x2587)), (8, .d (cI.enc s5091.1)), (13, .adr 1 [.fld 1]), (14, .d ((cLs cI rfl).enc v0.Cells)), (15, .d (cI.enc (v0.Cells.length : Int))), (16, .d (cI.enc (k2586 : Int))), (24, .d ((cLo cI).enc x4524)), (25, .d (cI.enc (x4524.length : Int))), (26, .d (cI.enc (k4528 : Int)))] (by kernel_rfl) <| xn <| wpC_seq <| reg_s <| st rfl <| mvd rfl rfl <| st rfl <| mvd rfl rfl <| st rfl <| b_neq (k := .i64) rfl rfl <| seqN [(1, .box ((cXCube (cLs cI rfl) (cLs cI rfl)).enc v0)), (3, .d ((cLo cI).enc x3)), (4, .d (cI.enc (k2586 : Int))), (5, .d (cI.enc x2587)), (13, .adr 1 [.fld 1]), (14, .d ((cLs cI rfl).enc v0.Cells)), (15, .d (cI.enc (v0.Cells.length : Int))), (16, .d (cI.enc (k2586 : Int))), (24, .d ((cLo cI).enc x4524)), (25, .d (cI.enc (x4524.length : Int))), (26, .d (cI.enc (k4528 : Int))), (59, .d (cB.enc (decide (s5091.1 ≠ x2587))))] (by kernel_rfl) <|
    xn <| cnd rfl h (fun b5162 h => wpC_seq <| reg_s <| st rfl <| mvd rfl rfl <| x_asg (ss rfl rfl) <| seqN [(2, .d (cI.enc (k2586 : Int)))] (by kernel_rfl) <|
    xn <| wpC_ret <| rb <| rt <| rt <| rt <| rb <| rb <| rt <| rt <| rt <| rb <| rt <| rt <| re <| fin h (r1 (ss rfl rfl) <| r0) rfl)
    (fun b5162 h => wpC_skip <| xbb <| kpN [(1, .box ((cXCube (cLs cI rfl) (cLs cI rfl)).enc v0)), (3, .d ((cLo cI).enc x3)), (4, .d (cI.enc (k2586 : Int))), (5, .d (cI.enc x2587)), (13, .adr 1 [.fld 1]), (14, .d ((cLs cI rfl).enc v0.Cells)), (15, .d (cI.enc (v0.Cells.length : Int))), (16, .d (cI.enc (k2586 : Int))), (24, .d ((cLo cI).enc x4524)), (25, .d (cI.enc (x4524.length : Int))), (26, .d (cI.enc (k4528 : Int)))] (by kernel_rfl) <| xn <| reg_s <| st rfl <| b_inc rfl rfl l4526 hk4530 <| st rfl <| mvd rfl rfl <| seqN [(1, .box ((cXCube (cLs cI rfl) (cLs cI rfl)).enc v0)), (3, .d ((cLo cI).enc x3)), (4, .d (cI.enc (k2586 : Int))), (5, .d (cI.enc x2587)), (13, .adr 1 [.fld 1]), (14, .d ((cLs cI rfl).enc v0.Cells)), (15, .d (cI.enc (v0.Cells.length : Int))), (16, .d (cI.enc (k2586 : Int))), (24, .d ((cLo cI).enc x4524)), (25, .d (cI.enc (x4524.length : Int))), (26, .d (cI.enc ((k4528 + 1 : Nat) : Int)))] (by kernel_rfl) <|
    xn <| hn4847 () h)))))
end AS.W
