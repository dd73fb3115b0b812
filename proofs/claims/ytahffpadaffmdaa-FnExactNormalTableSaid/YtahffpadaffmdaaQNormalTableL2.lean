/- The program computes the plain functions. No condition. -/
import Derived.Test.YtahffpadaffmdaaQNormalTableS
import Derived.Test.YtahffpadaffmdaaProg
import Derived.Test.YtahffpadaffmdaaQNormalTableL1
set_option maxRecDepth 100000
set_option linter.unusedVariables false
set_option linter.unusedSimpArgs false
namespace AS.W
open Go Go.Proofs
def rs_laws_heldIntS (r : Int) : List D := [cI.enc r]
def m47 : MC := .seq (.reg [⟨some 4, .asg (.c (.int .i64 0)), none⟩] [0, 1])
  (.seq (.kp [1] (.seq (.reg [⟨some 5, .asg (.c (.int .i64 0)), none⟩] [0, 1, 5])
  (.blk 0 (.loop (.seq (.kp [0, 1, 5] (.seq (.reg [⟨some 6, .mv (.t 5), none⟩,
    ⟨some 7, .mv (.t 0), none⟩,
    ⟨some 8, .len false (.t 7), none⟩,
    ⟨some 9, .bin .lss (.t 6) (.t 8), none⟩] [0, 1, 5, 9])
  (.cond (.t 9) (.skip) (.exit 0))))
  (.seq (.kp [0, 1, 5] (.blk 1 (.seq (.kp [0, 1, 5] (.seq (.reg [⟨some 12, .mv (.t 0), none⟩,
    ⟨some 13, .mv (.t 5), none⟩,
    ⟨some 14, .ia 12 (.t 13) 1, none⟩,
    ⟨some 15, .ld 14 1 false, none⟩,
    ⟨some 16, .mv (.t 1), none⟩,
    ⟨some 17, .bin .neq (.t 15) (.t 16), none⟩] [0, 1, 5, 17])
  (.cond (.t 17) (.seq (.reg [⟨some 4, .asg (.c (.int .i64 (-1))), none⟩] [4])
  (.ret)) (.skip))))
  (.reg [⟨some 18, .mv (.t 1), none⟩,
    ⟨some 19, .bin .add (.t 18) (.c (.int .i64 1)), none⟩,
    ⟨some 1, .asg (.t 19), none⟩] [0, 1, 5]))))
  (.reg [⟨some 10, .mv (.t 5), none⟩,
    ⟨some 11, .bin .add (.t 10) (.c (.int .i64 1)), none⟩,
    ⟨some 5, .asg (.t 11), none⟩] [0, 1, 5])))))))
  (.seq (.reg [⟨some 20, .mv (.t 1), none⟩,
    ⟨some 4, .asg (.t 20), none⟩] [4])
  (.ret)))
theorem con_laws_heldIntS {v0 : (List Int)} {v1 : Int} {r : Int} (h : sh_laws_heldIntS v0 v1 = some r) : Con Try.prog 47 [(cLs cI rfl).enc v0, cI.enc v1] [] (rs_laws_heldIntS r) := by
  delta sh_laws_heldIntS at h
  refine top (out := none) (f := Try.f47) (m := m47) (rs := [.t 4]) (by kernel_rfl) rfl (by kernel_rfl) (by kernel_rfl) (by kernel_rfl) (by kernel_rfl) (by kernel_rfl) ?_
  exact
   ini [(0, .d ((cLs cI rfl).enc v0)), (1, .d (cI.enc v1))] rfl <| wpC_seq <| reg_s <| x_asg (sc cI (0 : Int) rfl) <| seqN [(0, .d ((cLs cI rfl).enc v0)), (1, .d (cI.enc v1))] (by kernel_rfl) <|
    xn <| wpC_seq <| wpC_kp <| wpC_seq <| reg_s <| x_asg (sc cI (0 : Int) rfl) <| seqN [(0, .d ((cLs cI rfl).enc v0)), (1, .d (cI.enc v1)), (5, .d (cI.enc (0 : Int)))] (by kernel_rfl) <|
    xn <| wpC_blk <| lpF (fun (s120 : (Int × Int)) => [(0, .d ((cLs cI rfl).enc v0)), (1, .d (cI.enc s120.1)), (5, .d (cI.enc s120.2))]) (v1, (0 : Int)) rfl h
    fun G201 nx199 s120 hn200 h => wpC_seq <| wpC_kp <| wpC_seq <| reg_s <| st rfl <| mvd rfl rfl <| st rfl <| mvd rfl rfl <| stw rfl <| lens rfl fun l206 => st rfl <| b_lss (k := .i64) rfl rfl <| seqN [(0, .d ((cLs cI rfl).enc v0)), (1, .d (cI.enc s120.1)), (5, .d (cI.enc s120.2)), (9, .d (cB.enc (decide (s120.2 < (v0.length : Int)))))] (by kernel_rfl) <|
    xn <| cnd rfl h (fun b207 h => wpC_skip <| kpN [(0, .d ((cLs cI rfl).enc v0)), (1, .d (cI.enc s120.1)), (5, .d (cI.enc s120.2))] (by kernel_rfl) <| xn <| wpC_seq <| wpC_kp <| wpC_blk <| wpC_seq <| wpC_kp <| wpC_seq <| reg_s <| st rfl <| mvd rfl rfl <| st rfl <| mvd rfl rfl <| getO_k h fun x233 i234 g235 h => st rfl <| ias rfl rfl i234 g235 rfl <| st rfl <| ldi rfl rfl rfl rfl <| st rfl <| mvd rfl rfl <| st rfl <| b_neq (k := .i64) rfl rfl <| seqN [(0, .d ((cLs cI rfl).enc v0)), (1, .d (cI.enc s120.1)), (5, .d (cI.enc s120.2)), (17, .d (cB.enc (decide (x233 ≠ s120.1))))] (by kernel_rfl) <|
    xn <| cnd rfl h (fun b236 h => wpC_seq <| reg_s <| x_asg (sc cI (-1 : Int) rfl) <| seqN [(4, .d (cI.enc (-1 : Int)))] (by kernel_rfl) <|
    xn <| wpC_ret <| rt <| rt <| rb <| rt <| rt <| rt <| rb <| rt <| rt <| re <| fin h (r1 (ss rfl rfl) <| r0) rfl)
    (fun b236 h => wpC_skip <| kpN [(0, .d ((cLs cI rfl).enc v0)), (1, .d (cI.enc s120.1)), (5, .d (cI.enc s120.2))] (by kernel_rfl) <| xn <| reg_s <| st rfl <| mvd rfl rfl <| ckI_k h fun i237 h => st rfl <| b_add (k := .i64) rfl rfl i237 <| x_asg (ss rfl rfl) <| seqN [(0, .d ((cLs cI rfl).enc v0)), (1, .d (cI.enc (s120.1 + (1 : Int)))), (5, .d (cI.enc s120.2))] (by kernel_rfl) <|
    xbb <| kpN [(0, .d ((cLs cI rfl).enc v0)), (1, .d (cI.enc (s120.1 + (1 : Int)))), (5, .d (cI.enc s120.2))] (by kernel_rfl) <| xn <| reg_s <| st rfl <| mvd rfl rfl <| ckI_k h fun i238 h => st rfl <| b_add (k := .i64) rfl rfl i238 <| x_asg (ss rfl rfl) <| seqN [(0, .d ((cLs cI rfl).enc v0)), (1, .d (cI.enc (s120.1 + (1 : Int)))), (5, .d (cI.enc (s120.2 + (1 : Int))))] (by kernel_rfl) <|
    xn <| hn200 ((s120.1 + (1 : Int)), (s120.2 + (1 : Int))) h))
    (fun b207 h => wpC_exit <| xt <| xt <| xt <| xb <| kpN [(1, .d (cI.enc s120.1))] (by kernel_rfl) <| xn <| wpC_seq <| reg_s <| st rfl <| mvd rfl rfl <| x_asg (ss rfl rfl) <| seqN [(4, .d (cI.enc s120.1))] (by kernel_rfl) <|
    xn <| wpC_ret <| re <| fin h (r1 (ss rfl rfl) <| r0) rfl)

def rs_spec_NormalTable (r : (XTable × Bool)) : List D := [(cXTable cI (cLo cI) (cLo cI) cI).enc r.1, cB.enc r.2]
def m51 : MC := .seq (.reg [⟨some 3, .box (.t 0), none⟩,
    ⟨some 5, .box (.t 2), none⟩,
    ⟨some 6, .alloc (.agg [.int .i64 0, .slice true [], .slice true [], .int .i64 0]), none⟩,
    ⟨some 7, .asg (.c (.bool false)), none⟩] [1, 3, 5, 6])
  (.seq (.kp [1, 5, 6] (.seq (.reg [⟨some 8, .ld 3 1 true, none⟩,
    ⟨some 9, .mv (.t 1), none⟩,
    ⟨some 10, .ld 5 4 true, none⟩,
    ⟨some 11, .call 79 [(.t 8), (.t 9), (.t 10)], none⟩,
    ⟨some 12, .nt (.t 11), none⟩] [1, 5, 6, 12])
  (.cond (.t 12) (.seq (.reg [⟨some 13, .bld [.int .i64 0, .slice true [], .slice true [], .int .i64 0] [], none⟩,
    ⟨none, .st 6 (.t 13) 4, none⟩,
    ⟨some 7, .asg (.c (.bool false)), none⟩] [6, 7])
  (.ret)) (.skip))))
  (.seq (.reg [⟨some 14, .mv (.t 1), none⟩,
    ⟨some 15, .ld 5 4 true, none⟩,
    ⟨some 16, .call 102 [(.t 14), (.t 15)], none⟩,
    ⟨none, .st 6 (.t 16) 4, none⟩,
    ⟨some 7, .asg (.c (.bool true)), none⟩] [6, 7])
  (.ret)))
theorem con_spec_NormalTable {v0 : XGeo} {v1 : (List XVariable)} {v2 : XTable} {r : (XTable × Bool)} (h : sh_spec_NormalTable v0 v1 v2 = some r) : Con Try.prog 51 [(cXGeo (cLs cI rfl)).enc v0, (cLs (cXVariable cS cI) rfl).enc v1, (cXTable cI (cLs cI rfl) (cLs cI rfl) cI).enc v2] [] (rs_spec_NormalTable r) := by
  delta sh_spec_NormalTable at h
  refine top (out := none) (f := Try.f51) (m := m51) (rs := [.c 6 4 true, .t 7]) (by kernel_rfl) rfl (by kernel_rfl) (by kernel_rfl) (by kernel_rfl) (by kernel_rfl) (by kernel_rfl) ?_
  exact
   ini [(0, .d ((cXGeo (cLs cI rfl)).enc v0)), (1, .d ((cLs (cXVariable cS cI) rfl).enc v1)), (2, .d ((cXTable cI (cLs cI rfl) (cLs cI rfl) cI).enc v2))] rfl <| wpC_seq <| reg_s <| x_box (ss rfl rfl) <| x_box (ss rfl rfl) <| x_all (cXTable cI (cLo cI) (cLo cI) cI) (⟨(0 : Int), ([] : List Int), ([] : List Int), (0 : Int)⟩ : XTable) rfl <| x_asg (sc cB false rfl) <| seqN [(1, .d ((cLs (cXVariable cS cI) rfl).enc v1)), (3, .box ((cXGeo (cLs cI rfl)).enc v0)), (5, .box ((cXTable cI (cLs cI rfl) (cLs cI rfl) cI).enc v2)), (6, .box ((cXTable cI (cLo cI) (cLo cI) cI).enc (⟨(0 : Int), ([] : List Int), ([] : List Int), (0 : Int)⟩ : XTable)))] (by kernel_rfl) <|
    xn <| wpC_seq <| wpC_kp <| wpC_seq <| reg_s <| st rfl <| ldb rfl rfl rfl rfl <| st rfl <| mvd rfl rfl <| st rfl <| ldb rfl rfl rfl rfl <| bnd h fun x8 e9 h => st rfl <| o_call (a1 (c := (cXGeo (cLs cI rfl))) (tXGeo (tLs tK)) rfl (a1 (c := (cLs (cXVariable cS cI) rfl)) (tLs (tXVariable tS tK)) rfl (a1 (c := (cXTable cI (cLs cI rfl) (cLs cI rfl) cI)) (tXTable tK (tLs tK) (tLs tK) tK) rfl a0))) (con_spec_uGood e9) (.inl (so1 sB so0)) <| st rfl <| o_nt rfl <| seqN [(1, .d ((cLs (cXVariable cS cI) rfl).enc v1)), (5, .box ((cXTable cI (cLs cI rfl) (cLs cI rfl) cI).enc v2)), (6, .box ((cXTable cI (cLo cI) (cLo cI) cI).enc (⟨(0 : Int), ([] : List Int), ([] : List Int), (0 : Int)⟩ : XTable))), (12, .d (cB.enc (!x8)))] (by kernel_rfl) <|
    xn <| cnd rfl h (fun b10 h => wpC_seq <| reg_s <| x_bld ((cXTable cI (cLo cI) (cLo cI) cI).enc (⟨(0 : Int), ([] : List Int), ([] : List Int), (0 : Int)⟩ : XTable)) t0 rfl rfl <| x_stb (so rfl rfl) rfl (Cd.h_sz _ _) rfl <| x_asg (sc cB false rfl) <| seqN [(6, .box ((cXTable cI (cLo cI) (cLo cI) cI).enc (⟨(0 : Int), ([] : List Int), ([] : List Int), (0 : Int)⟩ : XTable))), (7, .d (cB.enc false))] (by kernel_rfl) <|
    xn <| wpC_ret <| rt <| rt <| re <| fin h (r2 rfl rfl rfl <| r1 (ss rfl rfl) <| r0) rfl)
    (fun b10 h => wpC_skip <| kpN [(1, .d ((cLs (cXVariable cS cI) rfl).enc v1)), (5, .box ((cXTable cI (cLs cI rfl) (cLs cI rfl) cI).enc v2)), (6, .box ((cXTable cI (cLo cI) (cLo cI) cI).enc (⟨(0 : Int), ([] : List Int), ([] : List Int), (0 : Int)⟩ : XTable)))] (by kernel_rfl) <| xn <| wpC_seq <| reg_s <| st rfl <| mvd rfl rfl <| st rfl <| ldb rfl rfl rfl rfl <| bnd h fun x13 e14 h => st rfl <| o_call (a1 (c := (cLs (cXVariable cS cI) rfl)) (tLs (tXVariable tS tK)) rfl (a1 (c := (cXTable cI (cLs cI rfl) (cLs cI rfl) cI)) (tXTable tK (tLs tK) (tLs tK) tK) rfl a0)) (con_spec_nNormal e14) (.inl (so1 (sXTable sK (sLo sK) (sLo sK) sK) so0)) <| x_stb (so rfl rfl) rfl (Cd.h_sz _ _) rfl <| x_asg (sc cB true rfl) <| seqN [(6, .box ((cXTable cI (cLo cI) (cLo cI) cI).enc x13)), (7, .d (cB.enc true))] (by kernel_rfl) <|
    xn <| wpC_ret <| re <| fin h (r2 rfl rfl rfl <| r1 (ss rfl rfl) <| r0) rfl)

def rs_impl_NormalTable (r : (XTable × Bool)) : List D := [(cXTable cI (cLo cI) (cLo cI) cI).enc r.1, cB.enc r.2]
def m52 : MC := .seq (.reg [⟨some 3, .box (.t 0), none⟩,
    ⟨some 5, .box (.t 2), none⟩,
    ⟨some 6, .alloc (.agg [.int .i64 0, .slice true [], .slice true [], .int .i64 0]), none⟩,
    ⟨some 7, .asg (.c (.bool false)), none⟩] [1, 3, 5, 6])
  (.seq (.kp [1, 5, 6] (.seq (.reg [⟨some 8, .ld 3 1 true, none⟩,
    ⟨some 9, .mv (.t 1), none⟩,
    ⟨some 10, .ld 5 4 true, none⟩,
    ⟨some 11, .call 83 [(.t 8), (.t 9), (.t 10)], none⟩,
    ⟨some 12, .nt (.t 11), none⟩] [1, 5, 6, 12])
  (.cond (.t 12) (.seq (.reg [⟨some 13, .bld [.int .i64 0, .slice true [], .slice true [], .int .i64 0] [], none⟩,
    ⟨none, .st 6 (.t 13) 4, none⟩,
    ⟨some 7, .asg (.c (.bool false)), none⟩] [6, 7])
  (.ret)) (.skip))))
  (.seq (.reg [⟨some 14, .mv (.t 1), none⟩,
    ⟨some 15, .ld 5 4 true, none⟩,
    ⟨some 16, .call 103 [(.t 14), (.t 15)], none⟩,
    ⟨none, .st 6 (.t 16) 4, none⟩,
    ⟨some 7, .asg (.c (.bool true)), none⟩] [6, 7])
  (.ret)))
theorem con_impl_NormalTable {v0 : XGeo} {v1 : (List XVariable)} {v2 : XTable} {r : (XTable × Bool)} (h : sh_impl_NormalTable v0 v1 v2 = some r) : Con Try.prog 52 [(cXGeo (cLs cI rfl)).enc v0, (cLs (cXVariable cS cI) rfl).enc v1, (cXTable cI (cLs cI rfl) (cLs cI rfl) cI).enc v2] [] (rs_impl_NormalTable r) := by
  delta sh_impl_NormalTable at h
  refine top (out := none) (f := Try.f52) (m := m52) (rs := [.c 6 4 true, .t 7]) (by kernel_rfl) rfl (by kernel_rfl) (by kernel_rfl) (by kernel_rfl) (by kernel_rfl) (by kernel_rfl) ?_
  exact
   ini [(0, .d ((cXGeo (cLs cI rfl)).enc v0)), (1, .d ((cLs (cXVariable cS cI) rfl).enc v1)), (2, .d ((cXTable cI (cLs cI rfl) (cLs cI rfl) cI).enc v2))] rfl <| wpC_seq <| reg_s <| x_box (ss rfl rfl) <| x_box (ss rfl rfl) <| x_all (cXTable cI (cLo cI) (cLo cI) cI) (⟨(0 : Int), ([] : List Int), ([] : List Int), (0 : Int)⟩ : XTable) rfl <| x_asg (sc cB false rfl) <| seqN [(1, .d ((cLs (cXVariable cS cI) rfl).enc v1)), (3, .box ((cXGeo (cLs cI rfl)).enc v0)), (5, .box ((cXTable cI (cLs cI rfl) (cLs cI rfl) cI).enc v2)), (6, .box ((cXTable cI (cLo cI) (cLo cI) cI).enc (⟨(0 : Int), ([] : List Int), ([] : List Int), (0 : Int)⟩ : XTable)))] (by kernel_rfl) <|
    xn <| wpC_seq <| wpC_kp <| wpC_seq <| reg_s <| st rfl <| ldb rfl rfl rfl rfl <| st rfl <| mvd rfl rfl <| st rfl <| ldb rfl rfl rfl rfl <| bnd h fun x8 e9 h => st rfl <| o_call (a1 (c := (cXGeo (cLs cI rfl))) (tXGeo (tLs tK)) rfl (a1 (c := (cLs (cXVariable cS cI) rfl)) (tLs (tXVariable tS tK)) rfl (a1 (c := (cXTable cI (cLs cI rfl) (cLs cI rfl) cI)) (tXTable tK (tLs tK) (tLs tK) tK) rfl a0))) (con_impl_areTabled e9) (.inl (so1 sB so0)) <| st rfl <| o_nt rfl <| seqN [(1, .d ((cLs (cXVariable cS cI) rfl).enc v1)), (5, .box ((cXTable cI (cLs cI rfl) (cLs cI rfl) cI).enc v2)), (6, .box ((cXTable cI (cLo cI) (cLo cI) cI).enc (⟨(0 : Int), ([] : List Int), ([] : List Int), (0 : Int)⟩ : XTable))), (12, .d (cB.enc (!x8)))] (by kernel_rfl) <|
    xn <| cnd rfl h (fun b10 h => wpC_seq <| reg_s <| x_bld ((cXTable cI (cLo cI) (cLo cI) cI).enc (⟨(0 : Int), ([] : List Int), ([] : List Int), (0 : Int)⟩ : XTable)) t0 rfl rfl <| x_stb (so rfl rfl) rfl (Cd.h_sz _ _) rfl <| x_asg (sc cB false rfl) <| seqN [(6, .box ((cXTable cI (cLo cI) (cLo cI) cI).enc (⟨(0 : Int), ([] : List Int), ([] : List Int), (0 : Int)⟩ : XTable))), (7, .d (cB.enc false))] (by kernel_rfl) <|
    xn <| wpC_ret <| rt <| rt <| re <| fin h (r2 rfl rfl rfl <| r1 (ss rfl rfl) <| r0) rfl)
    (fun b10 h => wpC_skip <| kpN [(1, .d ((cLs (cXVariable cS cI) rfl).enc v1)), (5, .box ((cXTable cI (cLs cI rfl) (cLs cI rfl) cI).enc v2)), (6, .box ((cXTable cI (cLo cI) (cLo cI) cI).enc (⟨(0 : Int), ([] : List Int), ([] : List Int), (0 : Int)⟩ : XTable)))] (by kernel_rfl) <| xn <| wpC_seq <| reg_s <| st rfl <| mvd rfl rfl <| st rfl <| ldb rfl rfl rfl rfl <| bnd h fun x13 e14 h => st rfl <| o_call (a1 (c := (cLs (cXVariable cS cI) rfl)) (tLs (tXVariable tS tK)) rfl (a1 (c := (cXTable cI (cLs cI rfl) (cLs cI rfl) cI)) (tXTable tK (tLs tK) (tLs tK) tK) rfl a0)) (con_impl_normalTable e14) (.inl (so1 (sXTable sK (sLo sK) (sLo sK) sK) so0)) <| x_stb (so rfl rfl) rfl (Cd.h_sz _ _) rfl <| x_asg (sc cB true rfl) <| seqN [(6, .box ((cXTable cI (cLo cI) (cLo cI) cI).enc x13)), (7, .d (cB.enc true))] (by kernel_rfl) <|
    xn <| wpC_ret <| re <| fin h (r2 rfl rfl rfl <| r1 (ss rfl rfl) <| r0) rfl)

def rs_laws_heldTable (r : Int) : List D := [cI.enc r]
def m53 : MC := .seq (.reg [⟨some 2, .box (.t 0), none⟩,
    ⟨some 4, .asg (.c (.int .i64 0)), none⟩] [1, 2])
  (.seq (.reg [⟨some 5, .fa 2 1 1, none⟩,
    ⟨some 6, .ld 5 1 false, none⟩,
    ⟨some 7, .mv (.t 1), none⟩,
    ⟨some 8, .call 47 [(.t 6), (.t 7)], none⟩,
    ⟨some 1, .asg (.t 8), none⟩] [1, 2])
  (.seq (.kp [1, 2] (.seq (.reg [⟨some 9, .mv (.t 1), none⟩,
    ⟨some 10, .bin .lss (.t 9) (.c (.int .i64 0)), none⟩] [1, 2, 10])
  (.cond (.t 10) (.seq (.reg [⟨some 4, .asg (.c (.int .i64 (-1))), none⟩] [4])
  (.ret)) (.skip))))
  (.seq (.reg [⟨some 11, .fa 2 2 2, none⟩,
    ⟨some 12, .ld 11 1 false, none⟩,
    ⟨some 13, .mv (.t 1), none⟩,
    ⟨some 14, .call 47 [(.t 12), (.t 13)], none⟩,
    ⟨some 1, .asg (.t 14), none⟩] [1])
  (.seq (.kp [1] (.seq (.reg [⟨some 15, .mv (.t 1), none⟩,
    ⟨some 16, .bin .lss (.t 15) (.c (.int .i64 0)), none⟩] [1, 16])
  (.cond (.t 16) (.seq (.reg [⟨some 4, .asg (.c (.int .i64 (-1))), none⟩] [4])
  (.ret)) (.skip))))
  (.seq (.reg [⟨some 17, .mv (.t 1), none⟩,
    ⟨some 4, .asg (.t 17), none⟩] [4])
  (.ret))))))
theorem con_laws_heldTable {v0 : XTable} {v1 : Int} {r : Int} (h : sh_laws_heldTable v0 v1 = some r) : Con Try.prog 53 [(cXTable cI (cLs cI rfl) (cLs cI rfl) cI).enc v0, cI.enc v1] [] (rs_laws_heldTable r) := by
  delta sh_laws_heldTable at h
  refine top (out := none) (f := Try.f53) (m := m53) (rs := [.t 4]) (by kernel_rfl) rfl (by kernel_rfl) (by kernel_rfl) (by kernel_rfl) (by kernel_rfl) (by kernel_rfl) ?_
  exact
   ini [(0, .d ((cXTable cI (cLs cI rfl) (cLs cI rfl) cI).enc v0)), (1, .d (cI.enc v1))] rfl <| wpC_seq <| reg_s <| x_box (ss rfl rfl) <| x_asg (sc cI (0 : Int) rfl) <| seqN [(1, .d (cI.enc v1)), (2, .box ((cXTable cI (cLs cI rfl) (cLs cI rfl) cI).enc v0))] (by kernel_rfl) <|
    xn <| wpC_seq <| reg_s <| st rfl <| fab rfl rfl rfl rfl <| st rfl <| lda rfl rfl rfl rfl rfl rfl <| st rfl <| mvd rfl rfl <| bnd h fun x3 e4 h => st rfl <| o_call (a1 (c := (cLs cI rfl)) (tLs tK) rfl (a1 (c := cI) tK rfl a0)) (con_laws_heldIntS e4) (.inl (so1 sK so0)) <| x_asg (ss rfl rfl) <| seqN [(1, .d (cI.enc x3)), (2, .box ((cXTable cI (cLs cI rfl) (cLs cI rfl) cI).enc v0))] (by kernel_rfl) <|
    xn <| wpC_seq <| wpC_kp <| wpC_seq <| reg_s <| st rfl <| mvd rfl rfl <| st rfl <| b_lss (k := .i64) rfl rfl <| seqN [(1, .d (cI.enc x3)), (2, .box ((cXTable cI (cLs cI rfl) (cLs cI rfl) cI).enc v0)), (10, .d (cB.enc (decide (x3 < (0 : Int)))))] (by kernel_rfl) <|
    xn <| cnd rfl h (fun b6 h => wpC_seq <| reg_s <| x_asg (sc cI (-1 : Int) rfl) <| seqN [(4, .d (cI.enc (-1 : Int)))] (by kernel_rfl) <|
    xn <| wpC_ret <| rt <| rt <| re <| fin h (r1 (ss rfl rfl) <| r0) rfl)
    (fun b6 h => wpC_skip <| kpN [(1, .d (cI.enc x3)), (2, .box ((cXTable cI (cLs cI rfl) (cLs cI rfl) cI).enc v0))] (by kernel_rfl) <| xn <| wpC_seq <| reg_s <| st rfl <| fab rfl rfl rfl rfl <| st rfl <| lda rfl rfl rfl rfl rfl rfl <| st rfl <| mvd rfl rfl <| bnd h fun x9 e10 h => st rfl <| o_call (a1 (c := (cLs cI rfl)) (tLs tK) rfl (a1 (c := cI) tK rfl a0)) (con_laws_heldIntS e10) (.inl (so1 sK so0)) <| x_asg (ss rfl rfl) <| seqN [(1, .d (cI.enc x9))] (by kernel_rfl) <|
    xn <| wpC_seq <| wpC_kp <| wpC_seq <| reg_s <| st rfl <| mvd rfl rfl <| st rfl <| b_lss (k := .i64) rfl rfl <| seqN [(1, .d (cI.enc x9)), (16, .d (cB.enc (decide (x9 < (0 : Int)))))] (by kernel_rfl) <|
    xn <| cnd rfl h (fun b12 h => wpC_seq <| reg_s <| x_asg (sc cI (-1 : Int) rfl) <| seqN [(4, .d (cI.enc (-1 : Int)))] (by kernel_rfl) <|
    xn <| wpC_ret <| rt <| rt <| re <| fin h (r1 (ss rfl rfl) <| r0) rfl)
    (fun b12 h => wpC_skip <| kpN [(1, .d (cI.enc x9))] (by kernel_rfl) <| xn <| wpC_seq <| reg_s <| st rfl <| mvd rfl rfl <| x_asg (ss rfl rfl) <| seqN [(4, .d (cI.enc x9))] (by kernel_rfl) <|
    xn <| wpC_ret <| re <| fin h (r1 (ss rfl rfl) <| r0) rfl))

def rs_laws_FnExactNormalTable (r : Bool) : List D := [cB.enc r]
def m10 : MC := .seq (.reg [⟨some 3, .box (.t 0), none⟩,
    ⟨some 5, .box (.t 2), none⟩,
    ⟨some 6, .asg (.c (.bool false)), none⟩] [1, 3, 5])
  (.seq (.reg [⟨some 7, .asg (.c (.int .i64 1048576)), none⟩] [1, 3, 5, 7])
  (.seq (.reg [⟨some 20, .ld 3 1 true, none⟩,
    ⟨some 21, .mv (.t 7), none⟩,
    ⟨some 22, .call 26 [(.t 20), (.t 21)], none⟩,
    ⟨some 7, .asg (.t 22), none⟩] [1, 3, 5, 7])
  (.seq (.kp [1, 3, 5, 7] (.seq (.reg [⟨some 23, .mv (.t 7), none⟩,
    ⟨some 24, .bin .lss (.t 23) (.c (.int .i64 0)), none⟩] [1, 3, 5, 7, 24])
  (.cond (.t 24) (.seq (.reg [⟨some 6, .asg (.c (.bool true)), none⟩] [6])
  (.ret)) (.skip))))
  (.seq (.reg [⟨some 25, .mv (.t 1), none⟩,
    ⟨some 26, .mv (.t 7), none⟩,
    ⟨some 27, .call 15 [(.t 25), (.t 26)], none⟩,
    ⟨some 7, .asg (.t 27), none⟩] [1, 3, 5, 7])
  (.seq (.kp [1, 3, 5, 7] (.seq (.reg [⟨some 28, .mv (.t 7), none⟩,
    ⟨some 29, .bin .lss (.t 28) (.c (.int .i64 0)), none⟩] [1, 3, 5, 7, 29])
  (.cond (.t 29) (.seq (.reg [⟨some 6, .asg (.c (.bool true)), none⟩] [6])
  (.ret)) (.skip))))
  (.seq (.reg [⟨some 30, .ld 5 4 true, none⟩,
    ⟨some 31, .mv (.t 7), none⟩,
    ⟨some 32, .call 16 [(.t 30), (.t 31)], none⟩,
    ⟨some 7, .asg (.t 32), none⟩] [1, 3, 5, 7])
  (.seq (.kp [1, 3, 5] (.seq (.reg [⟨some 33, .mv (.t 7), none⟩,
    ⟨some 34, .bin .lss (.t 33) (.c (.int .i64 0)), none⟩] [1, 3, 5, 34])
  (.cond (.t 34) (.seq (.reg [⟨some 6, .asg (.c (.bool true)), none⟩] [6])
  (.ret)) (.skip))))
  (.seq (.drg [⟨0, ⟨some 36, .ld 3 1 true, none⟩, [8, 37, 38, 39, 40, 41, 42]⟩,
    ⟨1, ⟨some 37, .call 28 [(.t 36)], none⟩, [8, 38, 39, 40, 41, 42]⟩,
    ⟨2, ⟨some 38, .mv (.t 1), none⟩, [8, 36, 37, 39, 40, 41, 42]⟩,
    ⟨3, ⟨some 39, .call 19 [(.t 38)], none⟩, [8, 40, 41, 42]⟩,
    ⟨4, ⟨some 40, .ld 5 4 true, none⟩, [8, 36, 37, 38, 39, 41, 42]⟩,
    ⟨5, ⟨some 41, .call 20 [(.t 40)], none⟩, [8, 42]⟩,
    ⟨6, ⟨some 42, .call 51 [(.t 37), (.t 39), (.t 41)], none⟩, [8]⟩,
    ⟨10, ⟨some 8, .alloc (.agg [.int .i64 0, .slice true [], .slice true [], .int .i64 0]), none⟩, [36, 37, 38, 39, 40, 41, 42]⟩]
    [(10, ⟨some 8, .alloc (.agg [.int .i64 0, .slice true [], .slice true [], .int .i64 0]), none⟩),
    (7, ⟨some 35, .mvt 42, none⟩),
    (8, ⟨some 43, .ext 35 0, none⟩),
    (9, ⟨some 44, .ext 35 1, none⟩),
    (11, ⟨none, .st 8 (.t 43) 4, none⟩),
    (12, ⟨some 9, .asg (.t 44), none⟩)] [1, 3, 5, 8, 9] [8, 9, 35, 42, 43, 44, 1, 3, 5] [([false, false, false, false, false, false], 0), ([false, false, false, false, false, false], 1), ([true, false, false, false, false, false], 1), ([false, true, false, false, false, false], 0), ([false, true, false, false, false, false], 2), ([false, true, false, false, false, false], 3), ([true, true, false, false, false, false], 2), ([true, true, false, false, false, false], 3), ([false, true, true, false, false, false], 0), ([false, true, true, false, false, false], 3), ([false, true, false, true, false, false], 0), ([false, true, false, true, false, false], 2), ([true, true, true, false, false, false], 3), ([true, true, true, false, false, false], 4), ([true, true, false, true, false, false], 2), ([false, true, true, true, false, false], 0), ([true, true, true, true, false, false], 4), ([true, true, true, false, true, false], 3), ([true, true, true, true, true, false], 5)])
  (.seq (.reg [⟨some 45, .ld 3 1 true, none⟩,
    ⟨some 46, .call 28 [(.t 45)], none⟩,
    ⟨some 10, .alloc (.agg [.slice true []]), none⟩,
    ⟨none, .st 10 (.t 46) 1, none⟩] [1, 3, 5, 8, 9, 10])
  (.seq (.reg [⟨some 47, .mv (.t 1), none⟩,
    ⟨some 48, .call 19 [(.t 47)], none⟩,
    ⟨some 11, .asg (.t 48), none⟩] [1, 3, 5, 8, 9, 10, 11])
  (.seq (.reg [⟨some 49, .ld 5 4 true, none⟩,
    ⟨some 50, .call 20 [(.t 49)], none⟩,
    ⟨some 12, .alloc (.agg [.int .i64 0, .slice true [], .slice true [], .int .i64 0]), none⟩,
    ⟨none, .st 12 (.t 50) 4, none⟩] [1, 3, 5, 8, 9, 10, 11, 12])
  (.seq (.reg [⟨some 52, .ld 10 1 true, none⟩,
    ⟨some 53, .mv (.t 11), none⟩,
    ⟨some 54, .ld 12 4 true, none⟩,
    ⟨some 55, .call 52 [(.t 52), (.t 53), (.t 54)], none⟩,
    ⟨some 51, .mvt 55, none⟩,
    ⟨some 56, .ext 51 0, none⟩,
    ⟨some 57, .ext 51 1, none⟩,
    ⟨some 13, .alloc (.agg [.int .i64 0, .slice true [], .slice true [], .int .i64 0]), none⟩,
    ⟨none, .st 13 (.t 56) 4, none⟩,
    ⟨some 14, .asg (.t 57), none⟩] [1, 3, 5, 8, 9, 10, 11, 12, 13, 14])
  (.seq (.kp [1, 3, 5, 8, 9, 10, 11, 12, 13, 14] (.seq (.reg [⟨some 58, .ld 13 4 true, none⟩,
    ⟨some 59, .ld 8 4 true, none⟩,
    ⟨some 60, .call 24 [(.t 58), (.t 59)], none⟩,
    ⟨some 61, .nt (.t 60), none⟩,
    ⟨some 62, .mv (.t 61), none⟩,
    ⟨some 63, .mv (.t 14), some (62, false)⟩,
    ⟨some 64, .mv (.t 9), some (62, false)⟩,
    ⟨some 65, .eqb true (.t 63) (.t 64), some (62, false)⟩,
    ⟨some 66, .pick (.t 62) (.c (.bool true)) (.t 65), none⟩] [1, 3, 5, 8, 9, 10, 11, 12, 13, 14, 66])
  (.cond (.t 66) (.seq (.reg [⟨some 6, .asg (.c (.bool false)), none⟩] [6])
  (.ret)) (.skip))))
  (.seq (.kp [1, 3, 5, 8, 9, 10, 11, 12, 13, 14] (.seq (.drw [⟨0, ⟨some 67, .ld 10 1 true, none⟩, [68, 69, 70, 71]⟩,
    ⟨1, ⟨some 68, .ld 3 1 true, none⟩, [67, 69, 70, 71]⟩,
    ⟨2, ⟨some 69, .call 28 [(.t 68)], none⟩, [67, 70, 71]⟩,
    ⟨3, ⟨some 70, .call 30 [(.t 67), (.t 69)], none⟩, [71]⟩,
    ⟨4, ⟨some 71, .nt (.t 70), none⟩, []⟩]
    [] [1, 3, 5, 8, 9, 10, 11, 12, 13, 14, 71])
  (.cond (.t 71) (.seq (.reg [⟨some 6, .asg (.c (.bool false)), none⟩] [6])
  (.ret)) (.skip))))
  (.seq (.kp [1, 3, 5, 8, 9, 10, 11, 12, 13, 14] (.seq (.reg [⟨some 72, .mv (.t 11), none⟩,
    ⟨some 73, .mv (.t 1), none⟩,
    ⟨some 74, .call 19 [(.t 73)], none⟩,
    ⟨some 75, .call 23 [(.t 72), (.t 74)], none⟩,
    ⟨some 76, .nt (.t 75), none⟩] [1, 3, 5, 8, 9, 10, 11, 12, 13, 14, 76])
  (.cond (.t 76) (.seq (.reg [⟨some 6, .asg (.c (.bool false)), none⟩] [6])
  (.ret)) (.skip))))
  (.seq (.kp [1, 3, 5, 8, 9, 10, 11, 12, 13, 14] (.seq (.drw [⟨0, ⟨some 77, .ld 12 4 true, none⟩, [78, 79, 80, 81]⟩,
    ⟨1, ⟨some 78, .ld 5 4 true, none⟩, [77, 79, 80, 81]⟩,
    ⟨2, ⟨some 79, .call 20 [(.t 78)], none⟩, [77, 80, 81]⟩,
    ⟨3, ⟨some 80, .call 24 [(.t 77), (.t 79)], none⟩, [81]⟩,
    ⟨4, ⟨some 81, .nt (.t 80), none⟩, []⟩]
    [] [1, 3, 5, 8, 9, 10, 11, 12, 13, 14, 81])
  (.cond (.t 81) (.seq (.reg [⟨some 6, .asg (.c (.bool false)), none⟩] [6])
  (.ret)) (.skip))))
  (.seq (.reg [⟨some 15, .asg (.c (.int .i64 1)), none⟩] [1, 3, 5, 8, 9, 10, 11, 12, 13, 14, 15])
  (.seq (.reg [⟨some 82, .ld 10 1 true, none⟩,
    ⟨some 83, .mv (.t 15), none⟩,
    ⟨some 84, .callO 43 [(.t 82), (.t 83)], none⟩,
    ⟨some 15, .asg (.t 84), none⟩] [1, 3, 5, 8, 9, 11, 12, 13, 14, 15])
  (.seq (.reg [⟨some 85, .mv (.t 11), none⟩,
    ⟨some 86, .mv (.t 15), none⟩,
    ⟨some 87, .callO 44 [(.t 85), (.t 86)], none⟩,
    ⟨some 15, .asg (.t 87), none⟩] [1, 3, 5, 8, 9, 12, 13, 14, 15])
  (.seq (.reg [⟨some 88, .ld 12 4 true, none⟩,
    ⟨some 89, .mv (.t 15), none⟩,
    ⟨some 90, .callO 45 [(.t 88), (.t 89)], none⟩,
    ⟨some 15, .asg (.t 90), none⟩] [1, 3, 5, 8, 9, 13, 14, 15])
  (.seq (.kp [1, 3, 5, 8, 9, 13] (.seq (.reg [⟨some 91, .mv (.t 15), none⟩,
    ⟨some 92, .bin .lss (.t 91) (.c (.int .i64 0)), none⟩,
    ⟨some 93, .mv (.t 92), none⟩,
    ⟨some 94, .ld 13 4 true, some (93, false)⟩,
    ⟨some 95, .ld 8 4 true, some (93, false)⟩,
    ⟨some 96, .call 24 [(.t 94), (.t 95)], some (93, false)⟩,
    ⟨some 97, .nt (.t 96), some (93, false)⟩,
    ⟨some 98, .pick (.t 93) (.c (.bool true)) (.t 97), none⟩,
    ⟨some 99, .mv (.t 98), none⟩,
    ⟨some 100, .mv (.t 14), some (99, false)⟩,
    ⟨some 101, .mv (.t 9), some (99, false)⟩,
    ⟨some 102, .eqb true (.t 100) (.t 101), some (99, false)⟩,
    ⟨some 103, .pick (.t 99) (.c (.bool true)) (.t 102), none⟩] [1, 3, 5, 8, 9, 13, 103])
  (.cond (.t 103) (.seq (.reg [⟨some 6, .asg (.c (.bool false)), none⟩] [6])
  (.ret)) (.skip))))
  (.seq (.reg [⟨some 16, .asg (.c (.int .i64 1)), none⟩] [1, 3, 5, 8, 9, 13, 16])
  (.seq (.reg [⟨some 104, .ld 13 4 true, none⟩,
    ⟨some 105, .mv (.t 16), none⟩,
    ⟨some 106, .callO 45 [(.t 104), (.t 105)], none⟩,
    ⟨some 16, .asg (.t 106), none⟩] [1, 3, 5, 8, 9, 13, 16])
  (.seq (.reg [⟨some 17, .asg (.c (.int .i64 1)), none⟩] [1, 3, 5, 8, 9, 13, 16, 17])
  (.seq (.reg [⟨some 107, .ld 13 4 true, none⟩,
    ⟨some 108, .mv (.t 17), none⟩,
    ⟨some 109, .call 53 [(.t 107), (.t 108)], none⟩,
    ⟨some 17, .asg (.t 109), none⟩] [1, 3, 5, 8, 9, 13, 16, 17])
  (.seq (.kp [1, 3, 5, 8, 9, 13, 16, 17] (.seq (.reg [⟨some 110, .mv (.t 17), none⟩,
    ⟨some 111, .bin .lss (.t 110) (.c (.int .i64 0)), none⟩] [1, 3, 5, 8, 9, 13, 16, 17, 111])
  (.cond (.t 111) (.seq (.reg [⟨some 6, .asg (.c (.bool false)), none⟩] [6])
  (.ret)) (.skip))))
  (.seq (.kp [1, 3, 5, 8, 9, 13, 16] (.seq (.reg [⟨some 112, .mv (.t 17), none⟩,
    ⟨some 113, .mv (.t 16), none⟩,
    ⟨some 114, .bin .neq (.t 112) (.t 113), none⟩] [1, 3, 5, 8, 9, 13, 16, 114])
  (.cond (.t 114) (.seq (.reg [⟨some 6, .asg (.c (.bool false)), none⟩] [6])
  (.ret)) (.skip))))
  (.seq (.drg [⟨0, ⟨some 116, .ld 3 1 true, none⟩, [18, 117, 118, 119, 120, 121, 122]⟩,
    ⟨1, ⟨some 117, .call 28 [(.t 116)], none⟩, [18, 118, 119, 120, 121, 122]⟩,
    ⟨2, ⟨some 118, .mv (.t 1), none⟩, [18, 116, 117, 119, 120, 121, 122]⟩,
    ⟨3, ⟨some 119, .call 19 [(.t 118)], none⟩, [18, 120, 121, 122]⟩,
    ⟨4, ⟨some 120, .ld 5 4 true, none⟩, [18, 116, 117, 118, 119, 121, 122]⟩,
    ⟨5, ⟨some 121, .call 20 [(.t 120)], none⟩, [18, 122]⟩,
    ⟨6, ⟨some 122, .call 52 [(.t 117), (.t 119), (.t 121)], none⟩, [18]⟩,
    ⟨10, ⟨some 18, .alloc (.agg [.int .i64 0, .slice true [], .slice true [], .int .i64 0]), none⟩, [116, 117, 118, 119, 120, 121, 122]⟩]
    [(10, ⟨some 18, .alloc (.agg [.int .i64 0, .slice true [], .slice true [], .int .i64 0]), none⟩),
    (7, ⟨some 115, .mvt 122, none⟩),
    (8, ⟨some 123, .ext 115 0, none⟩),
    (9, ⟨some 124, .ext 115 1, none⟩),
    (11, ⟨none, .st 18 (.t 123) 4, none⟩),
    (12, ⟨some 19, .asg (.t 124), none⟩)] [8, 9, 13, 16, 18, 19] [18, 19, 115, 122, 123, 124, 8, 9, 13, 16] [([false, false, false, false, false, false], 0), ([false, false, false, false, false, false], 1), ([true, false, false, false, false, false], 1), ([false, true, false, false, false, false], 0), ([false, true, false, false, false, false], 2), ([false, true, false, false, false, false], 3), ([true, true, false, false, false, false], 2), ([true, true, false, false, false, false], 3), ([false, true, true, false, false, false], 0), ([false, true, true, false, false, false], 3), ([false, true, false, true, false, false], 0), ([false, true, false, true, false, false], 2), ([true, true, true, false, false, false], 3), ([true, true, true, false, false, false], 4), ([true, true, false, true, false, false], 2), ([false, true, true, true, false, false], 0), ([true, true, true, true, false, false], 4), ([true, true, true, false, true, false], 3), ([true, true, true, true, true, false], 5)])
  (.seq (.kp [13, 16] (.seq (.reg [⟨some 125, .ld 18 4 true, none⟩,
    ⟨some 126, .ld 8 4 true, none⟩,
    ⟨some 127, .call 24 [(.t 125), (.t 126)], none⟩,
    ⟨some 128, .nt (.t 127), none⟩,
    ⟨some 129, .mv (.t 128), none⟩,
    ⟨some 130, .mv (.t 19), some (129, false)⟩,
    ⟨some 131, .mv (.t 9), some (129, false)⟩,
    ⟨some 132, .eqb true (.t 130) (.t 131), some (129, false)⟩,
    ⟨some 133, .pick (.t 129) (.c (.bool true)) (.t 132), none⟩] [13, 16, 133])
  (.cond (.t 133) (.seq (.reg [⟨some 6, .asg (.c (.bool false)), none⟩] [6])
  (.ret)) (.skip))))
  (.seq (.reg [⟨some 17, .asg (.c (.int .i64 1)), none⟩] [13, 16, 17])
  (.seq (.reg [⟨some 134, .ld 13 4 true, none⟩,
    ⟨some 135, .mv (.t 17), none⟩,
    ⟨some 136, .call 53 [(.t 134), (.t 135)], none⟩,
    ⟨some 17, .asg (.t 136), none⟩] [16, 17])
  (.seq (.kp [16, 17] (.seq (.reg [⟨some 137, .mv (.t 17), none⟩,
    ⟨some 138, .bin .lss (.t 137) (.c (.int .i64 0)), none⟩] [16, 17, 138])
  (.cond (.t 138) (.seq (.reg [⟨some 6, .asg (.c (.bool false)), none⟩] [6])
  (.ret)) (.skip))))
  (.seq (.kp [] (.seq (.reg [⟨some 139, .mv (.t 17), none⟩,
    ⟨some 140, .mv (.t 16), none⟩,
    ⟨some 141, .bin .neq (.t 139) (.t 140), none⟩] [141])
  (.cond (.t 141) (.seq (.reg [⟨some 6, .asg (.c (.bool false)), none⟩] [6])
  (.ret)) (.skip))))
  (.seq (.reg [⟨some 6, .asg (.c (.bool true)), none⟩] [6])
  (.ret)))))))))))))))))))))))))))))))))))
theorem con_laws_FnExactNormalTable {v0 : XGeo} {v1 : (List XVariable)} {v2 : XTable} {r : Bool} (h : sh_laws_FnExactNormalTable v0 v1 v2 = some r) : Con Try.prog 10 [(cXGeo (cLs cI rfl)).enc v0, (cLs (cXVariable cS cI) rfl).enc v1, (cXTable cI (cLs cI rfl) (cLs cI rfl) cI).enc v2] [] (rs_laws_FnExactNormalTable r) := by
  delta sh_laws_FnExactNormalTable at h
  refine top (out := none) (f := Try.f10) (m := m10) (rs := [.t 6]) (by kernel_rfl) rfl (by kernel_rfl) (by kernel_rfl) (by kernel_rfl) (by kernel_rfl) (by kernel_rfl) ?_
  exact
   ini [(0, .d ((cXGeo (cLs cI rfl)).enc v0)), (1, .d ((cLs (cXVariable cS cI) rfl).enc v1)), (2, .d ((cXTable cI (cLs cI rfl) (cLs cI rfl) cI).enc v2))] rfl <| wpC_seq <| reg_s <| x_box (ss rfl rfl) <| x_box (ss rfl rfl) <| x_asg (sc cB false rfl) <| seqN [(1, .d ((cLs (cXVariable cS cI) rfl).enc v1)), (3, .box ((cXGeo (cLs cI rfl)).enc v0)), (5, .box ((cXTable cI (cLs cI rfl) (cLs cI rfl) cI).enc v2))] (by kernel_rfl) <|
    xn <| wpC_seq <| reg_s <| x_asg (sc cI (1048576 : Int) rfl) <| seqN [(1, .d ((cLs (cXVariable cS cI) rfl).enc v1)), (3, .box ((cXGeo (cLs cI rfl)).enc v0)), (5, .box ((cXTable cI (cLs cI rfl) (cLs cI rfl) cI).enc v2)), (7, .d (cI.enc (1048576 : Int)))] (by kernel_rfl) <|
    xn <| wpC_seq <| reg_s <| st rfl <| ldb rfl rfl rfl rfl <| st rfl <| mvd rfl rfl <| bnd h fun x3 e4 h => st rfl <| o_call (a1 (c := (cXGeo (cLs cI rfl))) (tXGeo (tLs tK)) rfl (a1 (c := cI) tK rfl a0)) (con_laws_szGeo e4) (.inl (so1 sK so0)) <| x_asg (ss rfl rfl) <| seqN [(1, .d ((cLs (cXVariable cS cI) rfl).enc v1)), (3, .box ((cXGeo (cLs cI rfl)).enc v0)), (5, .box ((cXTable cI (cLs cI rfl) (cLs cI rfl) cI).enc v2)), (7, .d (cI.enc x3))] (by kernel_rfl) <|
    xn <| wpC_seq <| wpC_kp <| wpC_seq <| reg_s <| st rfl <| mvd rfl rfl <| st rfl <| b_lss (k := .i64) rfl rfl <| seqN [(1, .d ((cLs (cXVariable cS cI) rfl).enc v1)), (3, .box ((cXGeo (cLs cI rfl)).enc v0)), (5, .box ((cXTable cI (cLs cI rfl) (cLs cI rfl) cI).enc v2)), (7, .d (cI.enc x3)), (24, .d (cB.enc (decide (x3 < (0 : Int)))))] (by kernel_rfl) <|
    xn <| cnd rfl h (fun b6 h => wpC_seq <| reg_s <| x_asg (sc cB true rfl) <| seqN [(6, .d (cB.enc true))] (by kernel_rfl) <|
    xn <| wpC_ret <| rt <| rt <| re <| fin h (r1 (ss rfl rfl) <| r0) rfl)
    (fun b6 h => wpC_skip <| kpN [(1, .d ((cLs (cXVariable cS cI) rfl).enc v1)), (3, .box ((cXGeo (cLs cI rfl)).enc v0)), (5, .box ((cXTable cI (cLs cI rfl) (cLs cI rfl) cI).enc v2)), (7, .d (cI.enc x3))] (by kernel_rfl) <| xn <| wpC_seq <| reg_s <| st rfl <| mvd rfl rfl <| st rfl <| mvd rfl rfl <| bnd h fun x9 e10 h => st rfl <| o_call (a1 (c := (cLs (cXVariable cS cI) rfl)) (tLs (tXVariable tS tK)) rfl (a1 (c := cI) tK rfl a0)) (con_laws_szVariableS e10) (.inl (so1 sK so0)) <| x_asg (ss rfl rfl) <| seqN [(1, .d ((cLs (cXVariable cS cI) rfl).enc v1)), (3, .box ((cXGeo (cLs cI rfl)).enc v0)), (5, .box ((cXTable cI (cLs cI rfl) (cLs cI rfl) cI).enc v2)), (7, .d (cI.enc x9))] (by kernel_rfl) <|
    xn <| wpC_seq <| wpC_kp <| wpC_seq <| reg_s <| st rfl <| mvd rfl rfl <| st rfl <| b_lss (k := .i64) rfl rfl <| seqN [(1, .d ((cLs (cXVariable cS cI) rfl).enc v1)), (3, .box ((cXGeo (cLs cI rfl)).enc v0)), (5, .box ((cXTable cI (cLs cI rfl) (cLs cI rfl) cI).enc v2)), (7, .d (cI.enc x9)), (29, .d (cB.enc (decide (x9 < (0 : Int)))))] (by kernel_rfl) <|
    xn <| cnd rfl h (fun b12 h => wpC_seq <| reg_s <| x_asg (sc cB true rfl) <| seqN [(6, .d (cB.enc true))] (by kernel_rfl) <|
    xn <| wpC_ret <| rt <| rt <| re <| fin h (r1 (ss rfl rfl) <| r0) rfl)
    (fun b12 h => wpC_skip <| kpN [(1, .d ((cLs (cXVariable cS cI) rfl).enc v1)), (3, .box ((cXGeo (cLs cI rfl)).enc v0)), (5, .box ((cXTable cI (cLs cI rfl) (cLs cI rfl) cI).enc v2)), (7, .d (cI.enc x9))] (by kernel_rfl) <| xn <| wpC_seq <| reg_s <| st rfl <| ldb rfl rfl rfl rfl <| st rfl <| mvd rfl rfl <| bnd h fun x15 e16 h => st rfl <| o_call (a1 (c := (cXTable cI (cLs cI rfl) (cLs cI rfl) cI)) (tXTable tK (tLs tK) (tLs tK) tK) rfl (a1 (c := cI) tK rfl a0)) (con_laws_szTable e16) (.inl (so1 sK so0)) <| x_asg (ss rfl rfl) <| seqN [(1, .d ((cLs (cXVariable cS cI) rfl).enc v1)), (3, .box ((cXGeo (cLs cI rfl)).enc v0)), (5, .box ((cXTable cI (cLs cI rfl) (cLs cI rfl) cI).enc v2)), (7, .d (cI.enc x15))] (by kernel_rfl) <|
    xn <| wpC_seq <| wpC_kp <| wpC_seq <| reg_s <| st rfl <| mvd rfl rfl <| st rfl <| b_lss (k := .i64) rfl rfl <| seqN [(1, .d ((cLs (cXVariable cS cI) rfl).enc v1)), (3, .box ((cXGeo (cLs cI rfl)).enc v0)), (5, .box ((cXTable cI (cLs cI rfl) (cLs cI rfl) cI).enc v2)), (34, .d (cB.enc (decide (x15 < (0 : Int)))))] (by kernel_rfl) <|
    xn <| cnd rfl h (fun b18 h => wpC_seq <| reg_s <| x_asg (sc cB true rfl) <| seqN [(6, .d (cB.enc true))] (by kernel_rfl) <|
    xn <| wpC_ret <| rt <| rt <| re <| fin h (r1 (ss rfl rfl) <| r0) rfl)
    (fun b18 h => wpC_skip <| kpN [(1, .d ((cLs (cXVariable cS cI) rfl).enc v1)), (3, .box ((cXGeo (cLs cI rfl)).enc v0)), (5, .box ((cXTable cI (cLs cI rfl) (cLs cI rfl) cI).enc v2))] (by kernel_rfl) <| xn <| wpC_seq <| drg_s <| pst rfl <| ldb rfl rfl rfl rfl ⟨rfl, bndp h fun x27 e28 h => pst rfl <| o_call (a1 (c := (cXGeo (cLs cI rfl))) (tXGeo (tLs tK)) rfl a0) (con_laws_toGeo e28) (.inl (so1 (sXGeo (sLo sK)) so0)) ⟨rfl, pst rfl <| mvd rfl rfl ⟨rfl, bndp h fun x29 e30 h => pst rfl <| o_call (a1 (c := (cLs (cXVariable cS cI) rfl)) (tLs (tXVariable tS tK)) rfl a0) (con_laws_toVariableS e30) (.inl (so1 (sLo (sXVariable sS sK)) so0)) ⟨rfl, pst rfl <| ldb rfl rfl rfl rfl ⟨rfl, bndp h fun x31 e32 h => pst rfl <| o_call (a1 (c := (cXTable cI (cLs cI rfl) (cLs cI rfl) cI)) (tXTable tK (tLs tK) (tLs tK) tK) rfl a0) (con_laws_toTable e32) (.inl (so1 (sXTable sK (sLo sK) (sLo sK) sK) so0)) ⟨rfl, bndp h fun x33 e34 h => pst rfl <| o_call (a1 (c := (cXGeo (cLo cI))) (tXGeo (tLo tK)) rfl (a1 (c := (cLo (cXVariable cS cI))) (tLo (tXVariable tS tK)) rfl (a1 (c := (cXTable cI (cLo cI) (cLo cI) cI)) (tXTable tK (tLo tK) (tLo tK) tK) rfl a0))) (con_spec_NormalTable e34) (.inl (so1 (sXTable sK (sLo sK) (sLo sK) sK) (so1 sB so0))) ⟨rfl, pst rfl <| p_all (cXTable cI (cLo cI) (cLo cI) cI) (⟨(0 : Int), ([] : List Int), ([] : List Int), (0 : Int)⟩ : XTable) rfl ⟨rfl, preN <| gr_s [(1, .d ((cLs (cXVariable cS cI) rfl).enc v1)), (3, .box ((cXGeo (cLs cI rfl)).enc v0)), (5, .box ((cXTable cI (cLs cI rfl) (cLs cI rfl) cI).enc v2))] [([false, false, false, false, false, false], [(8, .un), (9, .un), (35, .un), (42, .tup [some ((cXTable cI (cLo cI) (cLo cI) cI).enc x33.1), some (cB.enc x33.2)]), (43, .un), (44, .un)]),
     ([true, false, false, false, false, false], [(8, .box ((cXTable cI (cLo cI) (cLo cI) cI).enc (⟨(0 : Int), ([] : List Int), ([] : List Int), (0 : Int)⟩ : XTable))), (9, .un), (35, .un), (42, .tup [some ((cXTable cI (cLo cI) (cLo cI) cI).enc x33.1), some (cB.enc x33.2)]), (43, .un), (44, .un)]),
     ([false, true, false, false, false, false], [(8, .un), (9, .un), (35, .tup [some ((cXTable cI (cLo cI) (cLo cI) cI).enc x33.1), some (cB.enc x33.2)]), (42, .un), (43, .un), (44, .un)]),
     ([true, true, false, false, false, false], [(8, .box ((cXTable cI (cLo cI) (cLo cI) cI).enc (⟨(0 : Int), ([] : List Int), ([] : List Int), (0 : Int)⟩ : XTable))), (9, .un), (35, .tup [some ((cXTable cI (cLo cI) (cLo cI) cI).enc x33.1), some (cB.enc x33.2)]), (42, .un), (43, .un), (44, .un)]),
     ([false, true, true, false, false, false], [(8, .un), (9, .un), (35, .tup [none, some (cB.enc x33.2)]), (42, .un), (43, .d ((cXTable cI (cLo cI) (cLo cI) cI).enc x33.1)), (44, .un)]),
     ([false, true, false, true, false, false], [(8, .un), (9, .un), (35, .tup [some ((cXTable cI (cLo cI) (cLo cI) cI).enc x33.1), none]), (42, .un), (43, .un), (44, .d (cB.enc x33.2))]),
     ([true, true, true, false, false, false], [(8, .box ((cXTable cI (cLo cI) (cLo cI) cI).enc (⟨(0 : Int), ([] : List Int), ([] : List Int), (0 : Int)⟩ : XTable))), (9, .un), (35, .tup [none, some (cB.enc x33.2)]), (42, .un), (43, .d ((cXTable cI (cLo cI) (cLo cI) cI).enc x33.1)), (44, .un)]),
     ([true, true, false, true, false, false], [(8, .box ((cXTable cI (cLo cI) (cLo cI) cI).enc (⟨(0 : Int), ([] : List Int), ([] : List Int), (0 : Int)⟩ : XTable))), (9, .un), (35, .tup [some ((cXTable cI (cLo cI) (cLo cI) cI).enc x33.1), none]), (42, .un), (43, .un), (44, .d (cB.enc x33.2))]),
     ([false, true, true, true, false, false], [(8, .un), (9, .un), (35, .tup [none, none]), (42, .un), (43, .d ((cXTable cI (cLo cI) (cLo cI) cI).enc x33.1)), (44, .d (cB.enc x33.2))]),
     ([true, true, true, true, false, false], [(8, .box ((cXTable cI (cLo cI) (cLo cI) cI).enc (⟨(0 : Int), ([] : List Int), ([] : List Int), (0 : Int)⟩ : XTable))), (9, .un), (35, .tup [none, none]), (42, .un), (43, .d ((cXTable cI (cLo cI) (cLo cI) cI).enc x33.1)), (44, .d (cB.enc x33.2))]),
     ([true, true, true, false, true, false], [(8, .box ((cXTable cI (cLo cI) (cLo cI) cI).enc x33.1)), (9, .un), (35, .tup [none, some (cB.enc x33.2)]), (42, .un), (43, .un), (44, .un)]),
     ([true, true, true, true, true, false], [(8, .box ((cXTable cI (cLo cI) (cLo cI) cI).enc x33.1)), (9, .un), (35, .tup [none, none]), (42, .un), (43, .un), (44, .d (cB.enc x33.2))]),
     ([true, true, true, true, true, true], [(8, .box ((cXTable cI (cLo cI) (cLo cI) cI).enc x33.1)), (9, .d (cB.enc x33.2)), (35, .tup [none, none]), (42, .un), (43, .un), (44, .d (cB.enc x33.2))])] [(1, .d ((cLs (cXVariable cS cI) rfl).enc v1)), (3, .box ((cXGeo (cLs cI rfl)).enc v0)), (5, .box ((cXTable cI (cLs cI rfl) (cLs cI rfl) cI).enc v2)), (8, .box ((cXTable cI (cLo cI) (cLo cI) cI).enc x33.1)), (9, .d (cB.enc x33.2))] [([false, false, false, false, false, false], [8]), ([true, false, false, false, false, false], [])] (by kernel_rfl) (sa1 rfl (by kernel_rfl) <| sa1 rfl (by kernel_rfl) <| sa0) rfl
    (ob1 rfl rfl rfl (x_all (cXTable cI (cLo cI) (cLo cI) cI) (⟨(0 : Int), ([] : List Int), ([] : List Int), (0 : Int)⟩ : XTable) rfl <| obN (by kernel_rfl)) <|
    ob1 rfl rfl rfl (x_mvt rfl <| obN (by kernel_rfl)) <|
    ob1 rfl rfl rfl (x_mvt rfl <| obN (by kernel_rfl)) <|
    ob1 rfl rfl rfl (x_all (cXTable cI (cLo cI) (cLo cI) cI) (⟨(0 : Int), ([] : List Int), ([] : List Int), (0 : Int)⟩ : XTable) rfl <| obN (by kernel_rfl)) <|
    ob1 rfl rfl rfl (x_ext rfl rfl <| obN (by kernel_rfl)) <|
    ob1 rfl rfl rfl (x_ext rfl rfl <| obN (by kernel_rfl)) <|
    ob1 rfl rfl rfl (x_ext rfl rfl <| obN (by kernel_rfl)) <|
    ob1 rfl rfl rfl (x_ext rfl rfl <| obN (by kernel_rfl)) <|
    ob1 rfl rfl rfl (x_all (cXTable cI (cLo cI) (cLo cI) cI) (⟨(0 : Int), ([] : List Int), ([] : List Int), (0 : Int)⟩ : XTable) rfl <| obN (by kernel_rfl)) <|
    ob1 rfl rfl rfl (x_ext rfl rfl <| obN (by kernel_rfl)) <|
    ob1 rfl rfl rfl (x_all (cXTable cI (cLo cI) (cLo cI) cI) (⟨(0 : Int), ([] : List Int), ([] : List Int), (0 : Int)⟩ : XTable) rfl <| obN (by kernel_rfl)) <|
    ob1 rfl rfl rfl (x_ext rfl rfl <| obN (by kernel_rfl)) <|
    ob1 rfl rfl rfl (x_ext rfl rfl <| obN (by kernel_rfl)) <|
    ob1 rfl rfl rfl (x_stb (so rfl rfl) rfl (Cd.h_sz _ _) rfl <| obN (by kernel_rfl)) <|
    ob1 rfl rfl rfl (x_ext rfl rfl <| obN (by kernel_rfl)) <|
    ob1 rfl rfl rfl (x_all (cXTable cI (cLo cI) (cLo cI) cI) (⟨(0 : Int), ([] : List Int), ([] : List Int), (0 : Int)⟩ : XTable) rfl <| obN (by kernel_rfl)) <|
    ob1 rfl rfl rfl (x_stb (so rfl rfl) rfl (Cd.h_sz _ _) rfl <| obN (by kernel_rfl)) <|
    ob1 rfl rfl rfl (x_ext rfl rfl <| obN (by kernel_rfl)) <|
    ob1 rfl rfl rfl (x_asg (ss rfl rfl) <| obN (by kernel_rfl)) <|
    ob0)
    (by kernel_rfl) <|
    xn <| wpC_seq <| reg_s <| st rfl <| ldb rfl rfl rfl rfl <| bnd h fun x37 e38 h => st rfl <| o_call (a1 (c := (cXGeo (cLs cI rfl))) (tXGeo (tLs tK)) rfl a0) (con_laws_toGeo e38) (.inl (so1 (sXGeo (sLo sK)) so0)) <| x_all (cXGeo (cLo cI)) (⟨([] : List Int)⟩ : XGeo) rfl <| x_stb (so rfl rfl) rfl (Cd.h_sz _ _) rfl <| seqN [(1, .d ((cLs (cXVariable cS cI) rfl).enc v1)), (3, .box ((cXGeo (cLs cI rfl)).enc v0)), (5, .box ((cXTable cI (cLs cI rfl) (cLs cI rfl) cI).enc v2)), (8, .box ((cXTable cI (cLo cI) (cLo cI) cI).enc x33.1)), (9, .d (cB.enc x33.2)), (10, .box ((cXGeo (cLo cI)).enc x37))] (by kernel_rfl) <|
    xn <| wpC_seq <| reg_s <| st rfl <| mvd rfl rfl <| bnd h fun x41 e42 h => st rfl <| o_call (a1 (c := (cLs (cXVariable cS cI) rfl)) (tLs (tXVariable tS tK)) rfl a0) (con_laws_toVariableS e42) (.inl (so1 (sLo (sXVariable sS sK)) so0)) <| x_asg (so rfl rfl) <| seqN [(1, .d ((cLs (cXVariable cS cI) rfl).enc v1)), (3, .box ((cXGeo (cLs cI rfl)).enc v0)), (5, .box ((cXTable cI (cLs cI rfl) (cLs cI rfl) cI).enc v2)), (8, .box ((cXTable cI (cLo cI) (cLo cI) cI).enc x33.1)), (9, .d (cB.enc x33.2)), (10, .box ((cXGeo (cLo cI)).enc x37)), (11, .d ((cLo (cXVariable cS cI)).enc x41))] (by kernel_rfl) <|
    xn <| wpC_seq <| reg_s <| st rfl <| ldb rfl rfl rfl rfl <| bnd h fun x45 e46 h => st rfl <| o_call (a1 (c := (cXTable cI (cLs cI rfl) (cLs cI rfl) cI)) (tXTable tK (tLs tK) (tLs tK) tK) rfl a0) (con_laws_toTable e46) (.inl (so1 (sXTable sK (sLo sK) (sLo sK) sK) so0)) <| x_all (cXTable cI (cLo cI) (cLo cI) cI) (⟨(0 : Int), ([] : List Int), ([] : List Int), (0 : Int)⟩ : XTable) rfl <| x_stb (so rfl rfl) rfl (Cd.h_sz _ _) rfl <| seqN [(1, .d ((cLs (cXVariable cS cI) rfl).enc v1)), (3, .box ((cXGeo (cLs cI rfl)).enc v0)), (5, .box ((cXTable cI (cLs cI rfl) (cLs cI rfl) cI).enc v2)), (8, .box ((cXTable cI (cLo cI) (cLo cI) cI).enc x33.1)), (9, .d (cB.enc x33.2)), (10, .box ((cXGeo (cLo cI)).enc x37)), (11, .d ((cLo (cXVariable cS cI)).enc x41)), (12, .box ((cXTable cI (cLo cI) (cLo cI) cI).enc x45))] (by kernel_rfl) <|
    xn <| wpC_seq <| reg_s <| st rfl <| ldbo rfl rfl rfl rfl <| st rfl <| mvo rfl rfl <| st rfl <| ldbo rfl rfl rfl rfl <| bnd h fun x49 e50 h => st rfl <| o_call (a1 (c := (cXGeo (cLo cI))) (tXGeo (tLo tK)) rfl (a1 (c := (cLo (cXVariable cS cI))) (tLo (tXVariable tS tK)) rfl (a1 (c := (cXTable cI (cLo cI) (cLo cI) cI)) (tXTable tK (tLo tK) (tLo tK) tK) rfl a0))) (con_impl_NormalTable e50) (.inl (so1 (sXTable sK (sLo sK) (sLo sK) sK) (so1 sB so0))) <| x_mvt rfl <| x_ext rfl rfl <| x_ext rfl rfl <| x_all (cXTable cI (cLo cI) (cLo cI) cI) (⟨(0 : Int), ([] : List Int), ([] : List Int), (0 : Int)⟩ : XTable) rfl <| x_stb (so rfl rfl) rfl (Cd.h_sz _ _) rfl <| x_asg (ss rfl rfl) <| seqN [(1, .d ((cLs (cXVariable cS cI) rfl).enc v1)), (3, .box ((cXGeo (cLs cI rfl)).enc v0)), (5, .box ((cXTable cI (cLs cI rfl) (cLs cI rfl) cI).enc v2)), (8, .box ((cXTable cI (cLo cI) (cLo cI) cI).enc x33.1)), (9, .d (cB.enc x33.2)), (10, .box ((cXGeo (cLo cI)).enc x37)), (11, .d ((cLo (cXVariable cS cI)).enc x41)), (12, .box ((cXTable cI (cLo cI) (cLo cI) cI).enc x45)), (13, .box ((cXTable cI (cLo cI) (cLo cI) cI).enc x49.1)), (14, .d (cB.enc x49.2))] (by kernel_rfl) <|
    xn <| wpC_seq <| wpC_kp <| wpC_seq <| reg_s <| st rfl <| ldbo rfl rfl rfl rfl <| st rfl <| ldbo rfl rfl rfl rfl <| bnd h fun x61 e62 h => st rfl <| o_call (a1 (c := (cXTable cI (cLo cI) (cLo cI) cI)) (tXTable tK (tLo tK) (tLo tK) tK) rfl (a1 (c := (cXTable cI (cLo cI) (cLo cI) cI)) (tXTable tK (tLo tK) (tLo tK) tK) rfl a0)) (con_laws_eqTable e62) (.inl (so1 sB so0)) <| st rfl <| o_nt rfl <| st rfl <| mvd rfl rfl <| ite_k h (fun b63 h => gf rfl b63 <| gf rfl b63 <| gf rfl b63 <| st rfl <| pick1 rfl b63 (cd := cB) (v := true) rfl rfl <| seqN [(1, .d ((cLs (cXVariable cS cI) rfl).enc v1)), (3, .box ((cXGeo (cLs cI rfl)).enc v0)), (5, .box ((cXTable cI (cLs cI rfl) (cLs cI rfl) cI).enc v2)), (8, .box ((cXTable cI (cLo cI) (cLo cI) cI).enc x33.1)), (9, .d (cB.enc x33.2)), (10, .box ((cXGeo (cLo cI)).enc x37)), (11, .d ((cLo (cXVariable cS cI)).enc x41)), (12, .box ((cXTable cI (cLo cI) (cLo cI) cI).enc x45)), (13, .box ((cXTable cI (cLo cI) (cLo cI) cI).enc x49.1)), (14, .d (cB.enc x49.2)), (66, .d (cB.enc true))] (by kernel_rfl) <|
    xn <| cnd1 rfl rfl <| wpC_seq <| reg_s <| x_asg (sc cB false rfl) <| seqN [(6, .d (cB.enc false))] (by kernel_rfl) <|
    xn <| wpC_ret <| rt <| rt <| re <| fin h (r1 (ss rfl rfl) <| r0) rfl)
    (fun b63 h => gt' rfl b63 <| st rfl <| mvd rfl rfl <| gt' rfl b63 <| st rfl <| mvd rfl rfl <| gt' rfl b63 <| st rfl <| eqb1 rfl rfl <| st rfl <| pick0 rfl b63 (cd := cB) (v := (x49.2 != x33.2)) rfl rfl <| seqN [(1, .d ((cLs (cXVariable cS cI) rfl).enc v1)), (3, .box ((cXGeo (cLs cI rfl)).enc v0)), (5, .box ((cXTable cI (cLs cI rfl) (cLs cI rfl) cI).enc v2)), (8, .box ((cXTable cI (cLo cI) (cLo cI) cI).enc x33.1)), (9, .d (cB.enc x33.2)), (10, .box ((cXGeo (cLo cI)).enc x37)), (11, .d ((cLo (cXVariable cS cI)).enc x41)), (12, .box ((cXTable cI (cLo cI) (cLo cI) cI).enc x45)), (13, .box ((cXTable cI (cLo cI) (cLo cI) cI).enc x49.1)), (14, .d (cB.enc x49.2)), (66, .d (cB.enc (x49.2 != x33.2)))] (by kernel_rfl) <|
    xn <| cnd rfl h (fun b64 h => wpC_seq <| reg_s <| x_asg (sc cB false rfl) <| seqN [(6, .d (cB.enc false))] (by kernel_rfl) <|
    xn <| wpC_ret <| rt <| rt <| re <| fin h (r1 (ss rfl rfl) <| r0) rfl)
    (fun b64 h => wpC_skip <| kpN [(1, .d ((cLs (cXVariable cS cI) rfl).enc v1)), (3, .box ((cXGeo (cLs cI rfl)).enc v0)), (5, .box ((cXTable cI (cLs cI rfl) (cLs cI rfl) cI).enc v2)), (8, .box ((cXTable cI (cLo cI) (cLo cI) cI).enc x33.1)), (9, .d (cB.enc x33.2)), (10, .box ((cXGeo (cLo cI)).enc x37)), (11, .d ((cLo (cXVariable cS cI)).enc x41)), (12, .box ((cXTable cI (cLo cI) (cLo cI) cI).enc x45)), (13, .box ((cXTable cI (cLo cI) (cLo cI) cI).enc x49.1)), (14, .d (cB.enc x49.2))] (by kernel_rfl) <| xn <| wpC_seq <| wpC_kp <| wpC_seq <| drw_s <| pst rfl <| ldbo rfl rfl rfl rfl ⟨rfl, pst rfl <| ldb rfl rfl rfl rfl ⟨rfl, bndp h fun x78 e79 h => pst rfl <| o_call (a1 (c := (cXGeo (cLs cI rfl))) (tXGeo (tLs tK)) rfl a0) (con_laws_toGeo e79) (.inl (so1 (sXGeo (sLo sK)) so0)) ⟨rfl, bndp h fun x80 e81 h => pst rfl <| o_call (a1 (c := (cXGeo (cLo cI))) (tXGeo (tLo tK)) rfl (a1 (c := (cXGeo (cLo cI))) (tXGeo (tLo tK)) rfl a0)) (con_laws_eqGeo e81) (.inl (so1 sB so0)) ⟨rfl, pst rfl <| o_nt rfl ⟨rfl, preN <| seqN [(1, .d ((cLs (cXVariable cS cI) rfl).enc v1)), (3, .box ((cXGeo (cLs cI rfl)).enc v0)), (5, .box ((cXTable cI (cLs cI rfl) (cLs cI rfl) cI).enc v2)), (8, .box ((cXTable cI (cLo cI) (cLo cI) cI).enc x33.1)), (9, .d (cB.enc x33.2)), (10, .box ((cXGeo (cLo cI)).enc x37)), (11, .d ((cLo (cXVariable cS cI)).enc x41)), (12, .box ((cXTable cI (cLo cI) (cLo cI) cI).enc x45)), (13, .box ((cXTable cI (cLo cI) (cLo cI) cI).enc x49.1)), (14, .d (cB.enc x49.2)), (71, .d (cB.enc (!x80)))] (by kernel_rfl) <|
    xn <| cnd rfl h (fun b82 h => wpC_seq <| reg_s <| x_asg (sc cB false rfl) <| seqN [(6, .d (cB.enc false))] (by kernel_rfl) <|
    xn <| wpC_ret <| rt <| rt <| re <| fin h (r1 (ss rfl rfl) <| r0) rfl)
    (fun b82 h => wpC_skip <| kpN [(1, .d ((cLs (cXVariable cS cI) rfl).enc v1)), (3, .box ((cXGeo (cLs cI rfl)).enc v0)), (5, .box ((cXTable cI (cLs cI rfl) (cLs cI rfl) cI).enc v2)), (8, .box ((cXTable cI (cLo cI) (cLo cI) cI).enc x33.1)), (9, .d (cB.enc x33.2)), (10, .box ((cXGeo (cLo cI)).enc x37)), (11, .d ((cLo (cXVariable cS cI)).enc x41)), (12, .box ((cXTable cI (cLo cI) (cLo cI) cI).enc x45)), (13, .box ((cXTable cI (cLo cI) (cLo cI) cI).enc x49.1)), (14, .d (cB.enc x49.2))] (by kernel_rfl) <| xn <| wpC_seq <| wpC_kp <| wpC_seq <| reg_s <| st rfl <| mvo rfl rfl <| st rfl <| mvd rfl rfl <| bnd h fun x96 e97 h => st rfl <| o_call (a1 (c := (cLs (cXVariable cS cI) rfl)) (tLs (tXVariable tS tK)) rfl a0) (con_laws_toVariableS e97) (.inl (so1 (sLo (sXVariable sS sK)) so0)) <| bnd h fun x98 e99 h => st rfl <| o_call (a1 (c := (cLo (cXVariable cS cI))) (tLo (tXVariable tS tK)) rfl (a1 (c := (cLo (cXVariable cS cI))) (tLo (tXVariable tS tK)) rfl a0)) (con_laws_eqVariableS e99) (.inl (so1 sB so0)) <| st rfl <| o_nt rfl <| seqN [(1, .d ((cLs (cXVariable cS cI) rfl).enc v1)), (3, .box ((cXGeo (cLs cI rfl)).enc v0)), (5, .box ((cXTable cI (cLs cI rfl) (cLs cI rfl) cI).enc v2)), (8, .box ((cXTable cI (cLo cI) (cLo cI) cI).enc x33.1)), (9, .d (cB.enc x33.2)), (10, .box ((cXGeo (cLo cI)).enc x37)), (11, .d ((cLo (cXVariable cS cI)).enc x41)), (12, .box ((cXTable cI (cLo cI) (cLo cI) cI).enc x45)), (13, .box ((cXTable cI (cLo cI) (cLo cI) cI).enc x49.1)), (14, .d (cB.enc x49.2)), (76, .d (cB.enc (!x98)))] (by kernel_rfl) <|
    xn <| cnd rfl h (fun b100 h => wpC_seq <| reg_s <| x_asg (sc cB false rfl) <| seqN [(6, .d (cB.enc false))] (by kernel_rfl) <|
    xn <| wpC_ret <| rt <| rt <| re <| fin h (r1 (ss rfl rfl) <| r0) rfl)
    (fun b100 h => wpC_skip <| kpN [(1, .d ((cLs (cXVariable cS cI) rfl).enc v1)), (3, .box ((cXGeo (cLs cI rfl)).enc v0)), (5, .box ((cXTable cI (cLs cI rfl) (cLs cI rfl) cI).enc v2)), (8, .box ((cXTable cI (cLo cI) (cLo cI) cI).enc x33.1)), (9, .d (cB.enc x33.2)), (10, .box ((cXGeo (cLo cI)).enc x37)), (11, .d ((cLo (cXVariable cS cI)).enc x41)), (12, .box ((cXTable cI (cLo cI) (cLo cI) cI).enc x45)), (13, .box ((cXTable cI (cLo cI) (cLo cI) cI).enc x49.1)), (14, .d (cB.enc x49.2))] (by kernel_rfl) <| xn <| wpC_seq <| wpC_kp <| wpC_seq <| drw_s <| pst rfl <| ldbo rfl rfl rfl rfl ⟨rfl, pst rfl <| ldb rfl rfl rfl rfl ⟨rfl, bndp h fun x114 e115 h => pst rfl <| o_call (a1 (c := (cXTable cI (cLs cI rfl) (cLs cI rfl) cI)) (tXTable tK (tLs tK) (tLs tK) tK) rfl a0) (con_laws_toTable e115) (.inl (so1 (sXTable sK (sLo sK) (sLo sK) sK) so0)) ⟨rfl, bndp h fun x116 e117 h => pst rfl <| o_call (a1 (c := (cXTable cI (cLo cI) (cLo cI) cI)) (tXTable tK (tLo tK) (tLo tK) tK) rfl (a1 (c := (cXTable cI (cLo cI) (cLo cI) cI)) (tXTable tK (tLo tK) (tLo tK) tK) rfl a0)) (con_laws_eqTable e117) (.inl (so1 sB so0)) ⟨rfl, pst rfl <| o_nt rfl ⟨rfl, preN <| seqN [(1, .d ((cLs (cXVariable cS cI) rfl).enc v1)), (3, .box ((cXGeo (cLs cI rfl)).enc v0)), (5, .box ((cXTable cI (cLs cI rfl) (cLs cI rfl) cI).enc v2)), (8, .box ((cXTable cI (cLo cI) (cLo cI) cI).enc x33.1)), (9, .d (cB.enc x33.2)), (10, .box ((cXGeo (cLo cI)).enc x37)), (11, .d ((cLo (cXVariable cS cI)).enc x41)), (12, .box ((cXTable cI (cLo cI) (cLo cI) cI).enc x45)), (13, .box ((cXTable cI (cLo cI) (cLo cI) cI).enc x49.1)), (14, .d (cB.enc x49.2)), (81, .d (cB.enc (!x116)))] (by kernel_rfl) <|
    xn <| cnd rfl h (fun b118 h => wpC_seq <| reg_s <| x_asg (sc cB false rfl) <| seqN [(6, .d (cB.enc false))] (by kernel_rfl) <|
    xn <| wpC_ret <| rt <| rt <| re <| fin h (r1 (ss rfl rfl) <| r0) rfl)
    (fun b118 h => wpC_skip <| kpN [(1, .d ((cLs (cXVariable cS cI) rfl).enc v1)), (3, .box ((cXGeo (cLs cI rfl)).enc v0)), (5, .box ((cXTable cI (cLs cI rfl) (cLs cI rfl) cI).enc v2)), (8, .box ((cXTable cI (cLo cI) (cLo cI) cI).enc x33.1)), (9, .d (cB.enc x33.2)), (10, .box ((cXGeo (cLo cI)).enc x37)), (11, .d ((cLo (cXVariable cS cI)).enc x41)), (12, .box ((cXTable cI (cLo cI) (cLo cI) cI).enc x45)), (13, .box ((cXTable cI (cLo cI) (cLo cI) cI).enc x49.1)), (14, .d (cB.enc x49.2))] (by kernel_rfl) <| xn <| wpC_seq <| reg_s <| x_asg (sc cI (1 : Int) rfl) <| seqN [(1, .d ((cLs (cXVariable cS cI) rfl).enc v1)), (3, .box ((cXGeo (cLs cI rfl)).enc v0)), (5, .box ((cXTable cI (cLs cI rfl) (cLs cI rfl) cI).enc v2)), (8, .box ((cXTable cI (cLo cI) (cLo cI) cI).enc x33.1)), (9, .d (cB.enc x33.2)), (10, .box ((cXGeo (cLo cI)).enc x37)), (11, .d ((cLo (cXVariable cS cI)).enc x41)), (12, .box ((cXTable cI (cLo cI) (cLo cI) cI).enc x45)), (13, .box ((cXTable cI (cLo cI) (cLo cI) cI).enc x49.1)), (14, .d (cB.enc x49.2)), (15, .d (cI.enc (1 : Int)))] (by kernel_rfl) <|
    xn <| wpC_seq <| reg_s <| st rfl <| ldbo rfl rfl rfl rfl <| st rfl <| mvd rfl rfl <| bnd h fun x121 e122 h => x_clr (c := (cXGeo (cLo cI))) (c' := (cXGeo (cLo cI))) ((cXGeo (cLo cI)).enc x121.1) (sXGeo (sLo sK)) rfl (a1 (c := cI) tK rfl a0) rfl Ln.nil (con_laws_markGeo e122) rfl rfl (so1 sK so0) <| x_asg (ss rfl rfl) <| seqN [(1, .d ((cLs (cXVariable cS cI) rfl).enc v1)), (3, .box ((cXGeo (cLs cI rfl)).enc v0)), (5, .box ((cXTable cI (cLs cI rfl) (cLs cI rfl) cI).enc v2)), (8, .box ((cXTable cI (cLo cI) (cLo cI) cI).enc x33.1)), (9, .d (cB.enc x33.2)), (11, .d ((cLo (cXVariable cS cI)).enc x41)), (12, .box ((cXTable cI (cLo cI) (cLo cI) cI).enc x45)), (13, .box ((cXTable cI (cLo cI) (cLo cI) cI).enc x49.1)), (14, .d (cB.enc x49.2)), (15, .d (cI.enc x121.2))] (by kernel_rfl) <|
    xn <| wpC_seq <| reg_s <| st rfl <| mvo rfl rfl <| st rfl <| mvd rfl rfl <| bnd h fun x125 e126 h => x_clr (c := (cLo (cXVariable cS cI))) (c' := (cLo (cXVariable cS cI))) ((cLo (cXVariable cS cI)).enc x125.1) (sLo (sXVariable sS sK)) rfl (a1 (c := cI) tK rfl a0) rfl Ln.nil (con_laws_markVariableS e126) rfl rfl (so1 sK so0) <| x_asg (ss rfl rfl) <| seqN [(1, .d ((cLs (cXVariable cS cI) rfl).enc v1)), (3, .box ((cXGeo (cLs cI rfl)).enc v0)), (5, .box ((cXTable cI (cLs cI rfl) (cLs cI rfl) cI).enc v2)), (8, .box ((cXTable cI (cLo cI) (cLo cI) cI).enc x33.1)), (9, .d (cB.enc x33.2)), (12, .box ((cXTable cI (cLo cI) (cLo cI) cI).enc x45)), (13, .box ((cXTable cI (cLo cI) (cLo cI) cI).enc x49.1)), (14, .d (cB.enc x49.2)), (15, .d (cI.enc x125.2))] (by kernel_rfl) <|
    xn <| wpC_seq <| reg_s <| st rfl <| ldbo rfl rfl rfl rfl <| st rfl <| mvd rfl rfl <| bnd h fun x129 e130 h => x_clr (c := (cXTable cI (cLo cI) (cLo cI) cI)) (c' := (cXTable cI (cLo cI) (cLo cI) cI)) ((cXTable cI (cLo cI) (cLo cI) cI).enc x129.1) (sXTable sK (sLo sK) (sLo sK) sK) rfl (a1 (c := cI) tK rfl a0) rfl Ln.nil (con_laws_markTable e130) rfl rfl (so1 sK so0) <| x_asg (ss rfl rfl) <| seqN [(1, .d ((cLs (cXVariable cS cI) rfl).enc v1)), (3, .box ((cXGeo (cLs cI rfl)).enc v0)), (5, .box ((cXTable cI (cLs cI rfl) (cLs cI rfl) cI).enc v2)), (8, .box ((cXTable cI (cLo cI) (cLo cI) cI).enc x33.1)), (9, .d (cB.enc x33.2)), (13, .box ((cXTable cI (cLo cI) (cLo cI) cI).enc x49.1)), (14, .d (cB.enc x49.2)), (15, .d (cI.enc x129.2))] (by kernel_rfl) <|
    xn <| wpC_seq <| wpC_kp <| wpC_seq <| reg_s <| st rfl <| mvd rfl rfl <| st rfl <| b_lss (k := .i64) rfl rfl <| st rfl <| mvd rfl rfl <| ite_k h (fun b143 h => gf rfl b143 <| gf rfl b143 <| gf rfl b143 <| gf rfl b143 <| st rfl <| pick1 rfl b143 (cd := cB) (v := true) rfl rfl <| st rfl <| mvd rfl rfl <| gf rfl rfl <| gf rfl rfl <| gf rfl rfl <| st rfl <| pick1 rfl rfl (cd := cB) (v := true) rfl rfl <| seqN [(1, .d ((cLs (cXVariable cS cI) rfl).enc v1)), (3, .box ((cXGeo (cLs cI rfl)).enc v0)), (5, .box ((cXTable cI (cLs cI rfl) (cLs cI rfl) cI).enc v2)), (8, .box ((cXTable cI (cLo cI) (cLo cI) cI).enc x33.1)), (9, .d (cB.enc x33.2)), (13, .box ((cXTable cI (cLo cI) (cLo cI) cI).enc x49.1)), (103, .d (cB.enc true))] (by kernel_rfl) <|
    xn <| cnd1 rfl rfl <| wpC_seq <| reg_s <| x_asg (sc cB false rfl) <| seqN [(6, .d (cB.enc false))] (by kernel_rfl) <|
    xn <| wpC_ret <| rt <| rt <| re <| fin h (r1 (ss rfl rfl) <| r0) rfl)
    (fun b143 h => gt' rfl b143 <| st rfl <| ldbo rfl rfl rfl rfl <| gt' rfl b143 <| st rfl <| ldbo rfl rfl rfl rfl <| gt' rfl b143 <| bnd h fun x144 e145 h => st rfl <| o_call (a1 (c := (cXTable cI (cLo cI) (cLo cI) cI)) (tXTable tK (tLo tK) (tLo tK) tK) rfl (a1 (c := (cXTable cI (cLo cI) (cLo cI) cI)) (tXTable tK (tLo tK) (tLo tK) tK) rfl a0)) (con_laws_eqTable e145) (.inl (so1 sB so0)) <| gt' rfl b143 <| st rfl <| o_nt rfl <| st rfl <| pick0 rfl b143 (cd := cB) (v := (!x144)) rfl rfl <| st rfl <| mvd rfl rfl <| ite_k h (fun b146 h => gf rfl b146 <| gf rfl b146 <| gf rfl b146 <| st rfl <| pick1 rfl b146 (cd := cB) (v := true) rfl rfl <| seqN [(1, .d ((cLs (cXVariable cS cI) rfl).enc v1)), (3, .box ((cXGeo (cLs cI rfl)).enc v0)), (5, .box ((cXTable cI (cLs cI rfl) (cLs cI rfl) cI).enc v2)), (8, .box ((cXTable cI (cLo cI) (cLo cI) cI).enc x33.1)), (9, .d (cB.enc x33.2)), (13, .box ((cXTable cI (cLo cI) (cLo cI) cI).enc x49.1)), (103, .d (cB.enc true))] (by kernel_rfl) <|
    xn <| cnd1 rfl rfl <| wpC_seq <| reg_s <| x_asg (sc cB false rfl) <| seqN [(6, .d (cB.enc false))] (by kernel_rfl) <|
    xn <| wpC_ret <| rt <| rt <| re <| fin h (r1 (ss rfl rfl) <| r0) rfl)
    (fun b146 h => gt' rfl b146 <| st rfl <| mvd rfl rfl <| gt' rfl b146 <| st rfl <| mvd rfl rfl <| gt' rfl b146 <| st rfl <| eqb1 rfl rfl <| st rfl <| pick0 rfl b146 (cd := cB) (v := (x49.2 != x33.2)) rfl rfl <| seqN [(1, .d ((cLs (cXVariable cS cI) rfl).enc v1)), (3, .box ((cXGeo (cLs cI rfl)).enc v0)), (5, .box ((cXTable cI (cLs cI rfl) (cLs cI rfl) cI).enc v2)), (8, .box ((cXTable cI (cLo cI) (cLo cI) cI).enc x33.1)), (9, .d (cB.enc x33.2)), (13, .box ((cXTable cI (cLo cI) (cLo cI) cI).enc x49.1)), (103, .d (cB.enc (x49.2 != x33.2)))] (by kernel_rfl) <|
    xn <| cnd0 rfl b64 <| wpC_skip <| kpN [(1, .d ((cLs (cXVariable cS cI) rfl).enc v1)), (3, .box ((cXGeo (cLs cI rfl)).enc v0)), (5, .box ((cXTable cI (cLs cI rfl) (cLs cI rfl) cI).enc v2)), (8, .box ((cXTable cI (cLo cI) (cLo cI) cI).enc x33.1)), (9, .d (cB.enc x33.2)), (13, .box ((cXTable cI (cLo cI) (cLo cI) cI).enc x49.1))] (by kernel_rfl) <| xn <| wpC_seq <| reg_s <| x_asg (sc cI (1 : Int) rfl) <| seqN [(1, .d ((cLs (cXVariable cS cI) rfl).enc v1)), (3, .box ((cXGeo (cLs cI rfl)).enc v0)), (5, .box ((cXTable cI (cLs cI rfl) (cLs cI rfl) cI).enc v2)), (8, .box ((cXTable cI (cLo cI) (cLo cI) cI).enc x33.1)), (9, .d (cB.enc x33.2)), (13, .box ((cXTable cI (cLo cI) (cLo cI) cI).enc x49.1)), (16, .d (cI.enc (1 : Int)))] (by kernel_rfl) <|
    xn <| wpC_seq <| reg_s <| st rfl <| ldbo rfl rfl rfl rfl <| st rfl <| mvd rfl rfl <| bnd h fun x149 e150 h => x_clr (c := (cXTable cI (cLo cI) (cLo cI) cI)) (c' := (cXTable cI (cLo cI) (cLo cI) cI)) ((cXTable cI (cLo cI) (cLo cI) cI).enc x149.1) (sXTable sK (sLo sK) (sLo sK) sK) rfl (a1 (c := cI) tK rfl a0) rfl Ln.nil (con_laws_markTable e150) rfl rfl (so1 sK so0) <| x_asg (ss rfl rfl) <| seqN [(1, .d ((cLs (cXVariable cS cI) rfl).enc v1)), (3, .box ((cXGeo (cLs cI rfl)).enc v0)), (5, .box ((cXTable cI (cLs cI rfl) (cLs cI rfl) cI).enc v2)), (8, .box ((cXTable cI (cLo cI) (cLo cI) cI).enc x33.1)), (9, .d (cB.enc x33.2)), (13, .box ((cXTable cI (cLo cI) (cLo cI) cI).enc x149.1)), (16, .d (cI.enc x149.2))] (by kernel_rfl) <|
    xn <| wpC_seq <| reg_s <| x_asg (sc cI (1 : Int) rfl) <| seqN [(1, .d ((cLs (cXVariable cS cI) rfl).enc v1)), (3, .box ((cXGeo (cLs cI rfl)).enc v0)), (5, .box ((cXTable cI (cLs cI rfl) (cLs cI rfl) cI).enc v2)), (8, .box ((cXTable cI (cLo cI) (cLo cI) cI).enc x33.1)), (9, .d (cB.enc x33.2)), (13, .box ((cXTable cI (cLo cI) (cLo cI) cI).enc x149.1)), (16, .d (cI.enc x149.2)), (17, .d (cI.enc (1 : Int)))] (by kernel_rfl) <|
    xn <| wpC_seq <| reg_s <| st rfl <| ldbo rfl rfl rfl rfl <| st rfl <| mvd rfl rfl <| bnd h fun x153 e154 h => st rfl <| o_call (a1 (c := (cXTable cI (cLo cI) (cLo cI) cI)) (tXTable tK (tLo tK) (tLo tK) tK) rfl (a1 (c := cI) tK rfl a0)) (con_laws_heldTable e154) (.inl (so1 sK so0)) <| x_asg (ss rfl rfl) <| seqN [(1, .d ((cLs (cXVariable cS cI) rfl).enc v1)), (3, .box ((cXGeo (cLs cI rfl)).enc v0)), (5, .box ((cXTable cI (cLs cI rfl) (cLs cI rfl) cI).enc v2)), (8, .box ((cXTable cI (cLo cI) (cLo cI) cI).enc x33.1)), (9, .d (cB.enc x33.2)), (13, .box ((cXTable cI (cLo cI) (cLo cI) cI).enc x149.1)), (16, .d (cI.enc x149.2)), (17, .d (cI.enc x153))] (by kernel_rfl) <|
    xn <| wpC_seq <| wpC_kp <| wpC_seq <| reg_s <| st rfl <| mvd rfl rfl <| st rfl <| b_lss (k := .i64) rfl rfl <| seqN [(1, .d ((cLs (cXVariable cS cI) rfl).enc v1)), (3, .box ((cXGeo (cLs cI rfl)).enc v0)), (5, .box ((cXTable cI (cLs cI rfl) (cLs cI rfl) cI).enc v2)), (8, .box ((cXTable cI (cLo cI) (cLo cI) cI).enc x33.1)), (9, .d (cB.enc x33.2)), (13, .box ((cXTable cI (cLo cI) (cLo cI) cI).enc x149.1)), (16, .d (cI.enc x149.2)), (17, .d (cI.enc x153)), (111, .d (cB.enc (decide (x153 < (0 : Int)))))] (by kernel_rfl) <|
    xn <| cnd rfl h (fun b156 h => wpC_seq <| reg_s <| x_asg (sc cB false rfl) <| seqN [(6, .d (cB.enc false))] (by kernel_rfl) <|
    xn <| wpC_ret <| rt <| rt <| re <| fin h (r1 (ss rfl rfl) <| r0) rfl)
    (fun b156 h => wpC_skip <| kpN [(1, .d ((cLs (cXVariable cS cI) rfl).enc v1)), (3, .box ((cXGeo (cLs cI rfl)).enc v0)), (5, .box ((cXTable cI (cLs cI rfl) (cLs cI rfl) cI).enc v2)), (8, .box ((cXTable cI (cLo cI) (cLo cI) cI).enc x33.1)), (9, .d (cB.enc x33.2)), (13, .box ((cXTable cI (cLo cI) (cLo cI) cI).enc x149.1)), (16, .d (cI.enc x149.2)), (17, .d (cI.enc x153))] (by kernel_rfl) <| xn <| wpC_seq <| wpC_kp <| wpC_seq <| reg_s <| st rfl <| mvd rfl rfl <| st rfl <| mvd rfl rfl <| st rfl <| b_neq (k := .i64) rfl rfl <| seqN [(1, .d ((cLs (cXVariable cS cI) rfl).enc v1)), (3, .box ((cXGeo (cLs cI rfl)).enc v0)), (5, .box ((cXTable cI (cLs cI rfl) (cLs cI rfl) cI).enc v2)), (8, .box ((cXTable cI (cLo cI) (cLo cI) cI).enc x33.1)), (9, .d (cB.enc x33.2)), (13, .box ((cXTable cI (cLo cI) (cLo cI) cI).enc x149.1)), (16, .d (cI.enc x149.2)), (114, .d (cB.enc (decide (x153 ≠ x149.2))))] (by kernel_rfl) <|
    xn <| cnd rfl h (fun b158 h => wpC_seq <| reg_s <| x_asg (sc cB false rfl) <| seqN [(6, .d (cB.enc false))] (by kernel_rfl) <|
    xn <| wpC_ret <| rt <| rt <| re <| fin h (r1 (ss rfl rfl) <| r0) rfl)
    (fun b158 h => wpC_skip <| kpN [(1, .d ((cLs (cXVariable cS cI) rfl).enc v1)), (3, .box ((cXGeo (cLs cI rfl)).enc v0)), (5, .box ((cXTable cI (cLs cI rfl) (cLs cI rfl) cI).enc v2)), (8, .box ((cXTable cI (cLo cI) (cLo cI) cI).enc x33.1)), (9, .d (cB.enc x33.2)), (13, .box ((cXTable cI (cLo cI) (cLo cI) cI).enc x149.1)), (16, .d (cI.enc x149.2))] (by kernel_rfl) <| xn <| wpC_seq <| drg_s <| pst rfl <| ldb rfl rfl rfl rfl ⟨rfl, bndp h fun x167 e168 h => pst rfl <| o_call (a1 (c := (cXGeo (cLs cI rfl))) (tXGeo (tLs tK)) rfl a0) (con_laws_toGeo e168) (.inl (so1 (sXGeo (sLo sK)) so0)) ⟨rfl, pst rfl <| mvd rfl rfl ⟨rfl, bndp h fun x169 e170 h => pst rfl <| o_call (a1 (c := (cLs (cXVariable cS cI) rfl)) (tLs (tXVariable tS tK)) rfl a0) (con_laws_toVariableS e170) (.inl (so1 (sLo (sXVariable sS sK)) so0)) ⟨rfl, pst rfl <| ldb rfl rfl rfl rfl ⟨rfl, bndp h fun x171 e172 h => pst rfl <| o_call (a1 (c := (cXTable cI (cLs cI rfl) (cLs cI rfl) cI)) (tXTable tK (tLs tK) (tLs tK) tK) rfl a0) (con_laws_toTable e172) (.inl (so1 (sXTable sK (sLo sK) (sLo sK) sK) so0)) ⟨rfl, bndp h fun x173 e174 h => pst rfl <| o_call (a1 (c := (cXGeo (cLo cI))) (tXGeo (tLo tK)) rfl (a1 (c := (cLo (cXVariable cS cI))) (tLo (tXVariable tS tK)) rfl (a1 (c := (cXTable cI (cLo cI) (cLo cI) cI)) (tXTable tK (tLo tK) (tLo tK) tK) rfl a0))) (con_impl_NormalTable e174) (.inl (so1 (sXTable sK (sLo sK) (sLo sK) sK) (so1 sB so0))) ⟨rfl, pst rfl <| p_all (cXTable cI (cLo cI) (cLo cI) cI) (⟨(0 : Int), ([] : List Int), ([] : List Int), (0 : Int)⟩ : XTable) rfl ⟨rfl, preN <| gr_s [(8, .box ((cXTable cI (cLo cI) (cLo cI) cI).enc x33.1)), (9, .d (cB.enc x33.2)), (13, .box ((cXTable cI (cLo cI) (cLo cI) cI).enc x149.1)), (16, .d (cI.enc x149.2))] [([false, false, false, false, false, false], [(18, .un), (19, .un), (115, .un), (122, .tup [some ((cXTable cI (cLo cI) (cLo cI) cI).enc x173.1), some (cB.enc x173.2)]), (123, .un), (124, .un)]),
     ([true, false, false, false, false, false], [(18, .box ((cXTable cI (cLo cI) (cLo cI) cI).enc (⟨(0 : Int), ([] : List Int), ([] : List Int), (0 : Int)⟩ : XTable))), (19, .un), (115, .un), (122, .tup [some ((cXTable cI (cLo cI) (cLo cI) cI).enc x173.1), some (cB.enc x173.2)]), (123, .un), (124, .un)]),
     ([false, true, false, false, false, false], [(18, .un), (19, .un), (115, .tup [some ((cXTable cI (cLo cI) (cLo cI) cI).enc x173.1), some (cB.enc x173.2)]), (122, .un), (123, .un), (124, .un)]),
     ([true, true, false, false, false, false], [(18, .box ((cXTable cI (cLo cI) (cLo cI) cI).enc (⟨(0 : Int), ([] : List Int), ([] : List Int), (0 : Int)⟩ : XTable))), (19, .un), (115, .tup [some ((cXTable cI (cLo cI) (cLo cI) cI).enc x173.1), some (cB.enc x173.2)]), (122, .un), (123, .un), (124, .un)]),
     ([false, true, true, false, false, false], [(18, .un), (19, .un), (115, .tup [none, some (cB.enc x173.2)]), (122, .un), (123, .d ((cXTable cI (cLo cI) (cLo cI) cI).enc x173.1)), (124, .un)]),
     ([false, true, false, true, false, false], [(18, .un), (19, .un), (115, .tup [some ((cXTable cI (cLo cI) (cLo cI) cI).enc x173.1), none]), (122, .un), (123, .un), (124, .d (cB.enc x173.2))]),
     ([true, true, true, false, false, false], [(18, .box ((cXTable cI (cLo cI) (cLo cI) cI).enc (⟨(0 : Int), ([] : List Int), ([] : List Int), (0 : Int)⟩ : XTable))), (19, .un), (115, .tup [none, some (cB.enc x173.2)]), (122, .un), (123, .d ((cXTable cI (cLo cI) (cLo cI) cI).enc x173.1)), (124, .un)]),
     ([true, true, false, true, false, false], [(18, .box ((cXTable cI (cLo cI) (cLo cI) cI).enc (⟨(0 : Int), ([] : List Int), ([] : List Int), (0 : Int)⟩ : XTable))), (19, .un), (115, .tup [some ((cXTable cI (cLo cI) (cLo cI) cI).enc x173.1), none]), (122, .un), (123, .un), (124, .d (cB.enc x173.2))]),
     ([false, true, true, true, false, false], [(18, .un), (19, .un), (115, .tup [none, none]), (122, .un), (123, .d ((cXTable cI (cLo cI) (cLo cI) cI).enc x173.1)), (124, .d (cB.enc x173.2))]),
     ([true, true, true, true, false, false], [(18, .box ((cXTable cI (cLo cI) (cLo cI) cI).enc (⟨(0 : Int), ([] : List Int), ([] : List Int), (0 : Int)⟩ : XTable))), (19, .un), (115, .tup [none, none]), (122, .un), (123, .d ((cXTable cI (cLo cI) (cLo cI) cI).enc x173.1)), (124, .d (cB.enc x173.2))]),
     ([true, true, true, false, true, false], [(18, .box ((cXTable cI (cLo cI) (cLo cI) cI).enc x173.1)), (19, .un), (115, .tup [none, some (cB.enc x173.2)]), (122, .un), (123, .un), (124, .un)]),
     ([true, true, true, true, true, false], [(18, .box ((cXTable cI (cLo cI) (cLo cI) cI).enc x173.1)), (19, .un), (115, .tup [none, none]), (122, .un), (123, .un), (124, .d (cB.enc x173.2))]),
     ([true, true, true, true, true, true], [(18, .box ((cXTable cI (cLo cI) (cLo cI) cI).enc x173.1)), (19, .d (cB.enc x173.2)), (115, .tup [none, none]), (122, .un), (123, .un), (124, .d (cB.enc x173.2))])] [(8, .box ((cXTable cI (cLo cI) (cLo cI) cI).enc x33.1)), (9, .d (cB.enc x33.2)), (13, .box ((cXTable cI (cLo cI) (cLo cI) cI).enc x149.1)), (16, .d (cI.enc x149.2)), (18, .box ((cXTable cI (cLo cI) (cLo cI) cI).enc x173.1)), (19, .d (cB.enc x173.2))] [([false, false, false, false, false, false], [18]), ([true, false, false, false, false, false], [])] (by kernel_rfl) (sa1 rfl (by kernel_rfl) <| sa1 rfl (by kernel_rfl) <| sa0) rfl
    (ob1 rfl rfl rfl (x_all (cXTable cI (cLo cI) (cLo cI) cI) (⟨(0 : Int), ([] : List Int), ([] : List Int), (0 : Int)⟩ : XTable) rfl <| obN (by kernel_rfl)) <|
    ob1 rfl rfl rfl (x_mvt rfl <| obN (by kernel_rfl)) <|
    ob1 rfl rfl rfl (x_mvt rfl <| obN (by kernel_rfl)) <|
    ob1 rfl rfl rfl (x_all (cXTable cI (cLo cI) (cLo cI) cI) (⟨(0 : Int), ([] : List Int), ([] : List Int), (0 : Int)⟩ : XTable) rfl <| obN (by kernel_rfl)) <|
    ob1 rfl rfl rfl (x_ext rfl rfl <| obN (by kernel_rfl)) <|
    ob1 rfl rfl rfl (x_ext rfl rfl <| obN (by kernel_rfl)) <|
    ob1 rfl rfl rfl (x_ext rfl rfl <| obN (by kernel_rfl)) <|
    ob1 rfl rfl rfl (x_ext rfl rfl <| obN (by kernel_rfl)) <|
    ob1 rfl rfl rfl (x_all (cXTable cI (cLo cI) (cLo cI) cI) (⟨(0 : Int), ([] : List Int), ([] : List Int), (0 : Int)⟩ : XTable) rfl <| obN (by kernel_rfl)) <|
    ob1 rfl rfl rfl (x_ext rfl rfl <| obN (by kernel_rfl)) <|
    ob1 rfl rfl rfl (x_all (cXTable cI (cLo cI) (cLo cI) cI) (⟨(0 : Int), ([] : List Int), ([] : List Int), (0 : Int)⟩ : XTable) rfl <| obN (by kernel_rfl)) <|
    ob1 rfl rfl rfl (x_ext rfl rfl <| obN (by kernel_rfl)) <|
    ob1 rfl rfl rfl (x_ext rfl rfl <| obN (by kernel_rfl)) <|
    ob1 rfl rfl rfl (x_stb (so rfl rfl) rfl (Cd.h_sz _ _) rfl <| obN (by kernel_rfl)) <|
    ob1 rfl rfl rfl (x_ext rfl rfl <| obN (by kernel_rfl)) <|
    ob1 rfl rfl rfl (x_all (cXTable cI (cLo cI) (cLo cI) cI) (⟨(0 : Int), ([] : List Int), ([] : List Int), (0 : Int)⟩ : XTable) rfl <| obN (by kernel_rfl)) <|
    ob1 rfl rfl rfl (x_stb (so rfl rfl) rfl (Cd.h_sz _ _) rfl <| obN (by kernel_rfl)) <|
    ob1 rfl rfl rfl (x_ext rfl rfl <| obN (by kernel_rfl)) <|
    ob1 rfl rfl rfl (x_asg (ss rfl rfl) <| obN (by kernel_rfl)) <|
    ob0)
    (by kernel_rfl) <|
    xn <| wpC_seq <| wpC_kp <| wpC_seq <| reg_s <| st rfl <| ldbo rfl rfl rfl rfl <| st rfl <| ldbo rfl rfl rfl rfl <| bnd h fun x185 e186 h => st rfl <| o_call (a1 (c := (cXTable cI (cLo cI) (cLo cI) cI)) (tXTable tK (tLo tK) (tLo tK) tK) rfl (a1 (c := (cXTable cI (cLo cI) (cLo cI) cI)) (tXTable tK (tLo tK) (tLo tK) tK) rfl a0)) (con_laws_eqTable e186) (.inl (so1 sB so0)) <| st rfl <| o_nt rfl <| st rfl <| mvd rfl rfl <| ite_k h (fun b187 h => gf rfl b187 <| gf rfl b187 <| gf rfl b187 <| st rfl <| pick1 rfl b187 (cd := cB) (v := true) rfl rfl <| seqN [(13, .box ((cXTable cI (cLo cI) (cLo cI) cI).enc x149.1)), (16, .d (cI.enc x149.2)), (133, .d (cB.enc true))] (by kernel_rfl) <|
    xn <| cnd1 rfl rfl <| wpC_seq <| reg_s <| x_asg (sc cB false rfl) <| seqN [(6, .d (cB.enc false))] (by kernel_rfl) <|
    xn <| wpC_ret <| rt <| rt <| re <| fin h (r1 (ss rfl rfl) <| r0) rfl)
    (fun b187 h => gt' rfl b187 <| st rfl <| mvd rfl rfl <| gt' rfl b187 <| st rfl <| mvd rfl rfl <| gt' rfl b187 <| st rfl <| eqb1 rfl rfl <| st rfl <| pick0 rfl b187 (cd := cB) (v := (x173.2 != x33.2)) rfl rfl <| seqN [(13, .box ((cXTable cI (cLo cI) (cLo cI) cI).enc x149.1)), (16, .d (cI.enc x149.2)), (133, .d (cB.enc (x173.2 != x33.2)))] (by kernel_rfl) <|
    xn <| cnd rfl h (fun b188 h => wpC_seq <| reg_s <| x_asg (sc cB false rfl) <| seqN [(6, .d (cB.enc false))] (by kernel_rfl) <|
    xn <| wpC_ret <| rt <| rt <| re <| fin h (r1 (ss rfl rfl) <| r0) rfl)
    (fun b188 h => wpC_skip <| kpN [(13, .box ((cXTable cI (cLo cI) (cLo cI) cI).enc x149.1)), (16, .d (cI.enc x149.2))] (by kernel_rfl) <| xn <| wpC_seq <| reg_s <| x_asg (sc cI (1 : Int) rfl) <| seqN [(13, .box ((cXTable cI (cLo cI) (cLo cI) cI).enc x149.1)), (16, .d (cI.enc x149.2)), (17, .d (cI.enc (1 : Int)))] (by kernel_rfl) <|
    xn <| wpC_seq <| reg_s <| st rfl <| ldbo rfl rfl rfl rfl <| st rfl <| mvd rfl rfl <| bnd h fun x191 e192 h => st rfl <| o_call (a1 (c := (cXTable cI (cLo cI) (cLo cI) cI)) (tXTable tK (tLo tK) (tLo tK) tK) rfl (a1 (c := cI) tK rfl a0)) (con_laws_heldTable e192) (.inl (so1 sK so0)) <| x_asg (ss rfl rfl) <| seqN [(16, .d (cI.enc x149.2)), (17, .d (cI.enc x191))] (by kernel_rfl) <|
    xn <| wpC_seq <| wpC_kp <| wpC_seq <| reg_s <| st rfl <| mvd rfl rfl <| st rfl <| b_lss (k := .i64) rfl rfl <| seqN [(16, .d (cI.enc x149.2)), (17, .d (cI.enc x191)), (138, .d (cB.enc (decide (x191 < (0 : Int)))))] (by kernel_rfl) <|
    xn <| cnd rfl h (fun b194 h => wpC_seq <| reg_s <| x_asg (sc cB false rfl) <| seqN [(6, .d (cB.enc false))] (by kernel_rfl) <|
    xn <| wpC_ret <| rt <| rt <| re <| fin h (r1 (ss rfl rfl) <| r0) rfl)
    (fun b194 h => wpC_skip <| kpN [(16, .d (cI.enc x149.2)), (17, .d (cI.enc x191))] (by kernel_rfl) <| xn <| wpC_seq <| wpC_kp <| wpC_seq <| reg_s <| st rfl <| mvd rfl rfl <| st rfl <| mvd rfl rfl <| st rfl <| b_neq (k := .i64) rfl rfl <| seqN [(141, .d (cB.enc (decide (x191 ≠ x149.2))))] (by kernel_rfl) <|
    xn <| cnd rfl h (fun b196 h => wpC_seq <| reg_s <| x_asg (sc cB false rfl) <| seqN [(6, .d (cB.enc false))] (by kernel_rfl) <|
    xn <| wpC_ret <| rt <| rt <| re <| fin h (r1 (ss rfl rfl) <| r0) rfl)
    (fun b196 h => wpC_skip <| kpN [] (by kernel_rfl) <| xn <| wpC_seq <| reg_s <| x_asg (sc cB true rfl) <| seqN [(6, .d (cB.enc true))] (by kernel_rfl) <|
    xn <| wpC_ret <| re <| fin h (r1 (ss rfl rfl) <| r0) rfl))))⟩⟩⟩⟩⟩⟩⟩⟩)))))⟩⟩⟩⟩⟩))⟩⟩⟩⟩⟩))⟩⟩⟩⟩⟩⟩⟩⟩)))
end AS.W
