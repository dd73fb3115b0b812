/- The program computes the plain functions. No condition. -/
import Derived.Test.YtliinmppiocmcaaDoorQParseReportS
import Derived.Test.YtliinmppiocmcaaDoorProg
import Derived.Test.YtliinmppiocmcaaDoorQParseReportX
set_option maxRecDepth 100000
set_option linter.unusedVariables false
set_option linter.unusedSimpArgs false
namespace AS.W
open Go Go.Proofs
def rs_laws_szVariable (r : Int) : List D := [cI.enc r]
def m44 : MC := .seq (.reg [⟨some 2, .box (.t 0), none⟩,
    ⟨some 4, .asg (.c (.int .i64 0)), none⟩] [1, 2])
  (.seq (.reg [⟨some 5, .mv (.t 1), none⟩,
    ⟨some 6, .fa 2 0 0, none⟩,
    ⟨some 7, .ld 6 1 false, none⟩,
    ⟨some 8, .len true (.t 7), none⟩,
    ⟨some 9, .bin .sub (.t 5) (.t 8), none⟩,
    ⟨some 1, .asg (.t 9), none⟩] [1])
  (.seq (.kp [1] (.seq (.reg [⟨some 10, .mv (.t 1), none⟩,
    ⟨some 11, .bin .lss (.t 10) (.c (.int .i64 0)), none⟩] [1, 11])
  (.cond (.t 11) (.seq (.reg [⟨some 4, .asg (.c (.int .i64 (-1))), none⟩] [4])
  (.ret)) (.skip))))
  (.seq (.reg [⟨some 12, .mv (.t 1), none⟩,
    ⟨some 4, .asg (.t 12), none⟩] [4])
  (.ret))))
theorem con_laws_szVariable {v0 : XVariable} {v1 : Int} {r : Int} (h : sh_laws_szVariable v0 v1 = some r) : Con Tryd.prog 44 [(cXVariable cS cI).enc v0, cI.enc v1] [] (rs_laws_szVariable r) := by
  delta sh_laws_szVariable at h
  refine top (out := none) (f := Tryd.f44) (m := m44) (rs := [.t 4]) (by kernel_rfl) rfl (by kernel_rfl) (by kernel_rfl) (by kernel_rfl) (by kernel_rfl) (by kernel_rfl) ?_
  exact
   ini [(0, .d ((cXVariable cS cI).enc v0)), (1, .d (cI.enc v1))] rfl <| wpC_seq <| reg_s <| x_box (ss rfl rfl) <| x_asg (sc cI (0 : Int) rfl) <| seqN [(1, .d (cI.enc v1)), (2, .box ((cXVariable cS cI).enc v0))] (by kernel_rfl) <|
    xn <| wpC_seq <| reg_s <| st rfl <| mvd rfl rfl <| st rfl <| fab rfl rfl rfl rfl <| st rfl <| lda rfl rfl rfl rfl rfl rfl <| stw rfl <| lent rfl fun l3 => ckI_k h fun i4 h => st rfl <| b_sub (k := .i64) rfl rfl i4 <| x_asg (ss rfl rfl) <| seqN [(1, .d (cI.enc (v1 - (v0.Name.length : Int))))] (by kernel_rfl) <|
    xn <| wpC_seq <| wpC_kp <| wpC_seq <| reg_s <| st rfl <| mvd rfl rfl <| st rfl <| b_lss (k := .i64) rfl rfl <| seqN [(1, .d (cI.enc (v1 - (v0.Name.length : Int)))), (11, .d (cB.enc (decide ((v1 - (v0.Name.length : Int)) < (0 : Int)))))] (by kernel_rfl) <|
    xn <| cnd rfl h (fun b6 h => wpC_seq <| reg_s <| x_asg (sc cI (-1 : Int) rfl) <| seqN [(4, .d (cI.enc (-1 : Int)))] (by kernel_rfl) <|
    xn <| wpC_ret <| rt <| rt <| re <| fin h (r1 (ss rfl rfl) <| r0) rfl)
    (fun b6 h => wpC_skip <| kpN [(1, .d (cI.enc (v1 - (v0.Name.length : Int))))] (by kernel_rfl) <| xn <| wpC_seq <| reg_s <| st rfl <| mvd rfl rfl <| x_asg (ss rfl rfl) <| seqN [(4, .d (cI.enc (v1 - (v0.Name.length : Int))))] (by kernel_rfl) <|
    xn <| wpC_ret <| re <| fin h (r1 (ss rfl rfl) <| r0) rfl)

def rs_laws_szVariableS (r : Int) : List D := [cI.enc r]
def m10 : MC := .seq (.reg [⟨some 4, .asg (.c (.int .i64 0)), none⟩] [0, 1])
  (.seq (.reg [⟨some 6, .mv (.t 1), none⟩,
    ⟨some 7, .mv (.t 0), none⟩,
    ⟨some 8, .len false (.t 7), none⟩,
    ⟨some 9, .bin .sub (.t 6) (.t 8), none⟩,
    ⟨some 1, .asg (.t 9), none⟩] [0, 1])
  (.seq (.kp [0, 1] (.seq (.reg [⟨some 10, .mv (.t 1), none⟩,
    ⟨some 11, .bin .lss (.t 10) (.c (.int .i64 0)), none⟩] [0, 1, 11])
  (.cond (.t 11) (.seq (.reg [⟨some 4, .asg (.c (.int .i64 (-1))), none⟩] [4])
  (.ret)) (.skip))))
  (.seq (.kp [1] (.seq (.reg [⟨some 5, .asg (.c (.int .i64 0)), none⟩] [0, 1, 5])
  (.blk 0 (.loop (.seq (.kp [0, 1, 5] (.seq (.reg [⟨some 12, .mv (.t 5), none⟩,
    ⟨some 13, .mv (.t 0), none⟩,
    ⟨some 14, .len false (.t 13), none⟩,
    ⟨some 15, .bin .lss (.t 12) (.t 14), none⟩] [0, 1, 5, 15])
  (.cond (.t 15) (.skip) (.exit 0))))
  (.seq (.kp [0, 1, 5] (.blk 1 (.seq (.reg [⟨some 18, .mv (.t 0), none⟩,
    ⟨some 19, .mv (.t 5), none⟩,
    ⟨some 20, .ia 18 (.t 19) 2, none⟩,
    ⟨some 21, .ld 20 2 true, none⟩,
    ⟨some 22, .mv (.t 1), none⟩,
    ⟨some 23, .call 44 [(.t 21), (.t 22)], none⟩,
    ⟨some 1, .asg (.t 23), none⟩] [0, 1, 5])
  (.seq (.reg [⟨some 24, .mv (.t 1), none⟩,
    ⟨some 25, .bin .lss (.t 24) (.c (.int .i64 0)), none⟩] [0, 1, 5, 25])
  (.cond (.t 25) (.seq (.reg [⟨some 4, .asg (.c (.int .i64 (-1))), none⟩] [4])
  (.ret)) (.skip))))))
  (.reg [⟨some 16, .mv (.t 5), none⟩,
    ⟨some 17, .bin .add (.t 16) (.c (.int .i64 1)), none⟩,
    ⟨some 5, .asg (.t 17), none⟩] [0, 1, 5])))))))
  (.seq (.reg [⟨some 26, .mv (.t 1), none⟩,
    ⟨some 4, .asg (.t 26), none⟩] [4])
  (.ret)))))
theorem con_laws_szVariableS {v0 : (List XVariable)} {v1 : Int} {r : Int} (h : sh_laws_szVariableS v0 v1 = some r) : Con Tryd.prog 10 [(cLs (cXVariable cS cI) rfl).enc v0, cI.enc v1] [] (rs_laws_szVariableS r) := by
  delta sh_laws_szVariableS at h
  refine top (out := none) (f := Tryd.f10) (m := m10) (rs := [.t 4]) (by kernel_rfl) rfl (by kernel_rfl) (by kernel_rfl) (by kernel_rfl) (by kernel_rfl) (by kernel_rfl) ?_
  exact
   ini [(0, .d ((cLs (cXVariable cS cI) rfl).enc v0)), (1, .d (cI.enc v1))] rfl <| wpC_seq <| reg_s <| x_asg (sc cI (0 : Int) rfl) <| seqN [(0, .d ((cLs (cXVariable cS cI) rfl).enc v0)), (1, .d (cI.enc v1))] (by kernel_rfl) <|
    xn <| wpC_seq <| reg_s <| st rfl <| mvd rfl rfl <| st rfl <| mvd rfl rfl <| stw rfl <| lens rfl fun l3 => ckI_k h fun i4 h => st rfl <| b_sub (k := .i64) rfl rfl i4 <| x_asg (ss rfl rfl) <| seqN [(0, .d ((cLs (cXVariable cS cI) rfl).enc v0)), (1, .d (cI.enc (v1 - (v0.length : Int))))] (by kernel_rfl) <|
    xn <| wpC_seq <| wpC_kp <| wpC_seq <| reg_s <| st rfl <| mvd rfl rfl <| st rfl <| b_lss (k := .i64) rfl rfl <| seqN [(0, .d ((cLs (cXVariable cS cI) rfl).enc v0)), (1, .d (cI.enc (v1 - (v0.length : Int)))), (11, .d (cB.enc (decide ((v1 - (v0.length : Int)) < (0 : Int)))))] (by kernel_rfl) <|
    xn <| cnd rfl h (fun b6 h => wpC_seq <| reg_s <| x_asg (sc cI (-1 : Int) rfl) <| seqN [(4, .d (cI.enc (-1 : Int)))] (by kernel_rfl) <|
    xn <| wpC_ret <| rt <| rt <| re <| fin h (r1 (ss rfl rfl) <| r0) rfl)
    (fun b6 h => wpC_skip <| kpN [(0, .d ((cLs (cXVariable cS cI) rfl).enc v0)), (1, .d (cI.enc (v1 - (v0.length : Int))))] (by kernel_rfl) <| xn <| wpC_seq <| wpC_kp <| wpC_seq <| reg_s <| x_asg (sc cI (0 : Int) rfl) <| seqN [(0, .d ((cLs (cXVariable cS cI) rfl).enc v0)), (1, .d (cI.enc (v1 - (v0.length : Int)))), (5, .d (cI.enc (0 : Int)))] (by kernel_rfl) <|
    xn <| wpC_blk <| lpF (fun (s102 : (Int × Int)) => [(0, .d ((cLs (cXVariable cS cI) rfl).enc v0)), (1, .d (cI.enc s102.1)), (5, .d (cI.enc s102.2))]) ((v1 - (v0.length : Int)), (0 : Int)) rfl h
    fun G167 nx165 s102 hn166 h => wpC_seq <| wpC_kp <| wpC_seq <| reg_s <| st rfl <| mvd rfl rfl <| st rfl <| mvd rfl rfl <| stw rfl <| lens rfl fun l172 => st rfl <| b_lss (k := .i64) rfl rfl <| seqN [(0, .d ((cLs (cXVariable cS cI) rfl).enc v0)), (1, .d (cI.enc s102.1)), (5, .d (cI.enc s102.2)), (15, .d (cB.enc (decide (s102.2 < (v0.length : Int)))))] (by kernel_rfl) <|
    xn <| cnd rfl h (fun b173 h => wpC_skip <| kpN [(0, .d ((cLs (cXVariable cS cI) rfl).enc v0)), (1, .d (cI.enc s102.1)), (5, .d (cI.enc s102.2))] (by kernel_rfl) <| xn <| wpC_seq <| wpC_kp <| wpC_blk <| wpC_seq <| reg_s <| st rfl <| mvd rfl rfl <| st rfl <| mvd rfl rfl <| getO_k h fun x190 i191 g192 h => st rfl <| ias rfl rfl i191 g192 rfl <| st rfl <| ldi rfl rfl rfl rfl <| st rfl <| mvd rfl rfl <| bnd h fun x193 e194 h => st rfl <| o_call (a1 (c := (cXVariable cS cI)) (tXVariable tS tK) rfl (a1 (c := cI) tK rfl a0)) (con_laws_szVariable e194) (.inl (so1 sK so0)) <| x_asg (ss rfl rfl) <| seqN [(0, .d ((cLs (cXVariable cS cI) rfl).enc v0)), (1, .d (cI.enc x193)), (5, .d (cI.enc s102.2))] (by kernel_rfl) <|
    xn <| wpC_seq <| reg_s <| st rfl <| mvd rfl rfl <| st rfl <| b_lss (k := .i64) rfl rfl <| seqN [(0, .d ((cLs (cXVariable cS cI) rfl).enc v0)), (1, .d (cI.enc x193)), (5, .d (cI.enc s102.2)), (25, .d (cB.enc (decide (x193 < (0 : Int)))))] (by kernel_rfl) <|
    xn <| cnd rfl h (fun b195 h => wpC_seq <| reg_s <| x_asg (sc cI (-1 : Int) rfl) <| seqN [(4, .d (cI.enc (-1 : Int)))] (by kernel_rfl) <|
    xn <| wpC_ret <| rb <| rt <| rt <| rt <| rb <| rt <| rt <| re <| fin h (r1 (ss rfl rfl) <| r0) rfl)
    (fun b195 h => wpC_skip <| xbb <| kpN [(0, .d ((cLs (cXVariable cS cI) rfl).enc v0)), (1, .d (cI.enc x193)), (5, .d (cI.enc s102.2))] (by kernel_rfl) <| xn <| reg_s <| st rfl <| mvd rfl rfl <| ckI_k h fun i196 h => st rfl <| b_add (k := .i64) rfl rfl i196 <| x_asg (ss rfl rfl) <| seqN [(0, .d ((cLs (cXVariable cS cI) rfl).enc v0)), (1, .d (cI.enc x193)), (5, .d (cI.enc (s102.2 + (1 : Int))))] (by kernel_rfl) <|
    xn <| hn166 (x193, (s102.2 + (1 : Int))) h))
    (fun b173 h => wpC_exit <| xt <| xt <| xt <| xb <| kpN [(1, .d (cI.enc s102.1))] (by kernel_rfl) <| xn <| wpC_seq <| reg_s <| st rfl <| mvd rfl rfl <| x_asg (ss rfl rfl) <| seqN [(4, .d (cI.enc s102.1))] (by kernel_rfl) <|
    xn <| wpC_ret <| re <| fin h (r1 (ss rfl rfl) <| r0) rfl))

def rs_laws_toVariable (r : XVariable) : List D := [(cXVariable cS cI).enc r]
def m47 : MC := .seq (.reg [⟨some 1, .box (.t 0), none⟩,
    ⟨some 2, .alloc (.agg [.str [], .int .i64 0]), none⟩] [1, 2])
  (.seq (.reg [⟨some 3, .alloc (.agg [.str [], .int .i64 0]), none⟩] [1, 2, 3])
  (.seq (.reg [⟨some 4, .fa 1 0 0, none⟩,
    ⟨some 5, .ld 4 1 false, none⟩,
    ⟨some 6, .fa 3 0 0, none⟩,
    ⟨none, .st 6 (.t 5) 1, none⟩] [1, 2, 3])
  (.seq (.reg [⟨some 7, .fa 1 1 1, none⟩,
    ⟨some 8, .ld 7 1 false, none⟩,
    ⟨some 9, .fa 3 1 1, none⟩,
    ⟨none, .st 9 (.t 8) 1, none⟩] [2, 3])
  (.seq (.reg [⟨some 10, .ld 3 2 true, none⟩,
    ⟨none, .st 2 (.t 10) 2, none⟩] [2])
  (.ret)))))
theorem con_laws_toVariable {v0 : XVariable} {r : XVariable} (h : sh_laws_toVariable v0 = some r) : Con Tryd.prog 47 [(cXVariable cS cI).enc v0] [] (rs_laws_toVariable r) := by
  delta sh_laws_toVariable at h
  refine top (out := none) (f := Tryd.f47) (m := m47) (rs := [.c 2 2 true]) (by kernel_rfl) rfl (by kernel_rfl) (by kernel_rfl) (by kernel_rfl) (by kernel_rfl) (by kernel_rfl) ?_
  exact
   ini [(0, .d ((cXVariable cS cI).enc v0))] rfl <| wpC_seq <| reg_s <| x_box (ss rfl rfl) <| x_all (cXVariable cS cI) (⟨([] : List UInt8), (0 : Int)⟩ : XVariable) rfl <| seqN [(1, .box ((cXVariable cS cI).enc v0)), (2, .box ((cXVariable cS cI).enc (⟨([] : List UInt8), (0 : Int)⟩ : XVariable)))] (by kernel_rfl) <|
    xn <| wpC_seq <| reg_s <| x_all (cXVariable cS cI) (⟨([] : List UInt8), (0 : Int)⟩ : XVariable) rfl <| seqN [(1, .box ((cXVariable cS cI).enc v0)), (2, .box ((cXVariable cS cI).enc (⟨([] : List UInt8), (0 : Int)⟩ : XVariable))), (3, .box ((cXVariable cS cI).enc (⟨([] : List UInt8), (0 : Int)⟩ : XVariable)))] (by kernel_rfl) <|
    xn <| wpC_seq <| reg_s <| st rfl <| fab rfl rfl rfl rfl <| st rfl <| lda rfl rfl rfl rfl rfl rfl <| st rfl <| fab rfl rfl rfl rfl <| x_sta ((cXVariable cS cI).enc (⟨v0.Name, (0 : Int)⟩ : XVariable)) (ss rfl rfl) rfl rfl (Ln.fld rfl rfl Ln.nil rfl) (Cd.h_sz cS _) rfl <| seqN [(1, .box ((cXVariable cS cI).enc v0)), (2, .box ((cXVariable cS cI).enc (⟨([] : List UInt8), (0 : Int)⟩ : XVariable))), (3, .box ((cXVariable cS cI).enc (⟨v0.Name, (0 : Int)⟩ : XVariable)))] (by kernel_rfl) <|
    xn <| wpC_seq <| reg_s <| st rfl <| fab rfl rfl rfl rfl <| st rfl <| lda rfl rfl rfl rfl rfl rfl <| st rfl <| fab rfl rfl rfl rfl <| x_sta ((cXVariable cS cI).enc (⟨v0.Name, v0.Levels⟩ : XVariable)) (ss rfl rfl) rfl rfl (Ln.fld rfl rfl Ln.nil rfl) (Cd.h_sz cI _) rfl <| seqN [(2, .box ((cXVariable cS cI).enc (⟨([] : List UInt8), (0 : Int)⟩ : XVariable))), (3, .box ((cXVariable cS cI).enc (⟨v0.Name, v0.Levels⟩ : XVariable)))] (by kernel_rfl) <|
    xn <| wpC_seq <| reg_s <| st rfl <| ldb rfl rfl rfl rfl <| x_stb (ss rfl rfl) rfl (Cd.h_sz _ _) rfl <| seqN [(2, .box ((cXVariable cS cI).enc (⟨v0.Name, v0.Levels⟩ : XVariable)))] (by kernel_rfl) <|
    xn <| wpC_ret <| re <| fin h (r2 rfl rfl rfl <| r0) rfl

def rs_laws_toVariableS (r : (List XVariable)) : List D := [(cLo (cXVariable cS cI)).enc r]
def m14 : MC := .seq (.reg [⟨some 2, .asg (.c (.slice true [])), none⟩] [0])
  (.seq (.reg [⟨some 5, .mv (.t 0), none⟩,
    ⟨some 6, .len false (.t 5), none⟩,
    ⟨some 7, .mk (.agg [.str [], .int .i64 0]) (.t 6), none⟩,
    ⟨some 3, .asg (.t 7), none⟩] [0, 3])
  (.seq (.kp [3] (.seq (.reg [⟨some 4, .asg (.c (.int .i64 0)), none⟩] [0, 3, 4])
  (.blk 0 (.loop (.seq (.kp [0, 3, 4] (.seq (.reg [⟨some 8, .mv (.t 4), none⟩,
    ⟨some 9, .mv (.t 0), none⟩,
    ⟨some 10, .len false (.t 9), none⟩,
    ⟨some 11, .bin .lss (.t 8) (.t 10), none⟩] [0, 3, 4, 11])
  (.cond (.t 11) (.skip) (.exit 0))))
  (.seq (.kp [0, 3, 4] (.blk 1 (.reg [⟨some 14, .mv (.t 3), none⟩,
    ⟨some 15, .mv (.t 4), none⟩,
    ⟨some 16, .mv (.t 0), none⟩,
    ⟨some 17, .mv (.t 4), none⟩,
    ⟨some 18, .ia 16 (.t 17) 2, none⟩,
    ⟨some 19, .ld 18 2 true, none⟩,
    ⟨some 20, .call 47 [(.t 19)], none⟩,
    ⟨some 21, .ia 14 (.t 15) 2, none⟩,
    ⟨none, .st 21 (.t 20) 2, none⟩] [0, 3, 4])))
  (.reg [⟨some 12, .mv (.t 4), none⟩,
    ⟨some 13, .bin .add (.t 12) (.c (.int .i64 1)), none⟩,
    ⟨some 4, .asg (.t 13), none⟩] [0, 3, 4])))))))
  (.seq (.reg [⟨some 22, .mv (.t 3), none⟩,
    ⟨some 2, .asg (.t 22), none⟩] [2])
  (.ret))))
theorem con_laws_toVariableS {v0 : (List XVariable)} {r : (List XVariable)} (h : sh_laws_toVariableS v0 = some r) : Con Tryd.prog 14 [(cLs (cXVariable cS cI) rfl).enc v0] [] (rs_laws_toVariableS r) := by
  delta sh_laws_toVariableS at h
  refine top (out := none) (f := Tryd.f14) (m := m14) (rs := [.t 2]) (by kernel_rfl) rfl (by kernel_rfl) (by kernel_rfl) (by kernel_rfl) (by kernel_rfl) (by kernel_rfl) ?_
  exact
   ini [(0, .d ((cLs (cXVariable cS cI) rfl).enc v0))] rfl <| wpC_seq <| reg_s <| x_asg (sc (cLo (cXVariable cS cI)) ([] : List XVariable) rfl) <| seqN [(0, .d ((cLs (cXVariable cS cI) rfl).enc v0))] (by kernel_rfl) <|
    xn <| wpC_seq <| reg_s <| st rfl <| mvd rfl rfl <| stw rfl <| lens rfl fun l4 => mkO_k h fun i5 l6 h => st rfl <| o_mk (c := (cXVariable cS cI)) (a0 := (⟨([] : List UInt8), (0 : Int)⟩ : XVariable)) rfl (k := .i64) rfl i5 l6 <| x_asg (so rfl rfl) <| seqN [(0, .d ((cLs (cXVariable cS cI) rfl).enc v0)), (3, .d ((cLo (cXVariable cS cI)).enc (List.replicate ((v0.length : Int)).toNat (⟨([] : List UInt8), (0 : Int)⟩ : XVariable))))] (by kernel_rfl) <|
    xn <| wpC_seq <| wpC_kp <| wpC_seq <| reg_s <| x_asg (sc cI (0 : Int) rfl) <| seqN [(0, .d ((cLs (cXVariable cS cI) rfl).enc v0)), (3, .d ((cLo (cXVariable cS cI)).enc (List.replicate ((v0.length : Int)).toNat (⟨([] : List UInt8), (0 : Int)⟩ : XVariable)))), (4, .d (cI.enc (0 : Int)))] (by kernel_rfl) <|
    xn <| wpC_blk <| lpF (fun (s84 : ((List XVariable) × Int)) => [(0, .d ((cLs (cXVariable cS cI) rfl).enc v0)), (3, .d ((cLo (cXVariable cS cI)).enc s84.1)), (4, .d (cI.enc s84.2))]) ((List.replicate ((v0.length : Int)).toNat (⟨([] : List UInt8), (0 : Int)⟩ : XVariable)), (0 : Int)) rfl h
    fun G137 nx135 s84 hn136 h => wpC_seq <| wpC_kp <| wpC_seq <| reg_s <| st rfl <| mvd rfl rfl <| st rfl <| mvd rfl rfl <| stw rfl <| lens rfl fun l142 => st rfl <| b_lss (k := .i64) rfl rfl <| seqN [(0, .d ((cLs (cXVariable cS cI) rfl).enc v0)), (3, .d ((cLo (cXVariable cS cI)).enc s84.1)), (4, .d (cI.enc s84.2)), (11, .d (cB.enc (decide (s84.2 < (v0.length : Int)))))] (by kernel_rfl) <|
    xn <| cnd rfl h (fun b143 h => wpC_skip <| kpN [(0, .d ((cLs (cXVariable cS cI) rfl).enc v0)), (3, .d ((cLo (cXVariable cS cI)).enc s84.1)), (4, .d (cI.enc s84.2))] (by kernel_rfl) <| xn <| wpC_seq <| wpC_kp <| wpC_blk <| reg_s <| st rfl <| mvo rfl rfl <| st rfl <| mvd rfl rfl <| st rfl <| mvd rfl rfl <| st rfl <| mvd rfl rfl <| getO_k h fun x152 i153 g154 h => st rfl <| ias rfl rfl i153 g154 rfl <| st rfl <| ldi rfl rfl rfl rfl <| bnd h fun x155 e156 h => st rfl <| o_call (a1 (c := (cXVariable cS cI)) (tXVariable tS tK) rfl a0) (con_laws_toVariable e156) (.inl (so1 (sXVariable sS sK) so0)) <| getO_k h fun x157 i158 g159 h => st rfl <| iar rfl rfl rfl rfl i158 g159 rfl <| x_sta ((cLo (cXVariable cS cI)).enc (s84.1.set (s84.2).toNat x155)) (ss rfl rfl) rfl rfl (Ln.idx g159 Ln.nil) (Cd.h_sz (cXVariable cS cI) _) rfl <| seqN [(0, .d ((cLs (cXVariable cS cI) rfl).enc v0)), (3, .d ((cLo (cXVariable cS cI)).enc (s84.1.set (s84.2).toNat x155))), (4, .d (cI.enc s84.2))] (by kernel_rfl) <|
    xbb <| kpN [(0, .d ((cLs (cXVariable cS cI) rfl).enc v0)), (3, .d ((cLo (cXVariable cS cI)).enc (s84.1.set (s84.2).toNat x155))), (4, .d (cI.enc s84.2))] (by kernel_rfl) <| xn <| reg_s <| st rfl <| mvd rfl rfl <| ckI_k h fun i160 h => st rfl <| b_add (k := .i64) rfl rfl i160 <| x_asg (ss rfl rfl) <| seqN [(0, .d ((cLs (cXVariable cS cI) rfl).enc v0)), (3, .d ((cLo (cXVariable cS cI)).enc (s84.1.set (s84.2).toNat x155))), (4, .d (cI.enc (s84.2 + (1 : Int))))] (by kernel_rfl) <|
    xn <| hn136 ((s84.1.set (s84.2).toNat x155), (s84.2 + (1 : Int))) h)
    (fun b143 h => wpC_exit <| xt <| xt <| xt <| xb <| kpN [(3, .d ((cLo (cXVariable cS cI)).enc s84.1))] (by kernel_rfl) <| xn <| wpC_seq <| reg_s <| st rfl <| mvo rfl rfl <| x_asg (sr rfl rfl) <| seqN [(2, .d ((cLo (cXVariable cS cI)).enc s84.1))] (by kernel_rfl) <|
    xn <| wpC_ret <| re <| fin h (r1 (so rfl rfl) <| r0) rfl)

def rs_laws_toVariableS_fz (r : (List XVariable)) : List D := [(cLs (cXVariable cS cI) rfl).enc r]
theorem con_laws_toVariableS_fz {v0 : (List XVariable)} {r : (List XVariable)} (h : sh_laws_toVariableS v0 = some r) : Con Tryd.prog 14 [(cLs (cXVariable cS cI) rfl).enc v0] [] (rs_laws_toVariableS_fz r) := con_fz (tLo (tXVariable tS tK)) (con_laws_toVariableS h)

def rs_spec_l1In (r : Bool) : List D := [cB.enc r]
def m51 : MC := .seq (.reg [⟨some 6, .asg (.c (.bool false)), none⟩] [0, 1, 2])
  (.seq (.reg [⟨some 7, .mv (.t 0), none⟩,
    ⟨some 8, .mv (.t 1), none⟩,
    ⟨some 9, .bin .geq (.t 7) (.t 8), none⟩,
    ⟨some 10, .mv (.t 9), none⟩,
    ⟨some 11, .mv (.t 0), some (10, true)⟩,
    ⟨some 12, .mv (.t 2), some (10, true)⟩,
    ⟨some 13, .bin .leq (.t 11) (.t 12), some (10, true)⟩,
    ⟨some 14, .pick (.t 10) (.t 13) (.c (.bool false)), none⟩,
    ⟨some 6, .asg (.t 14), none⟩] [6])
  (.ret))
theorem con_spec_l1In {v0 : Int} {v1 : Int} {v2 : Int} {r : Bool} (h : sh_spec_l1In v0 v1 v2 = some r) : Con Tryd.prog 51 [cI.enc v0, cI.enc v1, cI.enc v2] [] (rs_spec_l1In r) := by
  delta sh_spec_l1In at h
  refine top (out := none) (f := Tryd.f51) (m := m51) (rs := [.t 6]) (by kernel_rfl) rfl (by kernel_rfl) (by kernel_rfl) (by kernel_rfl) (by kernel_rfl) (by kernel_rfl) ?_
  exact
   ini [(0, .d (cI.enc v0)), (1, .d (cI.enc v1)), (2, .d (cI.enc v2))] rfl <| wpC_seq <| reg_s <| x_asg (sc cB false rfl) <| seqN [(0, .d (cI.enc v0)), (1, .d (cI.enc v1)), (2, .d (cI.enc v2))] (by kernel_rfl) <|
    xn <| wpC_seq <| reg_s <| st rfl <| mvd rfl rfl <| st rfl <| mvd rfl rfl <| st rfl <| b_geq (k := .i64) rfl rfl <| st rfl <| mvd rfl rfl <| ite_k h (fun b2 h => gt' rfl b2 <| st rfl <| mvd rfl rfl <| gt' rfl b2 <| st rfl <| mvd rfl rfl <| gt' rfl b2 <| st rfl <| b_leq (k := .i64) rfl rfl <| st rfl <| pick1 rfl b2 (cd := cB) (v := (decide (v0 ≤ v2))) rfl rfl <| x_asg (ss rfl rfl) <| seqN [(6, .d (cB.enc (decide (v0 ≤ v2))))] (by kernel_rfl) <|
    xn <| wpC_ret <| re <| fin h (r1 (ss rfl rfl) <| r0) rfl)
    (fun b2 h => gf rfl b2 <| gf rfl b2 <| gf rfl b2 <| st rfl <| pick0 rfl b2 (cd := cB) (v := false) rfl rfl <| x_asg (ss rfl rfl) <| seqN [(6, .d (cB.enc false))] (by kernel_rfl) <|
    xn <| wpC_ret <| re <| fin h (r1 (ss rfl rfl) <| r0) rfl)

def rs_spec_sName (r : Bool) : List D := [cB.enc r]
def m103 : MC := .seq (.reg [⟨some 2, .asg (.c (.bool false)), none⟩] [0])
  (.seq (.kp [0] (.seq (.reg [⟨some 3, .asg (.c (.int .i64 0)), none⟩] [0, 3])
  (.blk 0 (.loop (.seq (.kp [0, 3] (.seq (.reg [⟨some 4, .mv (.t 3), none⟩,
    ⟨some 5, .mv (.t 0), none⟩,
    ⟨some 6, .len true (.t 5), none⟩,
    ⟨some 7, .bin .lss (.t 4) (.t 6), none⟩] [0, 3, 7])
  (.cond (.t 7) (.skip) (.exit 0))))
  (.seq (.kp [0, 3] (.blk 1 (.seq (.reg [⟨some 10, .mv (.t 0), none⟩,
    ⟨some 11, .mv (.t 3), none⟩,
    ⟨some 12, .ix (.t 10) (.t 11), none⟩,
    ⟨some 13, .bin .lss (.t 12) (.c (.int .u8 97)), none⟩,
    ⟨some 14, .mv (.t 13), none⟩,
    ⟨some 15, .mv (.t 0), some (14, false)⟩,
    ⟨some 16, .mv (.t 3), some (14, false)⟩,
    ⟨some 17, .ix (.t 15) (.t 16), some (14, false)⟩,
    ⟨some 18, .bin .gtr (.t 17) (.c (.int .u8 122)), some (14, false)⟩,
    ⟨some 19, .pick (.t 14) (.c (.bool true)) (.t 18), none⟩] [0, 3, 19])
  (.cond (.t 19) (.seq (.reg [⟨some 2, .asg (.c (.bool false)), none⟩] [2])
  (.ret)) (.skip)))))
  (.reg [⟨some 8, .mv (.t 3), none⟩,
    ⟨some 9, .bin .add (.t 8) (.c (.int .i64 1)), none⟩,
    ⟨some 3, .asg (.t 9), none⟩] [0, 3])))))))
  (.seq (.reg [⟨some 20, .mv (.t 0), none⟩,
    ⟨some 21, .len true (.t 20), none⟩,
    ⟨some 22, .call 51 [(.t 21), (.c (.int .i64 1)), (.c (.int .i64 8))], none⟩,
    ⟨some 2, .asg (.t 22), none⟩] [2])
  (.ret)))
theorem con_spec_sName {v0 : (List UInt8)} {r : Bool} (h : sh_spec_sName v0 = some r) : Con Tryd.prog 103 [cS.enc v0] [] (rs_spec_sName r) := by
  delta sh_spec_sName at h
  refine top (out := none) (f := Tryd.f103) (m := m103) (rs := [.t 2]) (by kernel_rfl) rfl (by kernel_rfl) (by kernel_rfl) (by kernel_rfl) (by kernel_rfl) (by kernel_rfl) ?_
  exact
   ini [(0, .d (cS.enc v0))] rfl <| wpC_seq <| reg_s <| x_asg (sc cB false rfl) <| seqN [(0, .d (cS.enc v0))] (by kernel_rfl) <|
    xn <| wpC_seq <| wpC_kp <| wpC_seq <| reg_s <| x_asg (sc cI (0 : Int) rfl) <| seqN [(0, .d (cS.enc v0)), (3, .d (cI.enc (0 : Int)))] (by kernel_rfl) <|
    xn <| wpC_blk <| lpF (fun (s84 : Int) => [(0, .d (cS.enc v0)), (3, .d (cI.enc s84))]) (0 : Int) rfl h
    fun G141 nx139 s84 hn140 h => wpC_seq <| wpC_kp <| wpC_seq <| reg_s <| st rfl <| mvd rfl rfl <| st rfl <| mvd rfl rfl <| stw rfl <| lent rfl fun l146 => st rfl <| b_lss (k := .i64) rfl rfl <| seqN [(0, .d (cS.enc v0)), (3, .d (cI.enc s84)), (7, .d (cB.enc (decide (s84 < (v0.length : Int)))))] (by kernel_rfl) <|
    xn <| cnd rfl h (fun b147 h => wpC_skip <| kpN [(0, .d (cS.enc v0)), (3, .d (cI.enc s84))] (by kernel_rfl) <| xn <| wpC_seq <| wpC_kp <| wpC_blk <| wpC_seq <| reg_s <| st rfl <| mvd rfl rfl <| st rfl <| mvd rfl rfl <| getO_k h fun x161 i162 g163 h => st rfl <| o_ix (k := .i64) rfl rfl i162 g163 <| st rfl <| b_lss (k := .u8) rfl rfl <| st rfl <| mvd rfl rfl <| ite_k h (fun b164 h => gf rfl b164 <| gf rfl b164 <| gf rfl b164 <| gf rfl b164 <| st rfl <| pick1 rfl b164 (cd := cB) (v := true) rfl rfl <| seqN [(0, .d (cS.enc v0)), (3, .d (cI.enc s84)), (19, .d (cB.enc true))] (by kernel_rfl) <|
    xn <| cnd1 rfl rfl <| wpC_seq <| reg_s <| x_asg (sc cB false rfl) <| seqN [(2, .d (cB.enc false))] (by kernel_rfl) <|
    xn <| wpC_ret <| rb <| rt <| rt <| rt <| rb <| rt <| rt <| re <| fin h (r1 (ss rfl rfl) <| r0) rfl)
    (fun b164 h => gt' rfl b164 <| st rfl <| mvd rfl rfl <| gt' rfl b164 <| st rfl <| mvd rfl rfl <| gt' rfl b164 <| st rfl <| o_ix (k := .i64) rfl rfl i162 g163 <| gt' rfl b164 <| st rfl <| b_gtr (k := .u8) rfl rfl <| st rfl <| pick0 rfl b164 (cd := cB) (v := (decide ((122 : Int) < (x161.toNat : Int)))) rfl rfl <| seqN [(0, .d (cS.enc v0)), (3, .d (cI.enc s84)), (19, .d (cB.enc (decide ((122 : Int) < (x161.toNat : Int)))))] (by kernel_rfl) <|
    xn <| cnd rfl h (fun b165 h => wpC_seq <| reg_s <| x_asg (sc cB false rfl) <| seqN [(2, .d (cB.enc false))] (by kernel_rfl) <|
    xn <| wpC_ret <| rb <| rt <| rt <| rt <| rb <| rt <| rt <| re <| fin h (r1 (ss rfl rfl) <| r0) rfl)
    (fun b165 h => wpC_skip <| xbb <| kpN [(0, .d (cS.enc v0)), (3, .d (cI.enc s84))] (by kernel_rfl) <| xn <| reg_s <| st rfl <| mvd rfl rfl <| ckI_k h fun i166 h => st rfl <| b_add (k := .i64) rfl rfl i166 <| x_asg (ss rfl rfl) <| seqN [(0, .d (cS.enc v0)), (3, .d (cI.enc (s84 + (1 : Int))))] (by kernel_rfl) <|
    xn <| hn140 (s84 + (1 : Int)) h)))
    (fun b147 h => wpC_exit <| xt <| xt <| xt <| xb <| kpN [(0, .d (cS.enc v0))] (by kernel_rfl) <| xn <| wpC_seq <| reg_s <| st rfl <| mvd rfl rfl <| stw rfl <| lent rfl fun l170 => bnd h fun x171 e172 h => st rfl <| o_call (a1 (c := cI) tK rfl (a1 (c := cI) tK rfl (a1 (c := cI) tK rfl a0))) (con_spec_l1In e172) (.inl (so1 sB so0)) <| x_asg (ss rfl rfl) <| seqN [(2, .d (cB.enc x171))] (by kernel_rfl) <|
    xn <| wpC_ret <| re <| fin h (r1 (ss rfl rfl) <| r0) rfl)

def rs_spec_sFind (r : Int) : List D := [cI.enc r]
def m104 : MC := .seq (.reg [⟨some 4, .asg (.c (.int .i64 0)), none⟩] [0, 1])
  (.seq (.kp [] (.seq (.reg [⟨some 7, .mv (.t 0), none⟩,
    ⟨some 8, .len false (.t 7), none⟩,
    ⟨some 9, .mv (.c (.int .i64 0)), none⟩] [0, 1, 7, 8, 9])
  (.blk 0 (.loop (.seq (.reg [⟨some 10, .bin .lss (.t 9) (.t 8), none⟩] [0, 1, 7, 8, 9, 10])
  (.seq (.kp [0, 1, 7, 8, 9] (.cond (.t 10) (.skip) (.exit 0)))
  (.seq (.kp [0, 1, 7, 8, 9] (.blk 1 (.seq (.reg [⟨some 11, .mv (.t 9), none⟩,
    ⟨some 12, .ia 7 (.t 9) 2, none⟩,
    ⟨some 13, .ld 12 2 true, none⟩,
    ⟨some 6, .alloc (.agg [.str [], .int .i64 0]), none⟩,
    ⟨some 5, .asg (.t 11), none⟩,
    ⟨none, .st 6 (.t 13) 2, none⟩] [0, 1, 5, 6, 7, 8, 9])
  (.seq (.reg [⟨some 14, .fa 6 0 0, none⟩,
    ⟨some 15, .ld 14 1 false, none⟩,
    ⟨some 16, .mv (.t 1), none⟩,
    ⟨some 17, .bin .eql (.t 15) (.t 16), none⟩] [0, 1, 5, 7, 8, 9, 17])
  (.cond (.t 17) (.seq (.reg [⟨some 18, .mv (.t 5), none⟩,
    ⟨some 4, .asg (.t 18), none⟩] [4])
  (.ret)) (.skip))))))
  (.reg [⟨some 19, .bin .add (.t 9) (.c (.int .i64 1)), none⟩,
    ⟨some 9, .mv (.t 19), none⟩] [0, 1, 7, 8, 9]))))))))
  (.seq (.reg [⟨some 4, .asg (.c (.int .i64 (-1))), none⟩] [4])
  (.ret)))
theorem con_spec_sFind {v0 : (List XVariable)} {v1 : (List UInt8)} {r : Int} (h : sh_spec_sFind v0 v1 = some r) : Con Tryd.prog 104 [(cLs (cXVariable cS cI) rfl).enc v0, cS.enc v1] [] (rs_spec_sFind r) := by
  delta sh_spec_sFind at h
  refine top (out := none) (f := Tryd.f104) (m := m104) (rs := [.t 4]) (by kernel_rfl) rfl (by kernel_rfl) (by kernel_rfl) (by kernel_rfl) (by kernel_rfl) (by kernel_rfl) ?_
  exact
   ini [(0, .d ((cLs (cXVariable cS cI) rfl).enc v0)), (1, .d (cS.enc v1))] rfl <| wpC_seq <| reg_s <| x_asg (sc cI (0 : Int) rfl) <| seqN [(0, .d ((cLs (cXVariable cS cI) rfl).enc v0)), (1, .d (cS.enc v1))] (by kernel_rfl) <|
    xn <| wpC_seq <| wpC_kp <| wpC_seq <| reg_s <| st rfl <| mvd rfl rfl <| stw rfl <| lens rfl fun l16 => st rfl <| mvc cI (0 : Int) rfl <| seqN [(0, .d ((cLs (cXVariable cS cI) rfl).enc v0)), (1, .d (cS.enc v1)), (7, .d ((cLs (cXVariable cS cI) rfl).enc v0)), (8, .d (cI.enc (v0.length : Int))), (9, .d (cI.enc (0 : Int)))] (by kernel_rfl) <|
    xn <| wpC_blk <| lpR (fun (k18 : Nat) (s17 : Unit) => [(0, .d ((cLs (cXVariable cS cI) rfl).enc v0)), (1, .d (cS.enc v1)), (7, .d ((cLs (cXVariable cS cI) rfl).enc v0)), (8, .d (cI.enc (v0.length : Int))), (9, .d (cI.enc (k18 : Int)))]) () rfl h
    (fun G26 s17 h => wpC_seq <| reg_s <| st rfl <| b_lss (k := .i64) rfl rfl <| seqN [(0, .d ((cLs (cXVariable cS cI) rfl).enc v0)), (1, .d (cS.enc v1)), (7, .d ((cLs (cXVariable cS cI) rfl).enc v0)), (8, .d (cI.enc (v0.length : Int))), (9, .d (cI.enc (v0.length : Int))), (10, .d (cB.enc (decide ((v0.length : Int) < (v0.length : Int)))))] (by kernel_rfl) <|
    xn <| wpC_seq <| wpC_kp <| cnd0 rfl (dlf _) <| wpC_exit <| xt <| xt <| xt <| xb <| kpN [] (by kernel_rfl) <| xn <| wpC_seq <| reg_s <| x_asg (sc cI (-1 : Int) rfl) <| seqN [(4, .d (cI.enc (-1 : Int)))] (by kernel_rfl) <|
    xn <| wpC_ret <| re <| fin h (r1 (ss rfl rfl) <| r0) rfl)
    (fun G26 nx24 k18 s17 x19 hk20 hx21 hn25 h => wpC_seq <| reg_s <| st rfl <| b_lss (k := .i64) rfl rfl <| seqN [(0, .d ((cLs (cXVariable cS cI) rfl).enc v0)), (1, .d (cS.enc v1)), (7, .d ((cLs (cXVariable cS cI) rfl).enc v0)), (8, .d (cI.enc (v0.length : Int))), (9, .d (cI.enc (k18 : Int))), (10, .d (cB.enc (decide ((k18 : Int) < (v0.length : Int)))))] (by kernel_rfl) <|
    xn <| wpC_seq <| wpC_kp <| cnd1 rfl (dlt hk20) <| wpC_skip <| kpN [(0, .d ((cLs (cXVariable cS cI) rfl).enc v0)), (1, .d (cS.enc v1)), (7, .d ((cLs (cXVariable cS cI) rfl).enc v0)), (8, .d (cI.enc (v0.length : Int))), (9, .d (cI.enc (k18 : Int)))] (by kernel_rfl) <| xn <| wpC_seq <| wpC_kp <| wpC_blk <| wpC_seq <| reg_s <| st rfl <| mvd rfl rfl <| st rfl <| ias rfl rfl (Int.natCast_nonneg _) hx21 rfl <| st rfl <| ldi rfl rfl rfl rfl <| x_all (cXVariable cS cI) (⟨([] : List UInt8), (0 : Int)⟩ : XVariable) rfl <| x_asg (ss rfl rfl) <| x_stb (ss rfl rfl) rfl (Cd.h_sz _ _) rfl <| seqN [(0, .d ((cLs (cXVariable cS cI) rfl).enc v0)), (1, .d (cS.enc v1)), (5, .d (cI.enc (k18 : Int))), (6, .box ((cXVariable cS cI).enc x19)), (7, .d ((cLs (cXVariable cS cI) rfl).enc v0)), (8, .d (cI.enc (v0.length : Int))), (9, .d (cI.enc (k18 : Int)))] (by kernel_rfl) <|
    xn <| wpC_seq <| reg_s <| st rfl <| fab rfl rfl rfl rfl <| st rfl <| lda rfl rfl rfl rfl rfl rfl <| st rfl <| mvd rfl rfl <| st rfl <| b_seq rfl rfl <| seqN [(0, .d ((cLs (cXVariable cS cI) rfl).enc v0)), (1, .d (cS.enc v1)), (5, .d (cI.enc (k18 : Int))), (7, .d ((cLs (cXVariable cS cI) rfl).enc v0)), (8, .d (cI.enc (v0.length : Int))), (9, .d (cI.enc (k18 : Int))), (17, .d (cB.enc (decide (x19.Name = v1))))] (by kernel_rfl) <|
    xn <| cnd rfl h (fun b28 h => wpC_seq <| reg_s <| st rfl <| mvd rfl rfl <| x_asg (ss rfl rfl) <| seqN [(4, .d (cI.enc (k18 : Int)))] (by kernel_rfl) <|
    xn <| wpC_ret <| rb <| rt <| rt <| rt <| rb <| rt <| rt <| re <| fin h (r1 (ss rfl rfl) <| r0) rfl)
    (fun b28 h => wpC_skip <| xbb <| kpN [(0, .d ((cLs (cXVariable cS cI) rfl).enc v0)), (1, .d (cS.enc v1)), (7, .d ((cLs (cXVariable cS cI) rfl).enc v0)), (8, .d (cI.enc (v0.length : Int))), (9, .d (cI.enc (k18 : Int)))] (by kernel_rfl) <| xn <| reg_s <| st rfl <| b_inc rfl rfl l16 hk20 <| st rfl <| mvd rfl rfl <| seqN [(0, .d ((cLs (cXVariable cS cI) rfl).enc v0)), (1, .d (cS.enc v1)), (7, .d ((cLs (cXVariable cS cI) rfl).enc v0)), (8, .d (cI.enc (v0.length : Int))), (9, .d (cI.enc ((k18 + 1 : Nat) : Int)))] (by kernel_rfl) <|
    xn <| hn25 () h))

def rs_spec_sGood (r : Bool) : List D := [cB.enc r]
def m70 : MC := .seq (.reg [⟨some 2, .asg (.c (.bool false)), none⟩] [0])
  (.seq (.kp [0] (.seq (.reg [⟨some 5, .mv (.t 0), none⟩,
    ⟨some 6, .len false (.t 5), none⟩,
    ⟨some 7, .call 51 [(.t 6), (.c (.int .i64 1)), (.c (.int .i64 6))], none⟩,
    ⟨some 8, .nt (.t 7), none⟩] [0, 8])
  (.cond (.t 8) (.seq (.reg [⟨some 2, .asg (.c (.bool false)), none⟩] [2])
  (.ret)) (.skip))))
  (.seq (.kp [] (.seq (.reg [⟨some 9, .mv (.t 0), none⟩,
    ⟨some 10, .len false (.t 9), none⟩,
    ⟨some 11, .mv (.c (.int .i64 0)), none⟩] [0, 9, 10, 11])
  (.blk 0 (.loop (.seq (.reg [⟨some 12, .bin .lss (.t 11) (.t 10), none⟩] [0, 9, 10, 11, 12])
  (.seq (.kp [0, 9, 10, 11] (.cond (.t 12) (.skip) (.exit 0)))
  (.seq (.kp [0, 9, 10, 11] (.blk 1 (.seq (.reg [⟨some 13, .mv (.t 11), none⟩,
    ⟨some 14, .ia 9 (.t 11) 2, none⟩,
    ⟨some 15, .ld 14 2 true, none⟩,
    ⟨some 4, .alloc (.agg [.str [], .int .i64 0]), none⟩,
    ⟨some 3, .asg (.t 13), none⟩,
    ⟨none, .st 4 (.t 15) 2, none⟩] [0, 3, 4, 9, 10, 11])
  (.seq (.drw [⟨0, ⟨some 16, .fa 4 0 0, none⟩, [17, 18, 19, 20, 21, 22, 23, 24, 25, 26, 27, 28, 29, 30, 31, 32, 33, 34]⟩,
    ⟨1, ⟨some 17, .ld 16 1 false, none⟩, [18, 19, 20, 21, 22, 23, 24, 25, 26, 27, 28, 29, 30, 31, 32, 33, 34]⟩,
    ⟨2, ⟨some 18, .call 103 [(.t 17)], none⟩, [19, 20, 21, 22, 23, 24, 25, 26, 27, 28, 29, 30, 31, 32, 33, 34]⟩,
    ⟨3, ⟨some 19, .nt (.t 18), none⟩, [20, 21, 22, 23, 24, 25, 26, 27, 28, 29, 30, 31, 32, 33, 34]⟩,
    ⟨4, ⟨some 20, .mv (.t 19), none⟩, [21, 22, 23, 24, 25, 26, 27, 28, 29, 30, 31, 32, 33, 34]⟩,
    ⟨5, ⟨some 21, .fa 4 1 1, some (20, false)⟩, [22, 23, 24, 25, 26, 27, 28, 29, 30, 31, 32, 33, 34]⟩,
    ⟨6, ⟨some 22, .ld 21 1 false, some (20, false)⟩, [23, 24, 25, 26, 27, 28, 29, 30, 31, 32, 33, 34]⟩,
    ⟨7, ⟨some 23, .call 51 [(.t 22), (.c (.int .i64 2)), (.c (.int .i64 8))], some (20, false)⟩, [24, 25, 26, 27, 28, 29, 30, 31, 32, 33, 34]⟩,
    ⟨8, ⟨some 24, .nt (.t 23), some (20, false)⟩, [25, 26, 27, 28, 29, 30, 31, 32, 33, 34]⟩,
    ⟨9, ⟨some 25, .pick (.t 20) (.c (.bool true)) (.t 24), none⟩, [26, 27, 28, 29, 30, 31, 32, 33, 34]⟩,
    ⟨10, ⟨some 26, .mv (.t 25), none⟩, [27, 28, 29, 30, 31, 32, 33, 34]⟩,
    ⟨11, ⟨some 27, .mv (.t 0), some (26, false)⟩, [28, 29, 30, 31, 32, 33, 34]⟩,
    ⟨12, ⟨some 28, .mv (.t 3), some (26, false)⟩, [27, 29, 30, 31, 32, 33, 34]⟩,
    ⟨13, ⟨some 29, .sl (.t 27) none (some (.t 28)) 2, some (26, false)⟩, [30, 31, 32, 33, 34]⟩,
    ⟨14, ⟨some 30, .fa 4 0 0, some (26, false)⟩, [27, 28, 29, 31, 32, 33, 34]⟩,
    ⟨15, ⟨some 31, .ld 30 1 false, some (26, false)⟩, [27, 28, 29, 32, 33, 34]⟩,
    ⟨16, ⟨some 32, .call 104 [(.t 29), (.t 31)], some (26, false)⟩, [33, 34]⟩,
    ⟨17, ⟨some 33, .bin .geq (.t 32) (.c (.int .i64 0)), some (26, false)⟩, [34]⟩,
    ⟨18, ⟨some 34, .pick (.t 26) (.c (.bool true)) (.t 33), none⟩, []⟩]
    [] [0, 9, 10, 11, 34])
  (.cond (.t 34) (.seq (.reg [⟨some 2, .asg (.c (.bool false)), none⟩] [2])
  (.ret)) (.skip))))))
  (.reg [⟨some 35, .bin .add (.t 11) (.c (.int .i64 1)), none⟩,
    ⟨some 11, .mv (.t 35), none⟩] [0, 9, 10, 11]))))))))
  (.seq (.reg [⟨some 2, .asg (.c (.bool true)), none⟩] [2])
  (.ret))))
theorem con_spec_sGood {v0 : (List XVariable)} {r : Bool} (h : sh_spec_sGood v0 = some r) : Con Tryd.prog 70 [(cLs (cXVariable cS cI) rfl).enc v0] [] (rs_spec_sGood r) := by
  delta sh_spec_sGood at h
  refine top (out := none) (f := Tryd.f70) (m := m70) (rs := [.t 2]) (by kernel_rfl) rfl (by kernel_rfl) (by kernel_rfl) (by kernel_rfl) (by kernel_rfl) (by kernel_rfl) ?_
  exact
   ini [(0, .d ((cLs (cXVariable cS cI) rfl).enc v0))] rfl <| wpC_seq <| reg_s <| x_asg (sc cB false rfl) <| seqN [(0, .d ((cLs (cXVariable cS cI) rfl).enc v0))] (by kernel_rfl) <|
    xn <| wpC_seq <| wpC_kp <| wpC_seq <| reg_s <| st rfl <| mvd rfl rfl <| stw rfl <| lens rfl fun l11 => bnd h fun x12 e13 h => st rfl <| o_call (a1 (c := cI) tK rfl (a1 (c := cI) tK rfl (a1 (c := cI) tK rfl a0))) (con_spec_l1In e13) (.inl (so1 sB so0)) <| st rfl <| o_nt rfl <| seqN [(0, .d ((cLs (cXVariable cS cI) rfl).enc v0)), (8, .d (cB.enc (!x12)))] (by kernel_rfl) <|
    xn <| cnd rfl h (fun b14 h => wpC_seq <| reg_s <| x_asg (sc cB false rfl) <| seqN [(2, .d (cB.enc false))] (by kernel_rfl) <|
    xn <| wpC_ret <| rt <| rt <| re <| fin h (r1 (ss rfl rfl) <| r0) rfl)
    (fun b14 h => wpC_skip <| kpN [(0, .d ((cLs (cXVariable cS cI) rfl).enc v0))] (by kernel_rfl) <| xn <| wpC_seq <| wpC_kp <| wpC_seq <| reg_s <| st rfl <| mvd rfl rfl <| stw rfl <| lens rfl fun l102 => st rfl <| mvc cI (0 : Int) rfl <| seqN [(0, .d ((cLs (cXVariable cS cI) rfl).enc v0)), (9, .d ((cLs (cXVariable cS cI) rfl).enc v0)), (10, .d (cI.enc (v0.length : Int))), (11, .d (cI.enc (0 : Int)))] (by kernel_rfl) <|
    xn <| wpC_blk <| lpR (fun (k104 : Nat) (s103 : Unit) => [(0, .d ((cLs (cXVariable cS cI) rfl).enc v0)), (9, .d ((cLs (cXVariable cS cI) rfl).enc v0)), (10, .d (cI.enc (v0.length : Int))), (11, .d (cI.enc (k104 : Int)))]) () rfl h
    (fun G148 s103 h => wpC_seq <| reg_s <| st rfl <| b_lss (k := .i64) rfl rfl <| seqN [(0, .d ((cLs (cXVariable cS cI) rfl).enc v0)), (9, .d ((cLs (cXVariable cS cI) rfl).enc v0)), (10, .d (cI.enc (v0.length : Int))), (11, .d (cI.enc (v0.length : Int))), (12, .d (cB.enc (decide ((v0.length : Int) < (v0.length : Int)))))] (by kernel_rfl) <|
    xn <| wpC_seq <| wpC_kp <| cnd0 rfl (dlf _) <| wpC_exit <| xt <| xt <| xt <| xb <| kpN [] (by kernel_rfl) <| xn <| wpC_seq <| reg_s <| x_asg (sc cB true rfl) <| seqN [(2, .d (cB.enc true))] (by kernel_rfl) <|
    xn <| wpC_ret <| re <| fin h (r1 (ss rfl rfl) <| r0) rfl)
    (fun G148 nx146 k104 s103 x105 hk106 hx107 hn147 h => wpC_seq <| reg_s <| st rfl <| b_lss (k := .i64) rfl rfl <| seqN [(0, .d ((cLs (cXVariable cS cI) rfl).enc v0)), (9, .d ((cLs (cXVariable cS cI) rfl).enc v0)), (10, .d (cI.enc (v0.length : Int))), (11, .d (cI.enc (k104 : Int))), (12, .d (cB.enc (decide ((k104 : Int) < (v0.length : Int)))))] (by kernel_rfl) <|
    xn <| wpC_seq <| wpC_kp <| cnd1 rfl (dlt hk106) <| wpC_skip <| kpN [(0, .d ((cLs (cXVariable cS cI) rfl).enc v0)), (9, .d ((cLs (cXVariable cS cI) rfl).enc v0)), (10, .d (cI.enc (v0.length : Int))), (11, .d (cI.enc (k104 : Int)))] (by kernel_rfl) <| xn <| wpC_seq <| wpC_kp <| wpC_blk <| wpC_seq <| reg_s <| st rfl <| mvd rfl rfl <| st rfl <| ias rfl rfl (Int.natCast_nonneg _) hx107 rfl <| st rfl <| ldi rfl rfl rfl rfl <| x_all (cXVariable cS cI) (⟨([] : List UInt8), (0 : Int)⟩ : XVariable) rfl <| x_asg (ss rfl rfl) <| x_stb (ss rfl rfl) rfl (Cd.h_sz _ _) rfl <| seqN [(0, .d ((cLs (cXVariable cS cI) rfl).enc v0)), (3, .d (cI.enc (k104 : Int))), (4, .box ((cXVariable cS cI).enc x105)), (9, .d ((cLs (cXVariable cS cI) rfl).enc v0)), (10, .d (cI.enc (v0.length : Int))), (11, .d (cI.enc (k104 : Int)))] (by kernel_rfl) <|
    xn <| wpC_seq <| drw_s <| pst rfl <| fab rfl rfl rfl rfl ⟨rfl, pst rfl <| lda rfl rfl rfl rfl rfl rfl ⟨rfl, bndp h fun x177 e178 h => pst rfl <| o_call (a1 (c := cS) tS rfl a0) (con_spec_sName e178) (.inl (so1 sB so0)) ⟨rfl, pst rfl <| o_nt rfl ⟨rfl, pst rfl <| mvd rfl rfl ⟨rfl, ite_kp h (fun b179 h => pgf rfl rfl b179 <| pgf rfl rfl b179 <| pgf rfl rfl b179 <| pgf rfl rfl b179 <| pst rfl <| pick1 rfl b179 (cd := cB) (v := true) rfl rfl ⟨rfl, pst rfl <| mvd rfl rfl ⟨rfl, pgf rfl rfl rfl <| pgf rfl rfl rfl <| pgf rfl rfl rfl <| pgf rfl rfl rfl <| pgf rfl rfl rfl <| pgf rfl rfl rfl <| pgf rfl rfl rfl <| pst rfl <| pick1 rfl rfl (cd := cB) (v := true) rfl rfl ⟨rfl, preN <| seqN [(0, .d ((cLs (cXVariable cS cI) rfl).enc v0)), (9, .d ((cLs (cXVariable cS cI) rfl).enc v0)), (10, .d (cI.enc (v0.length : Int))), (11, .d (cI.enc (k104 : Int))), (34, .d (cB.enc true))] (by kernel_rfl) <|
    xn <| cnd1 rfl rfl <| wpC_seq <| reg_s <| x_asg (sc cB false rfl) <| seqN [(2, .d (cB.enc false))] (by kernel_rfl) <|
    xn <| wpC_ret <| rb <| rt <| rt <| rt <| rb <| rt <| rt <| re <| fin h (r1 (ss rfl rfl) <| r0) rfl⟩⟩⟩)
    (fun b179 h => pgt rfl b179 <| pst rfl <| fab rfl rfl rfl rfl ⟨rfl, pgt rfl b179 <| pst rfl <| lda rfl rfl rfl rfl rfl rfl ⟨rfl, pgt rfl b179 <| bndp h fun x180 e181 h => pst rfl <| o_call (a1 (c := cI) tK rfl (a1 (c := cI) tK rfl (a1 (c := cI) tK rfl a0))) (con_spec_l1In e181) (.inl (so1 sB so0)) ⟨rfl, pgt rfl b179 <| pst rfl <| o_nt rfl ⟨rfl, pst rfl <| pick0 rfl b179 (cd := cB) (v := (!x180)) rfl rfl ⟨rfl, pst rfl <| mvd rfl rfl ⟨rfl, ite_kp h (fun b182 h => pgf rfl rfl b182 <| pgf rfl rfl b182 <| pgf rfl rfl b182 <| pgf rfl rfl b182 <| pgf rfl rfl b182 <| pgf rfl rfl b182 <| pgf rfl rfl b182 <| pst rfl <| pick1 rfl b182 (cd := cB) (v := true) rfl rfl ⟨rfl, preN <| seqN [(0, .d ((cLs (cXVariable cS cI) rfl).enc v0)), (9, .d ((cLs (cXVariable cS cI) rfl).enc v0)), (10, .d (cI.enc (v0.length : Int))), (11, .d (cI.enc (k104 : Int))), (34, .d (cB.enc true))] (by kernel_rfl) <|
    xn <| cnd1 rfl rfl <| wpC_seq <| reg_s <| x_asg (sc cB false rfl) <| seqN [(2, .d (cB.enc false))] (by kernel_rfl) <|
    xn <| wpC_ret <| rb <| rt <| rt <| rt <| rb <| rt <| rt <| re <| fin h (r1 (ss rfl rfl) <| r0) rfl⟩)
    (fun b182 h => pgt rfl b182 <| pst rfl <| mvd rfl rfl ⟨rfl, pgt rfl b182 <| pst rfl <| mvd rfl rfl ⟨rfl, pgt rfl b182 <| ck_kp h fun i183 h => pst rfl <| o_sl rfl rfl lo0 (hi1 (k := .i64) rfl i183.1) i183.2 ⟨rfl, pgt rfl b182 <| pst rfl <| fab rfl rfl rfl rfl ⟨rfl, pgt rfl b182 <| pst rfl <| lda rfl rfl rfl rfl rfl rfl ⟨rfl, pgt rfl b182 <| bndp h fun x184 e185 h => pst rfl <| o_call (a1 (c := (cLs (cXVariable cS cI) rfl)) (tLs (tXVariable tS tK)) rfl (a1 (c := cS) tS rfl a0)) (con_spec_sFind e185) (.inl (so1 sK so0)) ⟨rfl, pgt rfl b182 <| pst rfl <| b_geq (k := .i64) rfl rfl ⟨rfl, pst rfl <| pick0 rfl b182 (cd := cB) (v := (decide ((0 : Int) ≤ x184))) rfl rfl ⟨rfl, preN <| seqN [(0, .d ((cLs (cXVariable cS cI) rfl).enc v0)), (9, .d ((cLs (cXVariable cS cI) rfl).enc v0)), (10, .d (cI.enc (v0.length : Int))), (11, .d (cI.enc (k104 : Int))), (34, .d (cB.enc (decide ((0 : Int) ≤ x184))))] (by kernel_rfl) <|
    xn <| cnd rfl h (fun b186 h => wpC_seq <| reg_s <| x_asg (sc cB false rfl) <| seqN [(2, .d (cB.enc false))] (by kernel_rfl) <|
    xn <| wpC_ret <| rb <| rt <| rt <| rt <| rb <| rt <| rt <| re <| fin h (r1 (ss rfl rfl) <| r0) rfl)
    (fun b186 h => wpC_skip <| xbb <| kpN [(0, .d ((cLs (cXVariable cS cI) rfl).enc v0)), (9, .d ((cLs (cXVariable cS cI) rfl).enc v0)), (10, .d (cI.enc (v0.length : Int))), (11, .d (cI.enc (k104 : Int)))] (by kernel_rfl) <| xn <| reg_s <| st rfl <| b_inc rfl rfl l102 hk106 <| st rfl <| mvd rfl rfl <| seqN [(0, .d ((cLs (cXVariable cS cI) rfl).enc v0)), (9, .d ((cLs (cXVariable cS cI) rfl).enc v0)), (10, .d (cI.enc (v0.length : Int))), (11, .d (cI.enc ((k104 + 1 : Nat) : Int)))] (by kernel_rfl) <|
    xn <| hn147 () h)⟩⟩⟩⟩⟩⟩⟩⟩)⟩⟩⟩⟩⟩⟩)⟩⟩⟩⟩⟩))

def rs_spec_l1Split (r : (List (List UInt8))) : List D := [(cLo cS).enc r]
def m65 : MC := .seq (.reg [⟨some 4, .asg (.c (.slice true [])), none⟩] [0, 1])
  (.seq (.reg [⟨some 5, .asg (.c (.slice true [])), none⟩] [0, 1, 5])
  (.seq (.reg [⟨some 6, .asg (.c (.int .i64 0)), none⟩] [0, 1, 5, 6])
  (.seq (.kp [0, 5, 6] (.seq (.reg [⟨some 7, .asg (.c (.int .i64 0)), none⟩] [0, 1, 5, 6, 7])
  (.blk 0 (.loop (.seq (.kp [0, 1, 5, 6, 7] (.seq (.reg [⟨some 8, .mv (.t 7), none⟩,
    ⟨some 9, .mv (.t 0), none⟩,
    ⟨some 10, .len true (.t 9), none⟩,
    ⟨some 11, .bin .lss (.t 8) (.t 10), none⟩] [0, 1, 5, 6, 7, 11])
  (.cond (.t 11) (.skip) (.exit 0))))
  (.seq (.kp [0, 1, 5, 6, 7] (.blk 1 (.seq (.reg [⟨some 14, .mv (.t 0), none⟩,
    ⟨some 15, .mv (.t 7), none⟩,
    ⟨some 16, .ix (.t 14) (.t 15), none⟩,
    ⟨some 17, .mv (.t 1), none⟩,
    ⟨some 18, .bin .eql (.t 16) (.t 17), none⟩] [0, 1, 5, 6, 7, 18])
  (.cond (.t 18) (.seq (.reg [⟨some 19, .mv (.t 5), none⟩,
    ⟨some 20, .mv (.t 0), none⟩,
    ⟨some 21, .mv (.t 6), none⟩,
    ⟨some 22, .mv (.t 7), none⟩,
    ⟨some 23, .sls (.t 20) (some (.t 21)) (some (.t 22)), none⟩,
    ⟨some 24, .bsl [(.t 23)] 1, none⟩,
    ⟨some 25, .app (.t 19) (.t 24) 1, none⟩,
    ⟨some 5, .asg (.t 25), none⟩] [0, 1, 5, 7])
  (.reg [⟨some 26, .mv (.t 7), none⟩,
    ⟨some 27, .bin .add (.t 26) (.c (.int .i64 1)), none⟩,
    ⟨some 6, .asg (.t 27), none⟩] [0, 1, 5, 6, 7])) (.skip)))))
  (.reg [⟨some 12, .mv (.t 7), none⟩,
    ⟨some 13, .bin .add (.t 12) (.c (.int .i64 1)), none⟩,
    ⟨some 7, .asg (.t 13), none⟩] [0, 1, 5, 6, 7])))))))
  (.seq (.reg [⟨some 28, .mv (.t 5), none⟩,
    ⟨some 29, .mv (.t 0), none⟩,
    ⟨some 30, .mv (.t 6), none⟩,
    ⟨some 31, .sls (.t 29) (some (.t 30)) none, none⟩,
    ⟨some 32, .bsl [(.t 31)] 1, none⟩,
    ⟨some 33, .app (.t 28) (.t 32) 1, none⟩,
    ⟨some 4, .asg (.t 33), none⟩] [4])
  (.ret)))))
theorem con_spec_l1Split {v0 : (List UInt8)} {v1 : Int} {r : (List (List UInt8))} (h : sh_spec_l1Split v0 v1 = some r) : Con Tryd.prog 65 [cS.enc v0, cU.enc v1] [] (rs_spec_l1Split r) := by
  delta sh_spec_l1Split at h
  refine top (out := none) (f := Tryd.f65) (m := m65) (rs := [.t 4]) (by kernel_rfl) rfl (by kernel_rfl) (by kernel_rfl) (by kernel_rfl) (by kernel_rfl) (by kernel_rfl) ?_
  exact
   ini [(0, .d (cS.enc v0)), (1, .d (cU.enc v1))] rfl <| wpC_seq <| reg_s <| x_asg (sc (cLo cS) ([] : List (List UInt8)) rfl) <| seqN [(0, .d (cS.enc v0)), (1, .d (cU.enc v1))] (by kernel_rfl) <|
    xn <| wpC_seq <| reg_s <| x_asg (sc (cLo cS) ([] : List (List UInt8)) rfl) <| seqN [(0, .d (cS.enc v0)), (1, .d (cU.enc v1)), (5, .d ((cLo cS).enc ([] : List (List UInt8))))] (by kernel_rfl) <|
    xn <| wpC_seq <| reg_s <| x_asg (sc cI (0 : Int) rfl) <| seqN [(0, .d (cS.enc v0)), (1, .d (cU.enc v1)), (5, .d ((cLo cS).enc ([] : List (List UInt8)))), (6, .d (cI.enc (0 : Int)))] (by kernel_rfl) <|
    xn <| wpC_seq <| wpC_kp <| wpC_seq <| reg_s <| x_asg (sc cI (0 : Int) rfl) <| seqN [(0, .d (cS.enc v0)), (1, .d (cU.enc v1)), (5, .d ((cLo cS).enc ([] : List (List UInt8)))), (6, .d (cI.enc (0 : Int))), (7, .d (cI.enc (0 : Int)))] (by kernel_rfl) <|
    xn <| wpC_blk <| lpF (fun (s105 : ((List (List UInt8)) × Int × Int)) => [(0, .d (cS.enc v0)), (1, .d (cU.enc v1)), (5, .d ((cLo cS).enc s105.1)), (6, .d (cI.enc s105.2.1)), (7, .d (cI.enc s105.2.2))]) (([] : List (List UInt8)), (0 : Int), (0 : Int)) rfl h
    fun G176 nx174 s105 hn175 h => wpC_seq <| wpC_kp <| wpC_seq <| reg_s <| st rfl <| mvd rfl rfl <| st rfl <| mvd rfl rfl <| stw rfl <| lent rfl fun l181 => st rfl <| b_lss (k := .i64) rfl rfl <| seqN [(0, .d (cS.enc v0)), (1, .d (cU.enc v1)), (5, .d ((cLo cS).enc s105.1)), (6, .d (cI.enc s105.2.1)), (7, .d (cI.enc s105.2.2)), (11, .d (cB.enc (decide (s105.2.2 < (v0.length : Int)))))] (by kernel_rfl) <|
    xn <| cnd rfl h (fun b182 h => wpC_skip <| kpN [(0, .d (cS.enc v0)), (1, .d (cU.enc v1)), (5, .d ((cLo cS).enc s105.1)), (6, .d (cI.enc s105.2.1)), (7, .d (cI.enc s105.2.2))] (by kernel_rfl) <| xn <| wpC_seq <| wpC_kp <| wpC_blk <| wpC_seq <| reg_s <| st rfl <| mvd rfl rfl <| st rfl <| mvd rfl rfl <| getO_k h fun x198 i199 g200 h => st rfl <| o_ix (k := .i64) rfl rfl i199 g200 <| st rfl <| mvd rfl rfl <| st rfl <| b_eql (k := .u8) rfl rfl <| seqN [(0, .d (cS.enc v0)), (1, .d (cU.enc v1)), (5, .d ((cLo cS).enc s105.1)), (6, .d (cI.enc s105.2.1)), (7, .d (cI.enc s105.2.2)), (18, .d (cB.enc (decide ((x198.toNat : Int) = v1))))] (by kernel_rfl) <|
    xn <| cnd rfl h (fun b201 h => wpC_seq <| reg_s <| st rfl <| mvo rfl rfl <| st rfl <| mvd rfl rfl <| st rfl <| mvd rfl rfl <| st rfl <| mvd rfl rfl <| ck_k h fun i204 h => st rfl <| o_sls rfl (lo1 (k := .i64) rfl i204.1) (hi1 (k := .i64) rfl i204.2.1) i204.2.2 <| x_bsl cS [((v0.take (s105.2.2).toNat).drop (s105.2.1).toNat)] (t1 (ss rfl rfl) rfl t0) rfl rfl <| lnO_k h fun l205 h => x_app (sr rfl rfl) (to rfl rfl) l205 rfl <| x_asg (so rfl rfl) <| seqN [(0, .d (cS.enc v0)), (1, .d (cU.enc v1)), (5, .d ((cLo cS).enc (s105.1 ++ [((v0.take (s105.2.2).toNat).drop (s105.2.1).toNat)]))), (7, .d (cI.enc s105.2.2))] (by kernel_rfl) <|
    xn <| reg_s <| st rfl <| mvd rfl rfl <| ckI_k h fun i206 h => st rfl <| b_add (k := .i64) rfl rfl i206 <| x_asg (ss rfl rfl) <| seqN [(0, .d (cS.enc v0)), (1, .d (cU.enc v1)), (5, .d ((cLo cS).enc (s105.1 ++ [((v0.take (s105.2.2).toNat).drop (s105.2.1).toNat)]))), (6, .d (cI.enc (s105.2.2 + (1 : Int)))), (7, .d (cI.enc s105.2.2))] (by kernel_rfl) <|
    xbb <| kpN [(0, .d (cS.enc v0)), (1, .d (cU.enc v1)), (5, .d ((cLo cS).enc (s105.1 ++ [((v0.take (s105.2.2).toNat).drop (s105.2.1).toNat)]))), (6, .d (cI.enc (s105.2.2 + (1 : Int)))), (7, .d (cI.enc s105.2.2))] (by kernel_rfl) <| xn <| reg_s <| st rfl <| mvd rfl rfl <| ckI_k h fun i207 h => st rfl <| b_add (k := .i64) rfl rfl i207 <| x_asg (ss rfl rfl) <| seqN [(0, .d (cS.enc v0)), (1, .d (cU.enc v1)), (5, .d ((cLo cS).enc (s105.1 ++ [((v0.take (s105.2.2).toNat).drop (s105.2.1).toNat)]))), (6, .d (cI.enc (s105.2.2 + (1 : Int)))), (7, .d (cI.enc (s105.2.2 + (1 : Int))))] (by kernel_rfl) <|
    xn <| hn175 ((s105.1 ++ [((v0.take (s105.2.2).toNat).drop (s105.2.1).toNat)]), (s105.2.2 + (1 : Int)), (s105.2.2 + (1 : Int))) h)
    (fun b201 h => wpC_skip <| xbb <| kpN [(0, .d (cS.enc v0)), (1, .d (cU.enc v1)), (5, .d ((cLo cS).enc s105.1)), (6, .d (cI.enc s105.2.1)), (7, .d (cI.enc s105.2.2))] (by kernel_rfl) <| xn <| reg_s <| st rfl <| mvd rfl rfl <| ckI_k h fun i208 h => st rfl <| b_add (k := .i64) rfl rfl i208 <| x_asg (ss rfl rfl) <| seqN [(0, .d (cS.enc v0)), (1, .d (cU.enc v1)), (5, .d ((cLo cS).enc s105.1)), (6, .d (cI.enc s105.2.1)), (7, .d (cI.enc (s105.2.2 + (1 : Int))))] (by kernel_rfl) <|
    xn <| hn175 (s105.1, s105.2.1, (s105.2.2 + (1 : Int))) h))
    (fun b182 h => wpC_exit <| xt <| xt <| xt <| xb <| kpN [(0, .d (cS.enc v0)), (5, .d ((cLo cS).enc s105.1)), (6, .d (cI.enc s105.2.1))] (by kernel_rfl) <| xn <| wpC_seq <| reg_s <| st rfl <| mvo rfl rfl <| st rfl <| mvd rfl rfl <| st rfl <| mvd rfl rfl <| ck_k h fun i211 h => st rfl <| o_sls rfl (lo1 (k := .i64) rfl i211.1) hi0 i211.2 <| x_bsl cS [((v0.take v0.length).drop (s105.2.1).toNat)] (t1 (ss rfl rfl) rfl t0) rfl rfl <| lnO_k h fun l212 h => x_app (sr rfl rfl) (to rfl rfl) l212 rfl <| x_asg (so rfl rfl) <| seqN [(4, .d ((cLo cS).enc (s105.1 ++ [((v0.take v0.length).drop (s105.2.1).toNat)])))] (by kernel_rfl) <|
    xn <| wpC_ret <| re <| fin h (r1 (so rfl rfl) <| r0) rfl)

def rs_spec_l1Num (r : (List UInt8)) : List D := [cS.enc r]
def m82 : MC := .seq (.reg [⟨some 2, .asg (.c (.str [])), none⟩] [0])
  (.seq (.kp [0] (.seq (.reg [⟨some 3, .mv (.t 0), none⟩,
    ⟨some 4, .bin .lss (.t 3) (.c (.int .i64 10)), none⟩] [0, 4])
  (.cond (.t 4) (.seq (.reg [⟨some 5, .mv (.t 0), none⟩,
    ⟨some 6, .bin .add (.c (.int .i64 48)) (.t 5), none⟩,
    ⟨some 7, .cvi .u8 (.t 6), none⟩,
    ⟨some 8, .bsl [(.t 7)] 1, none⟩,
    ⟨some 9, .b2s (.t 8), none⟩,
    ⟨some 2, .asg (.t 9), none⟩] [2])
  (.ret)) (.skip))))
  (.seq (.drw [⟨0, ⟨some 10, .mv (.t 0), none⟩, [11, 12, 13, 14, 15, 16, 17, 18, 19]⟩,
    ⟨1, ⟨some 11, .bin .quo (.t 10) (.c (.int .i64 10)), none⟩, [12, 13, 14, 15, 16, 17, 18, 19]⟩,
    ⟨2, ⟨some 12, .call 82 [(.t 11)], none⟩, [13, 14, 15, 16, 17, 18, 19]⟩,
    ⟨3, ⟨some 13, .mv (.t 0), none⟩, [10, 11, 12, 14, 15, 16, 17, 18, 19]⟩,
    ⟨4, ⟨some 14, .bin .rem (.t 13) (.c (.int .i64 10)), none⟩, [10, 11, 12, 15, 16, 17, 18, 19]⟩,
    ⟨5, ⟨some 15, .bin .add (.c (.int .i64 48)) (.t 14), none⟩, [10, 11, 12, 16, 17, 18, 19]⟩,
    ⟨6, ⟨some 16, .cvi .u8 (.t 15), none⟩, [10, 11, 12, 17, 18, 19]⟩,
    ⟨7, ⟨some 17, .bsl [(.t 16)] 1, none⟩, [10, 11, 12, 18, 19]⟩,
    ⟨8, ⟨some 18, .b2s (.t 17), none⟩, [10, 11, 12, 19]⟩,
    ⟨9, ⟨some 19, .bin .add (.t 12) (.t 18), none⟩, []⟩]
    [(10, ⟨some 2, .asg (.t 19), none⟩)] [2])
  (.ret)))
theorem con_spec_l1Num_B {self : Int → Option (List UInt8)} (hself : ∀ {v : Int} {r : (List UInt8)}, self v = some r → Con Tryd.prog 82 [cI.enc v] [] (rs_spec_l1Num r)) {v0 : Int} {r : (List UInt8)} (h : sh_spec_l1Num_B self v0 = some r) : Con Tryd.prog 82 [cI.enc v0] [] (rs_spec_l1Num r) := by
  delta sh_spec_l1Num_B at h
  refine top (out := none) (f := Tryd.f82) (m := m82) (rs := [.t 2]) (by kernel_rfl) rfl (by kernel_rfl) (by kernel_rfl) (by kernel_rfl) (by kernel_rfl) (by kernel_rfl) ?_
  exact
   ini [(0, .d (cI.enc v0))] rfl <| wpC_seq <| reg_s <| x_asg (sc cS ([] : List UInt8) rfl) <| seqN [(0, .d (cI.enc v0))] (by kernel_rfl) <|
    xn <| wpC_seq <| wpC_kp <| wpC_seq <| reg_s <| st rfl <| mvd rfl rfl <| st rfl <| b_lss (k := .i64) rfl rfl <| seqN [(0, .d (cI.enc v0)), (4, .d (cB.enc (decide (v0 < (10 : Int)))))] (by kernel_rfl) <|
    xn <| cnd rfl h (fun b10 h => wpC_seq <| reg_s <| st rfl <| mvd rfl rfl <| ckI_k h fun i15 h => st rfl <| b_add (k := .i64) rfl rfl i15 <| ckU_k h fun i16 h => st rfl <| o_cvi (k := .i64) (k' := .u8) rfl i16 <| x_bsl cU [((48 : Int) + v0)] (t1 (ss rfl rfl) rfl t0) rfl rfl <| ck_k h fun i17 h => st rfl <| o_b2s rfl rfl i17 <| x_asg (ss rfl rfl) <| seqN [(2, .d (cS.enc (bytesOf [((48 : Int) + v0)])))] (by kernel_rfl) <|
    xn <| wpC_ret <| rt <| rt <| re <| fin h (r1 (ss rfl rfl) <| r0) rfl)
    (fun b10 h => wpC_skip <| kpN [(0, .d (cI.enc v0))] (by kernel_rfl) <| xn <| wpC_seq <| drw_s <| pst rfl <| mvd rfl rfl ⟨rfl, ck_kp h fun i29 h => ckI_kp h fun i30 h => pst rfl <| b_quo (k := .i64) rfl rfl i29 i30 ⟨rfl, bndp h fun x31 e32 h => pst rfl <| o_call (a1 (c := cI) tK rfl a0) (hself e32) (.inl (so1 sS so0)) ⟨rfl, pst rfl <| mvd rfl rfl ⟨rfl, ck_kp h fun i33 h => pst rfl <| b_rem (k := .i64) rfl rfl i33 ⟨rfl, ckI_kp h fun i34 h => pst rfl <| b_add (k := .i64) rfl rfl i34 ⟨rfl, ckU_kp h fun i35 h => pst rfl <| o_cvi (k := .i64) (k' := .u8) rfl i35 ⟨rfl, pst rfl <| p_bsl cU [((48 : Int) + (v0.tmod (10 : Int)))] (e1 rfl rfl rfl e0) rfl rfl ⟨rfl, ck_kp h fun i36 h => pst rfl <| o_b2s rfl rfl i36 ⟨rfl, lnO_kp h fun l38 h => pst rfl <| b_cat rfl rfl l38 ⟨rfl, preN <| x_asg (ss rfl rfl) <| seqN [(2, .d (cS.enc (x31 ++ (bytesOf [((48 : Int) + (v0.tmod (10 : Int)))]))))] (by kernel_rfl) <|
    xn <| wpC_ret <| re <| fin h (r1 (ss rfl rfl) <| r0) rfl⟩⟩⟩⟩⟩⟩⟩⟩⟩⟩)
theorem con_spec_l1Num {v0 : Int} {r : (List UInt8)} (h : sh_spec_l1Num v0 = some r) : Con Tryd.prog 82 [cI.enc v0] [] (rs_spec_l1Num r) := by
  have key : ∀ (n : Nat) {v : Int} {r : (List UInt8)}, loopF sh_spec_l1Num_B n v = some r → Con Tryd.prog 82 [cI.enc v] [] (rs_spec_l1Num r) := by
    intro n
    induction n with
    | zero => intro v r h; cases h
    | succ n ih => intro v r h; exact con_spec_l1Num_B ih h
  exact key _ h

def rs_impl_isWord (r : Bool) : List D := [cB.enc r]
def m109 : MC := .seq (.reg [⟨some 2, .asg (.c (.bool false)), none⟩] [0])
  (.seq (.kp [0] (.seq (.reg [⟨some 4, .mv (.t 0), none⟩,
    ⟨some 5, .len true (.t 4), none⟩,
    ⟨some 6, .bin .lss (.t 5) (.c (.int .i64 1)), none⟩,
    ⟨some 7, .mv (.t 6), none⟩,
    ⟨some 8, .mv (.t 0), some (7, false)⟩,
    ⟨some 9, .len true (.t 8), some (7, false)⟩,
    ⟨some 10, .bin .gtr (.t 9) (.c (.int .i64 8)), some (7, false)⟩,
    ⟨some 11, .pick (.t 7) (.c (.bool true)) (.t 10), none⟩] [0, 11])
  (.cond (.t 11) (.seq (.reg [⟨some 2, .asg (.c (.bool false)), none⟩] [2])
  (.ret)) (.skip))))
  (.seq (.kp [] (.seq (.reg [⟨some 12, .mv (.t 0), none⟩,
    ⟨some 13, .len true (.t 12), none⟩,
    ⟨some 14, .mv (.c (.int .i64 0)), none⟩] [0, 13, 14])
  (.blk 0 (.loop (.seq (.reg [⟨some 15, .bin .lss (.t 14) (.t 13), none⟩] [0, 13, 14, 15])
  (.seq (.kp [0, 13, 14] (.cond (.t 15) (.skip) (.exit 0)))
  (.seq (.kp [0, 13, 14] (.blk 1 (.seq (.reg [⟨some 16, .mv (.t 14), none⟩,
    ⟨some 3, .asg (.t 16), none⟩] [0, 3, 13, 14])
  (.seq (.reg [⟨some 17, .mv (.t 0), none⟩,
    ⟨some 18, .mv (.t 3), none⟩,
    ⟨some 19, .ix (.t 17) (.t 18), none⟩,
    ⟨some 20, .bin .lss (.t 19) (.c (.int .u8 97)), none⟩,
    ⟨some 21, .mv (.t 20), none⟩,
    ⟨some 22, .mv (.t 0), some (21, false)⟩,
    ⟨some 23, .mv (.t 3), some (21, false)⟩,
    ⟨some 24, .ix (.t 22) (.t 23), some (21, false)⟩,
    ⟨some 25, .bin .gtr (.t 24) (.c (.int .u8 122)), some (21, false)⟩,
    ⟨some 26, .pick (.t 21) (.c (.bool true)) (.t 25), none⟩] [0, 13, 14, 26])
  (.cond (.t 26) (.seq (.reg [⟨some 2, .asg (.c (.bool false)), none⟩] [2])
  (.ret)) (.skip))))))
  (.reg [⟨some 27, .bin .add (.t 14) (.c (.int .i64 1)), none⟩,
    ⟨some 14, .mv (.t 27), none⟩] [0, 13, 14]))))))))
  (.seq (.reg [⟨some 2, .asg (.c (.bool true)), none⟩] [2])
  (.ret))))
theorem con_impl_isWord {v0 : (List UInt8)} {r : Bool} (h : sh_impl_isWord v0 = some r) : Con Tryd.prog 109 [cS.enc v0] [] (rs_impl_isWord r) := by
  delta sh_impl_isWord at h
  refine top (out := none) (f := Tryd.f109) (m := m109) (rs := [.t 2]) (by kernel_rfl) rfl (by kernel_rfl) (by kernel_rfl) (by kernel_rfl) (by kernel_rfl) (by kernel_rfl) ?_
  exact
   ini [(0, .d (cS.enc v0))] rfl <| wpC_seq <| reg_s <| x_asg (sc cB false rfl) <| seqN [(0, .d (cS.enc v0))] (by kernel_rfl) <|
    xn <| wpC_seq <| wpC_kp <| wpC_seq <| reg_s <| st rfl <| mvd rfl rfl <| stw rfl <| lent rfl fun l11 => st rfl <| b_lss (k := .i64) rfl rfl <| st rfl <| mvd rfl rfl <| ite_k h (fun b12 h => gf rfl b12 <| gf rfl b12 <| gf rfl b12 <| st rfl <| pick1 rfl b12 (cd := cB) (v := true) rfl rfl <| seqN [(0, .d (cS.enc v0)), (11, .d (cB.enc true))] (by kernel_rfl) <|
    xn <| cnd1 rfl rfl <| wpC_seq <| reg_s <| x_asg (sc cB false rfl) <| seqN [(2, .d (cB.enc false))] (by kernel_rfl) <|
    xn <| wpC_ret <| rt <| rt <| re <| fin h (r1 (ss rfl rfl) <| r0) rfl)
    (fun b12 h => gt' rfl b12 <| st rfl <| mvd rfl rfl <| gt' rfl b12 <| stw rfl <| lent rfl fun l13 => gt' rfl b12 <| st rfl <| b_gtr (k := .i64) rfl rfl <| st rfl <| pick0 rfl b12 (cd := cB) (v := (decide ((8 : Int) < (v0.length : Int)))) rfl rfl <| seqN [(0, .d (cS.enc v0)), (11, .d (cB.enc (decide ((8 : Int) < (v0.length : Int)))))] (by kernel_rfl) <|
    xn <| cnd rfl h (fun b14 h => wpC_seq <| reg_s <| x_asg (sc cB false rfl) <| seqN [(2, .d (cB.enc false))] (by kernel_rfl) <|
    xn <| wpC_ret <| rt <| rt <| re <| fin h (r1 (ss rfl rfl) <| r0) rfl)
    (fun b14 h => wpC_skip <| kpN [(0, .d (cS.enc v0))] (by kernel_rfl) <| xn <| wpC_seq <| wpC_kp <| wpC_seq <| reg_s <| st rfl <| mvd rfl rfl <| stw rfl <| lent rfl fun l38 => st rfl <| mvc cI (0 : Int) rfl <| seqN [(0, .d (cS.enc v0)), (13, .d (cI.enc (v0.length : Int))), (14, .d (cI.enc (0 : Int)))] (by kernel_rfl) <|
    xn <| wpC_blk <| lpR (fun (k40 : Nat) (s39 : Unit) => [(0, .d (cS.enc v0)), (13, .d (cI.enc (v0.length : Int))), (14, .d (cI.enc (k40 : Int)))]) () rfl h
    (fun G52 s39 h => wpC_seq <| reg_s <| st rfl <| b_lss (k := .i64) rfl rfl <| seqN [(0, .d (cS.enc v0)), (13, .d (cI.enc (v0.length : Int))), (14, .d (cI.enc (v0.length : Int))), (15, .d (cB.enc (decide ((v0.length : Int) < (v0.length : Int)))))] (by kernel_rfl) <|
    xn <| wpC_seq <| wpC_kp <| cnd0 rfl (dlf _) <| wpC_exit <| xt <| xt <| xt <| xb <| kpN [] (by kernel_rfl) <| xn <| wpC_seq <| reg_s <| x_asg (sc cB true rfl) <| seqN [(2, .d (cB.enc true))] (by kernel_rfl) <|
    xn <| wpC_ret <| re <| fin h (r1 (ss rfl rfl) <| r0) rfl)
    (fun G52 nx50 k40 s39 x41 hk42 hx43 hn51 h => wpC_seq <| reg_s <| st rfl <| b_lss (k := .i64) rfl rfl <| seqN [(0, .d (cS.enc v0)), (13, .d (cI.enc (v0.length : Int))), (14, .d (cI.enc (k40 : Int))), (15, .d (cB.enc (decide ((k40 : Int) < (v0.length : Int)))))] (by kernel_rfl) <|
    xn <| wpC_seq <| wpC_kp <| cnd1 rfl (dlt hk42) <| wpC_skip <| kpN [(0, .d (cS.enc v0)), (13, .d (cI.enc (v0.length : Int))), (14, .d (cI.enc (k40 : Int)))] (by kernel_rfl) <| xn <| wpC_seq <| wpC_kp <| wpC_blk <| wpC_seq <| reg_s <| st rfl <| mvd rfl rfl <| x_asg (ss rfl rfl) <| seqN [(0, .d (cS.enc v0)), (3, .d (cI.enc (k40 : Int))), (13, .d (cI.enc (v0.length : Int))), (14, .d (cI.enc (k40 : Int)))] (by kernel_rfl) <|
    xn <| wpC_seq <| reg_s <| st rfl <| mvd rfl rfl <| st rfl <| mvd rfl rfl <| st rfl <| o_ix (k := .i64) rfl rfl (Int.natCast_nonneg _) hx43 <| st rfl <| b_lss (k := .u8) rfl rfl <| st rfl <| mvd rfl rfl <| ite_k h (fun b57 h => gf rfl b57 <| gf rfl b57 <| gf rfl b57 <| gf rfl b57 <| st rfl <| pick1 rfl b57 (cd := cB) (v := true) rfl rfl <| seqN [(0, .d (cS.enc v0)), (13, .d (cI.enc (v0.length : Int))), (14, .d (cI.enc (k40 : Int))), (26, .d (cB.enc true))] (by kernel_rfl) <|
    xn <| cnd1 rfl rfl <| wpC_seq <| reg_s <| x_asg (sc cB false rfl) <| seqN [(2, .d (cB.enc false))] (by kernel_rfl) <|
    xn <| wpC_ret <| rb <| rt <| rt <| rt <| rb <| rt <| rt <| re <| fin h (r1 (ss rfl rfl) <| r0) rfl)
    (fun b57 h => gt' rfl b57 <| st rfl <| mvd rfl rfl <| gt' rfl b57 <| st rfl <| mvd rfl rfl <| gt' rfl b57 <| st rfl <| o_ix (k := .i64) rfl rfl (Int.natCast_nonneg _) hx43 <| gt' rfl b57 <| st rfl <| b_gtr (k := .u8) rfl rfl <| st rfl <| pick0 rfl b57 (cd := cB) (v := (decide ((122 : Int) < (x41.toNat : Int)))) rfl rfl <| seqN [(0, .d (cS.enc v0)), (13, .d (cI.enc (v0.length : Int))), (14, .d (cI.enc (k40 : Int))), (26, .d (cB.enc (decide ((122 : Int) < (x41.toNat : Int)))))] (by kernel_rfl) <|
    xn <| cnd rfl h (fun b58 h => wpC_seq <| reg_s <| x_asg (sc cB false rfl) <| seqN [(2, .d (cB.enc false))] (by kernel_rfl) <|
    xn <| wpC_ret <| rb <| rt <| rt <| rt <| rb <| rt <| rt <| re <| fin h (r1 (ss rfl rfl) <| r0) rfl)
    (fun b58 h => wpC_skip <| xbb <| kpN [(0, .d (cS.enc v0)), (13, .d (cI.enc (v0.length : Int))), (14, .d (cI.enc (k40 : Int)))] (by kernel_rfl) <| xn <| reg_s <| st rfl <| b_inc rfl rfl l38 hk42 <| st rfl <| mvd rfl rfl <| seqN [(0, .d (cS.enc v0)), (13, .d (cI.enc (v0.length : Int))), (14, .d (cI.enc ((k40 + 1 : Nat) : Int)))] (by kernel_rfl) <|
    xn <| hn51 () h)))))
def rs_impl_IsSchema (r : Bool) : List D := [cB.enc r]
def m72 : MC := .seq (.reg [⟨some 2, .asg (.c (.bool false)), none⟩] [0])
  (.seq (.kp [0] (.seq (.reg [⟨some 7, .mv (.t 0), none⟩,
    ⟨some 8, .len false (.t 7), none⟩,
    ⟨some 9, .bin .lss (.t 8) (.c (.int .i64 1)), none⟩,
    ⟨some 10, .mv (.t 9), none⟩,
    ⟨some 11, .mv (.t 0), some (10, false)⟩,
    ⟨some 12, .len false (.t 11), some (10, false)⟩,
    ⟨some 13, .bin .gtr (.t 12) (.c (.int .i64 6)), some (10, false)⟩,
    ⟨some 14, .pick (.t 10) (.c (.bool true)) (.t 13), none⟩] [0, 14])
  (.cond (.t 14) (.seq (.reg [⟨some 2, .asg (.c (.bool false)), none⟩] [2])
  (.ret)) (.skip))))
  (.seq (.kp [] (.seq (.reg [⟨some 15, .mv (.t 0), none⟩,
    ⟨some 16, .len false (.t 15), none⟩,
    ⟨some 17, .mv (.c (.int .i64 0)), none⟩] [0, 15, 16, 17])
  (.blk 0 (.loop (.seq (.reg [⟨some 18, .bin .lss (.t 17) (.t 16), none⟩] [0, 15, 16, 17, 18])
  (.seq (.kp [0, 15, 16, 17] (.cond (.t 18) (.skip) (.exit 0)))
  (.seq (.kp [0, 15, 16, 17] (.blk 1 (.seq (.reg [⟨some 19, .mv (.t 17), none⟩,
    ⟨some 20, .ia 15 (.t 17) 2, none⟩,
    ⟨some 21, .ld 20 2 true, none⟩,
    ⟨some 4, .alloc (.agg [.str [], .int .i64 0]), none⟩,
    ⟨some 3, .asg (.t 19), none⟩,
    ⟨none, .st 4 (.t 21) 2, none⟩] [0, 3, 4, 15, 16, 17])
  (.seq (.kp [0, 3, 4, 15, 16, 17] (.seq (.reg [⟨some 22, .fa 4 0 0, none⟩,
    ⟨some 23, .ld 22 1 false, none⟩,
    ⟨some 24, .call 109 [(.t 23)], none⟩,
    ⟨some 25, .nt (.t 24), none⟩,
    ⟨some 26, .mv (.t 25), none⟩,
    ⟨some 27, .fa 4 1 1, some (26, false)⟩,
    ⟨some 28, .ld 27 1 false, some (26, false)⟩,
    ⟨some 29, .bin .lss (.t 28) (.c (.int .i64 2)), some (26, false)⟩,
    ⟨some 30, .pick (.t 26) (.c (.bool true)) (.t 29), none⟩,
    ⟨some 31, .mv (.t 30), none⟩,
    ⟨some 32, .fa 4 1 1, some (31, false)⟩,
    ⟨some 33, .ld 32 1 false, some (31, false)⟩,
    ⟨some 34, .bin .gtr (.t 33) (.c (.int .i64 8)), some (31, false)⟩,
    ⟨some 35, .pick (.t 31) (.c (.bool true)) (.t 34), none⟩] [0, 3, 4, 15, 16, 17, 35])
  (.cond (.t 35) (.seq (.reg [⟨some 2, .asg (.c (.bool false)), none⟩] [2])
  (.ret)) (.skip))))
  (.seq (.reg [⟨some 36, .mv (.t 0), none⟩,
    ⟨some 37, .mv (.t 3), none⟩,
    ⟨some 38, .sl (.t 36) none (some (.t 37)) 2, none⟩,
    ⟨some 39, .len false (.t 38), none⟩,
    ⟨some 40, .mv (.c (.int .i64 0)), none⟩] [0, 4, 15, 16, 17, 38, 39, 40])
  (.blk 2 (.loop (.seq (.reg [⟨some 41, .bin .lss (.t 40) (.t 39), none⟩] [0, 4, 15, 16, 17, 38, 39, 40, 41])
  (.seq (.kp [0, 4, 15, 16, 17, 38, 39, 40] (.cond (.t 41) (.skip) (.exit 2)))
  (.seq (.kp [0, 4, 15, 16, 17, 38, 39, 40] (.blk 3 (.seq (.reg [⟨some 42, .ia 38 (.t 40) 2, none⟩,
    ⟨some 43, .ld 42 2 true, none⟩,
    ⟨some 6, .alloc (.agg [.str [], .int .i64 0]), none⟩,
    ⟨none, .st 6 (.t 43) 2, none⟩] [0, 4, 6, 15, 16, 17, 38, 39, 40])
  (.seq (.reg [⟨some 44, .fa 6 0 0, none⟩,
    ⟨some 45, .ld 44 1 false, none⟩,
    ⟨some 46, .fa 4 0 0, none⟩,
    ⟨some 47, .ld 46 1 false, none⟩,
    ⟨some 48, .bin .eql (.t 45) (.t 47), none⟩] [0, 4, 15, 16, 17, 38, 39, 40, 48])
  (.cond (.t 48) (.seq (.reg [⟨some 2, .asg (.c (.bool false)), none⟩] [2])
  (.ret)) (.skip))))))
  (.reg [⟨some 49, .bin .add (.t 40) (.c (.int .i64 1)), none⟩,
    ⟨some 40, .mv (.t 49), none⟩] [0, 4, 15, 16, 17, 38, 39, 40])))))))))))
  (.reg [⟨some 50, .bin .add (.t 17) (.c (.int .i64 1)), none⟩,
    ⟨some 17, .mv (.t 50), none⟩] [0, 15, 16, 17]))))))))
  (.seq (.reg [⟨some 2, .asg (.c (.bool true)), none⟩] [2])
  (.ret))))
theorem con_impl_IsSchema {v0 : (List XVariable)} {r : Bool} (h : sh_impl_IsSchema v0 = some r) : Con Tryd.prog 72 [(cLs (cXVariable cS cI) rfl).enc v0] [] (rs_impl_IsSchema r) := by
  delta sh_impl_IsSchema at h
  refine top (out := none) (f := Tryd.f72) (m := m72) (rs := [.t 2]) (by kernel_rfl) rfl (by kernel_rfl) (by kernel_rfl) (by kernel_rfl) (by kernel_rfl) (by kernel_rfl) ?_
  exact
   ini [(0, .d ((cLs (cXVariable cS cI) rfl).enc v0))] rfl <| wpC_seq <| reg_s <| x_asg (sc cB false rfl) <| seqN [(0, .d ((cLs (cXVariable cS cI) rfl).enc v0))] (by kernel_rfl) <|
    xn <| wpC_seq <| wpC_kp <| wpC_seq <| reg_s <| st rfl <| mvd rfl rfl <| stw rfl <| lens rfl fun l11 => st rfl <| b_lss (k := .i64) rfl rfl <| st rfl <| mvd rfl rfl <| ite_k h (fun b12 h => gf rfl b12 <| gf rfl b12 <| gf rfl b12 <| st rfl <| pick1 rfl b12 (cd := cB) (v := true) rfl rfl <| seqN [(0, .d ((cLs (cXVariable cS cI) rfl).enc v0)), (14, .d (cB.enc true))] (by kernel_rfl) <|
    xn <| cnd1 rfl rfl <| wpC_seq <| reg_s <| x_asg (sc cB false rfl) <| seqN [(2, .d (cB.enc false))] (by kernel_rfl) <|
    xn <| wpC_ret <| rt <| rt <| re <| fin h (r1 (ss rfl rfl) <| r0) rfl)
    (fun b12 h => gt' rfl b12 <| st rfl <| mvd rfl rfl <| gt' rfl b12 <| stw rfl <| lens rfl fun l13 => gt' rfl b12 <| st rfl <| b_gtr (k := .i64) rfl rfl <| st rfl <| pick0 rfl b12 (cd := cB) (v := (decide ((6 : Int) < (v0.length : Int)))) rfl rfl <| seqN [(0, .d ((cLs (cXVariable cS cI) rfl).enc v0)), (14, .d (cB.enc (decide ((6 : Int) < (v0.length : Int)))))] (by kernel_rfl) <|
    xn <| cnd rfl h (fun b14 h => wpC_seq <| reg_s <| x_asg (sc cB false rfl) <| seqN [(2, .d (cB.enc false))] (by kernel_rfl) <|
    xn <| wpC_ret <| rt <| rt <| re <| fin h (r1 (ss rfl rfl) <| r0) rfl)
    (fun b14 h => wpC_skip <| kpN [(0, .d ((cLs (cXVariable cS cI) rfl).enc v0))] (by kernel_rfl) <| xn <| wpC_seq <| wpC_kp <| wpC_seq <| reg_s <| st rfl <| mvd rfl rfl <| stw rfl <| lens rfl fun l162 => st rfl <| mvc cI (0 : Int) rfl <| seqN [(0, .d ((cLs (cXVariable cS cI) rfl).enc v0)), (15, .d ((cLs (cXVariable cS cI) rfl).enc v0)), (16, .d (cI.enc (v0.length : Int))), (17, .d (cI.enc (0 : Int)))] (by kernel_rfl) <|
    xn <| wpC_blk <| lpR (fun (k164 : Nat) (s163 : Unit) => [(0, .d ((cLs (cXVariable cS cI) rfl).enc v0)), (15, .d ((cLs (cXVariable cS cI) rfl).enc v0)), (16, .d (cI.enc (v0.length : Int))), (17, .d (cI.enc (k164 : Int)))]) () rfl h
    (fun G238 s163 h => wpC_seq <| reg_s <| st rfl <| b_lss (k := .i64) rfl rfl <| seqN [(0, .d ((cLs (cXVariable cS cI) rfl).enc v0)), (15, .d ((cLs (cXVariable cS cI) rfl).enc v0)), (16, .d (cI.enc (v0.length : Int))), (17, .d (cI.enc (v0.length : Int))), (18, .d (cB.enc (decide ((v0.length : Int) < (v0.length : Int)))))] (by kernel_rfl) <|
    xn <| wpC_seq <| wpC_kp <| cnd0 rfl (dlf _) <| wpC_exit <| xt <| xt <| xt <| xb <| kpN [] (by kernel_rfl) <| xn <| wpC_seq <| reg_s <| x_asg (sc cB true rfl) <| seqN [(2, .d (cB.enc true))] (by kernel_rfl) <|
    xn <| wpC_ret <| re <| fin h (r1 (ss rfl rfl) <| r0) rfl)
    (fun G238 nx236 k164 s163 x165 hk166 hx167 hn237 h => wpC_seq <| reg_s <| st rfl <| b_lss (k := .i64) rfl rfl <| seqN [(0, .d ((cLs (cXVariable cS cI) rfl).enc v0)), (15, .d ((cLs (cXVariable cS cI) rfl).enc v0)), (16, .d (cI.enc (v0.length : Int))), (17, .d (cI.enc (k164 : Int))), (18, .d (cB.enc (decide ((k164 : Int) < (v0.length : Int)))))] (by kernel_rfl) <|
    xn <| wpC_seq <| wpC_kp <| cnd1 rfl (dlt hk166) <| wpC_skip <| kpN [(0, .d ((cLs (cXVariable cS cI) rfl).enc v0)), (15, .d ((cLs (cXVariable cS cI) rfl).enc v0)), (16, .d (cI.enc (v0.length : Int))), (17, .d (cI.enc (k164 : Int)))] (by kernel_rfl) <| xn <| wpC_seq <| wpC_kp <| wpC_blk <| wpC_seq <| reg_s <| st rfl <| mvd rfl rfl <| st rfl <| ias rfl rfl (Int.natCast_nonneg _) hx167 rfl <| st rfl <| ldi rfl rfl rfl rfl <| x_all (cXVariable cS cI) (⟨([] : List UInt8), (0 : Int)⟩ : XVariable) rfl <| x_asg (ss rfl rfl) <| x_stb (ss rfl rfl) rfl (Cd.h_sz _ _) rfl <| seqN [(0, .d ((cLs (cXVariable cS cI) rfl).enc v0)), (3, .d (cI.enc (k164 : Int))), (4, .box ((cXVariable cS cI).enc x165)), (15, .d ((cLs (cXVariable cS cI) rfl).enc v0)), (16, .d (cI.enc (v0.length : Int))), (17, .d (cI.enc (k164 : Int)))] (by kernel_rfl) <|
    xn <| wpC_seq <| wpC_kp <| wpC_seq <| reg_s <| st rfl <| fab rfl rfl rfl rfl <| st rfl <| lda rfl rfl rfl rfl rfl rfl <| bnd h fun x286 e287 h => st rfl <| o_call (a1 (c := cS) tS rfl a0) (con_impl_isWord e287) (.inl (so1 sB so0)) <| st rfl <| o_nt rfl <| st rfl <| mvd rfl rfl <| ite_k h (fun b288 h => gf rfl b288 <| gf rfl b288 <| gf rfl b288 <| st rfl <| pick1 rfl b288 (cd := cB) (v := true) rfl rfl <| st rfl <| mvd rfl rfl <| gf rfl rfl <| gf rfl rfl <| gf rfl rfl <| st rfl <| pick1 rfl rfl (cd := cB) (v := true) rfl rfl <| seqN [(0, .d ((cLs (cXVariable cS cI) rfl).enc v0)), (3, .d (cI.enc (k164 : Int))), (4, .box ((cXVariable cS cI).enc x165)), (15, .d ((cLs (cXVariable cS cI) rfl).enc v0)), (16, .d (cI.enc (v0.length : Int))), (17, .d (cI.enc (k164 : Int))), (35, .d (cB.enc true))] (by kernel_rfl) <|
    xn <| cnd1 rfl rfl <| wpC_seq <| reg_s <| x_asg (sc cB false rfl) <| seqN [(2, .d (cB.enc false))] (by kernel_rfl) <|
    xn <| wpC_ret <| rt <| rt <| rb <| rt <| rt <| rt <| rb <| rt <| rt <| re <| fin h (r1 (ss rfl rfl) <| r0) rfl)
    (fun b288 h => gt' rfl b288 <| st rfl <| fab rfl rfl rfl rfl <| gt' rfl b288 <| st rfl <| lda rfl rfl rfl rfl rfl rfl <| gt' rfl b288 <| st rfl <| b_lss (k := .i64) rfl rfl <| st rfl <| pick0 rfl b288 (cd := cB) (v := (decide (x165.Levels < (2 : Int)))) rfl rfl <| st rfl <| mvd rfl rfl <| ite_k h (fun b289 h => gf rfl b289 <| gf rfl b289 <| gf rfl b289 <| st rfl <| pick1 rfl b289 (cd := cB) (v := true) rfl rfl <| seqN [(0, .d ((cLs (cXVariable cS cI) rfl).enc v0)), (3, .d (cI.enc (k164 : Int))), (4, .box ((cXVariable cS cI).enc x165)), (15, .d ((cLs (cXVariable cS cI) rfl).enc v0)), (16, .d (cI.enc (v0.length : Int))), (17, .d (cI.enc (k164 : Int))), (35, .d (cB.enc true))] (by kernel_rfl) <|
    xn <| cnd1 rfl rfl <| wpC_seq <| reg_s <| x_asg (sc cB false rfl) <| seqN [(2, .d (cB.enc false))] (by kernel_rfl) <|
    xn <| wpC_ret <| rt <| rt <| rb <| rt <| rt <| rt <| rb <| rt <| rt <| re <| fin h (r1 (ss rfl rfl) <| r0) rfl)
    (fun b289 h => gt' rfl b289 <| st rfl <| fab rfl rfl rfl rfl <| gt' rfl b289 <| st rfl <| lda rfl rfl rfl rfl rfl rfl <| gt' rfl b289 <| st rfl <| b_gtr (k := .i64) rfl rfl <| st rfl <| pick0 rfl b289 (cd := cB) (v := (decide ((8 : Int) < x165.Levels))) rfl rfl <| seqN [(0, .d ((cLs (cXVariable cS cI) rfl).enc v0)), (3, .d (cI.enc (k164 : Int))), (4, .box ((cXVariable cS cI).enc x165)), (15, .d ((cLs (cXVariable cS cI) rfl).enc v0)), (16, .d (cI.enc (v0.length : Int))), (17, .d (cI.enc (k164 : Int))), (35, .d (cB.enc (decide ((8 : Int) < x165.Levels))))] (by kernel_rfl) <|
    xn <| cnd rfl h (fun b290 h => wpC_seq <| reg_s <| x_asg (sc cB false rfl) <| seqN [(2, .d (cB.enc false))] (by kernel_rfl) <|
    xn <| wpC_ret <| rt <| rt <| rb <| rt <| rt <| rt <| rb <| rt <| rt <| re <| fin h (r1 (ss rfl rfl) <| r0) rfl)
    (fun b290 h => wpC_skip <| kpN [(0, .d ((cLs (cXVariable cS cI) rfl).enc v0)), (3, .d (cI.enc (k164 : Int))), (4, .box ((cXVariable cS cI).enc x165)), (15, .d ((cLs (cXVariable cS cI) rfl).enc v0)), (16, .d (cI.enc (v0.length : Int))), (17, .d (cI.enc (k164 : Int)))] (by kernel_rfl) <| xn <| wpC_seq <| reg_s <| st rfl <| mvd rfl rfl <| st rfl <| mvd rfl rfl <| ck_k h fun i293 h => st rfl <| o_sl rfl rfl lo0 (hi1 (k := .i64) rfl i293.1) i293.2 <| stw rfl <| lens rfl fun l294 => st rfl <| mvc cI (0 : Int) rfl <| seqN [(0, .d ((cLs (cXVariable cS cI) rfl).enc v0)), (4, .box ((cXVariable cS cI).enc x165)), (15, .d ((cLs (cXVariable cS cI) rfl).enc v0)), (16, .d (cI.enc (v0.length : Int))), (17, .d (cI.enc (k164 : Int))), (38, .d ((cLs (cXVariable cS cI) rfl).enc ((v0.take ((k164 : Int)).toNat).drop 0))), (39, .d (cI.enc (((v0.take ((k164 : Int)).toNat).drop 0).length : Int))), (40, .d (cI.enc (0 : Int)))] (by kernel_rfl) <|
    xn <| wpC_blk <| lpR (fun (k296 : Nat) (s295 : Unit) => [(0, .d ((cLs (cXVariable cS cI) rfl).enc v0)), (4, .box ((cXVariable cS cI).enc x165)), (15, .d ((cLs (cXVariable cS cI) rfl).enc v0)), (16, .d (cI.enc (v0.length : Int))), (17, .d (cI.enc (k164 : Int))), (38, .d ((cLs (cXVariable cS cI) rfl).enc ((v0.take ((k164 : Int)).toNat).drop 0))), (39, .d (cI.enc (((v0.take ((k164 : Int)).toNat).drop 0).length : Int))), (40, .d (cI.enc (k296 : Int)))]) () rfl h
    (fun G304 s295 h => wpC_seq <| reg_s <| st rfl <| b_lss (k := .i64) rfl rfl <| seqN [(0, .d ((cLs (cXVariable cS cI) rfl).enc v0)), (4, .box ((cXVariable cS cI).enc x165)), (15, .d ((cLs (cXVariable cS cI) rfl).enc v0)), (16, .d (cI.enc (v0.length : Int))), (17, .d (cI.enc (k164 : Int))), (38, .d ((cLs (cXVariable cS cI) rfl).enc ((v0.take ((k164 : Int)).toNat).drop 0))), (39, .d (cI.enc (((v0.take ((k164 : Int)).toNat).drop 0).length : Int))), (40, .d (cI.enc (((v0.take ((k164 : Int)).toNat).drop 0).length : Int))), (41, .d (cB.enc (decide ((((v0.take ((k164 : Int)).toNat).drop 0).length : Int) < (((v0.take ((k164 : Int)).toNat).drop 0).length : Int)))))] (by kernel_rfl) <|
    xn <| wpC_seq <| wpC_kp <| cnd0 rfl (dlf _) <| wpC_exit <| xt <| xt <| xt <| xb <| xbb <| kpN [(0, .d ((cLs (cXVariable cS cI) rfl).enc v0)), (15, .d ((cLs (cXVariable cS cI) rfl).enc v0)), (16, .d (cI.enc (v0.length : Int))), (17, .d (cI.enc (k164 : Int)))] (by kernel_rfl) <| xn <| reg_s <| st rfl <| b_inc rfl rfl l162 hk166 <| st rfl <| mvd rfl rfl <| seqN [(0, .d ((cLs (cXVariable cS cI) rfl).enc v0)), (15, .d ((cLs (cXVariable cS cI) rfl).enc v0)), (16, .d (cI.enc (v0.length : Int))), (17, .d (cI.enc ((k164 + 1 : Nat) : Int)))] (by kernel_rfl) <|
    xn <| hn237 () h)
    (fun G304 nx302 k296 s295 x297 hk298 hx299 hn303 h => wpC_seq <| reg_s <| st rfl <| b_lss (k := .i64) rfl rfl <| seqN [(0, .d ((cLs (cXVariable cS cI) rfl).enc v0)), (4, .box ((cXVariable cS cI).enc x165)), (15, .d ((cLs (cXVariable cS cI) rfl).enc v0)), (16, .d (cI.enc (v0.length : Int))), (17, .d (cI.enc (k164 : Int))), (38, .d ((cLs (cXVariable cS cI) rfl).enc ((v0.take ((k164 : Int)).toNat).drop 0))), (39, .d (cI.enc (((v0.take ((k164 : Int)).toNat).drop 0).length : Int))), (40, .d (cI.enc (k296 : Int))), (41, .d (cB.enc (decide ((k296 : Int) < (((v0.take ((k164 : Int)).toNat).drop 0).length : Int)))))] (by kernel_rfl) <|
    xn <| wpC_seq <| wpC_kp <| cnd1 rfl (dlt hk298) <| wpC_skip <| kpN [(0, .d ((cLs (cXVariable cS cI) rfl).enc v0)), (4, .box ((cXVariable cS cI).enc x165)), (15, .d ((cLs (cXVariable cS cI) rfl).enc v0)), (16, .d (cI.enc (v0.length : Int))), (17, .d (cI.enc (k164 : Int))), (38, .d ((cLs (cXVariable cS cI) rfl).enc ((v0.take ((k164 : Int)).toNat).drop 0))), (39, .d (cI.enc (((v0.take ((k164 : Int)).toNat).drop 0).length : Int))), (40, .d (cI.enc (k296 : Int)))] (by kernel_rfl) <| xn <| wpC_seq <| wpC_kp <| wpC_blk <| wpC_seq <| reg_s <| st rfl <| ias rfl rfl (Int.natCast_nonneg _) hx299 rfl <| st rfl <| ldi rfl rfl rfl rfl <| x_all (cXVariable cS cI) (⟨([] : List UInt8), (0 : Int)⟩ : XVariable) rfl <| x_stb (ss rfl rfl) rfl (Cd.h_sz _ _) rfl <| seqN [(0, .d ((cLs (cXVariable cS cI) rfl).enc v0)), (4, .box ((cXVariable cS cI).enc x165)), (6, .box ((cXVariable cS cI).enc x297)), (15, .d ((cLs (cXVariable cS cI) rfl).enc v0)), (16, .d (cI.enc (v0.length : Int))), (17, .d (cI.enc (k164 : Int))), (38, .d ((cLs (cXVariable cS cI) rfl).enc ((v0.take ((k164 : Int)).toNat).drop 0))), (39, .d (cI.enc (((v0.take ((k164 : Int)).toNat).drop 0).length : Int))), (40, .d (cI.enc (k296 : Int)))] (by kernel_rfl) <|
    xn <| wpC_seq <| reg_s <| st rfl <| fab rfl rfl rfl rfl <| st rfl <| lda rfl rfl rfl rfl rfl rfl <| st rfl <| fab rfl rfl rfl rfl <| st rfl <| lda rfl rfl rfl rfl rfl rfl <| st rfl <| b_seq rfl rfl <| seqN [(0, .d ((cLs (cXVariable cS cI) rfl).enc v0)), (4, .box ((cXVariable cS cI).enc x165)), (15, .d ((cLs (cXVariable cS cI) rfl).enc v0)), (16, .d (cI.enc (v0.length : Int))), (17, .d (cI.enc (k164 : Int))), (38, .d ((cLs (cXVariable cS cI) rfl).enc ((v0.take ((k164 : Int)).toNat).drop 0))), (39, .d (cI.enc (((v0.take ((k164 : Int)).toNat).drop 0).length : Int))), (40, .d (cI.enc (k296 : Int))), (48, .d (cB.enc (decide (x297.Name = x165.Name))))] (by kernel_rfl) <|
    xn <| cnd rfl h (fun b306 h => wpC_seq <| reg_s <| x_asg (sc cB false rfl) <| seqN [(2, .d (cB.enc false))] (by kernel_rfl) <|
    xn <| wpC_ret <| rb <| rt <| rt <| rt <| rb <| rb <| rt <| rt <| rt <| rb <| rt <| rt <| re <| fin h (r1 (ss rfl rfl) <| r0) rfl)
    (fun b306 h => wpC_skip <| xbb <| kpN [(0, .d ((cLs (cXVariable cS cI) rfl).enc v0)), (4, .box ((cXVariable cS cI).enc x165)), (15, .d ((cLs (cXVariable cS cI) rfl).enc v0)), (16, .d (cI.enc (v0.length : Int))), (17, .d (cI.enc (k164 : Int))), (38, .d ((cLs (cXVariable cS cI) rfl).enc ((v0.take ((k164 : Int)).toNat).drop 0))), (39, .d (cI.enc (((v0.take ((k164 : Int)).toNat).drop 0).length : Int))), (40, .d (cI.enc (k296 : Int)))] (by kernel_rfl) <| xn <| reg_s <| st rfl <| b_inc rfl rfl l294 hk298 <| st rfl <| mvd rfl rfl <| seqN [(0, .d ((cLs (cXVariable cS cI) rfl).enc v0)), (4, .box ((cXVariable cS cI).enc x165)), (15, .d ((cLs (cXVariable cS cI) rfl).enc v0)), (16, .d (cI.enc (v0.length : Int))), (17, .d (cI.enc (k164 : Int))), (38, .d ((cLs (cXVariable cS cI) rfl).enc ((v0.take ((k164 : Int)).toNat).drop 0))), (39, .d (cI.enc (((v0.take ((k164 : Int)).toNat).drop 0).length : Int))), (40, .d (cI.enc ((k296 + 1 : Nat) : Int)))] (by kernel_rfl) <|
    xn <| hn303 () h))))))))

def rs_impl_fullSet (r : Int) : List D := [cI.enc r]
def m73 : MC := .seq (.reg [⟨some 1, .box (.t 0), none⟩,
    ⟨some 2, .asg (.c (.int .i64 0)), none⟩] [1])
  (.seq (.reg [⟨some 3, .fa 1 1 1, none⟩,
    ⟨some 4, .ld 3 1 false, none⟩,
    ⟨some 5, .bin .shl (.c (.int .i64 1)) (.t 4), none⟩,
    ⟨some 6, .bin .sub (.t 5) (.c (.int .i64 1)), none⟩,
    ⟨some 2, .asg (.t 6), none⟩] [2])
  (.ret))
theorem con_impl_fullSet {v0 : XVariable} {r : Int} (h : sh_impl_fullSet v0 = some r) : Con Tryd.prog 73 [(cXVariable cS cI).enc v0] [] (rs_impl_fullSet r) := by
  delta sh_impl_fullSet at h
  refine top (out := none) (f := Tryd.f73) (m := m73) (rs := [.t 2]) (by kernel_rfl) rfl (by kernel_rfl) (by kernel_rfl) (by kernel_rfl) (by kernel_rfl) (by kernel_rfl) ?_
  exact
   ini [(0, .d ((cXVariable cS cI).enc v0))] rfl <| wpC_seq <| reg_s <| x_box (ss rfl rfl) <| x_asg (sc cI (0 : Int) rfl) <| seqN [(1, .box ((cXVariable cS cI).enc v0))] (by kernel_rfl) <|
    xn <| wpC_seq <| reg_s <| st rfl <| fab rfl rfl rfl rfl <| st rfl <| lda rfl rfl rfl rfl rfl rfl <| ck_k h fun i4 h => ckI_k h fun i5 h => st rfl <| b_shl (k := .i64) (k' := .i64) rfl rfl i4 rfl i5 <| ckI_k h fun i6 h => st rfl <| b_sub (k := .i64) rfl rfl i6 <| x_asg (ss rfl rfl) <| seqN [(2, .d (cI.enc (((1 : Int) * 2 ^ (v0.Levels).toNat) - (1 : Int))))] (by kernel_rfl) <|
    xn <| wpC_ret <| re <| fin h (r1 (ss rfl rfl) <| r0) rfl

def rs_laws_eqIntS (r : Bool) : List D := [cB.enc r]
def m30 : MC := .seq (.reg [⟨some 4, .asg (.c (.bool false)), none⟩] [0, 1])
  (.seq (.kp [0, 1] (.seq (.reg [⟨some 6, .mv (.t 0), none⟩,
    ⟨some 7, .len false (.t 6), none⟩,
    ⟨some 8, .mv (.t 1), none⟩,
    ⟨some 9, .len false (.t 8), none⟩,
    ⟨some 10, .bin .neq (.t 7) (.t 9), none⟩] [0, 1, 10])
  (.cond (.t 10) (.seq (.reg [⟨some 4, .asg (.c (.bool false)), none⟩] [4])
  (.ret)) (.skip))))
  (.seq (.kp [] (.seq (.reg [⟨some 5, .asg (.c (.int .i64 0)), none⟩] [0, 1, 5])
  (.blk 0 (.loop (.seq (.kp [0, 1, 5] (.seq (.reg [⟨some 11, .mv (.t 5), none⟩,
    ⟨some 12, .mv (.t 0), none⟩,
    ⟨some 13, .len false (.t 12), none⟩,
    ⟨some 14, .bin .lss (.t 11) (.t 13), none⟩] [0, 1, 5, 14])
  (.cond (.t 14) (.skip) (.exit 0))))
  (.seq (.kp [0, 1, 5] (.blk 1 (.seq (.drw [⟨0, ⟨some 17, .mv (.t 0), none⟩, [18, 19, 20, 21, 22, 23, 24, 25]⟩,
    ⟨1, ⟨some 18, .mv (.t 5), none⟩, [17, 19, 20, 21, 22, 23, 24, 25]⟩,
    ⟨2, ⟨some 19, .ia 17 (.t 18) 1, none⟩, [20, 21, 22, 23, 24, 25]⟩,
    ⟨3, ⟨some 20, .ld 19 1 false, none⟩, [21, 22, 23, 24, 25]⟩,
    ⟨4, ⟨some 21, .mv (.t 1), none⟩, [17, 18, 19, 20, 22, 23, 24, 25]⟩,
    ⟨5, ⟨some 22, .mv (.t 5), none⟩, [17, 18, 19, 20, 21, 23, 24, 25]⟩,
    ⟨6, ⟨some 23, .ia 21 (.t 22) 1, none⟩, [17, 18, 19, 20, 24, 25]⟩,
    ⟨7, ⟨some 24, .ld 23 1 false, none⟩, [17, 18, 19, 20, 25]⟩,
    ⟨8, ⟨some 25, .bin .neq (.t 20) (.t 24), none⟩, []⟩]
    [] [0, 1, 5, 25])
  (.cond (.t 25) (.seq (.reg [⟨some 4, .asg (.c (.bool false)), none⟩] [4])
  (.ret)) (.skip)))))
  (.reg [⟨some 15, .mv (.t 5), none⟩,
    ⟨some 16, .bin .add (.t 15) (.c (.int .i64 1)), none⟩,
    ⟨some 5, .asg (.t 16), none⟩] [0, 1, 5])))))))
  (.seq (.reg [⟨some 4, .asg (.c (.bool true)), none⟩] [4])
  (.ret))))
theorem con_laws_eqIntS {v0 : (List Int)} {v1 : (List Int)} {r : Bool} (h : sh_laws_eqIntS v0 v1 = some r) : Con Tryd.prog 30 [(cLs cI rfl).enc v0, (cLs cI rfl).enc v1] [] (rs_laws_eqIntS r) := by
  delta sh_laws_eqIntS at h
  refine top (out := none) (f := Tryd.f30) (m := m30) (rs := [.t 4]) (by kernel_rfl) rfl (by kernel_rfl) (by kernel_rfl) (by kernel_rfl) (by kernel_rfl) (by kernel_rfl) ?_
  exact
   ini [(0, .d ((cLs cI rfl).enc v0)), (1, .d ((cLs cI rfl).enc v1))] rfl <| wpC_seq <| reg_s <| x_asg (sc cB false rfl) <| seqN [(0, .d ((cLs cI rfl).enc v0)), (1, .d ((cLs cI rfl).enc v1))] (by kernel_rfl) <|
    xn <| wpC_seq <| wpC_kp <| wpC_seq <| reg_s <| st rfl <| mvd rfl rfl <| stw rfl <| lens rfl fun l8 => st rfl <| mvd rfl rfl <| stw rfl <| lens rfl fun l9 => st rfl <| b_neq (k := .i64) rfl rfl <| seqN [(0, .d ((cLs cI rfl).enc v0)), (1, .d ((cLs cI rfl).enc v1)), (10, .d (cB.enc (decide ((v0.length : Int) ≠ (v1.length : Int)))))] (by kernel_rfl) <|
    xn <| cnd rfl h (fun b10 h => wpC_seq <| reg_s <| x_asg (sc cB false rfl) <| seqN [(4, .d (cB.enc false))] (by kernel_rfl) <|
    xn <| wpC_ret <| rt <| rt <| re <| fin h (r1 (ss rfl rfl) <| r0) rfl)
    (fun b10 h => wpC_skip <| kpN [(0, .d ((cLs cI rfl).enc v0)), (1, .d ((cLs cI rfl).enc v1))] (by kernel_rfl) <| xn <| wpC_seq <| wpC_kp <| wpC_seq <| reg_s <| x_asg (sc cI (0 : Int) rfl) <| seqN [(0, .d ((cLs cI rfl).enc v0)), (1, .d ((cLs cI rfl).enc v1)), (5, .d (cI.enc (0 : Int)))] (by kernel_rfl) <|
    xn <| wpC_blk <| lpF (fun (s118 : Int) => [(0, .d ((cLs cI rfl).enc v0)), (1, .d ((cLs cI rfl).enc v1)), (5, .d (cI.enc s118))]) (0 : Int) rfl h
    fun G191 nx189 s118 hn190 h => wpC_seq <| wpC_kp <| wpC_seq <| reg_s <| st rfl <| mvd rfl rfl <| st rfl <| mvd rfl rfl <| stw rfl <| lens rfl fun l196 => st rfl <| b_lss (k := .i64) rfl rfl <| seqN [(0, .d ((cLs cI rfl).enc v0)), (1, .d ((cLs cI rfl).enc v1)), (5, .d (cI.enc s118)), (14, .d (cB.enc (decide (s118 < (v0.length : Int)))))] (by kernel_rfl) <|
    xn <| cnd rfl h (fun b197 h => wpC_skip <| kpN [(0, .d ((cLs cI rfl).enc v0)), (1, .d ((cLs cI rfl).enc v1)), (5, .d (cI.enc s118))] (by kernel_rfl) <| xn <| wpC_seq <| wpC_kp <| wpC_blk <| wpC_seq <| drw_s <| pst rfl <| mvd rfl rfl ⟨rfl, pst rfl <| mvd rfl rfl ⟨rfl, getO_kp h fun x217 i218 g219 h => pst rfl <| ias rfl rfl i218 g219 rfl ⟨rfl, pst rfl <| ldi rfl rfl rfl rfl ⟨rfl, pst rfl <| mvd rfl rfl ⟨rfl, pst rfl <| mvd rfl rfl ⟨rfl, getO_kp h fun x220 i221 g222 h => pst rfl <| ias rfl rfl i221 g222 rfl ⟨rfl, pst rfl <| ldi rfl rfl rfl rfl ⟨rfl, pst rfl <| b_neq (k := .i64) rfl rfl ⟨rfl, preN <| seqN [(0, .d ((cLs cI rfl).enc v0)), (1, .d ((cLs cI rfl).enc v1)), (5, .d (cI.enc s118)), (25, .d (cB.enc (decide (x217 ≠ x220))))] (by kernel_rfl) <|
    xn <| cnd rfl h (fun b223 h => wpC_seq <| reg_s <| x_asg (sc cB false rfl) <| seqN [(4, .d (cB.enc false))] (by kernel_rfl) <|
    xn <| wpC_ret <| rb <| rt <| rt <| rt <| rb <| rt <| rt <| re <| fin h (r1 (ss rfl rfl) <| r0) rfl)
    (fun b223 h => wpC_skip <| xbb <| kpN [(0, .d ((cLs cI rfl).enc v0)), (1, .d ((cLs cI rfl).enc v1)), (5, .d (cI.enc s118))] (by kernel_rfl) <| xn <| reg_s <| st rfl <| mvd rfl rfl <| ckI_k h fun i224 h => st rfl <| b_add (k := .i64) rfl rfl i224 <| x_asg (ss rfl rfl) <| seqN [(0, .d ((cLs cI rfl).enc v0)), (1, .d ((cLs cI rfl).enc v1)), (5, .d (cI.enc (s118 + (1 : Int))))] (by kernel_rfl) <|
    xn <| hn190 (s118 + (1 : Int)) h)⟩⟩⟩⟩⟩⟩⟩⟩⟩)
    (fun b197 h => wpC_exit <| xt <| xt <| xt <| xb <| kpN [] (by kernel_rfl) <| xn <| wpC_seq <| reg_s <| x_asg (sc cB true rfl) <| seqN [(4, .d (cB.enc true))] (by kernel_rfl) <|
    xn <| wpC_ret <| re <| fin h (r1 (ss rfl rfl) <| r0) rfl))

def rs_laws_eqVariable (r : Bool) : List D := [cB.enc r]
def m50 : MC := .seq (.reg [⟨some 2, .box (.t 0), none⟩,
    ⟨some 3, .box (.t 1), none⟩,
    ⟨some 4, .asg (.c (.bool false)), none⟩] [2, 3])
  (.seq (.kp [2, 3] (.seq (.reg [⟨some 5, .fa 2 0 0, none⟩,
    ⟨some 6, .ld 5 1 false, none⟩,
    ⟨some 7, .fa 3 0 0, none⟩,
    ⟨some 8, .ld 7 1 false, none⟩,
    ⟨some 9, .bin .neq (.t 6) (.t 8), none⟩] [2, 3, 9])
  (.cond (.t 9) (.seq (.reg [⟨some 4, .asg (.c (.bool false)), none⟩] [4])
  (.ret)) (.skip))))
  (.seq (.kp [] (.seq (.reg [⟨some 10, .fa 2 1 1, none⟩,
    ⟨some 11, .ld 10 1 false, none⟩,
    ⟨some 12, .fa 3 1 1, none⟩,
    ⟨some 13, .ld 12 1 false, none⟩,
    ⟨some 14, .bin .neq (.t 11) (.t 13), none⟩] [14])
  (.cond (.t 14) (.seq (.reg [⟨some 4, .asg (.c (.bool false)), none⟩] [4])
  (.ret)) (.skip))))
  (.seq (.reg [⟨some 4, .asg (.c (.bool true)), none⟩] [4])
  (.ret))))
theorem con_laws_eqVariable {v0 : XVariable} {v1 : XVariable} {r : Bool} (h : sh_laws_eqVariable v0 v1 = some r) : Con Tryd.prog 50 [(cXVariable cS cI).enc v0, (cXVariable cS cI).enc v1] [] (rs_laws_eqVariable r) := by
  delta sh_laws_eqVariable at h
  refine top (out := none) (f := Tryd.f50) (m := m50) (rs := [.t 4]) (by kernel_rfl) rfl (by kernel_rfl) (by kernel_rfl) (by kernel_rfl) (by kernel_rfl) (by kernel_rfl) ?_
  exact
   ini [(0, .d ((cXVariable cS cI).enc v0)), (1, .d ((cXVariable cS cI).enc v1))] rfl <| wpC_seq <| reg_s <| x_box (ss rfl rfl) <| x_box (ss rfl rfl) <| x_asg (sc cB false rfl) <| seqN [(2, .box ((cXVariable cS cI).enc v0)), (3, .box ((cXVariable cS cI).enc v1))] (by kernel_rfl) <|
    xn <| wpC_seq <| wpC_kp <| wpC_seq <| reg_s <| st rfl <| fab rfl rfl rfl rfl <| st rfl <| lda rfl rfl rfl rfl rfl rfl <| st rfl <| fab rfl rfl rfl rfl <| st rfl <| lda rfl rfl rfl rfl rfl rfl <| st rfl <| b_sne rfl rfl <| seqN [(2, .box ((cXVariable cS cI).enc v0)), (3, .box ((cXVariable cS cI).enc v1)), (9, .d (cB.enc (decide (v0.Name ≠ v1.Name))))] (by kernel_rfl) <|
    xn <| cnd rfl h (fun b2 h => wpC_seq <| reg_s <| x_asg (sc cB false rfl) <| seqN [(4, .d (cB.enc false))] (by kernel_rfl) <|
    xn <| wpC_ret <| rt <| rt <| re <| fin h (r1 (ss rfl rfl) <| r0) rfl)
    (fun b2 h => wpC_skip <| kpN [(2, .box ((cXVariable cS cI).enc v0)), (3, .box ((cXVariable cS cI).enc v1))] (by kernel_rfl) <| xn <| wpC_seq <| wpC_kp <| wpC_seq <| reg_s <| st rfl <| fab rfl rfl rfl rfl <| st rfl <| lda rfl rfl rfl rfl rfl rfl <| st rfl <| fab rfl rfl rfl rfl <| st rfl <| lda rfl rfl rfl rfl rfl rfl <| st rfl <| b_neq (k := .i64) rfl rfl <| seqN [(14, .d (cB.enc (decide (v0.Levels ≠ v1.Levels))))] (by kernel_rfl) <|
    xn <| cnd rfl h (fun b4 h => wpC_seq <| reg_s <| x_asg (sc cB false rfl) <| seqN [(4, .d (cB.enc false))] (by kernel_rfl) <|
    xn <| wpC_ret <| rt <| rt <| re <| fin h (r1 (ss rfl rfl) <| r0) rfl)
    (fun b4 h => wpC_skip <| kpN [] (by kernel_rfl) <| xn <| wpC_seq <| reg_s <| x_asg (sc cB true rfl) <| seqN [(4, .d (cB.enc true))] (by kernel_rfl) <|
    xn <| wpC_ret <| re <| fin h (r1 (ss rfl rfl) <| r0) rfl))

def rs_laws_eqVariableS (r : Bool) : List D := [cB.enc r]
def m18 : MC := .seq (.reg [⟨some 4, .asg (.c (.bool false)), none⟩] [0, 1])
  (.seq (.kp [0, 1] (.seq (.reg [⟨some 6, .mv (.t 0), none⟩,
    ⟨some 7, .len false (.t 6), none⟩,
    ⟨some 8, .mv (.t 1), none⟩,
    ⟨some 9, .len false (.t 8), none⟩,
    ⟨some 10, .bin .neq (.t 7) (.t 9), none⟩] [0, 1, 10])
  (.cond (.t 10) (.seq (.reg [⟨some 4, .asg (.c (.bool false)), none⟩] [4])
  (.ret)) (.skip))))
  (.seq (.kp [] (.seq (.reg [⟨some 5, .asg (.c (.int .i64 0)), none⟩] [0, 1, 5])
  (.blk 0 (.loop (.seq (.kp [0, 1, 5] (.seq (.reg [⟨some 11, .mv (.t 5), none⟩,
    ⟨some 12, .mv (.t 0), none⟩,
    ⟨some 13, .len false (.t 12), none⟩,
    ⟨some 14, .bin .lss (.t 11) (.t 13), none⟩] [0, 1, 5, 14])
  (.cond (.t 14) (.skip) (.exit 0))))
  (.seq (.kp [0, 1, 5] (.blk 1 (.seq (.drw [⟨0, ⟨some 17, .mv (.t 0), none⟩, [18, 19, 20, 21, 22, 23, 24, 25, 26]⟩,
    ⟨1, ⟨some 18, .mv (.t 5), none⟩, [17, 19, 20, 21, 22, 23, 24, 25, 26]⟩,
    ⟨2, ⟨some 19, .ia 17 (.t 18) 2, none⟩, [20, 21, 22, 23, 24, 25, 26]⟩,
    ⟨3, ⟨some 20, .ld 19 2 true, none⟩, [21, 22, 23, 24, 25, 26]⟩,
    ⟨4, ⟨some 21, .mv (.t 1), none⟩, [17, 18, 19, 20, 22, 23, 24, 25, 26]⟩,
    ⟨5, ⟨some 22, .mv (.t 5), none⟩, [17, 18, 19, 20, 21, 23, 24, 25, 26]⟩,
    ⟨6, ⟨some 23, .ia 21 (.t 22) 2, none⟩, [17, 18, 19, 20, 24, 25, 26]⟩,
    ⟨7, ⟨some 24, .ld 23 2 true, none⟩, [17, 18, 19, 20, 25, 26]⟩,
    ⟨8, ⟨some 25, .call 50 [(.t 20), (.t 24)], none⟩, [26]⟩,
    ⟨9, ⟨some 26, .nt (.t 25), none⟩, []⟩]
    [] [0, 1, 5, 26])
  (.cond (.t 26) (.seq (.reg [⟨some 4, .asg (.c (.bool false)), none⟩] [4])
  (.ret)) (.skip)))))
  (.reg [⟨some 15, .mv (.t 5), none⟩,
    ⟨some 16, .bin .add (.t 15) (.c (.int .i64 1)), none⟩,
    ⟨some 5, .asg (.t 16), none⟩] [0, 1, 5])))))))
  (.seq (.reg [⟨some 4, .asg (.c (.bool true)), none⟩] [4])
  (.ret))))
theorem con_laws_eqVariableS {v0 : (List XVariable)} {v1 : (List XVariable)} {r : Bool} (h : sh_laws_eqVariableS v0 v1 = some r) : Con Tryd.prog 18 [(cLs (cXVariable cS cI) rfl).enc v0, (cLs (cXVariable cS cI) rfl).enc v1] [] (rs_laws_eqVariableS r) := by
  delta sh_laws_eqVariableS at h
  refine top (out := none) (f := Tryd.f18) (m := m18) (rs := [.t 4]) (by kernel_rfl) rfl (by kernel_rfl) (by kernel_rfl) (by kernel_rfl) (by kernel_rfl) (by kernel_rfl) ?_
  exact
   ini [(0, .d ((cLs (cXVariable cS cI) rfl).enc v0)), (1, .d ((cLs (cXVariable cS cI) rfl).enc v1))] rfl <| wpC_seq <| reg_s <| x_asg (sc cB false rfl) <| seqN [(0, .d ((cLs (cXVariable cS cI) rfl).enc v0)), (1, .d ((cLs (cXVariable cS cI) rfl).enc v1))] (by kernel_rfl) <|
    xn <| wpC_seq <| wpC_kp <| wpC_seq <| reg_s <| st rfl <| mvd rfl rfl <| stw rfl <| lens rfl fun l8 => st rfl <| mvd rfl rfl <| stw rfl <| lens rfl fun l9 => st rfl <| b_neq (k := .i64) rfl rfl <| seqN [(0, .d ((cLs (cXVariable cS cI) rfl).enc v0)), (1, .d ((cLs (cXVariable cS cI) rfl).enc v1)), (10, .d (cB.enc (decide ((v0.length : Int) ≠ (v1.length : Int)))))] (by kernel_rfl) <|
    xn <| cnd rfl h (fun b10 h => wpC_seq <| reg_s <| x_asg (sc cB false rfl) <| seqN [(4, .d (cB.enc false))] (by kernel_rfl) <|
    xn <| wpC_ret <| rt <| rt <| re <| fin h (r1 (ss rfl rfl) <| r0) rfl)
    (fun b10 h => wpC_skip <| kpN [(0, .d ((cLs (cXVariable cS cI) rfl).enc v0)), (1, .d ((cLs (cXVariable cS cI) rfl).enc v1))] (by kernel_rfl) <| xn <| wpC_seq <| wpC_kp <| wpC_seq <| reg_s <| x_asg (sc cI (0 : Int) rfl) <| seqN [(0, .d ((cLs (cXVariable cS cI) rfl).enc v0)), (1, .d ((cLs (cXVariable cS cI) rfl).enc v1)), (5, .d (cI.enc (0 : Int)))] (by kernel_rfl) <|
    xn <| wpC_blk <| lpF (fun (s142 : Int) => [(0, .d ((cLs (cXVariable cS cI) rfl).enc v0)), (1, .d ((cLs (cXVariable cS cI) rfl).enc v1)), (5, .d (cI.enc s142))]) (0 : Int) rfl h
    fun G231 nx229 s142 hn230 h => wpC_seq <| wpC_kp <| wpC_seq <| reg_s <| st rfl <| mvd rfl rfl <| st rfl <| mvd rfl rfl <| stw rfl <| lens rfl fun l236 => st rfl <| b_lss (k := .i64) rfl rfl <| seqN [(0, .d ((cLs (cXVariable cS cI) rfl).enc v0)), (1, .d ((cLs (cXVariable cS cI) rfl).enc v1)), (5, .d (cI.enc s142)), (14, .d (cB.enc (decide (s142 < (v0.length : Int)))))] (by kernel_rfl) <|
    xn <| cnd rfl h (fun b237 h => wpC_skip <| kpN [(0, .d ((cLs (cXVariable cS cI) rfl).enc v0)), (1, .d ((cLs (cXVariable cS cI) rfl).enc v1)), (5, .d (cI.enc s142))] (by kernel_rfl) <| xn <| wpC_seq <| wpC_kp <| wpC_blk <| wpC_seq <| drw_s <| pst rfl <| mvd rfl rfl ⟨rfl, pst rfl <| mvd rfl rfl ⟨rfl, getO_kp h fun x263 i264 g265 h => pst rfl <| ias rfl rfl i264 g265 rfl ⟨rfl, pst rfl <| ldi rfl rfl rfl rfl ⟨rfl, pst rfl <| mvd rfl rfl ⟨rfl, pst rfl <| mvd rfl rfl ⟨rfl, getO_kp h fun x266 i267 g268 h => pst rfl <| ias rfl rfl i267 g268 rfl ⟨rfl, pst rfl <| ldi rfl rfl rfl rfl ⟨rfl, bndp h fun x269 e270 h => pst rfl <| o_call (a1 (c := (cXVariable cS cI)) (tXVariable tS tK) rfl (a1 (c := (cXVariable cS cI)) (tXVariable tS tK) rfl a0)) (con_laws_eqVariable e270) (.inl (so1 sB so0)) ⟨rfl, pst rfl <| o_nt rfl ⟨rfl, preN <| seqN [(0, .d ((cLs (cXVariable cS cI) rfl).enc v0)), (1, .d ((cLs (cXVariable cS cI) rfl).enc v1)), (5, .d (cI.enc s142)), (26, .d (cB.enc (!x269)))] (by kernel_rfl) <|
    xn <| cnd rfl h (fun b271 h => wpC_seq <| reg_s <| x_asg (sc cB false rfl) <| seqN [(4, .d (cB.enc false))] (by kernel_rfl) <|
    xn <| wpC_ret <| rb <| rt <| rt <| rt <| rb <| rt <| rt <| re <| fin h (r1 (ss rfl rfl) <| r0) rfl)
    (fun b271 h => wpC_skip <| xbb <| kpN [(0, .d ((cLs (cXVariable cS cI) rfl).enc v0)), (1, .d ((cLs (cXVariable cS cI) rfl).enc v1)), (5, .d (cI.enc s142))] (by kernel_rfl) <| xn <| reg_s <| st rfl <| mvd rfl rfl <| ckI_k h fun i272 h => st rfl <| b_add (k := .i64) rfl rfl i272 <| x_asg (ss rfl rfl) <| seqN [(0, .d ((cLs (cXVariable cS cI) rfl).enc v0)), (1, .d ((cLs (cXVariable cS cI) rfl).enc v1)), (5, .d (cI.enc (s142 + (1 : Int))))] (by kernel_rfl) <|
    xn <| hn230 (s142 + (1 : Int)) h)⟩⟩⟩⟩⟩⟩⟩⟩⟩⟩)
    (fun b237 h => wpC_exit <| xt <| xt <| xt <| xb <| kpN [] (by kernel_rfl) <| xn <| wpC_seq <| reg_s <| x_asg (sc cB true rfl) <| seqN [(4, .d (cB.enc true))] (by kernel_rfl) <|
    xn <| wpC_ret <| re <| fin h (r1 (ss rfl rfl) <| r0) rfl))

def rs_laws_markText (r : (List UInt8)) : List D := [cS.enc r]
def m69 : MC := .seq (.reg [⟨some 2, .asg (.c (.str [])), none⟩] [0])
  (.seq (.kp [0] (.seq (.reg [⟨some 4, .mv (.t 0), none⟩,
    ⟨some 5, .bin .leq (.t 4) (.c (.int .i64 0)), none⟩] [0, 5])
  (.cond (.t 5) (.seq (.reg [⟨some 2, .asg (.c (.str [109, 48])), none⟩] [2])
  (.ret)) (.skip))))
  (.seq (.reg [⟨some 3, .asg (.c (.str [])), none⟩] [0, 3])
  (.seq (.kp [3] (.blk 0 (.loop (.kp [0, 3] (.seq (.kp [0, 3] (.seq (.reg [⟨some 6, .mv (.t 0), none⟩,
    ⟨some 7, .bin .gtr (.t 6) (.c (.int .i64 0)), none⟩] [0, 3, 7])
  (.cond (.t 7) (.skip) (.exit 0))))
  (.blk 1 (.seq (.reg [⟨some 8, .mv (.t 0), none⟩,
    ⟨some 9, .bin .rem (.t 8) (.c (.int .i64 10)), none⟩,
    ⟨some 10, .bin .add (.c (.int .i64 48)) (.t 9), none⟩,
    ⟨some 11, .cvi .u8 (.t 10), none⟩,
    ⟨some 12, .bsl [(.t 11)] 1, none⟩,
    ⟨some 13, .b2s (.t 12), none⟩,
    ⟨some 14, .mv (.t 3), none⟩,
    ⟨some 15, .bin .add (.t 13) (.t 14), none⟩,
    ⟨some 3, .asg (.t 15), none⟩] [0, 3])
  (.reg [⟨some 16, .mv (.t 0), none⟩,
    ⟨some 17, .bin .quo (.t 16) (.c (.int .i64 10)), none⟩,
    ⟨some 0, .asg (.t 17), none⟩] [0, 3]))))))))
  (.seq (.reg [⟨some 18, .mv (.t 3), none⟩,
    ⟨some 19, .bin .add (.c (.str [109])) (.t 18), none⟩,
    ⟨some 2, .asg (.t 19), none⟩] [2])
  (.ret)))))
theorem con_laws_markText {v0 : Int} {r : (List UInt8)} (h : sh_laws_markText v0 = some r) : Con Tryd.prog 69 [cI.enc v0] [] (rs_laws_markText r) := by
  delta sh_laws_markText at h
  refine top (out := none) (f := Tryd.f69) (m := m69) (rs := [.t 2]) (by kernel_rfl) rfl (by kernel_rfl) (by kernel_rfl) (by kernel_rfl) (by kernel_rfl) (by kernel_rfl) ?_
  exact
   ini [(0, .d (cI.enc v0))] rfl <| wpC_seq <| reg_s <| x_asg (sc cS ([] : List UInt8) rfl) <| seqN [(0, .d (cI.enc v0))] (by kernel_rfl) <|
    xn <| wpC_seq <| wpC_kp <| wpC_seq <| reg_s <| st rfl <| mvd rfl rfl <| st rfl <| b_leq (k := .i64) rfl rfl <| seqN [(0, .d (cI.enc v0)), (5, .d (cB.enc (decide (v0 ≤ (0 : Int)))))] (by kernel_rfl) <|
    xn <| cnd rfl h (fun b2 h => wpC_seq <| reg_s <| x_asg (sc cS ([109, 48] : List UInt8) rfl) <| seqN [(2, .d (cS.enc ([109, 48] : List UInt8)))] (by kernel_rfl) <|
    xn <| wpC_ret <| rt <| rt <| re <| fin h (r1 (ss rfl rfl) <| r0) rfl)
    (fun b2 h => wpC_skip <| kpN [(0, .d (cI.enc v0))] (by kernel_rfl) <| xn <| wpC_seq <| reg_s <| x_asg (sc cS ([] : List UInt8) rfl) <| seqN [(0, .d (cI.enc v0)), (3, .d (cS.enc ([] : List UInt8)))] (by kernel_rfl) <|
    xn <| wpC_seq <| wpC_kp <| wpC_blk <| lpF (fun (s59 : (Int × (List UInt8))) => [(0, .d (cI.enc s59.1)), (3, .d (cS.enc s59.2))]) (v0, ([] : List UInt8)) rfl h
    fun G98 nx96 s59 hn97 h => wpC_kp <| wpC_seq <| wpC_kp <| wpC_seq <| reg_s <| st rfl <| mvd rfl rfl <| st rfl <| b_gtr (k := .i64) rfl rfl <| seqN [(0, .d (cI.enc s59.1)), (3, .d (cS.enc s59.2)), (7, .d (cB.enc (decide ((0 : Int) < s59.1))))] (by kernel_rfl) <|
    xn <| cnd rfl h (fun b100 h => wpC_skip <| kpN [(0, .d (cI.enc s59.1)), (3, .d (cS.enc s59.2))] (by kernel_rfl) <| xn <| wpC_blk <| wpC_seq <| reg_s <| st rfl <| mvd rfl rfl <| ck_k h fun i107 h => st rfl <| b_rem (k := .i64) rfl rfl i107 <| ckI_k h fun i108 h => st rfl <| b_add (k := .i64) rfl rfl i108 <| ckU_k h fun i109 h => st rfl <| o_cvi (k := .i64) (k' := .u8) rfl i109 <| x_bsl cU [((48 : Int) + (s59.1.tmod (10 : Int)))] (t1 (ss rfl rfl) rfl t0) rfl rfl <| ck_k h fun i110 h => st rfl <| o_b2s rfl rfl i110 <| st rfl <| mvd rfl rfl <| lnO_k h fun l112 h => st rfl <| b_cat rfl rfl l112 <| x_asg (ss rfl rfl) <| seqN [(0, .d (cI.enc s59.1)), (3, .d (cS.enc ((bytesOf [((48 : Int) + (s59.1.tmod (10 : Int)))]) ++ s59.2)))] (by kernel_rfl) <|
    xn <| reg_s <| st rfl <| mvd rfl rfl <| ck_k h fun i113 h => ckI_k h fun i114 h => st rfl <| b_quo (k := .i64) rfl rfl i113 i114 <| x_asg (ss rfl rfl) <| seqN [(0, .d (cI.enc (s59.1.tdiv (10 : Int)))), (3, .d (cS.enc ((bytesOf [((48 : Int) + (s59.1.tmod (10 : Int)))]) ++ s59.2)))] (by kernel_rfl) <|
    xbb <| kpN [(0, .d (cI.enc (s59.1.tdiv (10 : Int)))), (3, .d (cS.enc ((bytesOf [((48 : Int) + (s59.1.tmod (10 : Int)))]) ++ s59.2)))] (by kernel_rfl) <| xn <| hn97 ((s59.1.tdiv (10 : Int)), ((bytesOf [((48 : Int) + (s59.1.tmod (10 : Int)))]) ++ s59.2)) h)
    (fun b100 h => wpC_exit <| xt <| xt <| xt <| xt <| xb <| kpN [(3, .d (cS.enc s59.2))] (by kernel_rfl) <| xn <| wpC_seq <| reg_s <| st rfl <| mvd rfl rfl <| lnO_k h fun l116 h => st rfl <| b_cat rfl rfl l116 <| x_asg (ss rfl rfl) <| seqN [(2, .d (cS.enc (([109] : List UInt8) ++ s59.2)))] (by kernel_rfl) <|
    xn <| wpC_ret <| re <| fin h (r1 (ss rfl rfl) <| r0) rfl))

def os_laws_markVariableS (r : ((List XVariable) × Int)) : D := (cLo (cXVariable cS cI)).enc r.1
def rs_laws_markVariableS (r : ((List XVariable) × Int)) : List D := [cI.enc r.2]
def m34 : MC := .seq (.reg [⟨some 4, .asg (.c (.int .i64 0)), none⟩] [0, 1])
  (.seq (.kp [0, 1] (.seq (.reg [⟨some 5, .asg (.c (.int .i64 0)), none⟩] [0, 1, 5])
  (.blk 0 (.loop (.seq (.kp [0, 1, 5] (.seq (.reg [⟨some 6, .mv (.t 5), none⟩,
    ⟨some 7, .mv (.t 0), none⟩,
    ⟨some 8, .len false (.t 7), none⟩,
    ⟨some 9, .bin .lss (.t 6) (.t 8), none⟩] [0, 1, 5, 9])
  (.cond (.t 9) (.skip) (.exit 0))))
  (.seq (.kp [0, 1, 5] (.blk 1 (.seq (.reg [⟨some 12, .mv (.t 0), none⟩,
    ⟨some 13, .mv (.t 5), none⟩,
    ⟨some 14, .mv (.t 1), none⟩,
    ⟨some 15, .call 69 [(.t 14)], none⟩,
    ⟨some 16, .ia 12 (.t 13) 2, none⟩,
    ⟨some 17, .fa 16 0 0, none⟩,
    ⟨none, .st 17 (.t 15) 1, none⟩] [0, 1, 5])
  (.seq (.reg [⟨some 18, .mv (.t 1), none⟩,
    ⟨some 19, .bin .add (.t 18) (.c (.int .i64 1)), none⟩,
    ⟨some 1, .asg (.t 19), none⟩] [0, 1, 5])
  (.seq (.reg [⟨some 20, .mv (.t 0), none⟩,
    ⟨some 21, .mv (.t 5), none⟩,
    ⟨some 22, .mv (.t 1), none⟩,
    ⟨some 23, .ia 20 (.t 21) 2, none⟩,
    ⟨some 24, .fa 23 1 1, none⟩,
    ⟨none, .st 24 (.t 22) 1, none⟩] [0, 1, 5])
  (.reg [⟨some 25, .mv (.t 1), none⟩,
    ⟨some 26, .bin .add (.t 25) (.c (.int .i64 1)), none⟩,
    ⟨some 1, .asg (.t 26), none⟩] [0, 1, 5]))))))
  (.reg [⟨some 10, .mv (.t 5), none⟩,
    ⟨some 11, .bin .add (.t 10) (.c (.int .i64 1)), none⟩,
    ⟨some 5, .asg (.t 11), none⟩] [0, 1, 5])))))))
  (.seq (.reg [⟨some 27, .mv (.t 1), none⟩,
    ⟨some 4, .asg (.t 27), none⟩] [0, 4])
  (.ret)))
theorem con_laws_markVariableS {v0 : (List XVariable)} {v1 : Int} {r : ((List XVariable) × Int)} (h : sh_laws_markVariableS v0 v1 = some r) : Con Tryd.prog 34 [(cLo (cXVariable cS cI)).enc v0, cI.enc v1] (outsOf (some (0, os_laws_markVariableS r))) (rs_laws_markVariableS r) := by
  delta sh_laws_markVariableS at h
  refine top (out := some (0, os_laws_markVariableS r)) (f := Tryd.f34) (m := m34) (rs := [.t 4]) (by kernel_rfl) rfl (by kernel_rfl) (by kernel_rfl) (by kernel_rfl) (by kernel_rfl) (by kernel_rfl) ?_
  exact
   ini [(0, .d ((cLo (cXVariable cS cI)).enc v0)), (1, .d (cI.enc v1))] rfl <| wpC_seq <| reg_s <| x_asg (sc cI (0 : Int) rfl) <| seqN [(0, .d ((cLo (cXVariable cS cI)).enc v0)), (1, .d (cI.enc v1))] (by kernel_rfl) <|
    xn <| wpC_seq <| wpC_kp <| wpC_seq <| reg_s <| x_asg (sc cI (0 : Int) rfl) <| seqN [(0, .d ((cLo (cXVariable cS cI)).enc v0)), (1, .d (cI.enc v1)), (5, .d (cI.enc (0 : Int)))] (by kernel_rfl) <|
    xn <| wpC_blk <| lpF (fun (s144 : ((List XVariable) × Int × Int)) => [(0, .d ((cLo (cXVariable cS cI)).enc s144.1)), (1, .d (cI.enc s144.2.1)), (5, .d (cI.enc s144.2.2))]) (v0, v1, (0 : Int)) rfl h
    fun G241 nx239 s144 hn240 h => wpC_seq <| wpC_kp <| wpC_seq <| reg_s <| st rfl <| mvd rfl rfl <| st rfl <| mvo rfl rfl <| stw rfl <| leno rfl fun l246 => st rfl <| b_lss (k := .i64) rfl rfl <| seqN [(0, .d ((cLo (cXVariable cS cI)).enc s144.1)), (1, .d (cI.enc s144.2.1)), (5, .d (cI.enc s144.2.2)), (9, .d (cB.enc (decide (s144.2.2 < (s144.1.length : Int)))))] (by kernel_rfl) <|
    xn <| cnd rfl h (fun b247 h => wpC_skip <| kpN [(0, .d ((cLo (cXVariable cS cI)).enc s144.1)), (1, .d (cI.enc s144.2.1)), (5, .d (cI.enc s144.2.2))] (by kernel_rfl) <| xn <| wpC_seq <| wpC_kp <| wpC_blk <| wpC_seq <| reg_s <| st rfl <| mvo rfl rfl <| st rfl <| mvd rfl rfl <| st rfl <| mvd rfl rfl <| bnd h fun x272 e273 h => st rfl <| o_call (a1 (c := cI) tK rfl a0) (con_laws_markText e273) (.inl (so1 sS so0)) <| getO_k h fun x274 i275 g276 h => st rfl <| iar rfl rfl rfl rfl i275 g276 rfl <| st rfl <| faa rfl rfl (Gt.idx g276 Gt.nil) rfl rfl rfl <| x_sta ((cLo (cXVariable cS cI)).enc (s144.1.set (s144.2.2).toNat (⟨x272, x274.Levels⟩ : XVariable))) (ss rfl rfl) rfl rfl (Ln.idx g276 (Ln.fld rfl rfl Ln.nil rfl)) (Cd.h_sz cS _) rfl <| seqN [(0, .d ((cLo (cXVariable cS cI)).enc (s144.1.set (s144.2.2).toNat (⟨x272, x274.Levels⟩ : XVariable)))), (1, .d (cI.enc s144.2.1)), (5, .d (cI.enc s144.2.2))] (by kernel_rfl) <|
    xn <| wpC_seq <| reg_s <| st rfl <| mvd rfl rfl <| ckI_k h fun i278 h => st rfl <| b_add (k := .i64) rfl rfl i278 <| x_asg (ss rfl rfl) <| seqN [(0, .d ((cLo (cXVariable cS cI)).enc (s144.1.set (s144.2.2).toNat (⟨x272, x274.Levels⟩ : XVariable)))), (1, .d (cI.enc (s144.2.1 + (1 : Int)))), (5, .d (cI.enc s144.2.2))] (by kernel_rfl) <|
    xn <| wpC_seq <| reg_s <| st rfl <| mvo rfl rfl <| st rfl <| mvd rfl rfl <| st rfl <| mvd rfl rfl <| getO_k h fun x282 i283 g284 h => st rfl <| iar rfl rfl rfl rfl i283 g284 rfl <| st rfl <| faa rfl rfl (Gt.idx g284 Gt.nil) rfl rfl rfl <| x_sta ((cLo (cXVariable cS cI)).enc ((s144.1.set (s144.2.2).toNat (⟨x272, x274.Levels⟩ : XVariable)).set (s144.2.2).toNat (⟨x282.Name, (s144.2.1 + (1 : Int))⟩ : XVariable))) (ss rfl rfl) rfl rfl (Ln.idx g284 (Ln.fld rfl rfl Ln.nil rfl)) (Cd.h_sz cI _) rfl <| seqN [(0, .d ((cLo (cXVariable cS cI)).enc ((s144.1.set (s144.2.2).toNat (⟨x272, x274.Levels⟩ : XVariable)).set (s144.2.2).toNat (⟨x282.Name, (s144.2.1 + (1 : Int))⟩ : XVariable)))), (1, .d (cI.enc (s144.2.1 + (1 : Int)))), (5, .d (cI.enc s144.2.2))] (by kernel_rfl) <|
    xn <| reg_s <| st rfl <| mvd rfl rfl <| ckI_k h fun i285 h => st rfl <| b_add (k := .i64) rfl rfl i285 <| x_asg (ss rfl rfl) <| seqN [(0, .d ((cLo (cXVariable cS cI)).enc ((s144.1.set (s144.2.2).toNat (⟨x272, x274.Levels⟩ : XVariable)).set (s144.2.2).toNat (⟨x282.Name, (s144.2.1 + (1 : Int))⟩ : XVariable)))), (1, .d (cI.enc ((s144.2.1 + (1 : Int)) + (1 : Int)))), (5, .d (cI.enc s144.2.2))] (by kernel_rfl) <|
    xbb <| kpN [(0, .d ((cLo (cXVariable cS cI)).enc ((s144.1.set (s144.2.2).toNat (⟨x272, x274.Levels⟩ : XVariable)).set (s144.2.2).toNat (⟨x282.Name, (s144.2.1 + (1 : Int))⟩ : XVariable)))), (1, .d (cI.enc ((s144.2.1 + (1 : Int)) + (1 : Int)))), (5, .d (cI.enc s144.2.2))] (by kernel_rfl) <| xn <| reg_s <| st rfl <| mvd rfl rfl <| ckI_k h fun i286 h => st rfl <| b_add (k := .i64) rfl rfl i286 <| x_asg (ss rfl rfl) <| seqN [(0, .d ((cLo (cXVariable cS cI)).enc ((s144.1.set (s144.2.2).toNat (⟨x272, x274.Levels⟩ : XVariable)).set (s144.2.2).toNat (⟨x282.Name, (s144.2.1 + (1 : Int))⟩ : XVariable)))), (1, .d (cI.enc ((s144.2.1 + (1 : Int)) + (1 : Int)))), (5, .d (cI.enc (s144.2.2 + (1 : Int))))] (by kernel_rfl) <|
    xn <| hn240 (((s144.1.set (s144.2.2).toNat (⟨x272, x274.Levels⟩ : XVariable)).set (s144.2.2).toNat (⟨x282.Name, (s144.2.1 + (1 : Int))⟩ : XVariable)), ((s144.2.1 + (1 : Int)) + (1 : Int)), (s144.2.2 + (1 : Int))) h)
    (fun b247 h => wpC_exit <| xt <| xt <| xt <| xb <| kpN [(0, .d ((cLo (cXVariable cS cI)).enc s144.1)), (1, .d (cI.enc s144.2.1))] (by kernel_rfl) <| xn <| wpC_seq <| reg_s <| st rfl <| mvd rfl rfl <| x_asg (ss rfl rfl) <| seqN [(0, .d ((cLo (cXVariable cS cI)).enc s144.1)), (4, .d (cI.enc s144.2.1))] (by kernel_rfl) <|
    xn <| wpC_ret <| re <| finO h (r1 (ss rfl rfl) <| r0) rfl rfl)

def os_laws_markIntS (r : ((List Int) × Int)) : D := (cLo cI).enc r.1
def rs_laws_markIntS (r : ((List Int) × Int)) : List D := [cI.enc r.2]
def m36 : MC := .seq (.reg [⟨some 4, .asg (.c (.int .i64 0)), none⟩] [0, 1])
  (.seq (.kp [0, 1] (.seq (.reg [⟨some 5, .asg (.c (.int .i64 0)), none⟩] [0, 1, 5])
  (.blk 0 (.loop (.seq (.kp [0, 1, 5] (.seq (.reg [⟨some 6, .mv (.t 5), none⟩,
    ⟨some 7, .mv (.t 0), none⟩,
    ⟨some 8, .len false (.t 7), none⟩,
    ⟨some 9, .bin .lss (.t 6) (.t 8), none⟩] [0, 1, 5, 9])
  (.cond (.t 9) (.skip) (.exit 0))))
  (.seq (.kp [0, 1, 5] (.blk 1 (.seq (.reg [⟨some 12, .mv (.t 0), none⟩,
    ⟨some 13, .mv (.t 5), none⟩,
    ⟨some 14, .mv (.t 1), none⟩,
    ⟨some 15, .ia 12 (.t 13) 1, none⟩,
    ⟨none, .st 15 (.t 14) 1, none⟩] [0, 1, 5])
  (.reg [⟨some 16, .mv (.t 1), none⟩,
    ⟨some 17, .bin .add (.t 16) (.c (.int .i64 1)), none⟩,
    ⟨some 1, .asg (.t 17), none⟩] [0, 1, 5]))))
  (.reg [⟨some 10, .mv (.t 5), none⟩,
    ⟨some 11, .bin .add (.t 10) (.c (.int .i64 1)), none⟩,
    ⟨some 5, .asg (.t 11), none⟩] [0, 1, 5])))))))
  (.seq (.reg [⟨some 18, .mv (.t 1), none⟩,
    ⟨some 4, .asg (.t 18), none⟩] [0, 4])
  (.ret)))
theorem con_laws_markIntS {v0 : (List Int)} {v1 : Int} {r : ((List Int) × Int)} (h : sh_laws_markIntS v0 v1 = some r) : Con Tryd.prog 36 [(cLo cI).enc v0, cI.enc v1] (outsOf (some (0, os_laws_markIntS r))) (rs_laws_markIntS r) := by
  delta sh_laws_markIntS at h
  refine top (out := some (0, os_laws_markIntS r)) (f := Tryd.f36) (m := m36) (rs := [.t 4]) (by kernel_rfl) rfl (by kernel_rfl) (by kernel_rfl) (by kernel_rfl) (by kernel_rfl) (by kernel_rfl) ?_
  exact
   ini [(0, .d ((cLo cI).enc v0)), (1, .d (cI.enc v1))] rfl <| wpC_seq <| reg_s <| x_asg (sc cI (0 : Int) rfl) <| seqN [(0, .d ((cLo cI).enc v0)), (1, .d (cI.enc v1))] (by kernel_rfl) <|
    xn <| wpC_seq <| wpC_kp <| wpC_seq <| reg_s <| x_asg (sc cI (0 : Int) rfl) <| seqN [(0, .d ((cLo cI).enc v0)), (1, .d (cI.enc v1)), (5, .d (cI.enc (0 : Int)))] (by kernel_rfl) <|
    xn <| wpC_blk <| lpF (fun (s72 : ((List Int) × Int × Int)) => [(0, .d ((cLo cI).enc s72.1)), (1, .d (cI.enc s72.2.1)), (5, .d (cI.enc s72.2.2))]) (v0, v1, (0 : Int)) rfl h
    fun G121 nx119 s72 hn120 h => wpC_seq <| wpC_kp <| wpC_seq <| reg_s <| st rfl <| mvd rfl rfl <| st rfl <| mvo rfl rfl <| stw rfl <| leno rfl fun l126 => st rfl <| b_lss (k := .i64) rfl rfl <| seqN [(0, .d ((cLo cI).enc s72.1)), (1, .d (cI.enc s72.2.1)), (5, .d (cI.enc s72.2.2)), (9, .d (cB.enc (decide (s72.2.2 < (s72.1.length : Int)))))] (by kernel_rfl) <|
    xn <| cnd rfl h (fun b127 h => wpC_skip <| kpN [(0, .d ((cLo cI).enc s72.1)), (1, .d (cI.enc s72.2.1)), (5, .d (cI.enc s72.2.2))] (by kernel_rfl) <| xn <| wpC_seq <| wpC_kp <| wpC_blk <| wpC_seq <| reg_s <| st rfl <| mvo rfl rfl <| st rfl <| mvd rfl rfl <| st rfl <| mvd rfl rfl <| getO_k h fun x138 i139 g140 h => st rfl <| iar rfl rfl rfl rfl i139 g140 rfl <| x_sta ((cLo cI).enc (s72.1.set (s72.2.2).toNat s72.2.1)) (ss rfl rfl) rfl rfl (Ln.idx g140 Ln.nil) (Cd.h_sz cI _) rfl <| seqN [(0, .d ((cLo cI).enc (s72.1.set (s72.2.2).toNat s72.2.1))), (1, .d (cI.enc s72.2.1)), (5, .d (cI.enc s72.2.2))] (by kernel_rfl) <|
    xn <| reg_s <| st rfl <| mvd rfl rfl <| ckI_k h fun i141 h => st rfl <| b_add (k := .i64) rfl rfl i141 <| x_asg (ss rfl rfl) <| seqN [(0, .d ((cLo cI).enc (s72.1.set (s72.2.2).toNat s72.2.1))), (1, .d (cI.enc (s72.2.1 + (1 : Int)))), (5, .d (cI.enc s72.2.2))] (by kernel_rfl) <|
    xbb <| kpN [(0, .d ((cLo cI).enc (s72.1.set (s72.2.2).toNat s72.2.1))), (1, .d (cI.enc (s72.2.1 + (1 : Int)))), (5, .d (cI.enc s72.2.2))] (by kernel_rfl) <| xn <| reg_s <| st rfl <| mvd rfl rfl <| ckI_k h fun i142 h => st rfl <| b_add (k := .i64) rfl rfl i142 <| x_asg (ss rfl rfl) <| seqN [(0, .d ((cLo cI).enc (s72.1.set (s72.2.2).toNat s72.2.1))), (1, .d (cI.enc (s72.2.1 + (1 : Int)))), (5, .d (cI.enc (s72.2.2 + (1 : Int))))] (by kernel_rfl) <|
    xn <| hn120 ((s72.1.set (s72.2.2).toNat s72.2.1), (s72.2.1 + (1 : Int)), (s72.2.2 + (1 : Int))) h)
    (fun b127 h => wpC_exit <| xt <| xt <| xt <| xb <| kpN [(0, .d ((cLo cI).enc s72.1)), (1, .d (cI.enc s72.2.1))] (by kernel_rfl) <| xn <| wpC_seq <| reg_s <| st rfl <| mvd rfl rfl <| x_asg (ss rfl rfl) <| seqN [(0, .d ((cLo cI).enc s72.1)), (4, .d (cI.enc s72.2.1))] (by kernel_rfl) <|
    xn <| wpC_ret <| re <| finO h (r1 (ss rfl rfl) <| r0) rfl rfl)

def rs_laws_heldIntS (r : Int) : List D := [cI.enc r]
def m37 : MC := .seq (.reg [⟨some 4, .asg (.c (.int .i64 0)), none⟩] [0, 1])
  (.seq (.kp [1] (.seq (.reg [⟨some 5, .asg (.c (.int .i64 0)), none⟩] [0, 1, 5])
  (.blk 0 (.loop (.seq (.kp [0, 1, 5] (.seq (.reg [⟨some 6, .mv (.t 5), none⟩,
    ⟨some 7, .mv (.t 0), none⟩,
    ⟨some 8, .len false (.t 7), none⟩,
    ⟨some 9, .bin .lss (.t 6) (.t 8), none⟩] [0, 1, 5, 9])
  (.cond (.t 9) (.skip) (.exit 0))))
  (.seq (.kp [0, 1, 5] (.blk 1 (.seq (.kp [0, 1, 5] (.seq (.reg [⟨some 12, .mv (.t 0), none⟩,
    ⟨some 13, .mv (.t 5), none⟩,
    ⟨some 14, .ia 12 (.t 13) 1, none⟩,
    ⟨some 15, .ld 14 1 false, none⟩,
    ⟨some 16, .mv (.t 1), none⟩,
    ⟨some 17, .bin .neq (.t 15) (.t 16), none⟩] [0, 1, 5, 17])
  (.cond (.t 17) (.seq (.reg [⟨some 4, .asg (.c (.int .i64 (-1))), none⟩] [4])
  (.ret)) (.skip))))
  (.reg [⟨some 18, .mv (.t 1), none⟩,
    ⟨some 19, .bin .add (.t 18) (.c (.int .i64 1)), none⟩,
    ⟨some 1, .asg (.t 19), none⟩] [0, 1, 5]))))
  (.reg [⟨some 10, .mv (.t 5), none⟩,
    ⟨some 11, .bin .add (.t 10) (.c (.int .i64 1)), none⟩,
    ⟨some 5, .asg (.t 11), none⟩] [0, 1, 5])))))))
  (.seq (.reg [⟨some 20, .mv (.t 1), none⟩,
    ⟨some 4, .asg (.t 20), none⟩] [4])
  (.ret)))
theorem con_laws_heldIntS {v0 : (List Int)} {v1 : Int} {r : Int} (h : sh_laws_heldIntS v0 v1 = some r) : Con Tryd.prog 37 [(cLs cI rfl).enc v0, cI.enc v1] [] (rs_laws_heldIntS r) := by
  delta sh_laws_heldIntS at h
  refine top (out := none) (f := Tryd.f37) (m := m37) (rs := [.t 4]) (by kernel_rfl) rfl (by kernel_rfl) (by kernel_rfl) (by kernel_rfl) (by kernel_rfl) (by kernel_rfl) ?_
  exact
   ini [(0, .d ((cLs cI rfl).enc v0)), (1, .d (cI.enc v1))] rfl <| wpC_seq <| reg_s <| x_asg (sc cI (0 : Int) rfl) <| seqN [(0, .d ((cLs cI rfl).enc v0)), (1, .d (cI.enc v1))] (by kernel_rfl) <|
    xn <| wpC_seq <| wpC_kp <| wpC_seq <| reg_s <| x_asg (sc cI (0 : Int) rfl) <| seqN [(0, .d ((cLs cI rfl).enc v0)), (1, .d (cI.enc v1)), (5, .d (cI.enc (0 : Int)))] (by kernel_rfl) <|
    xn <| wpC_blk <| lpF (fun (s120 : (Int × Int)) => [(0, .d ((cLs cI rfl).enc v0)), (1, .d (cI.enc s120.1)), (5, .d (cI.enc s120.2))]) (v1, (0 : Int)) rfl h
    fun G201 nx199 s120 hn200 h => wpC_seq <| wpC_kp <| wpC_seq <| reg_s <| st rfl <| mvd rfl rfl <| st rfl <| mvd rfl rfl <| stw rfl <| lens rfl fun l206 => st rfl <| b_lss (k := .i64) rfl rfl <| seqN [(0, .d ((cLs cI rfl).enc v0)), (1, .d (cI.enc s120.1)), (5, .d (cI.enc s120.2)), (9, .d (cB.enc (decide (s120.2 < (v0.length : Int)))))] (by kernel_rfl) <|
    xn <| cnd rfl h (fun b207 h => wpC_skip <| kpN [(0, .d ((cLs cI rfl).enc v0)), (1, .d (cI.enc s120.1)), (5, .d (cI.enc s120.2))] (by kernel_rfl) <| xn <| wpC_seq <| wpC_kp <| wpC_blk <| wpC_seq <| wpC_kp <| wpC_seq <| reg_s <| st rfl <| mvd rfl rfl <| st rfl <| mvd rfl rfl <| getO_k h fun x233 i234 g235 h => st rfl <| ias rfl rfl i234 g235 rfl <| st rfl <| ldi rfl rfl rfl rfl <| st rfl <| mvd rfl rfl <| st rfl <| b_neq (k := .i64) rfl rfl <| seqN [(0, .d ((cLs cI rfl).enc v0)), (1, .d (cI.enc s120.1)), (5, .d (cI.enc s120.2)), (17, .d (cB.enc (decide (x233 ≠ s120.1))))] (by kernel_rfl) <|
    xn <| cnd rfl h (fun b236 h => wpC_seq <| reg_s <| x_asg (sc cI (-1 : Int) rfl) <| seqN [(4, .d (cI.enc (-1 : Int)))] (by kernel_rfl) <|
    xn <| wpC_ret <| rt <| rt <| rb <| rt <| rt <| rt <| rb <| rt <| rt <| re <| fin h (r1 (ss rfl rfl) <| r0) rfl)
    (fun b236 h => wpC_skip <| kpN [(0, .d ((cLs cI rfl).enc v0)), (1, .d (cI.enc s120.1)), (5, .d (cI.enc s120.2))] (by kernel_rfl) <| xn <| reg_s <| st rfl <| mvd rfl rfl <| ckI_k h fun i237 h => st rfl <| b_add (k := .i64) rfl rfl i237 <| x_asg (ss rfl rfl) <| seqN [(0, .d ((cLs cI rfl).enc v0)), (1, .d (cI.enc (s120.1 + (1 : Int)))), (5, .d (cI.enc s120.2))] (by kernel_rfl) <|
    xbb <| kpN [(0, .d ((cLs cI rfl).enc v0)), (1, .d (cI.enc (s120.1 + (1 : Int)))), (5, .d (cI.enc s120.2))] (by kernel_rfl) <| xn <| reg_s <| st rfl <| mvd rfl rfl <| ckI_k h fun i238 h => st rfl <| b_add (k := .i64) rfl rfl i238 <| x_asg (ss rfl rfl) <| seqN [(0, .d ((cLs cI rfl).enc v0)), (1, .d (cI.enc (s120.1 + (1 : Int)))), (5, .d (cI.enc (s120.2 + (1 : Int))))] (by kernel_rfl) <|
    xn <| hn200 ((s120.1 + (1 : Int)), (s120.2 + (1 : Int))) h))
    (fun b207 h => wpC_exit <| xt <| xt <| xt <| xb <| kpN [(1, .d (cI.enc s120.1))] (by kernel_rfl) <| xn <| wpC_seq <| reg_s <| st rfl <| mvd rfl rfl <| x_asg (ss rfl rfl) <| seqN [(4, .d (cI.enc s120.1))] (by kernel_rfl) <|
    xn <| wpC_ret <| re <| fin h (r1 (ss rfl rfl) <| r0) rfl)

def rs_laws_szIntS (r : Int) : List D := [cI.enc r]
def m43 : MC := .seq (.reg [⟨some 4, .asg (.c (.int .i64 0)), none⟩] [0, 1])
  (.seq (.reg [⟨some 5, .mv (.t 1), none⟩,
    ⟨some 6, .mv (.t 0), none⟩,
    ⟨some 7, .len false (.t 6), none⟩,
    ⟨some 8, .bin .sub (.t 5) (.t 7), none⟩,
    ⟨some 1, .asg (.t 8), none⟩] [1])
  (.seq (.kp [1] (.seq (.reg [⟨some 9, .mv (.t 1), none⟩,
    ⟨some 10, .bin .lss (.t 9) (.c (.int .i64 0)), none⟩] [1, 10])
  (.cond (.t 10) (.seq (.reg [⟨some 4, .asg (.c (.int .i64 (-1))), none⟩] [4])
  (.ret)) (.skip))))
  (.seq (.reg [⟨some 11, .mv (.t 1), none⟩,
    ⟨some 4, .asg (.t 11), none⟩] [4])
  (.ret))))
theorem con_laws_szIntS {v0 : (List Int)} {v1 : Int} {r : Int} (h : sh_laws_szIntS v0 v1 = some r) : Con Tryd.prog 43 [(cLs cI rfl).enc v0, cI.enc v1] [] (rs_laws_szIntS r) := by
  delta sh_laws_szIntS at h
  refine top (out := none) (f := Tryd.f43) (m := m43) (rs := [.t 4]) (by kernel_rfl) rfl (by kernel_rfl) (by kernel_rfl) (by kernel_rfl) (by kernel_rfl) (by kernel_rfl) ?_
  exact
   ini [(0, .d ((cLs cI rfl).enc v0)), (1, .d (cI.enc v1))] rfl <| wpC_seq <| reg_s <| x_asg (sc cI (0 : Int) rfl) <| seqN [(0, .d ((cLs cI rfl).enc v0)), (1, .d (cI.enc v1))] (by kernel_rfl) <|
    xn <| wpC_seq <| reg_s <| st rfl <| mvd rfl rfl <| st rfl <| mvd rfl rfl <| stw rfl <| lens rfl fun l3 => ckI_k h fun i4 h => st rfl <| b_sub (k := .i64) rfl rfl i4 <| x_asg (ss rfl rfl) <| seqN [(1, .d (cI.enc (v1 - (v0.length : Int))))] (by kernel_rfl) <|
    xn <| wpC_seq <| wpC_kp <| wpC_seq <| reg_s <| st rfl <| mvd rfl rfl <| st rfl <| b_lss (k := .i64) rfl rfl <| seqN [(1, .d (cI.enc (v1 - (v0.length : Int)))), (10, .d (cB.enc (decide ((v1 - (v0.length : Int)) < (0 : Int)))))] (by kernel_rfl) <|
    xn <| cnd rfl h (fun b6 h => wpC_seq <| reg_s <| x_asg (sc cI (-1 : Int) rfl) <| seqN [(4, .d (cI.enc (-1 : Int)))] (by kernel_rfl) <|
    xn <| wpC_ret <| rt <| rt <| re <| fin h (r1 (ss rfl rfl) <| r0) rfl)
    (fun b6 h => wpC_skip <| kpN [(1, .d (cI.enc (v1 - (v0.length : Int))))] (by kernel_rfl) <| xn <| wpC_seq <| reg_s <| st rfl <| mvd rfl rfl <| x_asg (ss rfl rfl) <| seqN [(4, .d (cI.enc (v1 - (v0.length : Int))))] (by kernel_rfl) <|
    xn <| wpC_ret <| re <| fin h (r1 (ss rfl rfl) <| r0) rfl)

def rs_laws_szGeo (r : Int) : List D := [cI.enc r]
def m9 : MC := .seq (.reg [⟨some 2, .box (.t 0), none⟩,
    ⟨some 4, .asg (.c (.int .i64 0)), none⟩] [1, 2])
  (.seq (.reg [⟨some 5, .fa 2 0 0, none⟩,
    ⟨some 6, .ld 5 1 false, none⟩,
    ⟨some 7, .mv (.t 1), none⟩,
    ⟨some 8, .call 43 [(.t 6), (.t 7)], none⟩,
    ⟨some 1, .asg (.t 8), none⟩] [1])
  (.seq (.kp [1] (.seq (.reg [⟨some 9, .mv (.t 1), none⟩,
    ⟨some 10, .bin .lss (.t 9) (.c (.int .i64 0)), none⟩] [1, 10])
  (.cond (.t 10) (.seq (.reg [⟨some 4, .asg (.c (.int .i64 (-1))), none⟩] [4])
  (.ret)) (.skip))))
  (.seq (.reg [⟨some 11, .mv (.t 1), none⟩,
    ⟨some 4, .asg (.t 11), none⟩] [4])
  (.ret))))
theorem con_laws_szGeo {v0 : XGeo} {v1 : Int} {r : Int} (h : sh_laws_szGeo v0 v1 = some r) : Con Tryd.prog 9 [(cXGeo (cLs cI rfl)).enc v0, cI.enc v1] [] (rs_laws_szGeo r) := by
  delta sh_laws_szGeo at h
  refine top (out := none) (f := Tryd.f9) (m := m9) (rs := [.t 4]) (by kernel_rfl) rfl (by kernel_rfl) (by kernel_rfl) (by kernel_rfl) (by kernel_rfl) (by kernel_rfl) ?_
  exact
   ini [(0, .d ((cXGeo (cLs cI rfl)).enc v0)), (1, .d (cI.enc v1))] rfl <| wpC_seq <| reg_s <| x_box (ss rfl rfl) <| x_asg (sc cI (0 : Int) rfl) <| seqN [(1, .d (cI.enc v1)), (2, .box ((cXGeo (cLs cI rfl)).enc v0))] (by kernel_rfl) <|
    xn <| wpC_seq <| reg_s <| st rfl <| fab rfl rfl rfl rfl <| st rfl <| lda rfl rfl rfl rfl rfl rfl <| st rfl <| mvd rfl rfl <| bnd h fun x3 e4 h => st rfl <| o_call (a1 (c := (cLs cI rfl)) (tLs tK) rfl (a1 (c := cI) tK rfl a0)) (con_laws_szIntS e4) (.inl (so1 sK so0)) <| x_asg (ss rfl rfl) <| seqN [(1, .d (cI.enc x3))] (by kernel_rfl) <|
    xn <| wpC_seq <| wpC_kp <| wpC_seq <| reg_s <| st rfl <| mvd rfl rfl <| st rfl <| b_lss (k := .i64) rfl rfl <| seqN [(1, .d (cI.enc x3)), (10, .d (cB.enc (decide (x3 < (0 : Int)))))] (by kernel_rfl) <|
    xn <| cnd rfl h (fun b6 h => wpC_seq <| reg_s <| x_asg (sc cI (-1 : Int) rfl) <| seqN [(4, .d (cI.enc (-1 : Int)))] (by kernel_rfl) <|
    xn <| wpC_ret <| rt <| rt <| re <| fin h (r1 (ss rfl rfl) <| r0) rfl)
    (fun b6 h => wpC_skip <| kpN [(1, .d (cI.enc x3))] (by kernel_rfl) <| xn <| wpC_seq <| reg_s <| st rfl <| mvd rfl rfl <| x_asg (ss rfl rfl) <| seqN [(4, .d (cI.enc x3))] (by kernel_rfl) <|
    xn <| wpC_ret <| re <| fin h (r1 (ss rfl rfl) <| r0) rfl)

def rs_laws_szTable (r : Int) : List D := [cI.enc r]
def m11 : MC := .seq (.reg [⟨some 2, .box (.t 0), none⟩,
    ⟨some 4, .asg (.c (.int .i64 0)), none⟩] [1, 2])
  (.seq (.reg [⟨some 5, .fa 2 1 1, none⟩,
    ⟨some 6, .ld 5 1 false, none⟩,
    ⟨some 7, .mv (.t 1), none⟩,
    ⟨some 8, .call 43 [(.t 6), (.t 7)], none⟩,
    ⟨some 1, .asg (.t 8), none⟩] [1, 2])
  (.seq (.kp [1, 2] (.seq (.reg [⟨some 9, .mv (.t 1), none⟩,
    ⟨some 10, .bin .lss (.t 9) (.c (.int .i64 0)), none⟩] [1, 2, 10])
  (.cond (.t 10) (.seq (.reg [⟨some 4, .asg (.c (.int .i64 (-1))), none⟩] [4])
  (.ret)) (.skip))))
  (.seq (.reg [⟨some 11, .fa 2 2 2, none⟩,
    ⟨some 12, .ld 11 1 false, none⟩,
    ⟨some 13, .mv (.t 1), none⟩,
    ⟨some 14, .call 43 [(.t 12), (.t 13)], none⟩,
    ⟨some 1, .asg (.t 14), none⟩] [1])
  (.seq (.kp [1] (.seq (.reg [⟨some 15, .mv (.t 1), none⟩,
    ⟨some 16, .bin .lss (.t 15) (.c (.int .i64 0)), none⟩] [1, 16])
  (.cond (.t 16) (.seq (.reg [⟨some 4, .asg (.c (.int .i64 (-1))), none⟩] [4])
  (.ret)) (.skip))))
  (.seq (.reg [⟨some 17, .mv (.t 1), none⟩,
    ⟨some 4, .asg (.t 17), none⟩] [4])
  (.ret))))))
theorem con_laws_szTable {v0 : XTable} {v1 : Int} {r : Int} (h : sh_laws_szTable v0 v1 = some r) : Con Tryd.prog 11 [(cXTable cI (cLs cI rfl) (cLs cI rfl) cI).enc v0, cI.enc v1] [] (rs_laws_szTable r) := by
  delta sh_laws_szTable at h
  refine top (out := none) (f := Tryd.f11) (m := m11) (rs := [.t 4]) (by kernel_rfl) rfl (by kernel_rfl) (by kernel_rfl) (by kernel_rfl) (by kernel_rfl) (by kernel_rfl) ?_
  exact
   ini [(0, .d ((cXTable cI (cLs cI rfl) (cLs cI rfl) cI).enc v0)), (1, .d (cI.enc v1))] rfl <| wpC_seq <| reg_s <| x_box (ss rfl rfl) <| x_asg (sc cI (0 : Int) rfl) <| seqN [(1, .d (cI.enc v1)), (2, .box ((cXTable cI (cLs cI rfl) (cLs cI rfl) cI).enc v0))] (by kernel_rfl) <|
    xn <| wpC_seq <| reg_s <| st rfl <| fab rfl rfl rfl rfl <| st rfl <| lda rfl rfl rfl rfl rfl rfl <| st rfl <| mvd rfl rfl <| bnd h fun x3 e4 h => st rfl <| o_call (a1 (c := (cLs cI rfl)) (tLs tK) rfl (a1 (c := cI) tK rfl a0)) (con_laws_szIntS e4) (.inl (so1 sK so0)) <| x_asg (ss rfl rfl) <| seqN [(1, .d (cI.enc x3)), (2, .box ((cXTable cI (cLs cI rfl) (cLs cI rfl) cI).enc v0))] (by kernel_rfl) <|
    xn <| wpC_seq <| wpC_kp <| wpC_seq <| reg_s <| st rfl <| mvd rfl rfl <| st rfl <| b_lss (k := .i64) rfl rfl <| seqN [(1, .d (cI.enc x3)), (2, .box ((cXTable cI (cLs cI rfl) (cLs cI rfl) cI).enc v0)), (10, .d (cB.enc (decide (x3 < (0 : Int)))))] (by kernel_rfl) <|
    xn <| cnd rfl h (fun b6 h => wpC_seq <| reg_s <| x_asg (sc cI (-1 : Int) rfl) <| seqN [(4, .d (cI.enc (-1 : Int)))] (by kernel_rfl) <|
    xn <| wpC_ret <| rt <| rt <| re <| fin h (r1 (ss rfl rfl) <| r0) rfl)
    (fun b6 h => wpC_skip <| kpN [(1, .d (cI.enc x3)), (2, .box ((cXTable cI (cLs cI rfl) (cLs cI rfl) cI).enc v0))] (by kernel_rfl) <| xn <| wpC_seq <| reg_s <| st rfl <| fab rfl rfl rfl rfl <| st rfl <| lda rfl rfl rfl rfl rfl rfl <| st rfl <| mvd rfl rfl <| bnd h fun x9 e10 h => st rfl <| o_call (a1 (c := (cLs cI rfl)) (tLs tK) rfl (a1 (c := cI) tK rfl a0)) (con_laws_szIntS e10) (.inl (so1 sK so0)) <| x_asg (ss rfl rfl) <| seqN [(1, .d (cI.enc x9))] (by kernel_rfl) <|
    xn <| wpC_seq <| wpC_kp <| wpC_seq <| reg_s <| st rfl <| mvd rfl rfl <| st rfl <| b_lss (k := .i64) rfl rfl <| seqN [(1, .d (cI.enc x9)), (16, .d (cB.enc (decide (x9 < (0 : Int)))))] (by kernel_rfl) <|
    xn <| cnd rfl h (fun b12 h => wpC_seq <| reg_s <| x_asg (sc cI (-1 : Int) rfl) <| seqN [(4, .d (cI.enc (-1 : Int)))] (by kernel_rfl) <|
    xn <| wpC_ret <| rt <| rt <| re <| fin h (r1 (ss rfl rfl) <| r0) rfl)
    (fun b12 h => wpC_skip <| kpN [(1, .d (cI.enc x9))] (by kernel_rfl) <| xn <| wpC_seq <| reg_s <| st rfl <| mvd rfl rfl <| x_asg (ss rfl rfl) <| seqN [(4, .d (cI.enc x9))] (by kernel_rfl) <|
    xn <| wpC_ret <| re <| fin h (r1 (ss rfl rfl) <| r0) rfl))

def rs_laws_toIntS (r : (List Int)) : List D := [(cLo cI).enc r]
def m28 : MC := .seq (.reg [⟨some 2, .asg (.c (.slice true [])), none⟩] [0])
  (.seq (.reg [⟨some 5, .mv (.t 0), none⟩,
    ⟨some 6, .len false (.t 5), none⟩,
    ⟨some 7, .mk (.int .i64 0) (.t 6), none⟩,
    ⟨some 3, .asg (.t 7), none⟩] [0, 3])
  (.seq (.kp [3] (.seq (.reg [⟨some 4, .asg (.c (.int .i64 0)), none⟩] [0, 3, 4])
  (.blk 0 (.loop (.seq (.kp [0, 3, 4] (.seq (.reg [⟨some 8, .mv (.t 4), none⟩,
    ⟨some 9, .mv (.t 0), none⟩,
    ⟨some 10, .len false (.t 9), none⟩,
    ⟨some 11, .bin .lss (.t 8) (.t 10), none⟩] [0, 3, 4, 11])
  (.cond (.t 11) (.skip) (.exit 0))))
  (.seq (.kp [0, 3, 4] (.blk 1 (.reg [⟨some 14, .mv (.t 3), none⟩,
    ⟨some 15, .mv (.t 4), none⟩,
    ⟨some 16, .mv (.t 0), none⟩,
    ⟨some 17, .mv (.t 4), none⟩,
    ⟨some 18, .ia 16 (.t 17) 1, none⟩,
    ⟨some 19, .ld 18 1 false, none⟩,
    ⟨some 20, .ia 14 (.t 15) 1, none⟩,
    ⟨none, .st 20 (.t 19) 1, none⟩] [0, 3, 4])))
  (.reg [⟨some 12, .mv (.t 4), none⟩,
    ⟨some 13, .bin .add (.t 12) (.c (.int .i64 1)), none⟩,
    ⟨some 4, .asg (.t 13), none⟩] [0, 3, 4])))))))
  (.seq (.reg [⟨some 21, .mv (.t 3), none⟩,
    ⟨some 2, .asg (.t 21), none⟩] [2])
  (.ret))))
theorem con_laws_toIntS {v0 : (List Int)} {r : (List Int)} (h : sh_laws_toIntS v0 = some r) : Con Tryd.prog 28 [(cLs cI rfl).enc v0] [] (rs_laws_toIntS r) := by
  delta sh_laws_toIntS at h
  refine top (out := none) (f := Tryd.f28) (m := m28) (rs := [.t 2]) (by kernel_rfl) rfl (by kernel_rfl) (by kernel_rfl) (by kernel_rfl) (by kernel_rfl) (by kernel_rfl) ?_
  exact
   ini [(0, .d ((cLs cI rfl).enc v0))] rfl <| wpC_seq <| reg_s <| x_asg (sc (cLo cI) ([] : List Int) rfl) <| seqN [(0, .d ((cLs cI rfl).enc v0))] (by kernel_rfl) <|
    xn <| wpC_seq <| reg_s <| st rfl <| mvd rfl rfl <| stw rfl <| lens rfl fun l4 => mkO_k h fun i5 l6 h => st rfl <| o_mk (c := cI) (a0 := (0 : Int)) rfl (k := .i64) rfl i5 l6 <| x_asg (so rfl rfl) <| seqN [(0, .d ((cLs cI rfl).enc v0)), (3, .d ((cLo cI).enc (List.replicate ((v0.length : Int)).toNat (0 : Int))))] (by kernel_rfl) <|
    xn <| wpC_seq <| wpC_kp <| wpC_seq <| reg_s <| x_asg (sc cI (0 : Int) rfl) <| seqN [(0, .d ((cLs cI rfl).enc v0)), (3, .d ((cLo cI).enc (List.replicate ((v0.length : Int)).toNat (0 : Int)))), (4, .d (cI.enc (0 : Int)))] (by kernel_rfl) <|
    xn <| wpC_blk <| lpF (fun (s72 : ((List Int) × Int)) => [(0, .d ((cLs cI rfl).enc v0)), (3, .d ((cLo cI).enc s72.1)), (4, .d (cI.enc s72.2))]) ((List.replicate ((v0.length : Int)).toNat (0 : Int)), (0 : Int)) rfl h
    fun G117 nx115 s72 hn116 h => wpC_seq <| wpC_kp <| wpC_seq <| reg_s <| st rfl <| mvd rfl rfl <| st rfl <| mvd rfl rfl <| stw rfl <| lens rfl fun l122 => st rfl <| b_lss (k := .i64) rfl rfl <| seqN [(0, .d ((cLs cI rfl).enc v0)), (3, .d ((cLo cI).enc s72.1)), (4, .d (cI.enc s72.2)), (11, .d (cB.enc (decide (s72.2 < (v0.length : Int)))))] (by kernel_rfl) <|
    xn <| cnd rfl h (fun b123 h => wpC_skip <| kpN [(0, .d ((cLs cI rfl).enc v0)), (3, .d ((cLo cI).enc s72.1)), (4, .d (cI.enc s72.2))] (by kernel_rfl) <| xn <| wpC_seq <| wpC_kp <| wpC_blk <| reg_s <| st rfl <| mvo rfl rfl <| st rfl <| mvd rfl rfl <| st rfl <| mvd rfl rfl <| st rfl <| mvd rfl rfl <| getO_k h fun x130 i131 g132 h => st rfl <| ias rfl rfl i131 g132 rfl <| st rfl <| ldi rfl rfl rfl rfl <| getO_k h fun x133 i134 g135 h => st rfl <| iar rfl rfl rfl rfl i134 g135 rfl <| x_sta ((cLo cI).enc (s72.1.set (s72.2).toNat x130)) (ss rfl rfl) rfl rfl (Ln.idx g135 Ln.nil) (Cd.h_sz cI _) rfl <| seqN [(0, .d ((cLs cI rfl).enc v0)), (3, .d ((cLo cI).enc (s72.1.set (s72.2).toNat x130))), (4, .d (cI.enc s72.2))] (by kernel_rfl) <|
    xbb <| kpN [(0, .d ((cLs cI rfl).enc v0)), (3, .d ((cLo cI).enc (s72.1.set (s72.2).toNat x130))), (4, .d (cI.enc s72.2))] (by kernel_rfl) <| xn <| reg_s <| st rfl <| mvd rfl rfl <| ckI_k h fun i136 h => st rfl <| b_add (k := .i64) rfl rfl i136 <| x_asg (ss rfl rfl) <| seqN [(0, .d ((cLs cI rfl).enc v0)), (3, .d ((cLo cI).enc (s72.1.set (s72.2).toNat x130))), (4, .d (cI.enc (s72.2 + (1 : Int))))] (by kernel_rfl) <|
    xn <| hn116 ((s72.1.set (s72.2).toNat x130), (s72.2 + (1 : Int))) h)
    (fun b123 h => wpC_exit <| xt <| xt <| xt <| xb <| kpN [(3, .d ((cLo cI).enc s72.1))] (by kernel_rfl) <| xn <| wpC_seq <| reg_s <| st rfl <| mvo rfl rfl <| x_asg (sr rfl rfl) <| seqN [(2, .d ((cLo cI).enc s72.1))] (by kernel_rfl) <|
    xn <| wpC_ret <| re <| fin h (r1 (so rfl rfl) <| r0) rfl)

def rs_laws_toGeo (r : XGeo) : List D := [(cXGeo (cLo cI)).enc r]
def m13 : MC := .seq (.reg [⟨some 1, .box (.t 0), none⟩,
    ⟨some 2, .alloc (.agg [.slice true []]), none⟩] [1, 2])
  (.seq (.reg [⟨some 3, .alloc (.agg [.slice true []]), none⟩] [1, 2, 3])
  (.seq (.reg [⟨some 4, .fa 1 0 0, none⟩,
    ⟨some 5, .ld 4 1 false, none⟩,
    ⟨some 6, .call 28 [(.t 5)], none⟩,
    ⟨some 7, .fa 3 0 0, none⟩,
    ⟨none, .st 7 (.t 6) 1, none⟩] [2, 3])
  (.seq (.reg [⟨some 8, .ld 3 1 true, none⟩,
    ⟨none, .st 2 (.t 8) 1, none⟩] [2])
  (.ret))))
theorem con_laws_toGeo {v0 : XGeo} {r : XGeo} (h : sh_laws_toGeo v0 = some r) : Con Tryd.prog 13 [(cXGeo (cLs cI rfl)).enc v0] [] (rs_laws_toGeo r) := by
  delta sh_laws_toGeo at h
  refine top (out := none) (f := Tryd.f13) (m := m13) (rs := [.c 2 1 true]) (by kernel_rfl) rfl (by kernel_rfl) (by kernel_rfl) (by kernel_rfl) (by kernel_rfl) (by kernel_rfl) ?_
  exact
   ini [(0, .d ((cXGeo (cLs cI rfl)).enc v0))] rfl <| wpC_seq <| reg_s <| x_box (ss rfl rfl) <| x_all (cXGeo (cLo cI)) (⟨([] : List Int)⟩ : XGeo) rfl <| seqN [(1, .box ((cXGeo (cLs cI rfl)).enc v0)), (2, .box ((cXGeo (cLo cI)).enc (⟨([] : List Int)⟩ : XGeo)))] (by kernel_rfl) <|
    xn <| wpC_seq <| reg_s <| x_all (cXGeo (cLo cI)) (⟨([] : List Int)⟩ : XGeo) rfl <| seqN [(1, .box ((cXGeo (cLs cI rfl)).enc v0)), (2, .box ((cXGeo (cLo cI)).enc (⟨([] : List Int)⟩ : XGeo))), (3, .box ((cXGeo (cLo cI)).enc (⟨([] : List Int)⟩ : XGeo)))] (by kernel_rfl) <|
    xn <| wpC_seq <| reg_s <| st rfl <| fab rfl rfl rfl rfl <| st rfl <| lda rfl rfl rfl rfl rfl rfl <| bnd h fun x3 e4 h => st rfl <| o_call (a1 (c := (cLs cI rfl)) (tLs tK) rfl a0) (con_laws_toIntS e4) (.inl (so1 (sLo sK) so0)) <| st rfl <| fab rfl rfl rfl rfl <| x_sta ((cXGeo (cLo cI)).enc (⟨x3⟩ : XGeo)) (so rfl rfl) rfl rfl (Ln.fld rfl rfl Ln.nil rfl) (Cd.h_sz (cLo cI) _) rfl <| seqN [(2, .box ((cXGeo (cLo cI)).enc (⟨([] : List Int)⟩ : XGeo))), (3, .box ((cXGeo (cLo cI)).enc (⟨x3⟩ : XGeo)))] (by kernel_rfl) <|
    xn <| wpC_seq <| reg_s <| st rfl <| ldbo rfl rfl rfl rfl <| x_stb (sb rfl rfl) rfl (Cd.h_sz _ _) rfl <| seqN [(2, .box ((cXGeo (cLo cI)).enc (⟨x3⟩ : XGeo)))] (by kernel_rfl) <|
    xn <| wpC_ret <| re <| fin h (r2 rfl rfl rfl <| r0) rfl

def rs_laws_toGeo_fz (r : XGeo) : List D := [(cXGeo (cLs cI rfl)).enc r]
theorem con_laws_toGeo_fz {v0 : XGeo} {r : XGeo} (h : sh_laws_toGeo v0 = some r) : Con Tryd.prog 13 [(cXGeo (cLs cI rfl)).enc v0] [] (rs_laws_toGeo_fz r) := con_fz (tXGeo (tLo tK)) (con_laws_toGeo h)

def rs_laws_toTable (r : XTable) : List D := [(cXTable cI (cLo cI) (cLo cI) cI).enc r]
def m15 : MC := .seq (.reg [⟨some 1, .box (.t 0), none⟩,
    ⟨some 2, .alloc (.agg [.int .i64 0, .slice true [], .slice true [], .int .i64 0]), none⟩] [1, 2])
  (.seq (.reg [⟨some 3, .alloc (.agg [.int .i64 0, .slice true [], .slice true [], .int .i64 0]), none⟩] [1, 2, 3])
  (.seq (.reg [⟨some 4, .fa 1 0 0, none⟩,
    ⟨some 5, .ld 4 1 false, none⟩,
    ⟨some 6, .fa 3 0 0, none⟩,
    ⟨none, .st 6 (.t 5) 1, none⟩] [1, 2, 3])
  (.seq (.reg [⟨some 7, .fa 1 1 1, none⟩,
    ⟨some 8, .ld 7 1 false, none⟩,
    ⟨some 9, .call 28 [(.t 8)], none⟩,
    ⟨some 10, .fa 3 1 1, none⟩,
    ⟨none, .st 10 (.t 9) 1, none⟩] [1, 2, 3])
  (.seq (.reg [⟨some 11, .fa 1 2 2, none⟩,
    ⟨some 12, .ld 11 1 false, none⟩,
    ⟨some 13, .call 28 [(.t 12)], none⟩,
    ⟨some 14, .fa 3 2 2, none⟩,
    ⟨none, .st 14 (.t 13) 1, none⟩] [1, 2, 3])
  (.seq (.reg [⟨some 15, .fa 1 3 3, none⟩,
    ⟨some 16, .ld 15 1 false, none⟩,
    ⟨some 17, .fa 3 3 3, none⟩,
    ⟨none, .st 17 (.t 16) 1, none⟩] [2, 3])
  (.seq (.reg [⟨some 18, .ld 3 4 true, none⟩,
    ⟨none, .st 2 (.t 18) 4, none⟩] [2])
  (.ret)))))))
theorem con_laws_toTable {v0 : XTable} {r : XTable} (h : sh_laws_toTable v0 = some r) : Con Tryd.prog 15 [(cXTable cI (cLs cI rfl) (cLs cI rfl) cI).enc v0] [] (rs_laws_toTable r) := by
  delta sh_laws_toTable at h
  refine top (out := none) (f := Tryd.f15) (m := m15) (rs := [.c 2 4 true]) (by kernel_rfl) rfl (by kernel_rfl) (by kernel_rfl) (by kernel_rfl) (by kernel_rfl) (by kernel_rfl) ?_
  exact
   ini [(0, .d ((cXTable cI (cLs cI rfl) (cLs cI rfl) cI).enc v0))] rfl <| wpC_seq <| reg_s <| x_box (ss rfl rfl) <| x_all (cXTable cI (cLo cI) (cLo cI) cI) (⟨(0 : Int), ([] : List Int), ([] : List Int), (0 : Int)⟩ : XTable) rfl <| seqN [(1, .box ((cXTable cI (cLs cI rfl) (cLs cI rfl) cI).enc v0)), (2, .box ((cXTable cI (cLo cI) (cLo cI) cI).enc (⟨(0 : Int), ([] : List Int), ([] : List Int), (0 : Int)⟩ : XTable)))] (by kernel_rfl) <|
    xn <| wpC_seq <| reg_s <| x_all (cXTable cI (cLo cI) (cLo cI) cI) (⟨(0 : Int), ([] : List Int), ([] : List Int), (0 : Int)⟩ : XTable) rfl <| seqN [(1, .box ((cXTable cI (cLs cI rfl) (cLs cI rfl) cI).enc v0)), (2, .box ((cXTable cI (cLo cI) (cLo cI) cI).enc (⟨(0 : Int), ([] : List Int), ([] : List Int), (0 : Int)⟩ : XTable))), (3, .box ((cXTable cI (cLo cI) (cLo cI) cI).enc (⟨(0 : Int), ([] : List Int), ([] : List Int), (0 : Int)⟩ : XTable)))] (by kernel_rfl) <|
    xn <| wpC_seq <| reg_s <| st rfl <| fab rfl rfl rfl rfl <| st rfl <| lda rfl rfl rfl rfl rfl rfl <| st rfl <| fab rfl rfl rfl rfl <| x_sta ((cXTable cI (cLo cI) (cLo cI) cI).enc (⟨v0.Level, ([] : List Int), ([] : List Int), (0 : Int)⟩ : XTable)) (ss rfl rfl) rfl rfl (Ln.fld rfl rfl Ln.nil rfl) (Cd.h_sz cI _) rfl <| seqN [(1, .box ((cXTable cI (cLs cI rfl) (cLs cI rfl) cI).enc v0)), (2, .box ((cXTable cI (cLo cI) (cLo cI) cI).enc (⟨(0 : Int), ([] : List Int), ([] : List Int), (0 : Int)⟩ : XTable))), (3, .box ((cXTable cI (cLo cI) (cLo cI) cI).enc (⟨v0.Level, ([] : List Int), ([] : List Int), (0 : Int)⟩ : XTable)))] (by kernel_rfl) <|
    xn <| wpC_seq <| reg_s <| st rfl <| fab rfl rfl rfl rfl <| st rfl <| lda rfl rfl rfl rfl rfl rfl <| bnd h fun x3 e4 h => st rfl <| o_call (a1 (c := (cLs cI rfl)) (tLs tK) rfl a0) (con_laws_toIntS e4) (.inl (so1 (sLo sK) so0)) <| st rfl <| fab rfl rfl rfl rfl <| x_sta ((cXTable cI (cLo cI) (cLo cI) cI).enc (⟨v0.Level, x3, ([] : List Int), (0 : Int)⟩ : XTable)) (so rfl rfl) rfl rfl (Ln.fld rfl rfl Ln.nil rfl) (Cd.h_sz (cLo cI) _) rfl <| seqN [(1, .box ((cXTable cI (cLs cI rfl) (cLs cI rfl) cI).enc v0)), (2, .box ((cXTable cI (cLo cI) (cLo cI) cI).enc (⟨(0 : Int), ([] : List Int), ([] : List Int), (0 : Int)⟩ : XTable))), (3, .box ((cXTable cI (cLo cI) (cLo cI) cI).enc (⟨v0.Level, x3, ([] : List Int), (0 : Int)⟩ : XTable)))] (by kernel_rfl) <|
    xn <| wpC_seq <| reg_s <| st rfl <| fab rfl rfl rfl rfl <| st rfl <| lda rfl rfl rfl rfl rfl rfl <| bnd h fun x7 e8 h => st rfl <| o_call (a1 (c := (cLs cI rfl)) (tLs tK) rfl a0) (con_laws_toIntS e8) (.inl (so1 (sLo sK) so0)) <| st rfl <| fab rfl rfl rfl rfl <| x_sta ((cXTable cI (cLo cI) (cLo cI) cI).enc (⟨v0.Level, x3, x7, (0 : Int)⟩ : XTable)) (so rfl rfl) rfl rfl (Ln.fld rfl rfl Ln.nil rfl) (Cd.h_sz (cLo cI) _) rfl <| seqN [(1, .box ((cXTable cI (cLs cI rfl) (cLs cI rfl) cI).enc v0)), (2, .box ((cXTable cI (cLo cI) (cLo cI) cI).enc (⟨(0 : Int), ([] : List Int), ([] : List Int), (0 : Int)⟩ : XTable))), (3, .box ((cXTable cI (cLo cI) (cLo cI) cI).enc (⟨v0.Level, x3, x7, (0 : Int)⟩ : XTable)))] (by kernel_rfl) <|
    xn <| wpC_seq <| reg_s <| st rfl <| fab rfl rfl rfl rfl <| st rfl <| lda rfl rfl rfl rfl rfl rfl <| st rfl <| fab rfl rfl rfl rfl <| x_sta ((cXTable cI (cLo cI) (cLo cI) cI).enc (⟨v0.Level, x3, x7, v0.Sum⟩ : XTable)) (ss rfl rfl) rfl rfl (Ln.fld rfl rfl Ln.nil rfl) (Cd.h_sz cI _) rfl <| seqN [(2, .box ((cXTable cI (cLo cI) (cLo cI) cI).enc (⟨(0 : Int), ([] : List Int), ([] : List Int), (0 : Int)⟩ : XTable))), (3, .box ((cXTable cI (cLo cI) (cLo cI) cI).enc (⟨v0.Level, x3, x7, v0.Sum⟩ : XTable)))] (by kernel_rfl) <|
    xn <| wpC_seq <| reg_s <| st rfl <| ldbo rfl rfl rfl rfl <| x_stb (sb rfl rfl) rfl (Cd.h_sz _ _) rfl <| seqN [(2, .box ((cXTable cI (cLo cI) (cLo cI) cI).enc (⟨v0.Level, x3, x7, v0.Sum⟩ : XTable)))] (by kernel_rfl) <|
    xn <| wpC_ret <| re <| fin h (r2 rfl rfl rfl <| r0) rfl

def rs_laws_toTable_fz (r : XTable) : List D := [(cXTable cI (cLs cI rfl) (cLs cI rfl) cI).enc r]
theorem con_laws_toTable_fz {v0 : XTable} {r : XTable} (h : sh_laws_toTable v0 = some r) : Con Tryd.prog 15 [(cXTable cI (cLs cI rfl) (cLs cI rfl) cI).enc v0] [] (rs_laws_toTable_fz r) := con_fz (tXTable tK (tLo tK) (tLo tK) tK) (con_laws_toTable h)

def rs_spec_gGood (r : Bool) : List D := [cB.enc r]
def m78 : MC := .seq (.reg [⟨some 1, .box (.t 0), none⟩,
    ⟨some 2, .asg (.c (.bool false)), none⟩] [1])
  (.seq (.kp [1] (.seq (.reg [⟨some 5, .fa 1 0 0, none⟩,
    ⟨some 6, .ld 5 1 false, none⟩,
    ⟨some 7, .len false (.t 6), none⟩,
    ⟨some 8, .call 51 [(.t 7), (.c (.int .i64 1)), (.c (.int .i64 30))], none⟩,
    ⟨some 9, .nt (.t 8), none⟩,
    ⟨some 10, .mv (.t 9), none⟩,
    ⟨some 11, .fa 1 0 0, some (10, false)⟩,
    ⟨some 12, .ld 11 1 false, some (10, false)⟩,
    ⟨some 13, .ia 12 (.c (.int .i64 0)) 1, some (10, false)⟩,
    ⟨some 14, .ld 13 1 false, some (10, false)⟩,
    ⟨some 15, .bin .neq (.t 14) (.c (.int .i64 (-1))), some (10, false)⟩,
    ⟨some 16, .pick (.t 10) (.c (.bool true)) (.t 15), none⟩] [1, 16])
  (.cond (.t 16) (.seq (.reg [⟨some 2, .asg (.c (.bool false)), none⟩] [2])
  (.ret)) (.skip))))
  (.seq (.kp [] (.seq (.reg [⟨some 17, .fa 1 0 0, none⟩,
    ⟨some 18, .ld 17 1 false, none⟩,
    ⟨some 19, .len false (.t 18), none⟩,
    ⟨some 20, .mv (.c (.int .i64 0)), none⟩] [1, 17, 18, 19, 20])
  (.blk 0 (.loop (.seq (.reg [⟨some 21, .bin .lss (.t 20) (.t 19), none⟩] [1, 17, 18, 19, 20, 21])
  (.seq (.kp [1, 17, 18, 19, 20] (.cond (.t 21) (.skip) (.exit 0)))
  (.seq (.kp [1, 17, 18, 19, 20] (.blk 1 (.seq (.reg [⟨some 22, .mv (.t 20), none⟩,
    ⟨some 23, .ia 18 (.t 20) 1, none⟩,
    ⟨some 24, .ld 23 1 false, none⟩,
    ⟨some 3, .asg (.t 22), none⟩,
    ⟨some 4, .asg (.t 24), none⟩] [1, 3, 4, 17, 18, 19, 20])
  (.seq (.reg [⟨some 25, .mv (.t 3), none⟩,
    ⟨some 26, .bin .gtr (.t 25) (.c (.int .i64 0)), none⟩,
    ⟨some 27, .mv (.t 26), none⟩,
    ⟨some 28, .mv (.t 4), some (27, true)⟩,
    ⟨some 29, .mv (.t 3), some (27, true)⟩,
    ⟨some 30, .bin .sub (.t 29) (.c (.int .i64 1)), some (27, true)⟩,
    ⟨some 31, .call 51 [(.t 28), (.c (.int .i64 0)), (.t 30)], some (27, true)⟩,
    ⟨some 32, .nt (.t 31), some (27, true)⟩,
    ⟨some 33, .pick (.t 27) (.t 32) (.c (.bool false)), none⟩] [1, 17, 18, 19, 20, 33])
  (.cond (.t 33) (.seq (.reg [⟨some 2, .asg (.c (.bool false)), none⟩] [2])
  (.ret)) (.skip))))))
  (.reg [⟨some 34, .bin .add (.t 20) (.c (.int .i64 1)), none⟩,
    ⟨some 20, .mv (.t 34), none⟩] [1, 17, 18, 19, 20]))))))))
  (.seq (.reg [⟨some 2, .asg (.c (.bool true)), none⟩] [2])
  (.ret))))
theorem con_spec_gGood {v0 : XGeo} {r : Bool} (h : sh_spec_gGood v0 = some r) : Con Tryd.prog 78 [(cXGeo (cLs cI rfl)).enc v0] [] (rs_spec_gGood r) := by
  delta sh_spec_gGood at h
  refine top (out := none) (f := Tryd.f78) (m := m78) (rs := [.t 2]) (by kernel_rfl) rfl (by kernel_rfl) (by kernel_rfl) (by kernel_rfl) (by kernel_rfl) (by kernel_rfl) ?_
  exact
   ini [(0, .d ((cXGeo (cLs cI rfl)).enc v0))] rfl <| wpC_seq <| reg_s <| x_box (ss rfl rfl) <| x_asg (sc cB false rfl) <| seqN [(1, .box ((cXGeo (cLs cI rfl)).enc v0))] (by kernel_rfl) <|
    xn <| wpC_seq <| wpC_kp <| wpC_seq <| reg_s <| st rfl <| fab rfl rfl rfl rfl <| st rfl <| lda rfl rfl rfl rfl rfl rfl <| stw rfl <| lens rfl fun l23 => bnd h fun x24 e25 h => st rfl <| o_call (a1 (c := cI) tK rfl (a1 (c := cI) tK rfl (a1 (c := cI) tK rfl a0))) (con_spec_l1In e25) (.inl (so1 sB so0)) <| st rfl <| o_nt rfl <| st rfl <| mvd rfl rfl <| ite_k h (fun b26 h => gf rfl b26 <| gf rfl b26 <| gf rfl b26 <| gf rfl b26 <| gf rfl b26 <| st rfl <| pick1 rfl b26 (cd := cB) (v := true) rfl rfl <| seqN [(1, .box ((cXGeo (cLs cI rfl)).enc v0)), (16, .d (cB.enc true))] (by kernel_rfl) <|
    xn <| cnd1 rfl rfl <| wpC_seq <| reg_s <| x_asg (sc cB false rfl) <| seqN [(2, .d (cB.enc false))] (by kernel_rfl) <|
    xn <| wpC_ret <| rt <| rt <| re <| fin h (r1 (ss rfl rfl) <| r0) rfl)
    (fun b26 h => gt' rfl b26 <| st rfl <| fab rfl rfl rfl rfl <| gt' rfl b26 <| st rfl <| lda rfl rfl rfl rfl rfl rfl <| gt' rfl b26 <| getO_k h fun x27 i28 g29 h => st rfl <| ias rfl rfl i28 g29 rfl <| gt' rfl b26 <| st rfl <| ldi rfl rfl rfl rfl <| gt' rfl b26 <| st rfl <| b_neq (k := .i64) rfl rfl <| st rfl <| pick0 rfl b26 (cd := cB) (v := (decide (x27 ≠ (-1 : Int)))) rfl rfl <| seqN [(1, .box ((cXGeo (cLs cI rfl)).enc v0)), (16, .d (cB.enc (decide (x27 ≠ (-1 : Int)))))] (by kernel_rfl) <|
    xn <| cnd rfl h (fun b30 h => wpC_seq <| reg_s <| x_asg (sc cB false rfl) <| seqN [(2, .d (cB.enc false))] (by kernel_rfl) <|
    xn <| wpC_ret <| rt <| rt <| re <| fin h (r1 (ss rfl rfl) <| r0) rfl)
    (fun b30 h => wpC_skip <| kpN [(1, .box ((cXGeo (cLs cI rfl)).enc v0))] (by kernel_rfl) <| xn <| wpC_seq <| wpC_kp <| wpC_seq <| reg_s <| st rfl <| fab rfl rfl rfl rfl <| st rfl <| lda rfl rfl rfl rfl rfl rfl <| stw rfl <| lens rfl fun l78 => st rfl <| mvc cI (0 : Int) rfl <| seqN [(1, .box ((cXGeo (cLs cI rfl)).enc v0)), (17, .adr 1 [.fld 0]), (18, .d ((cLs cI rfl).enc v0.Parents)), (19, .d (cI.enc (v0.Parents.length : Int))), (20, .d (cI.enc (0 : Int)))] (by kernel_rfl) <|
    xn <| wpC_blk <| lpR (fun (k80 : Nat) (s79 : Unit) => [(1, .box ((cXGeo (cLs cI rfl)).enc v0)), (17, .adr 1 [.fld 0]), (18, .d ((cLs cI rfl).enc v0.Parents)), (19, .d (cI.enc (v0.Parents.length : Int))), (20, .d (cI.enc (k80 : Int)))]) () rfl h
    (fun G104 s79 h => wpC_seq <| reg_s <| st rfl <| b_lss (k := .i64) rfl rfl <| seqN [(1, .box ((cXGeo (cLs cI rfl)).enc v0)), (17, .adr 1 [.fld 0]), (18, .d ((cLs cI rfl).enc v0.Parents)), (19, .d (cI.enc (v0.Parents.length : Int))), (20, .d (cI.enc (v0.Parents.length : Int))), (21, .d (cB.enc (decide ((v0.Parents.length : Int) < (v0.Parents.length : Int)))))] (by kernel_rfl) <|
    xn <| wpC_seq <| wpC_kp <| cnd0 rfl (dlf _) <| wpC_exit <| xt <| xt <| xt <| xb <| kpN [] (by kernel_rfl) <| xn <| wpC_seq <| reg_s <| x_asg (sc cB true rfl) <| seqN [(2, .d (cB.enc true))] (by kernel_rfl) <|
    xn <| wpC_ret <| re <| fin h (r1 (ss rfl rfl) <| r0) rfl)
    (fun G104 nx102 k80 s79 x81 hk82 hx83 hn103 h => wpC_seq <| reg_s <| st rfl <| b_lss (k := .i64) rfl rfl <| seqN [(1, .box ((cXGeo (cLs cI rfl)).enc v0)), (17, .adr 1 [.fld 0]), (18, .d ((cLs cI rfl).enc v0.Parents)), (19, .d (cI.enc (v0.Parents.length : Int))), (20, .d (cI.enc (k80 : Int))), (21, .d (cB.enc (decide ((k80 : Int) < (v0.Parents.length : Int)))))] (by kernel_rfl) <|
    xn <| wpC_seq <| wpC_kp <| cnd1 rfl (dlt hk82) <| wpC_skip <| kpN [(1, .box ((cXGeo (cLs cI rfl)).enc v0)), (17, .adr 1 [.fld 0]), (18, .d ((cLs cI rfl).enc v0.Parents)), (19, .d (cI.enc (v0.Parents.length : Int))), (20, .d (cI.enc (k80 : Int)))] (by kernel_rfl) <| xn <| wpC_seq <| wpC_kp <| wpC_blk <| wpC_seq <| reg_s <| st rfl <| mvd rfl rfl <| st rfl <| ias rfl rfl (Int.natCast_nonneg _) hx83 rfl <| st rfl <| ldi rfl rfl rfl rfl <| x_asg (ss rfl rfl) <| x_asg (ss rfl rfl) <| seqN [(1, .box ((cXGeo (cLs cI rfl)).enc v0)), (3, .d (cI.enc (k80 : Int))), (4, .d (cI.enc x81)), (17, .adr 1 [.fld 0]), (18, .d ((cLs cI rfl).enc v0.Parents)), (19, .d (cI.enc (v0.Parents.length : Int))), (20, .d (cI.enc (k80 : Int)))] (by kernel_rfl) <|
    xn <| wpC_seq <| reg_s <| st rfl <| mvd rfl rfl <| st rfl <| b_gtr (k := .i64) rfl rfl <| st rfl <| mvd rfl rfl <| ite_k h (fun b118 h => gt' rfl b118 <| st rfl <| mvd rfl rfl <| gt' rfl b118 <| st rfl <| mvd rfl rfl <| gt' rfl b118 <| ckI_k h fun i119 h => st rfl <| b_sub (k := .i64) rfl rfl i119 <| gt' rfl b118 <| bnd h fun x120 e121 h => st rfl <| o_call (a1 (c := cI) tK rfl (a1 (c := cI) tK rfl (a1 (c := cI) tK rfl a0))) (con_spec_l1In e121) (.inl (so1 sB so0)) <| gt' rfl b118 <| st rfl <| o_nt rfl <| st rfl <| pick1 rfl b118 (cd := cB) (v := (!x120)) rfl rfl <| seqN [(1, .box ((cXGeo (cLs cI rfl)).enc v0)), (17, .adr 1 [.fld 0]), (18, .d ((cLs cI rfl).enc v0.Parents)), (19, .d (cI.enc (v0.Parents.length : Int))), (20, .d (cI.enc (k80 : Int))), (33, .d (cB.enc (!x120)))] (by kernel_rfl) <|
    xn <| cnd rfl h (fun b122 h => wpC_seq <| reg_s <| x_asg (sc cB false rfl) <| seqN [(2, .d (cB.enc false))] (by kernel_rfl) <|
    xn <| wpC_ret <| rb <| rt <| rt <| rt <| rb <| rt <| rt <| re <| fin h (r1 (ss rfl rfl) <| r0) rfl)
    (fun b122 h => wpC_skip <| xbb <| kpN [(1, .box ((cXGeo (cLs cI rfl)).enc v0)), (17, .adr 1 [.fld 0]), (18, .d ((cLs cI rfl).enc v0.Parents)), (19, .d (cI.enc (v0.Parents.length : Int))), (20, .d (cI.enc (k80 : Int)))] (by kernel_rfl) <| xn <| reg_s <| st rfl <| b_inc rfl rfl l78 hk82 <| st rfl <| mvd rfl rfl <| seqN [(1, .box ((cXGeo (cLs cI rfl)).enc v0)), (17, .adr 1 [.fld 0]), (18, .d ((cLs cI rfl).enc v0.Parents)), (19, .d (cI.enc (v0.Parents.length : Int))), (20, .d (cI.enc ((k80 + 1 : Nat) : Int)))] (by kernel_rfl) <|
    xn <| hn103 () h))
    (fun b118 h => gf rfl b118 <| gf rfl b118 <| gf rfl b118 <| gf rfl b118 <| gf rfl b118 <| st rfl <| pick0 rfl b118 (cd := cB) (v := false) rfl rfl <| seqN [(1, .box ((cXGeo (cLs cI rfl)).enc v0)), (17, .adr 1 [.fld 0]), (18, .d ((cLs cI rfl).enc v0.Parents)), (19, .d (cI.enc (v0.Parents.length : Int))), (20, .d (cI.enc (k80 : Int))), (33, .d (cB.enc false))] (by kernel_rfl) <|
    xn <| cnd0 rfl rfl <| wpC_skip <| xbb <| kpN [(1, .box ((cXGeo (cLs cI rfl)).enc v0)), (17, .adr 1 [.fld 0]), (18, .d ((cLs cI rfl).enc v0.Parents)), (19, .d (cI.enc (v0.Parents.length : Int))), (20, .d (cI.enc (k80 : Int)))] (by kernel_rfl) <| xn <| reg_s <| st rfl <| b_inc rfl rfl l78 hk82 <| st rfl <| mvd rfl rfl <| seqN [(1, .box ((cXGeo (cLs cI rfl)).enc v0)), (17, .adr 1 [.fld 0]), (18, .d ((cLs cI rfl).enc v0.Parents)), (19, .d (cI.enc (v0.Parents.length : Int))), (20, .d (cI.enc ((k80 + 1 : Nat) : Int)))] (by kernel_rfl) <|
    xn <| hn103 () h))))

def rs_spec_gDepth (r : Int) : List D := [cI.enc r]
def m114 : MC := .seq (.reg [⟨some 2, .box (.t 0), none⟩,
    ⟨some 4, .asg (.c (.int .i64 0)), none⟩] [1, 2])
  (.seq (.reg [⟨some 5, .asg (.c (.int .i64 0)), none⟩] [1, 2, 5])
  (.seq (.kp [5] (.blk 0 (.loop (.kp [1, 2, 5] (.seq (.kp [1, 2, 5] (.seq (.reg [⟨some 6, .fa 2 0 0, none⟩,
    ⟨some 7, .ld 6 1 false, none⟩,
    ⟨some 8, .mv (.t 1), none⟩,
    ⟨some 9, .ia 7 (.t 8) 1, none⟩,
    ⟨some 10, .ld 9 1 false, none⟩,
    ⟨some 11, .bin .geq (.t 10) (.c (.int .i64 0)), none⟩] [1, 2, 5, 11])
  (.cond (.t 11) (.skip) (.exit 0))))
  (.blk 1 (.seq (.reg [⟨some 12, .fa 2 0 0, none⟩,
    ⟨some 13, .ld 12 1 false, none⟩,
    ⟨some 14, .mv (.t 1), none⟩,
    ⟨some 15, .ia 13 (.t 14) 1, none⟩,
    ⟨some 16, .ld 15 1 false, none⟩,
    ⟨some 1, .asg (.t 16), none⟩] [1, 2, 5])
  (.reg [⟨some 17, .mv (.t 5), none⟩,
    ⟨some 18, .bin .add (.t 17) (.c (.int .i64 1)), none⟩,
    ⟨some 5, .asg (.t 18), none⟩] [1, 2, 5]))))))))
  (.seq (.reg [⟨some 19, .mv (.t 5), none⟩,
    ⟨some 4, .asg (.t 19), none⟩] [4])
  (.ret))))
theorem con_spec_gDepth {v0 : XGeo} {v1 : Int} {r : Int} (h : sh_spec_gDepth v0 v1 = some r) : Con Tryd.prog 114 [(cXGeo (cLs cI rfl)).enc v0, cI.enc v1] [] (rs_spec_gDepth r) := by
  delta sh_spec_gDepth at h
  refine top (out := none) (f := Tryd.f114) (m := m114) (rs := [.t 4]) (by kernel_rfl) rfl (by kernel_rfl) (by kernel_rfl) (by kernel_rfl) (by kernel_rfl) (by kernel_rfl) ?_
  exact
   ini [(0, .d ((cXGeo (cLs cI rfl)).enc v0)), (1, .d (cI.enc v1))] rfl <| wpC_seq <| reg_s <| x_box (ss rfl rfl) <| x_asg (sc cI (0 : Int) rfl) <| seqN [(1, .d (cI.enc v1)), (2, .box ((cXGeo (cLs cI rfl)).enc v0))] (by kernel_rfl) <|
    xn <| wpC_seq <| reg_s <| x_asg (sc cI (0 : Int) rfl) <| seqN [(1, .d (cI.enc v1)), (2, .box ((cXGeo (cLs cI rfl)).enc v0)), (5, .d (cI.enc (0 : Int)))] (by kernel_rfl) <|
    xn <| wpC_seq <| wpC_kp <| wpC_blk <| lpF (fun (s54 : (Int × Int)) => [(1, .d (cI.enc s54.1)), (2, .box ((cXGeo (cLs cI rfl)).enc v0)), (5, .d (cI.enc s54.2))]) (v1, (0 : Int)) rfl h
    fun G91 nx89 s54 hn90 h => wpC_kp <| wpC_seq <| wpC_kp <| wpC_seq <| reg_s <| st rfl <| fab rfl rfl rfl rfl <| st rfl <| lda rfl rfl rfl rfl rfl rfl <| st rfl <| mvd rfl rfl <| getO_k h fun x102 i103 g104 h => st rfl <| ias rfl rfl i103 g104 rfl <| st rfl <| ldi rfl rfl rfl rfl <| st rfl <| b_geq (k := .i64) rfl rfl <| seqN [(1, .d (cI.enc s54.1)), (2, .box ((cXGeo (cLs cI rfl)).enc v0)), (5, .d (cI.enc s54.2)), (11, .d (cB.enc (decide ((0 : Int) ≤ x102))))] (by kernel_rfl) <|
    xn <| cnd rfl h (fun b105 h => wpC_skip <| kpN [(1, .d (cI.enc s54.1)), (2, .box ((cXGeo (cLs cI rfl)).enc v0)), (5, .d (cI.enc s54.2))] (by kernel_rfl) <| xn <| wpC_blk <| wpC_seq <| reg_s <| st rfl <| fab rfl rfl rfl rfl <| st rfl <| lda rfl rfl rfl rfl rfl rfl <| st rfl <| mvd rfl rfl <| st rfl <| ias rfl rfl i103 g104 rfl <| st rfl <| ldi rfl rfl rfl rfl <| x_asg (ss rfl rfl) <| seqN [(1, .d (cI.enc x102)), (2, .box ((cXGeo (cLs cI rfl)).enc v0)), (5, .d (cI.enc s54.2))] (by kernel_rfl) <|
    xn <| reg_s <| st rfl <| mvd rfl rfl <| ckI_k h fun i106 h => st rfl <| b_add (k := .i64) rfl rfl i106 <| x_asg (ss rfl rfl) <| seqN [(1, .d (cI.enc x102)), (2, .box ((cXGeo (cLs cI rfl)).enc v0)), (5, .d (cI.enc (s54.2 + (1 : Int))))] (by kernel_rfl) <|
    xbb <| kpN [(1, .d (cI.enc x102)), (2, .box ((cXGeo (cLs cI rfl)).enc v0)), (5, .d (cI.enc (s54.2 + (1 : Int))))] (by kernel_rfl) <| xn <| hn90 (x102, (s54.2 + (1 : Int))) h)
    (fun b105 h => wpC_exit <| xt <| xt <| xt <| xt <| xb <| kpN [(5, .d (cI.enc s54.2))] (by kernel_rfl) <| xn <| wpC_seq <| reg_s <| st rfl <| mvd rfl rfl <| x_asg (ss rfl rfl) <| seqN [(4, .d (cI.enc s54.2))] (by kernel_rfl) <|
    xn <| wpC_ret <| re <| fin h (r1 (ss rfl rfl) <| r0) rfl)

end AS.W
