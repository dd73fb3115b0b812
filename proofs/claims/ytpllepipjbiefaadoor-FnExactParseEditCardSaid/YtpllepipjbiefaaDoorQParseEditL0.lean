/- The program computes the plain functions. No condition. -/
import Derived.Test.YtpllepipjbiefaaDoorQParseEditS
import Derived.Test.YtpllepipjbiefaaDoorProg
import Derived.Test.YtpllepipjbiefaaDoorQParseEditX
set_option maxRecDepth 100000
set_option linter.unusedVariables false
set_option linter.unusedSimpArgs false
namespace AS.W
open Go Go.Proofs
def rs_laws_szVariable (r : Int) : List D := [cI.enc r]
def m25 : MC := .seq (.reg [⟨some 2, .box (.t 0), none⟩,
    ⟨some 4, .asg (.c (.int .i64 0)), none⟩] [1, 2])
  (.seq (.reg [⟨some 5, .mv (.t 1), none⟩,
    ⟨some 6, .fa 2 0 0, none⟩,
    ⟨some 7, .ld 6 1 false, none⟩,
    ⟨some 8, .len true (.t 7), none⟩,
    ⟨some 9, .bin .sub (.t 5) (.t 8), none⟩,
    ⟨some 1, .asg (.t 9), none⟩] [1])
  (.seq (.kp [1] (.seq (.reg [⟨some 10, .mv (.t 1), none⟩,
    ⟨some 11, .bin .lss (.t 10) (.c (.int .i64 0)), none⟩] [1, 11])
  (.cond (.t 11) (.seq (.reg [⟨some 4, .asg (.c (.int .i64 (-1))), none⟩] [4])
  (.ret)) (.skip))))
  (.seq (.reg [⟨some 12, .mv (.t 1), none⟩,
    ⟨some 4, .asg (.t 12), none⟩] [4])
  (.ret))))
theorem con_laws_szVariable {v0 : XVariable} {v1 : Int} {r : Int} (h : sh_laws_szVariable v0 v1 = some r) : Con Tryd.prog 25 [(cXVariable cS cI).enc v0, cI.enc v1] [] (rs_laws_szVariable r) := by
  delta sh_laws_szVariable at h
  refine top (out := none) (f := Tryd.f25) (m := m25) (rs := [.t 4]) (by kernel_rfl) rfl (by kernel_rfl) (by kernel_rfl) (by kernel_rfl) (by kernel_rfl) (by kernel_rfl) ?_
  exact
   ini [(0, .d ((cXVariable cS cI).enc v0)), (1, .d (cI.enc v1))] rfl <| wpC_seq <| reg_s <| x_box (ss rfl rfl) <| x_asg (sc cI (0 : Int) rfl) <| seqN [(1, .d (cI.enc v1)), (2, .box ((cXVariable cS cI).enc v0))] (by kernel_rfl) <|
    xn <| wpC_seq <| reg_s <| st rfl <| mvd rfl rfl <| st rfl <| fab rfl rfl rfl rfl <| st rfl <| lda rfl rfl rfl rfl rfl rfl <| stw rfl <| lent rfl fun l3 => ckI_k h fun i4 h => st rfl <| b_sub (k := .i64) rfl rfl i4 <| x_asg (ss rfl rfl) <| seqN [(1, .d (cI.enc (v1 - (v0.Name.length : Int))))] (by kernel_rfl) <|
    xn <| wpC_seq <| wpC_kp <| wpC_seq <| reg_s <| st rfl <| mvd rfl rfl <| st rfl <| b_lss (k := .i64) rfl rfl <| seqN [(1, .d (cI.enc (v1 - (v0.Name.length : Int)))), (11, .d (cB.enc (decide ((v1 - (v0.Name.length : Int)) < (0 : Int)))))] (by kernel_rfl) <|
    xn <| cnd rfl h (fun b6 h => wpC_seq <| reg_s <| x_asg (sc cI (-1 : Int) rfl) <| seqN [(4, .d (cI.enc (-1 : Int)))] (by kernel_rfl) <|
    xn <| wpC_ret <| rt <| rt <| re <| fin h (r1 (ss rfl rfl) <| r0) rfl)
    (fun b6 h => wpC_skip <| kpN [(1, .d (cI.enc (v1 - (v0.Name.length : Int))))] (by kernel_rfl) <| xn <| wpC_seq <| reg_s <| st rfl <| mvd rfl rfl <| x_asg (ss rfl rfl) <| seqN [(4, .d (cI.enc (v1 - (v0.Name.length : Int))))] (by kernel_rfl) <|
    xn <| wpC_ret <| re <| fin h (r1 (ss rfl rfl) <| r0) rfl)

def rs_laws_szVariableS (r : Int) : List D := [cI.enc r]
def m6 : MC := .seq (.reg [⟨some 4, .asg (.c (.int .i64 0)), none⟩] [0, 1])
  (.seq (.reg [⟨some 6, .mv (.t 1), none⟩,
    ⟨some 7, .mv (.t 0), none⟩,
    ⟨some 8, .len false (.t 7), none⟩,
    ⟨some 9, .bin .sub (.t 6) (.t 8), none⟩,
    ⟨some 1, .asg (.t 9), none⟩] [0, 1])
  (.seq (.kp [0, 1] (.seq (.reg [⟨some 10, .mv (.t 1), none⟩,
    ⟨some 11, .bin .lss (.t 10) (.c (.int .i64 0)), none⟩] [0, 1, 11])
  (.cond (.t 11) (.seq (.reg [⟨some 4, .asg (.c (.int .i64 (-1))), none⟩] [4])
  (.ret)) (.skip))))
  (.seq (.kp [1] (.seq (.reg [⟨some 5, .asg (.c (.int .i64 0)), none⟩] [0, 1, 5])
  (.blk 0 (.loop (.seq (.kp [0, 1, 5] (.seq (.reg [⟨some 12, .mv (.t 5), none⟩,
    ⟨some 13, .mv (.t 0), none⟩,
    ⟨some 14, .len false (.t 13), none⟩,
    ⟨some 15, .bin .lss (.t 12) (.t 14), none⟩] [0, 1, 5, 15])
  (.cond (.t 15) (.skip) (.exit 0))))
  (.seq (.kp [0, 1, 5] (.blk 1 (.seq (.reg [⟨some 18, .mv (.t 0), none⟩,
    ⟨some 19, .mv (.t 5), none⟩,
    ⟨some 20, .ia 18 (.t 19) 2, none⟩,
    ⟨some 21, .ld 20 2 true, none⟩,
    ⟨some 22, .mv (.t 1), none⟩,
    ⟨some 23, .call 25 [(.t 21), (.t 22)], none⟩,
    ⟨some 1, .asg (.t 23), none⟩] [0, 1, 5])
  (.seq (.reg [⟨some 24, .mv (.t 1), none⟩,
    ⟨some 25, .bin .lss (.t 24) (.c (.int .i64 0)), none⟩] [0, 1, 5, 25])
  (.cond (.t 25) (.seq (.reg [⟨some 4, .asg (.c (.int .i64 (-1))), none⟩] [4])
  (.ret)) (.skip))))))
  (.reg [⟨some 16, .mv (.t 5), none⟩,
    ⟨some 17, .bin .add (.t 16) (.c (.int .i64 1)), none⟩,
    ⟨some 5, .asg (.t 17), none⟩] [0, 1, 5])))))))
  (.seq (.reg [⟨some 26, .mv (.t 1), none⟩,
    ⟨some 4, .asg (.t 26), none⟩] [4])
  (.ret)))))
theorem con_laws_szVariableS {v0 : (List XVariable)} {v1 : Int} {r : Int} (h : sh_laws_szVariableS v0 v1 = some r) : Con Tryd.prog 6 [(cLs (cXVariable cS cI) rfl).enc v0, cI.enc v1] [] (rs_laws_szVariableS r) := by
  delta sh_laws_szVariableS at h
  refine top (out := none) (f := Tryd.f6) (m := m6) (rs := [.t 4]) (by kernel_rfl) rfl (by kernel_rfl) (by kernel_rfl) (by kernel_rfl) (by kernel_rfl) (by kernel_rfl) ?_
  exact
   ini [(0, .d ((cLs (cXVariable cS cI) rfl).enc v0)), (1, .d (cI.enc v1))] rfl <| wpC_seq <| reg_s <| x_asg (sc cI (0 : Int) rfl) <| seqN [(0, .d ((cLs (cXVariable cS cI) rfl).enc v0)), (1, .d (cI.enc v1))] (by kernel_rfl) <|
    xn <| wpC_seq <| reg_s <| st rfl <| mvd rfl rfl <| st rfl <| mvd rfl rfl <| stw rfl <| lens rfl fun l3 => ckI_k h fun i4 h => st rfl <| b_sub (k := .i64) rfl rfl i4 <| x_asg (ss rfl rfl) <| seqN [(0, .d ((cLs (cXVariable cS cI) rfl).enc v0)), (1, .d (cI.enc (v1 - (v0.length : Int))))] (by kernel_rfl) <|
    xn <| wpC_seq <| wpC_kp <| wpC_seq <| reg_s <| st rfl <| mvd rfl rfl <| st rfl <| b_lss (k := .i64) rfl rfl <| seqN [(0, .d ((cLs (cXVariable cS cI) rfl).enc v0)), (1, .d (cI.enc (v1 - (v0.length : Int)))), (11, .d (cB.enc (decide ((v1 - (v0.length : Int)) < (0 : Int)))))] (by kernel_rfl) <|
    xn <| cnd rfl h (fun b6 h => wpC_seq <| reg_s <| x_asg (sc cI (-1 : Int) rfl) <| seqN [(4, .d (cI.enc (-1 : Int)))] (by kernel_rfl) <|
    xn <| wpC_ret <| rt <| rt <| re <| fin h (r1 (ss rfl rfl) <| r0) rfl)
    (fun b6 h => wpC_skip <| kpN [(0, .d ((cLs (cXVariable cS cI) rfl).enc v0)), (1, .d (cI.enc (v1 - (v0.length : Int))))] (by kernel_rfl) <| xn <| wpC_seq <| wpC_kp <| wpC_seq <| reg_s <| x_asg (sc cI (0 : Int) rfl) <| seqN [(0, .d ((cLs (cXVariable cS cI) rfl).enc v0)), (1, .d (cI.enc (v1 - (v0.length : Int)))), (5, .d (cI.enc (0 : Int)))] (by kernel_rfl) <|
    xn <| wpC_blk <| lpF (fun (s102 : (Int × Int)) => [(0, .d ((cLs (cXVariable cS cI) rfl).enc v0)), (1, .d (cI.enc s102.1)), (5, .d (cI.enc s102.2))]) ((v1 - (v0.length : Int)), (0 : Int)) rfl h
    fun G167 nx165 s102 hn166 h => wpC_seq <| wpC_kp <| wpC_seq <| reg_s <| st rfl <| mvd rfl rfl <| st rfl <| mvd rfl rfl <| stw rfl <| lens rfl fun l172 => st rfl <| b_lss (k := .i64) rfl rfl <| seqN [(0, .d ((cLs (cXVariable cS cI) rfl).enc v0)), (1, .d (cI.enc s102.1)), (5, .d (cI.enc s102.2)), (15, .d (cB.enc (decide (s102.2 < (v0.length : Int)))))] (by kernel_rfl) <|
    xn <| cnd rfl h (fun b173 h => wpC_skip <| kpN [(0, .d ((cLs (cXVariable cS cI) rfl).enc v0)), (1, .d (cI.enc s102.1)), (5, .d (cI.enc s102.2))] (by kernel_rfl) <| xn <| wpC_seq <| wpC_kp <| wpC_blk <| wpC_seq <| reg_s <| st rfl <| mvd rfl rfl <| st rfl <| mvd rfl rfl <| getO_k h fun x190 i191 g192 h => st rfl <| ias rfl rfl i191 g192 rfl <| st rfl <| ldi rfl rfl rfl rfl <| st rfl <| mvd rfl rfl <| bnd h fun x193 e194 h => st rfl <| o_call (a1 (c := (cXVariable cS cI)) (tXVariable tS tK) rfl (a1 (c := cI) tK rfl a0)) (con_laws_szVariable e194) (.inl (so1 sK so0)) <| x_asg (ss rfl rfl) <| seqN [(0, .d ((cLs (cXVariable cS cI) rfl).enc v0)), (1, .d (cI.enc x193)), (5, .d (cI.enc s102.2))] (by kernel_rfl) <|
    xn <| wpC_seq <| reg_s <| st rfl <| mvd rfl rfl <| st rfl <| b_lss (k := .i64) rfl rfl <| seqN [(0, .d ((cLs (cXVariable cS cI) rfl).enc v0)), (1, .d (cI.enc x193)), (5, .d (cI.enc s102.2)), (25, .d (cB.enc (decide (x193 < (0 : Int)))))] (by kernel_rfl) <|
    xn <| cnd rfl h (fun b195 h => wpC_seq <| reg_s <| x_asg (sc cI (-1 : Int) rfl) <| seqN [(4, .d (cI.enc (-1 : Int)))] (by kernel_rfl) <|
    xn <| wpC_ret <| rb <| rt <| rt <| rt <| rb <| rt <| rt <| re <| fin h (r1 (ss rfl rfl) <| r0) rfl)
    (fun b195 h => wpC_skip <| xbb <| kpN [(0, .d ((cLs (cXVariable cS cI) rfl).enc v0)), (1, .d (cI.enc x193)), (5, .d (cI.enc s102.2))] (by kernel_rfl) <| xn <| reg_s <| st rfl <| mvd rfl rfl <| ckI_k h fun i196 h => st rfl <| b_add (k := .i64) rfl rfl i196 <| x_asg (ss rfl rfl) <| seqN [(0, .d ((cLs (cXVariable cS cI) rfl).enc v0)), (1, .d (cI.enc x193)), (5, .d (cI.enc (s102.2 + (1 : Int))))] (by kernel_rfl) <|
    xn <| hn166 (x193, (s102.2 + (1 : Int))) h))
    (fun b173 h => wpC_exit <| xt <| xt <| xt <| xb <| kpN [(1, .d (cI.enc s102.1))] (by kernel_rfl) <| xn <| wpC_seq <| reg_s <| st rfl <| mvd rfl rfl <| x_asg (ss rfl rfl) <| seqN [(4, .d (cI.enc s102.1))] (by kernel_rfl) <|
    xn <| wpC_ret <| re <| fin h (r1 (ss rfl rfl) <| r0) rfl))

def rs_laws_toVariable (r : XVariable) : List D := [(cXVariable cS cI).enc r]
def m28 : MC := .seq (.reg [⟨some 1, .box (.t 0), none⟩,
    ⟨some 2, .alloc (.agg [.str [], .int .i64 0]), none⟩] [1, 2])
  (.seq (.reg [⟨some 3, .alloc (.agg [.str [], .int .i64 0]), none⟩] [1, 2, 3])
  (.seq (.reg [⟨some 4, .fa 1 0 0, none⟩,
    ⟨some 5, .ld 4 1 false, none⟩,
    ⟨some 6, .fa 3 0 0, none⟩,
    ⟨none, .st 6 (.t 5) 1, none⟩] [1, 2, 3])
  (.seq (.reg [⟨some 7, .fa 1 1 1, none⟩,
    ⟨some 8, .ld 7 1 false, none⟩,
    ⟨some 9, .fa 3 1 1, none⟩,
    ⟨none, .st 9 (.t 8) 1, none⟩] [2, 3])
  (.seq (.reg [⟨some 10, .ld 3 2 true, none⟩,
    ⟨none, .st 2 (.t 10) 2, none⟩] [2])
  (.ret)))))
theorem con_laws_toVariable {v0 : XVariable} {r : XVariable} (h : sh_laws_toVariable v0 = some r) : Con Tryd.prog 28 [(cXVariable cS cI).enc v0] [] (rs_laws_toVariable r) := by
  delta sh_laws_toVariable at h
  refine top (out := none) (f := Tryd.f28) (m := m28) (rs := [.c 2 2 true]) (by kernel_rfl) rfl (by kernel_rfl) (by kernel_rfl) (by kernel_rfl) (by kernel_rfl) (by kernel_rfl) ?_
  exact
   ini [(0, .d ((cXVariable cS cI).enc v0))] rfl <| wpC_seq <| reg_s <| x_box (ss rfl rfl) <| x_all (cXVariable cS cI) (⟨([] : List UInt8), (0 : Int)⟩ : XVariable) rfl <| seqN [(1, .box ((cXVariable cS cI).enc v0)), (2, .box ((cXVariable cS cI).enc (⟨([] : List UInt8), (0 : Int)⟩ : XVariable)))] (by kernel_rfl) <|
    xn <| wpC_seq <| reg_s <| x_all (cXVariable cS cI) (⟨([] : List UInt8), (0 : Int)⟩ : XVariable) rfl <| seqN [(1, .box ((cXVariable cS cI).enc v0)), (2, .box ((cXVariable cS cI).enc (⟨([] : List UInt8), (0 : Int)⟩ : XVariable))), (3, .box ((cXVariable cS cI).enc (⟨([] : List UInt8), (0 : Int)⟩ : XVariable)))] (by kernel_rfl) <|
    xn <| wpC_seq <| reg_s <| st rfl <| fab rfl rfl rfl rfl <| st rfl <| lda rfl rfl rfl rfl rfl rfl <| st rfl <| fab rfl rfl rfl rfl <| x_sta ((cXVariable cS cI).enc (⟨v0.Name, (0 : Int)⟩ : XVariable)) (ss rfl rfl) rfl rfl (Ln.fld rfl rfl Ln.nil rfl) (Cd.h_sz cS _) rfl <| seqN [(1, .box ((cXVariable cS cI).enc v0)), (2, .box ((cXVariable cS cI).enc (⟨([] : List UInt8), (0 : Int)⟩ : XVariable))), (3, .box ((cXVariable cS cI).enc (⟨v0.Name, (0 : Int)⟩ : XVariable)))] (by kernel_rfl) <|
    xn <| wpC_seq <| reg_s <| st rfl <| fab rfl rfl rfl rfl <| st rfl <| lda rfl rfl rfl rfl rfl rfl <| st rfl <| fab rfl rfl rfl rfl <| x_sta ((cXVariable cS cI).enc (⟨v0.Name, v0.Levels⟩ : XVariable)) (ss rfl rfl) rfl rfl (Ln.fld rfl rfl Ln.nil rfl) (Cd.h_sz cI _) rfl <| seqN [(2, .box ((cXVariable cS cI).enc (⟨([] : List UInt8), (0 : Int)⟩ : XVariable))), (3, .box ((cXVariable cS cI).enc (⟨v0.Name, v0.Levels⟩ : XVariable)))] (by kernel_rfl) <|
    xn <| wpC_seq <| reg_s <| st rfl <| ldb rfl rfl rfl rfl <| x_stb (ss rfl rfl) rfl (Cd.h_sz _ _) rfl <| seqN [(2, .box ((cXVariable cS cI).enc (⟨v0.Name, v0.Levels⟩ : XVariable)))] (by kernel_rfl) <|
    xn <| wpC_ret <| re <| fin h (r2 rfl rfl rfl <| r0) rfl

def rs_laws_toVariableS (r : (List XVariable)) : List D := [(cLo (cXVariable cS cI)).enc r]
def m10 : MC := .seq (.reg [⟨some 2, .asg (.c (.slice true [])), none⟩] [0])
  (.seq (.reg [⟨some 5, .mv (.t 0), none⟩,
    ⟨some 6, .len false (.t 5), none⟩,
    ⟨some 7, .mk (.agg [.str [], .int .i64 0]) (.t 6), none⟩,
    ⟨some 3, .asg (.t 7), none⟩] [0, 3])
  (.seq (.kp [3] (.seq (.reg [⟨some 4, .asg (.c (.int .i64 0)), none⟩] [0, 3, 4])
  (.blk 0 (.loop (.seq (.kp [0, 3, 4] (.seq (.reg [⟨some 8, .mv (.t 4), none⟩,
    ⟨some 9, .mv (.t 0), none⟩,
    ⟨some 10, .len false (.t 9), none⟩,
    ⟨some 11, .bin .lss (.t 8) (.t 10), none⟩] [0, 3, 4, 11])
  (.cond (.t 11) (.skip) (.exit 0))))
  (.seq (.kp [0, 3, 4] (.blk 1 (.reg [⟨some 14, .mv (.t 3), none⟩,
    ⟨some 15, .mv (.t 4), none⟩,
    ⟨some 16, .mv (.t 0), none⟩,
    ⟨some 17, .mv (.t 4), none⟩,
    ⟨some 18, .ia 16 (.t 17) 2, none⟩,
    ⟨some 19, .ld 18 2 true, none⟩,
    ⟨some 20, .call 28 [(.t 19)], none⟩,
    ⟨some 21, .ia 14 (.t 15) 2, none⟩,
    ⟨none, .st 21 (.t 20) 2, none⟩] [0, 3, 4])))
  (.reg [⟨some 12, .mv (.t 4), none⟩,
    ⟨some 13, .bin .add (.t 12) (.c (.int .i64 1)), none⟩,
    ⟨some 4, .asg (.t 13), none⟩] [0, 3, 4])))))))
  (.seq (.reg [⟨some 22, .mv (.t 3), none⟩,
    ⟨some 2, .asg (.t 22), none⟩] [2])
  (.ret))))
theorem con_laws_toVariableS {v0 : (List XVariable)} {r : (List XVariable)} (h : sh_laws_toVariableS v0 = some r) : Con Tryd.prog 10 [(cLs (cXVariable cS cI) rfl).enc v0] [] (rs_laws_toVariableS r) := by
  delta sh_laws_toVariableS at h
  refine top (out := none) (f := Tryd.f10) (m := m10) (rs := [.t 2]) (by kernel_rfl) rfl (by kernel_rfl) (by kernel_rfl) (by kernel_rfl) (by kernel_rfl) (by kernel_rfl) ?_
  exact
   ini [(0, .d ((cLs (cXVariable cS cI) rfl).enc v0))] rfl <| wpC_seq <| reg_s <| x_asg (sc (cLo (cXVariable cS cI)) ([] : List XVariable) rfl) <| seqN [(0, .d ((cLs (cXVariable cS cI) rfl).enc v0))] (by kernel_rfl) <|
    xn <| wpC_seq <| reg_s <| st rfl <| mvd rfl rfl <| stw rfl <| lens rfl fun l4 => mkO_k h fun i5 l6 h => st rfl <| o_mk (c := (cXVariable cS cI)) (a0 := (⟨([] : List UInt8), (0 : Int)⟩ : XVariable)) rfl (k := .i64) rfl i5 l6 <| x_asg (so rfl rfl) <| seqN [(0, .d ((cLs (cXVariable cS cI) rfl).enc v0)), (3, .d ((cLo (cXVariable cS cI)).enc (List.replicate ((v0.length : Int)).toNat (⟨([] : List UInt8), (0 : Int)⟩ : XVariable))))] (by kernel_rfl) <|
    xn <| wpC_seq <| wpC_kp <| wpC_seq <| reg_s <| x_asg (sc cI (0 : Int) rfl) <| seqN [(0, .d ((cLs (cXVariable cS cI) rfl).enc v0)), (3, .d ((cLo (cXVariable cS cI)).enc (List.replicate ((v0.length : Int)).toNat (⟨([] : List UInt8), (0 : Int)⟩ : XVariable)))), (4, .d (cI.enc (0 : Int)))] (by kernel_rfl) <|
    xn <| wpC_blk <| lpF (fun (s84 : ((List XVariable) × Int)) => [(0, .d ((cLs (cXVariable cS cI) rfl).enc v0)), (3, .d ((cLo (cXVariable cS cI)).enc s84.1)), (4, .d (cI.enc s84.2))]) ((List.replicate ((v0.length : Int)).toNat (⟨([] : List UInt8), (0 : Int)⟩ : XVariable)), (0 : Int)) rfl h
    fun G137 nx135 s84 hn136 h => wpC_seq <| wpC_kp <| wpC_seq <| reg_s <| st rfl <| mvd rfl rfl <| st rfl <| mvd rfl rfl <| stw rfl <| lens rfl fun l142 => st rfl <| b_lss (k := .i64) rfl rfl <| seqN [(0, .d ((cLs (cXVariable cS cI) rfl).enc v0)), (3, .d ((cLo (cXVariable cS cI)).enc s84.1)), (4, .d (cI.enc s84.2)), (11, .d (cB.enc (decide (s84.2 < (v0.length : Int)))))] (by kernel_rfl) <|
    xn <| cnd rfl h (fun b143 h => wpC_skip <| kpN [(0, .d ((cLs (cXVariable cS cI) rfl).enc v0)), (3, .d ((cLo (cXVariable cS cI)).enc s84.1)), (4, .d (cI.enc s84.2))] (by kernel_rfl) <| xn <| wpC_seq <| wpC_kp <| wpC_blk <| reg_s <| st rfl <| mvo rfl rfl <| st rfl <| mvd rfl rfl <| st rfl <| mvd rfl rfl <| st rfl <| mvd rfl rfl <| getO_k h fun x152 i153 g154 h => st rfl <| ias rfl rfl i153 g154 rfl <| st rfl <| ldi rfl rfl rfl rfl <| bnd h fun x155 e156 h => st rfl <| o_call (a1 (c := (cXVariable cS cI)) (tXVariable tS tK) rfl a0) (con_laws_toVariable e156) (.inl (so1 (sXVariable sS sK) so0)) <| getO_k h fun x157 i158 g159 h => st rfl <| iar rfl rfl rfl rfl i158 g159 rfl <| x_sta ((cLo (cXVariable cS cI)).enc (s84.1.set (s84.2).toNat x155)) (ss rfl rfl) rfl rfl (Ln.idx g159 Ln.nil) (Cd.h_sz (cXVariable cS cI) _) rfl <| seqN [(0, .d ((cLs (cXVariable cS cI) rfl).enc v0)), (3, .d ((cLo (cXVariable cS cI)).enc (s84.1.set (s84.2).toNat x155))), (4, .d (cI.enc s84.2))] (by kernel_rfl) <|
    xbb <| kpN [(0, .d ((cLs (cXVariable cS cI) rfl).enc v0)), (3, .d ((cLo (cXVariable cS cI)).enc (s84.1.set (s84.2).toNat x155))), (4, .d (cI.enc s84.2))] (by kernel_rfl) <| xn <| reg_s <| st rfl <| mvd rfl rfl <| ckI_k h fun i160 h => st rfl <| b_add (k := .i64) rfl rfl i160 <| x_asg (ss rfl rfl) <| seqN [(0, .d ((cLs (cXVariable cS cI) rfl).enc v0)), (3, .d ((cLo (cXVariable cS cI)).enc (s84.1.set (s84.2).toNat x155))), (4, .d (cI.enc (s84.2 + (1 : Int))))] (by kernel_rfl) <|
    xn <| hn136 ((s84.1.set (s84.2).toNat x155), (s84.2 + (1 : Int))) h)
    (fun b143 h => wpC_exit <| xt <| xt <| xt <| xb <| kpN [(3, .d ((cLo (cXVariable cS cI)).enc s84.1))] (by kernel_rfl) <| xn <| wpC_seq <| reg_s <| st rfl <| mvo rfl rfl <| x_asg (sr rfl rfl) <| seqN [(2, .d ((cLo (cXVariable cS cI)).enc s84.1))] (by kernel_rfl) <|
    xn <| wpC_ret <| re <| fin h (r1 (so rfl rfl) <| r0) rfl)

def rs_laws_toVariableS_fz (r : (List XVariable)) : List D := [(cLs (cXVariable cS cI) rfl).enc r]
theorem con_laws_toVariableS_fz {v0 : (List XVariable)} {r : (List XVariable)} (h : sh_laws_toVariableS v0 = some r) : Con Tryd.prog 10 [(cLs (cXVariable cS cI) rfl).enc v0] [] (rs_laws_toVariableS_fz r) := con_fz (tLo (tXVariable tS tK)) (con_laws_toVariableS h)

def rs_spec_l1In (r : Bool) : List D := [cB.enc r]
def m61 : MC := .seq (.reg [⟨some 6, .asg (.c (.bool false)), none⟩] [0, 1, 2])
  (.seq (.reg [⟨some 7, .mv (.t 0), none⟩,
    ⟨some 8, .mv (.t 1), none⟩,
    ⟨some 9, .bin .geq (.t 7) (.t 8), none⟩,
    ⟨some 10, .mv (.t 9), none⟩,
    ⟨some 11, .mv (.t 0), some (10, true)⟩,
    ⟨some 12, .mv (.t 2), some (10, true)⟩,
    ⟨some 13, .bin .leq (.t 11) (.t 12), some (10, true)⟩,
    ⟨some 14, .pick (.t 10) (.t 13) (.c (.bool false)), none⟩,
    ⟨some 6, .asg (.t 14), none⟩] [6])
  (.ret))
theorem con_spec_l1In {v0 : Int} {v1 : Int} {v2 : Int} {r : Bool} (h : sh_spec_l1In v0 v1 v2 = some r) : Con Tryd.prog 61 [cI.enc v0, cI.enc v1, cI.enc v2] [] (rs_spec_l1In r) := by
  delta sh_spec_l1In at h
  refine top (out := none) (f := Tryd.f61) (m := m61) (rs := [.t 6]) (by kernel_rfl) rfl (by kernel_rfl) (by kernel_rfl) (by kernel_rfl) (by kernel_rfl) (by kernel_rfl) ?_
  exact
   ini [(0, .d (cI.enc v0)), (1, .d (cI.enc v1)), (2, .d (cI.enc v2))] rfl <| wpC_seq <| reg_s <| x_asg (sc cB false rfl) <| seqN [(0, .d (cI.enc v0)), (1, .d (cI.enc v1)), (2, .d (cI.enc v2))] (by kernel_rfl) <|
    xn <| wpC_seq <| reg_s <| st rfl <| mvd rfl rfl <| st rfl <| mvd rfl rfl <| st rfl <| b_geq (k := .i64) rfl rfl <| st rfl <| mvd rfl rfl <| ite_k h (fun b2 h => gt' rfl b2 <| st rfl <| mvd rfl rfl <| gt' rfl b2 <| st rfl <| mvd rfl rfl <| gt' rfl b2 <| st rfl <| b_leq (k := .i64) rfl rfl <| st rfl <| pick1 rfl b2 (cd := cB) (v := (decide (v0 ≤ v2))) rfl rfl <| x_asg (ss rfl rfl) <| seqN [(6, .d (cB.enc (decide (v0 ≤ v2))))] (by kernel_rfl) <|
    xn <| wpC_ret <| re <| fin h (r1 (ss rfl rfl) <| r0) rfl)
    (fun b2 h => gf rfl b2 <| gf rfl b2 <| gf rfl b2 <| st rfl <| pick0 rfl b2 (cd := cB) (v := false) rfl rfl <| x_asg (ss rfl rfl) <| seqN [(6, .d (cB.enc false))] (by kernel_rfl) <|
    xn <| wpC_ret <| re <| fin h (r1 (ss rfl rfl) <| r0) rfl)

def rs_spec_sName (r : Bool) : List D := [cB.enc r]
def m62 : MC := .seq (.reg [⟨some 2, .asg (.c (.bool false)), none⟩] [0])
  (.seq (.kp [0] (.seq (.reg [⟨some 3, .asg (.c (.int .i64 0)), none⟩] [0, 3])
  (.blk 0 (.loop (.seq (.kp [0, 3] (.seq (.reg [⟨some 4, .mv (.t 3), none⟩,
    ⟨some 5, .mv (.t 0), none⟩,
    ⟨some 6, .len true (.t 5), none⟩,
    ⟨some 7, .bin .lss (.t 4) (.t 6), none⟩] [0, 3, 7])
  (.cond (.t 7) (.skip) (.exit 0))))
  (.seq (.kp [0, 3] (.blk 1 (.seq (.reg [⟨some 10, .mv (.t 0), none⟩,
    ⟨some 11, .mv (.t 3), none⟩,
    ⟨some 12, .ix (.t 10) (.t 11), none⟩,
    ⟨some 13, .bin .lss (.t 12) (.c (.int .u8 97)), none⟩,
    ⟨some 14, .mv (.t 13), none⟩,
    ⟨some 15, .mv (.t 0), some (14, false)⟩,
    ⟨some 16, .mv (.t 3), some (14, false)⟩,
    ⟨some 17, .ix (.t 15) (.t 16), some (14, false)⟩,
    ⟨some 18, .bin .gtr (.t 17) (.c (.int .u8 122)), some (14, false)⟩,
    ⟨some 19, .pick (.t 14) (.c (.bool true)) (.t 18), none⟩] [0, 3, 19])
  (.cond (.t 19) (.seq (.reg [⟨some 2, .asg (.c (.bool false)), none⟩] [2])
  (.ret)) (.skip)))))
  (.reg [⟨some 8, .mv (.t 3), none⟩,
    ⟨some 9, .bin .add (.t 8) (.c (.int .i64 1)), none⟩,
    ⟨some 3, .asg (.t 9), none⟩] [0, 3])))))))
  (.seq (.reg [⟨some 20, .mv (.t 0), none⟩,
    ⟨some 21, .len true (.t 20), none⟩,
    ⟨some 22, .call 61 [(.t 21), (.c (.int .i64 1)), (.c (.int .i64 8))], none⟩,
    ⟨some 2, .asg (.t 22), none⟩] [2])
  (.ret)))
theorem con_spec_sName {v0 : (List UInt8)} {r : Bool} (h : sh_spec_sName v0 = some r) : Con Tryd.prog 62 [cS.enc v0] [] (rs_spec_sName r) := by
  delta sh_spec_sName at h
  refine top (out := none) (f := Tryd.f62) (m := m62) (rs := [.t 2]) (by kernel_rfl) rfl (by kernel_rfl) (by kernel_rfl) (by kernel_rfl) (by kernel_rfl) (by kernel_rfl) ?_
  exact
   ini [(0, .d (cS.enc v0))] rfl <| wpC_seq <| reg_s <| x_asg (sc cB false rfl) <| seqN [(0, .d (cS.enc v0))] (by kernel_rfl) <|
    xn <| wpC_seq <| wpC_kp <| wpC_seq <| reg_s <| x_asg (sc cI (0 : Int) rfl) <| seqN [(0, .d (cS.enc v0)), (3, .d (cI.enc (0 : Int)))] (by kernel_rfl) <|
    xn <| wpC_blk <| lpF (fun (s84 : Int) => [(0, .d (cS.enc v0)), (3, .d (cI.enc s84))]) (0 : Int) rfl h
    fun G141 nx139 s84 hn140 h => wpC_seq <| wpC_kp <| wpC_seq <| reg_s <| st rfl <| mvd rfl rfl <| st rfl <| mvd rfl rfl <| stw rfl <| lent rfl fun l146 => st rfl <| b_lss (k := .i64) rfl rfl <| seqN [(0, .d (cS.enc v0)), (3, .d (cI.enc s84)), (7, .d (cB.enc (decide (s84 < (v0.length : Int)))))] (by kernel_rfl) <|
    xn <| cnd rfl h (fun b147 h => wpC_skip <| kpN [(0, .d (cS.enc v0)), (3, .d (cI.enc s84))] (by kernel_rfl) <| xn <| wpC_seq <| wpC_kp <| wpC_blk <| wpC_seq <| reg_s <| st rfl <| mvd rfl rfl <| st rfl <| mvd rfl rfl <| getO_k h fun x161 i162 g163 h => st rfl <| o_ix (k := .i64) rfl rfl i162 g163 <| st rfl <| b_lss (k := .u8) rfl rfl <| st rfl <| mvd rfl rfl <| ite_k h (fun b164 h => gf rfl b164 <| gf rfl b164 <| gf rfl b164 <| gf rfl b164 <| st rfl <| pick1 rfl b164 (cd := cB) (v := true) rfl rfl <| seqN [(0, .d (cS.enc v0)), (3, .d (cI.enc s84)), (19, .d (cB.enc true))] (by kernel_rfl) <|
    xn <| cnd1 rfl rfl <| wpC_seq <| reg_s <| x_asg (sc cB false rfl) <| seqN [(2, .d (cB.enc false))] (by kernel_rfl) <|
    xn <| wpC_ret <| rb <| rt <| rt <| rt <| rb <| rt <| rt <| re <| fin h (r1 (ss rfl rfl) <| r0) rfl)
    (fun b164 h => gt' rfl b164 <| st rfl <| mvd rfl rfl <| gt' rfl b164 <| st rfl <| mvd rfl rfl <| gt' rfl b164 <| st rfl <| o_ix (k := .i64) rfl rfl i162 g163 <| gt' rfl b164 <| st rfl <| b_gtr (k := .u8) rfl rfl <| st rfl <| pick0 rfl b164 (cd := cB) (v := (decide ((122 : Int) < (x161.toNat : Int)))) rfl rfl <| seqN [(0, .d (cS.enc v0)), (3, .d (cI.enc s84)), (19, .d (cB.enc (decide ((122 : Int) < (x161.toNat : Int)))))] (by kernel_rfl) <|
    xn <| cnd rfl h (fun b165 h => wpC_seq <| reg_s <| x_asg (sc cB false rfl) <| seqN [(2, .d (cB.enc false))] (by kernel_rfl) <|
    xn <| wpC_ret <| rb <| rt <| rt <| rt <| rb <| rt <| rt <| re <| fin h (r1 (ss rfl rfl) <| r0) rfl)
    (fun b165 h => wpC_skip <| xbb <| kpN [(0, .d (cS.enc v0)), (3, .d (cI.enc s84))] (by kernel_rfl) <| xn <| reg_s <| st rfl <| mvd rfl rfl <| ckI_k h fun i166 h => st rfl <| b_add (k := .i64) rfl rfl i166 <| x_asg (ss rfl rfl) <| seqN [(0, .d (cS.enc v0)), (3, .d (cI.enc (s84 + (1 : Int))))] (by kernel_rfl) <|
    xn <| hn140 (s84 + (1 : Int)) h)))
    (fun b147 h => wpC_exit <| xt <| xt <| xt <| xb <| kpN [(0, .d (cS.enc v0))] (by kernel_rfl) <| xn <| wpC_seq <| reg_s <| st rfl <| mvd rfl rfl <| stw rfl <| lent rfl fun l170 => bnd h fun x171 e172 h => st rfl <| o_call (a1 (c := cI) tK rfl (a1 (c := cI) tK rfl (a1 (c := cI) tK rfl a0))) (con_spec_l1In e172) (.inl (so1 sB so0)) <| x_asg (ss rfl rfl) <| seqN [(2, .d (cB.enc x171))] (by kernel_rfl) <|
    xn <| wpC_ret <| re <| fin h (r1 (ss rfl rfl) <| r0) rfl)

def rs_spec_sFind (r : Int) : List D := [cI.enc r]
def m63 : MC := .seq (.reg [⟨some 4, .asg (.c (.int .i64 0)), none⟩] [0, 1])
  (.seq (.kp [] (.seq (.reg [⟨some 7, .mv (.t 0), none⟩,
    ⟨some 8, .len false (.t 7), none⟩,
    ⟨some 9, .mv (.c (.int .i64 0)), none⟩] [0, 1, 7, 8, 9])
  (.blk 0 (.loop (.seq (.reg [⟨some 10, .bin .lss (.t 9) (.t 8), none⟩] [0, 1, 7, 8, 9, 10])
  (.seq (.kp [0, 1, 7, 8, 9] (.cond (.t 10) (.skip) (.exit 0)))
  (.seq (.kp [0, 1, 7, 8, 9] (.blk 1 (.seq (.reg [⟨some 11, .mv (.t 9), none⟩,
    ⟨some 12, .ia 7 (.t 9) 2, none⟩,
    ⟨some 13, .ld 12 2 true, none⟩,
    ⟨some 6, .alloc (.agg [.str [], .int .i64 0]), none⟩,
    ⟨some 5, .asg (.t 11), none⟩,
    ⟨none, .st 6 (.t 13) 2, none⟩] [0, 1, 5, 6, 7, 8, 9])
  (.seq (.reg [⟨some 14, .fa 6 0 0, none⟩,
    ⟨some 15, .ld 14 1 false, none⟩,
    ⟨some 16, .mv (.t 1), none⟩,
    ⟨some 17, .bin .eql (.t 15) (.t 16), none⟩] [0, 1, 5, 7, 8, 9, 17])
  (.cond (.t 17) (.seq (.reg [⟨some 18, .mv (.t 5), none⟩,
    ⟨some 4, .asg (.t 18), none⟩] [4])
  (.ret)) (.skip))))))
  (.reg [⟨some 19, .bin .add (.t 9) (.c (.int .i64 1)), none⟩,
    ⟨some 9, .mv (.t 19), none⟩] [0, 1, 7, 8, 9]))))))))
  (.seq (.reg [⟨some 4, .asg (.c (.int .i64 (-1))), none⟩] [4])
  (.ret)))
theorem con_spec_sFind {v0 : (List XVariable)} {v1 : (List UInt8)} {r : Int} (h : sh_spec_sFind v0 v1 = some r) : Con Tryd.prog 63 [(cLs (cXVariable cS cI) rfl).enc v0, cS.enc v1] [] (rs_spec_sFind r) := by
  delta sh_spec_sFind at h
  refine top (out := none) (f := Tryd.f63) (m := m63) (rs := [.t 4]) (by kernel_rfl) rfl (by kernel_rfl) (by kernel_rfl) (by kernel_rfl) (by kernel_rfl) (by kernel_rfl) ?_
  exact
   ini [(0, .d ((cLs (cXVariable cS cI) rfl).enc v0)), (1, .d (cS.enc v1))] rfl <| wpC_seq <| reg_s <| x_asg (sc cI (0 : Int) rfl) <| seqN [(0, .d ((cLs (cXVariable cS cI) rfl).enc v0)), (1, .d (cS.enc v1))] (by kernel_rfl) <|
    xn <| wpC_seq <| wpC_kp <| wpC_seq <| reg_s <| st rfl <| mvd rfl rfl <| stw rfl <| lens rfl fun l16 => st rfl <| mvc cI (0 : Int) rfl <| seqN [(0, .d ((cLs (cXVariable cS cI) rfl).enc v0)), (1, .d (cS.enc v1)), (7, .d ((cLs (cXVariable cS cI) rfl).enc v0)), (8, .d (cI.enc (v0.length : Int))), (9, .d (cI.enc (0 : Int)))] (by kernel_rfl) <|
    xn <| wpC_blk <| lpR (fun (k18 : Nat) (s17 : Unit) => [(0, .d ((cLs (cXVariable cS cI) rfl).enc v0)), (1, .d (cS.enc v1)), (7, .d ((cLs (cXVariable cS cI) rfl).enc v0)), (8, .d (cI.enc (v0.length : Int))), (9, .d (cI.enc (k18 : Int)))]) () rfl h
    (fun G26 s17 h => wpC_seq <| reg_s <| st rfl <| b_lss (k := .i64) rfl rfl <| seqN [(0, .d ((cLs (cXVariable cS cI) rfl).enc v0)), (1, .d (cS.enc v1)), (7, .d ((cLs (cXVariable cS cI) rfl).enc v0)), (8, .d (cI.enc (v0.length : Int))), (9, .d (cI.enc (v0.length : Int))), (10, .d (cB.enc (decide ((v0.length : Int) < (v0.length : Int)))))] (by kernel_rfl) <|
    xn <| wpC_seq <| wpC_kp <| cnd0 rfl (dlf _) <| wpC_exit <| xt <| xt <| xt <| xb <| kpN [] (by kernel_rfl) <| xn <| wpC_seq <| reg_s <| x_asg (sc cI (-1 : Int) rfl) <| seqN [(4, .d (cI.enc (-1 : Int)))] (by kernel_rfl) <|
    xn <| wpC_ret <| re <| fin h (r1 (ss rfl rfl) <| r0) rfl)
    (fun G26 nx24 k18 s17 x19 hk20 hx21 hn25 h => wpC_seq <| reg_s <| st rfl <| b_lss (k := .i64) rfl rfl <| seqN [(0, .d ((cLs (cXVariable cS cI) rfl).enc v0)), (1, .d (cS.enc v1)), (7, .d ((cLs (cXVariable cS cI) rfl).enc v0)), (8, .d (cI.enc (v0.length : Int))), (9, .d (cI.enc (k18 : Int))), (10, .d (cB.enc (decide ((k18 : Int) < (v0.length : Int)))))] (by kernel_rfl) <|
    xn <| wpC_seq <| wpC_kp <| cnd1 rfl (dlt hk20) <| wpC_skip <| kpN [(0, .d ((cLs (cXVariable cS cI) rfl).enc v0)), (1, .d (cS.enc v1)), (7, .d ((cLs (cXVariable cS cI) rfl).enc v0)), (8, .d (cI.enc (v0.length : Int))), (9, .d (cI.enc (k18 : Int)))] (by kernel_rfl) <| xn <| wpC_seq <| wpC_kp <| wpC_blk <| wpC_seq <| reg_s <| st rfl <| mvd rfl rfl <| st rfl <| ias rfl rfl (Int.natCast_nonneg _) hx21 rfl <| st rfl <| ldi rfl rfl rfl rfl <| x_all (cXVariable cS cI) (⟨([] : List UInt8), (0 : Int)⟩ : XVariable) rfl <| x_asg (ss rfl rfl) <| x_stb (ss rfl rfl) rfl (Cd.h_sz _ _) rfl <| seqN [(0, .d ((cLs (cXVariable cS cI) rfl).enc v0)), (1, .d (cS.enc v1)), (5, .d (cI.enc (k18 : Int))), (6, .box ((cXVariable cS cI).enc x19)), (7, .d ((cLs (cXVariable cS cI) rfl).enc v0)), (8, .d (cI.enc (v0.length : Int))), (9, .d (cI.enc (k18 : Int)))] (by kernel_rfl) <|
    xn <| wpC_seq <| reg_s <| st rfl <| fab rfl rfl rfl rfl <| st rfl <| lda rfl rfl rfl rfl rfl rfl <| st rfl <| mvd rfl rfl <| st rfl <| b_seq rfl rfl <| seqN [(0, .d ((cLs (cXVariable cS cI) rfl).enc v0)), (1, .d (cS.enc v1)), (5, .d (cI.enc (k18 : Int))), (7, .d ((cLs (cXVariable cS cI) rfl).enc v0)), (8, .d (cI.enc (v0.length : Int))), (9, .d (cI.enc (k18 : Int))), (17, .d (cB.enc (decide (x19.Name = v1))))] (by kernel_rfl) <|
    xn <| cnd rfl h (fun b28 h => wpC_seq <| reg_s <| st rfl <| mvd rfl rfl <| x_asg (ss rfl rfl) <| seqN [(4, .d (cI.enc (k18 : Int)))] (by kernel_rfl) <|
    xn <| wpC_ret <| rb <| rt <| rt <| rt <| rb <| rt <| rt <| re <| fin h (r1 (ss rfl rfl) <| r0) rfl)
    (fun b28 h => wpC_skip <| xbb <| kpN [(0, .d ((cLs (cXVariable cS cI) rfl).enc v0)), (1, .d (cS.enc v1)), (7, .d ((cLs (cXVariable cS cI) rfl).enc v0)), (8, .d (cI.enc (v0.length : Int))), (9, .d (cI.enc (k18 : Int)))] (by kernel_rfl) <| xn <| reg_s <| st rfl <| b_inc rfl rfl l16 hk20 <| st rfl <| mvd rfl rfl <| seqN [(0, .d ((cLs (cXVariable cS cI) rfl).enc v0)), (1, .d (cS.enc v1)), (7, .d ((cLs (cXVariable cS cI) rfl).enc v0)), (8, .d (cI.enc (v0.length : Int))), (9, .d (cI.enc ((k18 + 1 : Nat) : Int)))] (by kernel_rfl) <|
    xn <| hn25 () h))

def rs_spec_sGood (r : Bool) : List D := [cB.enc r]
def m37 : MC := .seq (.reg [⟨some 2, .asg (.c (.bool false)), none⟩] [0])
  (.seq (.kp [0] (.seq (.reg [⟨some 5, .mv (.t 0), none⟩,
    ⟨some 6, .len false (.t 5), none⟩,
    ⟨some 7, .call 61 [(.t 6), (.c (.int .i64 1)), (.c (.int .i64 6))], none⟩,
    ⟨some 8, .nt (.t 7), none⟩] [0, 8])
  (.cond (.t 8) (.seq (.reg [⟨some 2, .asg (.c (.bool false)), none⟩] [2])
  (.ret)) (.skip))))
  (.seq (.kp [] (.seq (.reg [⟨some 9, .mv (.t 0), none⟩,
    ⟨some 10, .len false (.t 9), none⟩,
    ⟨some 11, .mv (.c (.int .i64 0)), none⟩] [0, 9, 10, 11])
  (.blk 0 (.loop (.seq (.reg [⟨some 12, .bin .lss (.t 11) (.t 10), none⟩] [0, 9, 10, 11, 12])
  (.seq (.kp [0, 9, 10, 11] (.cond (.t 12) (.skip) (.exit 0)))
  (.seq (.kp [0, 9, 10, 11] (.blk 1 (.seq (.reg [⟨some 13, .mv (.t 11), none⟩,
    ⟨some 14, .ia 9 (.t 11) 2, none⟩,
    ⟨some 15, .ld 14 2 true, none⟩,
    ⟨some 4, .alloc (.agg [.str [], .int .i64 0]), none⟩,
    ⟨some 3, .asg (.t 13), none⟩,
    ⟨none, .st 4 (.t 15) 2, none⟩] [0, 3, 4, 9, 10, 11])
  (.seq (.drw [⟨0, ⟨some 16, .fa 4 0 0, none⟩, [17, 18, 19, 20, 21, 22, 23, 24, 25, 26, 27, 28, 29, 30, 31, 32, 33, 34]⟩,
    ⟨1, ⟨some 17, .ld 16 1 false, none⟩, [18, 19, 20, 21, 22, 23, 24, 25, 26, 27, 28, 29, 30, 31, 32, 33, 34]⟩,
    ⟨2, ⟨some 18, .call 62 [(.t 17)], none⟩, [19, 20, 21, 22, 23, 24, 25, 26, 27, 28, 29, 30, 31, 32, 33, 34]⟩,
    ⟨3, ⟨some 19, .nt (.t 18), none⟩, [20, 21, 22, 23, 24, 25, 26, 27, 28, 29, 30, 31, 32, 33, 34]⟩,
    ⟨4, ⟨some 20, .mv (.t 19), none⟩, [21, 22, 23, 24, 25, 26, 27, 28, 29, 30, 31, 32, 33, 34]⟩,
    ⟨5, ⟨some 21, .fa 4 1 1, some (20, false)⟩, [22, 23, 24, 25, 26, 27, 28, 29, 30, 31, 32, 33, 34]⟩,
    ⟨6, ⟨some 22, .ld 21 1 false, some (20, false)⟩, [23, 24, 25, 26, 27, 28, 29, 30, 31, 32, 33, 34]⟩,
    ⟨7, ⟨some 23, .call 61 [(.t 22), (.c (.int .i64 2)), (.c (.int .i64 8))], some (20, false)⟩, [24, 25, 26, 27, 28, 29, 30, 31, 32, 33, 34]⟩,
    ⟨8, ⟨some 24, .nt (.t 23), some (20, false)⟩, [25, 26, 27, 28, 29, 30, 31, 32, 33, 34]⟩,
    ⟨9, ⟨some 25, .pick (.t 20) (.c (.bool true)) (.t 24), none⟩, [26, 27, 28, 29, 30, 31, 32, 33, 34]⟩,
    ⟨10, ⟨some 26, .mv (.t 25), none⟩, [27, 28, 29, 30, 31, 32, 33, 34]⟩,
    ⟨11, ⟨some 27, .mv (.t 0), some (26, false)⟩, [28, 29, 30, 31, 32, 33, 34]⟩,
    ⟨12, ⟨some 28, .mv (.t 3), some (26, false)⟩, [27, 29, 30, 31, 32, 33, 34]⟩,
    ⟨13, ⟨some 29, .sl (.t 27) none (some (.t 28)) 2, some (26, false)⟩, [30, 31, 32, 33, 34]⟩,
    ⟨14, ⟨some 30, .fa 4 0 0, some (26, false)⟩, [27, 28, 29, 31, 32, 33, 34]⟩,
    ⟨15, ⟨some 31, .ld 30 1 false, some (26, false)⟩, [27, 28, 29, 32, 33, 34]⟩,
    ⟨16, ⟨some 32, .call 63 [(.t 29), (.t 31)], some (26, false)⟩, [33, 34]⟩,
    ⟨17, ⟨some 33, .bin .geq (.t 32) (.c (.int .i64 0)), some (26, false)⟩, [34]⟩,
    ⟨18, ⟨some 34, .pick (.t 26) (.c (.bool true)) (.t 33), none⟩, []⟩]
    [] [0, 9, 10, 11, 34])
  (.cond (.t 34) (.seq (.reg [⟨some 2, .asg (.c (.bool false)), none⟩] [2])
  (.ret)) (.skip))))))
  (.reg [⟨some 35, .bin .add (.t 11) (.c (.int .i64 1)), none⟩,
    ⟨some 11, .mv (.t 35), none⟩] [0, 9, 10, 11]))))))))
  (.seq (.reg [⟨some 2, .asg (.c (.bool true)), none⟩] [2])
  (.ret))))
theorem con_spec_sGood {v0 : (List XVariable)} {r : Bool} (h : sh_spec_sGood v0 = some r) : Con Tryd.prog 37 [(cLs (cXVariable cS cI) rfl).enc v0] [] (rs_spec_sGood r) := by
  delta sh_spec_sGood at h
  refine top (out := none) (f := Tryd.f37) (m := m37) (rs := [.t 2]) (by kernel_rfl) rfl (by kernel_rfl) (by kernel_rfl) (by kernel_rfl) (by kernel_rfl) (by kernel_rfl) ?_
  exact
   ini [(0, .d ((cLs (cXVariable cS cI) rfl).enc v0))] rfl <| wpC_seq <| reg_s <| x_asg (sc cB false rfl) <| seqN [(0, .d ((cLs (cXVariable cS cI) rfl).enc v0))] (by kernel_rfl) <|
    xn <| wpC_seq <| wpC_kp <| wpC_seq <| reg_s <| st rfl <| mvd rfl rfl <| stw rfl <| lens rfl fun l11 => bnd h fun x12 e13 h => st rfl <| o_call (a1 (c := cI) tK rfl (a1 (c := cI) tK rfl (a1 (c := cI) tK rfl a0))) (con_spec_l1In e13) (.inl (so1 sB so0)) <| st rfl <| o_nt rfl <| seqN [(0, .d ((cLs (cXVariable cS cI) rfl).enc v0)), (8, .d (cB.enc (!x12)))] (by kernel_rfl) <|
    xn <| cnd rfl h (fun b14 h => wpC_seq <| reg_s <| x_asg (sc cB false rfl) <| seqN [(2, .d (cB.enc false))] (by kernel_rfl) <|
    xn <| wpC_ret <| rt <| rt <| re <| fin h (r1 (ss rfl rfl) <| r0) rfl)
    (fun b14 h => wpC_skip <| kpN [(0, .d ((cLs (cXVariable cS cI) rfl).enc v0))] (by kernel_rfl) <| xn <| wpC_seq <| wpC_kp <| wpC_seq <| reg_s <| st rfl <| mvd rfl rfl <| stw rfl <| lens rfl fun l102 => st rfl <| mvc cI (0 : Int) rfl <| seqN [(0, .d ((cLs (cXVariable cS cI) rfl).enc v0)), (9, .d ((cLs (cXVariable cS cI) rfl).enc v0)), (10, .d (cI.enc (v0.length : Int))), (11, .d (cI.enc (0 : Int)))] (by kernel_rfl) <|
    xn <| wpC_blk <| lpR (fun (k104 : Nat) (s103 : Unit) => [(0, .d ((cLs (cXVariable cS cI) rfl).enc v0)), (9, .d ((cLs (cXVariable cS cI) rfl).enc v0)), (10, .d (cI.enc (v0.length : Int))), (11, .d (cI.enc (k104 : Int)))]) () rfl h
    (fun G148 s103 h => wpC_seq <| reg_s <| st rfl <| b_lss (k := .i64) rfl rfl <| seqN [(0, .d ((cLs (cXVariable cS cI) rfl).enc v0)), (9, .d ((cLs (cXVariable cS cI) rfl).enc v0)), (10, .d (cI.enc (v0.length : Int))), (11, .d (cI.enc (v0.length : Int))), (12, .d (cB.enc (decide ((v0.length : Int) < (v0.length : Int)))))] (by kernel_rfl) <|
    xn <| wpC_seq <| wpC_kp <| cnd0 rfl (dlf _) <| wpC_exit <| xt <| xt <| xt <| xb <| kpN [] (by kernel_rfl) <| xn <| wpC_seq <| reg_s <| x_asg (sc cB true rfl) <| seqN [(2, .d (cB.enc true))] (by kernel_rfl) <|
    xn <| wpC_ret <| re <| fin h (r1 (ss rfl rfl) <| r0) rfl)
    (fun G148 nx146 k104 s103 x105 hk106 hx107 hn147 h => wpC_seq <| reg_s <| st rfl <| b_lss (k := .i64) rfl rfl <| seqN [(0, .d ((cLs (cXVariable cS cI) rfl).enc v0)), (9, .d ((cLs (cXVariable cS cI) rfl).enc v0)), (10, .d (cI.enc (v0.length : Int))), (11, .d (cI.enc (k104 : Int))), (12, .d (cB.enc (decide ((k104 : Int) < (v0.length : Int)))))] (by kernel_rfl) <|
    xn <| wpC_seq <| wpC_kp <| cnd1 rfl (dlt hk106) <| wpC_skip <| kpN [(0, .d ((cLs (cXVariable cS cI) rfl).enc v0)), (9, .d ((cLs (cXVariable cS cI) rfl).enc v0)), (10, .d (cI.enc (v0.length : Int))), (11, .d (cI.enc (k104 : Int)))] (by kernel_rfl) <| xn <| wpC_seq <| wpC_kp <| wpC_blk <| wpC_seq <| reg_s <| st rfl <| mvd rfl rfl <| st rfl <| ias rfl rfl (Int.natCast_nonneg _) hx107 rfl <| st rfl <| ldi rfl rfl rfl rfl <| x_all (cXVariable cS cI) (⟨([] : List UInt8), (0 : Int)⟩ : XVariable) rfl <| x_asg (ss rfl rfl) <| x_stb (ss rfl rfl) rfl (Cd.h_sz _ _) rfl <| seqN [(0, .d ((cLs (cXVariable cS cI) rfl).enc v0)), (3, .d (cI.enc (k104 : Int))), (4, .box ((cXVariable cS cI).enc x105)), (9, .d ((cLs (cXVariable cS cI) rfl).enc v0)), (10, .d (cI.enc (v0.length : Int))), (11, .d (cI.enc (k104 : Int)))] (by kernel_rfl) <|
    xn <| wpC_seq <| drw_s <| pst rfl <| fab rfl rfl rfl rfl ⟨rfl, pst rfl <| lda rfl rfl rfl rfl rfl rfl ⟨rfl, bndp h fun x177 e178 h => pst rfl <| o_call (a1 (c := cS) tS rfl a0) (con_spec_sName e178) (.inl (so1 sB so0)) ⟨rfl, pst rfl <| o_nt rfl ⟨rfl, pst rfl <| mvd rfl rfl ⟨rfl, ite_kp h (fun b179 h => pgf rfl rfl b179 <| pgf rfl rfl b179 <| pgf rfl rfl b179 <| pgf rfl rfl b179 <| pst rfl <| pick1 rfl b179 (cd := cB) (v := true) rfl rfl ⟨rfl, pst rfl <| mvd rfl rfl ⟨rfl, pgf rfl rfl rfl <| pgf rfl rfl rfl <| pgf rfl rfl rfl <| pgf rfl rfl rfl <| pgf rfl rfl rfl <| pgf rfl rfl rfl <| pgf rfl rfl rfl <| pst rfl <| pick1 rfl rfl (cd := cB) (v := true) rfl rfl ⟨rfl, preN <| seqN [(0, .d ((cLs (cXVariable cS cI) rfl).enc v0)), (9, .d ((cLs (cXVariable cS cI) rfl).enc v0)), (10, .d (cI.enc (v0.length : Int))), (11, .d (cI.enc (k104 : Int))), (34, .d (cB.enc true))] (by kernel_rfl) <|
    xn <| cnd1 rfl rfl <| wpC_seq <| reg_s <| x_asg (sc cB false rfl) <| seqN [(2, .d (cB.enc false))] (by kernel_rfl) <|
    xn <| wpC_ret <| rb <| rt <| rt <| rt <| rb <| rt <| rt <| re <| fin h (r1 (ss rfl rfl) <| r0) rfl⟩⟩⟩)
    (fun b179 h => pgt rfl b179 <| pst rfl <| fab rfl rfl rfl rfl ⟨rfl, pgt rfl b179 <| pst rfl <| lda rfl rfl rfl rfl rfl rfl ⟨rfl, pgt rfl b179 <| bndp h fun x180 e181 h => pst rfl <| o_call (a1 (c := cI) tK rfl (a1 (c := cI) tK rfl (a1 (c := cI) tK rfl a0))) (con_spec_l1In e181) (.inl (so1 sB so0)) ⟨rfl, pgt rfl b179 <| pst rfl <| o_nt rfl ⟨rfl, pst rfl <| pick0 rfl b179 (cd := cB) (v := (!x180)) rfl rfl ⟨rfl, pst rfl <| mvd rfl rfl ⟨rfl, ite_kp h (fun b182 h => pgf rfl rfl b182 <| pgf rfl rfl b182 <| pgf rfl rfl b182 <| pgf rfl rfl b182 <| pgf rfl rfl b182 <| pgf rfl rfl b182 <| pgf rfl rfl b182 <| pst rfl <| pick1 rfl b182 (cd := cB) (v := true) rfl rfl ⟨rfl, preN <| seqN [(0, .d ((cLs (cXVariable cS cI) rfl).enc v0)), (9, .d ((cLs (cXVariable cS cI) rfl).enc v0)), (10, .d (cI.enc (v0.length : Int))), (11, .d (cI.enc (k104 : Int))), (34, .d (cB.enc true))] (by kernel_rfl) <|
    xn <| cnd1 rfl rfl <| wpC_seq <| reg_s <| x_asg (sc cB false rfl) <| seqN [(2, .d (cB.enc false))] (by kernel_rfl) <|
    xn <| wpC_ret <| rb <| rt <| rt <| rt <| rb <| rt <| rt <| re <| fin h (r1 (ss rfl rfl) <| r0) rfl⟩)
    (fun b182 h => pgt rfl b182 <| pst rfl <| mvd rfl rfl ⟨rfl, pgt rfl b182 <| pst rfl <| mvd rfl rfl ⟨rfl, pgt rfl b182 <| ck_kp h fun i183 h => pst rfl <| o_sl rfl rfl lo0 (hi1 (k := .i64) rfl i183.1) i183.2 ⟨rfl, pgt rfl b182 <| pst rfl <| fab rfl rfl rfl rfl ⟨rfl, pgt rfl b182 <| pst rfl <| lda rfl rfl rfl rfl rfl rfl ⟨rfl, pgt rfl b182 <| bndp h fun x184 e185 h => pst rfl <| o_call (a1 (c := (cLs (cXVariable cS cI) rfl)) (tLs (tXVariable tS tK)) rfl (a1 (c := cS) tS rfl a0)) (con_spec_sFind e185) (.inl (so1 sK so0)) ⟨rfl, pgt rfl b182 <| pst rfl <| b_geq (k := .i64) rfl rfl ⟨rfl, pst rfl <| pick0 rfl b182 (cd := cB) (v := (decide ((0 : Int) ≤ x184))) rfl rfl ⟨rfl, preN <| seqN [(0, .d ((cLs (cXVariable cS cI) rfl).enc v0)), (9, .d ((cLs (cXVariable cS cI) rfl).enc v0)), (10, .d (cI.enc (v0.length : Int))), (11, .d (cI.enc (k104 : Int))), (34, .d (cB.enc (decide ((0 : Int) ≤ x184))))] (by kernel_rfl) <|
    xn <| cnd rfl h (fun b186 h => wpC_seq <| reg_s <| x_asg (sc cB false rfl) <| seqN [(2, .d (cB.enc false))] (by kernel_rfl) <|
    xn <| wpC_ret <| rb <| rt <| rt <| rt <| rb <| rt <| rt <| re <| fin h (r1 (ss rfl rfl) <| r0) rfl)
    (fun b186 h => wpC_skip <| xbb <| kpN [(0, .d ((cLs (cXVariable cS cI) rfl).enc v0)), (9, .d ((cLs (cXVariable cS cI) rfl).enc v0)), (10, .d (cI.enc (v0.length : Int))), (11, .d (cI.enc (k104 : Int)))] (by kernel_rfl) <| xn <| reg_s <| st rfl <| b_inc rfl rfl l102 hk106 <| st rfl <| mvd rfl rfl <| seqN [(0, .d ((cLs (cXVariable cS cI) rfl).enc v0)), (9, .d ((cLs (cXVariable cS cI) rfl).enc v0)), (10, .d (cI.enc (v0.length : Int))), (11, .d (cI.enc ((k104 + 1 : Nat) : Int)))] (by kernel_rfl) <|
    xn <| hn147 () h)⟩⟩⟩⟩⟩⟩⟩⟩)⟩⟩⟩⟩⟩⟩)⟩⟩⟩⟩⟩))

def rs_spec_eFull (r : Int) : List D := [cI.enc r]
def m64 : MC := .seq (.reg [⟨some 4, .asg (.c (.int .i64 0)), none⟩] [0, 1])
  (.seq (.reg [⟨some 5, .mv (.t 0), none⟩,
    ⟨some 6, .mv (.t 1), none⟩,
    ⟨some 7, .ia 5 (.t 6) 2, none⟩,
    ⟨some 8, .fa 7 1 1, none⟩,
    ⟨some 9, .ld 8 1 false, none⟩,
    ⟨some 10, .cvi .u64 (.t 9), none⟩,
    ⟨some 11, .bin .shl (.c (.int .i64 1)) (.t 10), none⟩,
    ⟨some 12, .bin .sub (.t 11) (.c (.int .i64 1)), none⟩,
    ⟨some 4, .asg (.t 12), none⟩] [4])
  (.ret))
theorem con_spec_eFull {v0 : (List XVariable)} {v1 : Int} {r : Int} (h : sh_spec_eFull v0 v1 = some r) : Con Tryd.prog 64 [(cLs (cXVariable cS cI) rfl).enc v0, cI.enc v1] [] (rs_spec_eFull r) := by
  delta sh_spec_eFull at h
  refine top (out := none) (f := Tryd.f64) (m := m64) (rs := [.t 4]) (by kernel_rfl) rfl (by kernel_rfl) (by kernel_rfl) (by kernel_rfl) (by kernel_rfl) (by kernel_rfl) ?_
  exact
   ini [(0, .d ((cLs (cXVariable cS cI) rfl).enc v0)), (1, .d (cI.enc v1))] rfl <| wpC_seq <| reg_s <| x_asg (sc cI (0 : Int) rfl) <| seqN [(0, .d ((cLs (cXVariable cS cI) rfl).enc v0)), (1, .d (cI.enc v1))] (by kernel_rfl) <|
    xn <| wpC_seq <| reg_s <| st rfl <| mvd rfl rfl <| st rfl <| mvd rfl rfl <| getO_k h fun x8 i9 g10 h => st rfl <| ias rfl rfl i9 g10 rfl <| st rfl <| fai rfl rfl rfl rfl <| st rfl <| ldi rfl rfl rfl rfl <| ckK_k h fun i11 h => st rfl <| o_cvi (k := .i64) (k' := .u64) rfl i11 <| ck_k h fun i12 h => ckI_k h fun i13 h => st rfl <| b_shl (k := .i64) (k' := .u64) rfl rfl i12 rfl i13 <| ckI_k h fun i14 h => st rfl <| b_sub (k := .i64) rfl rfl i14 <| x_asg (ss rfl rfl) <| seqN [(4, .d (cI.enc (((1 : Int) * 2 ^ (x8.Levels).toNat) - (1 : Int))))] (by kernel_rfl) <|
    xn <| wpC_ret <| re <| fin h (r1 (ss rfl rfl) <| r0) rfl

def rs_spec_l1Split (r : (List (List UInt8))) : List D := [(cLo cS).enc r]
def m65 : MC := .seq (.reg [⟨some 4, .asg (.c (.slice true [])), none⟩] [0, 1])
  (.seq (.reg [⟨some 5, .asg (.c (.slice true [])), none⟩] [0, 1, 5])
  (.seq (.reg [⟨some 6, .asg (.c (.int .i64 0)), none⟩] [0, 1, 5, 6])
  (.seq (.kp [0, 5, 6] (.seq (.reg [⟨some 7, .asg (.c (.int .i64 0)), none⟩] [0, 1, 5, 6, 7])
  (.blk 0 (.loop (.seq (.kp [0, 1, 5, 6, 7] (.seq (.reg [⟨some 8, .mv (.t 7), none⟩,
    ⟨some 9, .mv (.t 0), none⟩,
    ⟨some 10, .len true (.t 9), none⟩,
    ⟨some 11, .bin .lss (.t 8) (.t 10), none⟩] [0, 1, 5, 6, 7, 11])
  (.cond (.t 11) (.skip) (.exit 0))))
  (.seq (.kp [0, 1, 5, 6, 7] (.blk 1 (.seq (.reg [⟨some 14, .mv (.t 0), none⟩,
    ⟨some 15, .mv (.t 7), none⟩,
    ⟨some 16, .ix (.t 14) (.t 15), none⟩,
    ⟨some 17, .mv (.t 1), none⟩,
    ⟨some 18, .bin .eql (.t 16) (.t 17), none⟩] [0, 1, 5, 6, 7, 18])
  (.cond (.t 18) (.seq (.reg [⟨some 19, .mv (.t 5), none⟩,
    ⟨some 20, .mv (.t 0), none⟩,
    ⟨some 21, .mv (.t 6), none⟩,
    ⟨some 22, .mv (.t 7), none⟩,
    ⟨some 23, .sls (.t 20) (some (.t 21)) (some (.t 22)), none⟩,
    ⟨some 24, .bsl [(.t 23)] 1, none⟩,
    ⟨some 25, .app (.t 19) (.t 24) 1, none⟩,
    ⟨some 5, .asg (.t 25), none⟩] [0, 1, 5, 7])
  (.reg [⟨some 26, .mv (.t 7), none⟩,
    ⟨some 27, .bin .add (.t 26) (.c (.int .i64 1)), none⟩,
    ⟨some 6, .asg (.t 27), none⟩] [0, 1, 5, 6, 7])) (.skip)))))
  (.reg [⟨some 12, .mv (.t 7), none⟩,
    ⟨some 13, .bin .add (.t 12) (.c (.int .i64 1)), none⟩,
    ⟨some 7, .asg (.t 13), none⟩] [0, 1, 5, 6, 7])))))))
  (.seq (.reg [⟨some 28, .mv (.t 5), none⟩,
    ⟨some 29, .mv (.t 0), none⟩,
    ⟨some 30, .mv (.t 6), none⟩,
    ⟨some 31, .sls (.t 29) (some (.t 30)) none, none⟩,
    ⟨some 32, .bsl [(.t 31)] 1, none⟩,
    ⟨some 33, .app (.t 28) (.t 32) 1, none⟩,
    ⟨some 4, .asg (.t 33), none⟩] [4])
  (.ret)))))
theorem con_spec_l1Split {v0 : (List UInt8)} {v1 : Int} {r : (List (List UInt8))} (h : sh_spec_l1Split v0 v1 = some r) : Con Tryd.prog 65 [cS.enc v0, cU.enc v1] [] (rs_spec_l1Split r) := by
  delta sh_spec_l1Split at h
  refine top (out := none) (f := Tryd.f65) (m := m65) (rs := [.t 4]) (by kernel_rfl) rfl (by kernel_rfl) (by kernel_rfl) (by kernel_rfl) (by kernel_rfl) (by kernel_rfl) ?_
  exact
   ini [(0, .d (cS.enc v0)), (1, .d (cU.enc v1))] rfl <| wpC_seq <| reg_s <| x_asg (sc (cLo cS) ([] : List (List UInt8)) rfl) <| seqN [(0, .d (cS.enc v0)), (1, .d (cU.enc v1))] (by kernel_rfl) <|
    xn <| wpC_seq <| reg_s <| x_asg (sc (cLo cS) ([] : List (List UInt8)) rfl) <| seqN [(0, .d (cS.enc v0)), (1, .d (cU.enc v1)), (5, .d ((cLo cS).enc ([] : List (List UInt8))))] (by kernel_rfl) <|
    xn <| wpC_seq <| reg_s <| x_asg (sc cI (0 : Int) rfl) <| seqN [(0, .d (cS.enc v0)), (1, .d (cU.enc v1)), (5, .d ((cLo cS).enc ([] : List (List UInt8)))), (6, .d (cI.enc (0 : Int)))] (by kernel_rfl) <|
    xn <| wpC_seq <| wpC_kp <| wpC_seq <| reg_s <| x_asg (sc cI (0 : Int) rfl) <| seqN [(0, .d (cS.enc v0)), (1, .d (cU.enc v1)), (5, .d ((cLo cS).enc ([] : List (List UInt8)))), (6, .d (cI.enc (0 : Int))), (7, .d (cI.enc (0 : Int)))] (by kernel_rfl) <|
    xn <| wpC_blk <| lpF (fun (s105 : ((List (List UInt8)) × Int × Int)) => [(0, .d (cS.enc v0)), (1, .d (cU.enc v1)), (5, .d ((cLo cS).enc s105.1)), (6, .d (cI.enc s105.2.1)), (7, .d (cI.enc s105.2.2))]) (([] : List (List UInt8)), (0 : Int), (0 : Int)) rfl h
    fun G176 nx174 s105 hn175 h => wpC_seq <| wpC_kp <| wpC_seq <| reg_s <| st rfl <| mvd rfl rfl <| st rfl <| mvd rfl rfl <| stw rfl <| lent rfl fun l181 => st rfl <| b_lss (k := .i64) rfl rfl <| seqN [(0, .d (cS.enc v0)), (1, .d (cU.enc v1)), (5, .d ((cLo cS).enc s105.1)), (6, .d (cI.enc s105.2.1)), (7, .d (cI.enc s105.2.2)), (11, .d (cB.enc (decide (s105.2.2 < (v0.length : Int)))))] (by kernel_rfl) <|
    xn <| cnd rfl h (fun b182 h => wpC_skip <| kpN [(0, .d (cS.enc v0)), (1, .d (cU.enc v1)), (5, .d ((cLo cS).enc s105.1)), (6, .d (cI.enc s105.2.1)), (7, .d (cI.enc s105.2.2))] (by kernel_rfl) <| xn <| wpC_seq <| wpC_kp <| wpC_blk <| wpC_seq <| reg_s <| st rfl <| mvd rfl rfl <| st rfl <| mvd rfl rfl <| getO_k h fun x198 i199 g200 h => st rfl <| o_ix (k := .i64) rfl rfl i199 g200 <| st rfl <| mvd rfl rfl <| st rfl <| b_eql (k := .u8) rfl rfl <| seqN [(0, .d (cS.enc v0)), (1, .d (cU.enc v1)), (5, .d ((cLo cS).enc s105.1)), (6, .d (cI.enc s105.2.1)), (7, .d (cI.enc s105.2.2)), (18, .d (cB.enc (decide ((x198.toNat : Int) = v1))))] (by kernel_rfl) <|
    xn <| cnd rfl h (fun b201 h => wpC_seq <| reg_s <| st rfl <| mvo rfl rfl <| st rfl <| mvd rfl rfl <| st rfl <| mvd rfl rfl <| st rfl <| mvd rfl rfl <| ck_k h fun i204 h => st rfl <| o_sls rfl (lo1 (k := .i64) rfl i204.1) (hi1 (k := .i64) rfl i204.2.1) i204.2.2 <| x_bsl cS [((v0.take (s105.2.2).toNat).drop (s105.2.1).toNat)] (t1 (ss rfl rfl) rfl t0) rfl rfl <| lnO_k h fun l205 h => x_app (sr rfl rfl) (tow rfl rfl) l205 rfl <| x_asg (so rfl rfl) <| seqN [(0, .d (cS.enc v0)), (1, .d (cU.enc v1)), (5, .d ((cLo cS).enc (s105.1 ++ [((v0.take (s105.2.2).toNat).drop (s105.2.1).toNat)]))), (7, .d (cI.enc s105.2.2))] (by kernel_rfl) <|
    xn <| reg_s <| st rfl <| mvd rfl rfl <| ckI_k h fun i206 h => st rfl <| b_add (k := .i64) rfl rfl i206 <| x_asg (ss rfl rfl) <| seqN [(0, .d (cS.enc v0)), (1, .d (cU.enc v1)), (5, .d ((cLo cS).enc (s105.1 ++ [((v0.take (s105.2.2).toNat).drop (s105.2.1).toNat)]))), (6, .d (cI.enc (s105.2.2 + (1 : Int)))), (7, .d (cI.enc s105.2.2))] (by kernel_rfl) <|
    xbb <| kpN [(0, .d (cS.enc v0)), (1, .d (cU.enc v1)), (5, .d ((cLo cS).enc (s105.1 ++ [((v0.take (s105.2.2).toNat).drop (s105.2.1).toNat)]))), (6, .d (cI.enc (s105.2.2 + (1 : Int)))), (7, .d (cI.enc s105.2.2))] (by kernel_rfl) <| xn <| reg_s <| st rfl <| mvd rfl rfl <| ckI_k h fun i207 h => st rfl <| b_add (k := .i64) rfl rfl i207 <| x_asg (ss rfl rfl) <| seqN [(0, .d (cS.enc v0)), (1, .d (cU.enc v1)), (5, .d ((cLo cS).enc (s105.1 ++ [((v0.take (s105.2.2).toNat).drop (s105.2.1).toNat)]))), (6, .d (cI.enc (s105.2.2 + (1 : Int)))), (7, .d (cI.enc (s105.2.2 + (1 : Int))))] (by kernel_rfl) <|
    xn <| hn175 ((s105.1 ++ [((v0.take (s105.2.2).toNat).drop (s105.2.1).toNat)]), (s105.2.2 + (1 : Int)), (s105.2.2 + (1 : Int))) h)
    (fun b201 h => wpC_skip <| xbb <| kpN [(0, .d (cS.enc v0)), (1, .d (cU.enc v1)), (5, .d ((cLo cS).enc s105.1)), (6, .d (cI.enc s105.2.1)), (7, .d (cI.enc s105.2.2))] (by kernel_rfl) <| xn <| reg_s <| st rfl <| mvd rfl rfl <| ckI_k h fun i208 h => st rfl <| b_add (k := .i64) rfl rfl i208 <| x_asg (ss rfl rfl) <| seqN [(0, .d (cS.enc v0)), (1, .d (cU.enc v1)), (5, .d ((cLo cS).enc s105.1)), (6, .d (cI.enc s105.2.1)), (7, .d (cI.enc (s105.2.2 + (1 : Int))))] (by kernel_rfl) <|
    xn <| hn175 (s105.1, s105.2.1, (s105.2.2 + (1 : Int))) h))
    (fun b182 h => wpC_exit <| xt <| xt <| xt <| xb <| kpN [(0, .d (cS.enc v0)), (5, .d ((cLo cS).enc s105.1)), (6, .d (cI.enc s105.2.1))] (by kernel_rfl) <| xn <| wpC_seq <| reg_s <| st rfl <| mvo rfl rfl <| st rfl <| mvd rfl rfl <| st rfl <| mvd rfl rfl <| ck_k h fun i211 h => st rfl <| o_sls rfl (lo1 (k := .i64) rfl i211.1) hi0 i211.2 <| x_bsl cS [((v0.take v0.length).drop (s105.2.1).toNat)] (t1 (ss rfl rfl) rfl t0) rfl rfl <| lnO_k h fun l212 h => x_app (sr rfl rfl) (tow rfl rfl) l212 rfl <| x_asg (so rfl rfl) <| seqN [(4, .d ((cLo cS).enc (s105.1 ++ [((v0.take v0.length).drop (s105.2.1).toNat)])))] (by kernel_rfl) <|
    xn <| wpC_ret <| re <| fin h (r1 (so rfl rfl) <| r0) rfl)

def rs_spec_l1Read (r : Int) : List D := [cI.enc r]
def m66 : MC := .seq (.reg [⟨some 2, .asg (.c (.int .i64 0)), none⟩] [0])
  (.seq (.kp [0] (.seq (.reg [⟨some 5, .mv (.t 0), none⟩,
    ⟨some 6, .len true (.t 5), none⟩,
    ⟨some 7, .call 61 [(.t 6), (.c (.int .i64 1)), (.c (.int .i64 6))], none⟩,
    ⟨some 8, .nt (.t 7), none⟩,
    ⟨some 9, .mv (.t 8), none⟩,
    ⟨some 10, .mv (.t 0), some (9, false)⟩,
    ⟨some 11, .ix (.t 10) (.c (.int .i64 0)), some (9, false)⟩,
    ⟨some 12, .bin .eql (.t 11) (.c (.int .u8 48)), some (9, false)⟩,
    ⟨some 13, .mv (.t 12), some (9, false)⟩,
    ⟨some 14, .mv (.t 0), some (13, true)⟩,
    ⟨some 15, .len true (.t 14), some (13, true)⟩,
    ⟨some 16, .bin .gtr (.t 15) (.c (.int .i64 1)), some (13, true)⟩,
    ⟨some 17, .pick (.t 13) (.t 16) (.c (.bool false)), some (9, false)⟩,
    ⟨some 18, .pick (.t 9) (.c (.bool true)) (.t 17), none⟩] [0, 18])
  (.cond (.t 18) (.seq (.reg [⟨some 2, .asg (.c (.int .i64 (-1))), none⟩] [2])
  (.ret)) (.skip))))
  (.seq (.reg [⟨some 3, .asg (.c (.int .i64 0)), none⟩] [0, 3])
  (.seq (.kp [3] (.seq (.reg [⟨some 4, .asg (.c (.int .i64 0)), none⟩] [0, 3, 4])
  (.blk 0 (.loop (.seq (.kp [0, 3, 4] (.seq (.reg [⟨some 19, .mv (.t 4), none⟩,
    ⟨some 20, .mv (.t 0), none⟩,
    ⟨some 21, .len true (.t 20), none⟩,
    ⟨some 22, .bin .lss (.t 19) (.t 21), none⟩] [0, 3, 4, 22])
  (.cond (.t 22) (.skip) (.exit 0))))
  (.seq (.kp [0, 3, 4] (.blk 1 (.seq (.kp [0, 3, 4] (.seq (.reg [⟨some 25, .mv (.t 0), none⟩,
    ⟨some 26, .mv (.t 4), none⟩,
    ⟨some 27, .ix (.t 25) (.t 26), none⟩,
    ⟨some 28, .bin .lss (.t 27) (.c (.int .u8 48)), none⟩,
    ⟨some 29, .mv (.t 28), none⟩,
    ⟨some 30, .mv (.t 0), some (29, false)⟩,
    ⟨some 31, .mv (.t 4), some (29, false)⟩,
    ⟨some 32, .ix (.t 30) (.t 31), some (29, false)⟩,
    ⟨some 33, .bin .gtr (.t 32) (.c (.int .u8 57)), some (29, false)⟩,
    ⟨some 34, .pick (.t 29) (.c (.bool true)) (.t 33), none⟩] [0, 3, 4, 34])
  (.cond (.t 34) (.seq (.reg [⟨some 2, .asg (.c (.int .i64 (-1))), none⟩] [2])
  (.ret)) (.skip))))
  (.reg [⟨some 35, .mv (.t 3), none⟩,
    ⟨some 36, .bin .mul (.c (.int .i64 10)) (.t 35), none⟩,
    ⟨some 37, .mv (.t 0), none⟩,
    ⟨some 38, .mv (.t 4), none⟩,
    ⟨some 39, .ix (.t 37) (.t 38), none⟩,
    ⟨some 40, .bin .sub (.t 39) (.c (.int .u8 48)), none⟩,
    ⟨some 41, .cvi .i64 (.t 40), none⟩,
    ⟨some 42, .bin .add (.t 36) (.t 41), none⟩,
    ⟨some 3, .asg (.t 42), none⟩] [0, 3, 4]))))
  (.reg [⟨some 23, .mv (.t 4), none⟩,
    ⟨some 24, .bin .add (.t 23) (.c (.int .i64 1)), none⟩,
    ⟨some 4, .asg (.t 24), none⟩] [0, 3, 4])))))))
  (.seq (.reg [⟨some 43, .mv (.t 3), none⟩,
    ⟨some 2, .asg (.t 43), none⟩] [2])
  (.ret)))))
theorem con_spec_l1Read {v0 : (List UInt8)} {r : Int} (h : sh_spec_l1Read v0 = some r) : Con Tryd.prog 66 [cS.enc v0] [] (rs_spec_l1Read r) := by
  delta sh_spec_l1Read at h
  refine top (out := none) (f := Tryd.f66) (m := m66) (rs := [.t 2]) (by kernel_rfl) rfl (by kernel_rfl) (by kernel_rfl) (by kernel_rfl) (by kernel_rfl) (by kernel_rfl) ?_
  exact
   ini [(0, .d (cS.enc v0))] rfl <| wpC_seq <| reg_s <| x_asg (sc cI (0 : Int) rfl) <| seqN [(0, .d (cS.enc v0))] (by kernel_rfl) <|
    xn <| sqj (fun (s20 : Unit) => [(0, .d (cS.enc v0))]) h (fun s20 h => wpC_seq <| reg_s <| x_asg (sc cI (0 : Int) rfl) <| seqN [(0, .d (cS.enc v0)), (3, .d (cI.enc (0 : Int)))] (by kernel_rfl) <|
    xn <| wpC_seq <| wpC_kp <| wpC_seq <| reg_s <| x_asg (sc cI (0 : Int) rfl) <| seqN [(0, .d (cS.enc v0)), (3, .d (cI.enc (0 : Int))), (4, .d (cI.enc (0 : Int)))] (by kernel_rfl) <|
    xn <| wpC_blk <| lpF (fun (s184 : (Int × Int)) => [(0, .d (cS.enc v0)), (3, .d (cI.enc s184.1)), (4, .d (cI.enc s184.2))]) ((0 : Int), (0 : Int)) rfl h
    fun G293 nx291 s184 hn292 h => wpC_seq <| wpC_kp <| wpC_seq <| reg_s <| st rfl <| mvd rfl rfl <| st rfl <| mvd rfl rfl <| stw rfl <| lent rfl fun l298 => st rfl <| b_lss (k := .i64) rfl rfl <| seqN [(0, .d (cS.enc v0)), (3, .d (cI.enc s184.1)), (4, .d (cI.enc s184.2)), (22, .d (cB.enc (decide (s184.2 < (v0.length : Int)))))] (by kernel_rfl) <|
    xn <| cnd rfl h (fun b299 h => wpC_skip <| kpN [(0, .d (cS.enc v0)), (3, .d (cI.enc s184.1)), (4, .d (cI.enc s184.2))] (by kernel_rfl) <| xn <| wpC_seq <| wpC_kp <| wpC_blk <| wpC_seq <| wpC_kp <| wpC_seq <| reg_s <| st rfl <| mvd rfl rfl <| st rfl <| mvd rfl rfl <| getO_k h fun x335 i336 g337 h => st rfl <| o_ix (k := .i64) rfl rfl i336 g337 <| st rfl <| b_lss (k := .u8) rfl rfl <| st rfl <| mvd rfl rfl <| ite_k h (fun b338 h => gf rfl b338 <| gf rfl b338 <| gf rfl b338 <| gf rfl b338 <| st rfl <| pick1 rfl b338 (cd := cB) (v := true) rfl rfl <| seqN [(0, .d (cS.enc v0)), (3, .d (cI.enc s184.1)), (4, .d (cI.enc s184.2)), (34, .d (cB.enc true))] (by kernel_rfl) <|
    xn <| cnd1 rfl rfl <| wpC_seq <| reg_s <| x_asg (sc cI (-1 : Int) rfl) <| seqN [(2, .d (cI.enc (-1 : Int)))] (by kernel_rfl) <|
    xn <| wpC_ret <| rt <| rt <| rb <| rt <| rt <| rt <| rb <| rt <| rt <| re <| fin h (r1 (ss rfl rfl) <| r0) rfl)
    (fun b338 h => gt' rfl b338 <| st rfl <| mvd rfl rfl <| gt' rfl b338 <| st rfl <| mvd rfl rfl <| gt' rfl b338 <| st rfl <| o_ix (k := .i64) rfl rfl i336 g337 <| gt' rfl b338 <| st rfl <| b_gtr (k := .u8) rfl rfl <| st rfl <| pick0 rfl b338 (cd := cB) (v := (decide ((57 : Int) < (x335.toNat : Int)))) rfl rfl <| seqN [(0, .d (cS.enc v0)), (3, .d (cI.enc s184.1)), (4, .d (cI.enc s184.2)), (34, .d (cB.enc (decide ((57 : Int) < (x335.toNat : Int)))))] (by kernel_rfl) <|
    xn <| cnd rfl h (fun b339 h => wpC_seq <| reg_s <| x_asg (sc cI (-1 : Int) rfl) <| seqN [(2, .d (cI.enc (-1 : Int)))] (by kernel_rfl) <|
    xn <| wpC_ret <| rt <| rt <| rb <| rt <| rt <| rt <| rb <| rt <| rt <| re <| fin h (r1 (ss rfl rfl) <| r0) rfl)
    (fun b339 h => wpC_skip <| kpN [(0, .d (cS.enc v0)), (3, .d (cI.enc s184.1)), (4, .d (cI.enc s184.2))] (by kernel_rfl) <| xn <| reg_s <| st rfl <| mvd rfl rfl <| ckI_k h fun i340 h => st rfl <| b_mul (k := .i64) rfl rfl i340 <| st rfl <| mvd rfl rfl <| st rfl <| mvd rfl rfl <| st rfl <| o_ix (k := .i64) rfl rfl i336 g337 <| ckU_k h fun i341 h => st rfl <| b_sub (k := .u8) rfl rfl i341 <| ckI_k h fun i342 h => st rfl <| o_cvi (k := .u8) (k' := .i64) rfl i342 <| ckI_k h fun i343 h => st rfl <| b_add (k := .i64) rfl rfl i343 <| x_asg (ss rfl rfl) <| seqN [(0, .d (cS.enc v0)), (3, .d (cI.enc (((10 : Int) * s184.1) + ((x335.toNat : Int) - (48 : Int))))), (4, .d (cI.enc s184.2))] (by kernel_rfl) <|
    xbb <| kpN [(0, .d (cS.enc v0)), (3, .d (cI.enc (((10 : Int) * s184.1) + ((x335.toNat : Int) - (48 : Int))))), (4, .d (cI.enc s184.2))] (by kernel_rfl) <| xn <| reg_s <| st rfl <| mvd rfl rfl <| ckI_k h fun i344 h => st rfl <| b_add (k := .i64) rfl rfl i344 <| x_asg (ss rfl rfl) <| seqN [(0, .d (cS.enc v0)), (3, .d (cI.enc (((10 : Int) * s184.1) + ((x335.toNat : Int) - (48 : Int))))), (4, .d (cI.enc (s184.2 + (1 : Int))))] (by kernel_rfl) <|
    xn <| hn292 ((((10 : Int) * s184.1) + ((x335.toNat : Int) - (48 : Int))), (s184.2 + (1 : Int))) h)))
    (fun b299 h => wpC_exit <| xt <| xt <| xt <| xb <| kpN [(3, .d (cI.enc s184.1))] (by kernel_rfl) <| xn <| wpC_seq <| reg_s <| st rfl <| mvd rfl rfl <| x_asg (ss rfl rfl) <| seqN [(2, .d (cI.enc s184.1))] (by kernel_rfl) <|
    xn <| wpC_ret <| re <| fin h (r1 (ss rfl rfl) <| r0) rfl))
    fun m22 h => wpC_kp <| wpC_seq <| reg_s <| st rfl <| mvd rfl rfl <| stw rfl <| lent rfl fun l354 => bnd h fun x355 e356 h => st rfl <| o_call (a1 (c := cI) tK rfl (a1 (c := cI) tK rfl (a1 (c := cI) tK rfl a0))) (con_spec_l1In e356) (.inl (so1 sB so0)) <| st rfl <| o_nt rfl <| st rfl <| mvd rfl rfl <| ite_k h (fun b357 h => gf rfl b357 <| gf rfl b357 <| gf rfl b357 <| gf rfl b357 <| gu rfl <| gu rfl <| gu rfl <| gf rfl b357 <| st rfl <| pick1 rfl b357 (cd := cB) (v := true) rfl rfl <| seqN [(0, .d (cS.enc v0)), (18, .d (cB.enc true))] (by kernel_rfl) <|
    xn <| cnd1 rfl rfl <| wpC_seq <| reg_s <| x_asg (sc cI (-1 : Int) rfl) <| seqN [(2, .d (cI.enc (-1 : Int)))] (by kernel_rfl) <|
    xn <| wpC_ret <| rt <| rt <| re <| fin h (r1 (ss rfl rfl) <| r0) rfl)
    (fun b357 h => gt' rfl b357 <| st rfl <| mvd rfl rfl <| gt' rfl b357 <| getO_k h fun x358 i359 g360 h => st rfl <| o_ix (k := .i64) rfl rfl i359 g360 <| gt' rfl b357 <| st rfl <| b_eql (k := .u8) rfl rfl <| gt' rfl b357 <| st rfl <| mvd rfl rfl <| ite_k h (fun b361 h => gt' rfl b361 <| st rfl <| mvd rfl rfl <| gt' rfl b361 <| stw rfl <| lent rfl fun l362 => gt' rfl b361 <| st rfl <| b_gtr (k := .i64) rfl rfl <| gt' rfl b357 <| st rfl <| pick1 rfl b361 (cd := cB) (v := (decide ((1 : Int) < (v0.length : Int)))) rfl rfl <| st rfl <| pick0 rfl b357 (cd := cB) (v := (decide ((1 : Int) < (v0.length : Int)))) rfl rfl <| seqN [(0, .d (cS.enc v0)), (18, .d (cB.enc (decide ((1 : Int) < (v0.length : Int)))))] (by kernel_rfl) <|
    xn <| cnd rfl h (fun b363 h => wpC_seq <| reg_s <| x_asg (sc cI (-1 : Int) rfl) <| seqN [(2, .d (cI.enc (-1 : Int)))] (by kernel_rfl) <|
    xn <| wpC_ret <| rt <| rt <| re <| fin h (r1 (ss rfl rfl) <| r0) rfl)
    (fun b363 h => wpC_skip <| kpN [(0, .d (cS.enc v0))] (by kernel_rfl) <| m22 () h))
    (fun b361 h => gf rfl b361 <| gf rfl b361 <| gf rfl b361 <| gt' rfl b357 <| st rfl <| pick0 rfl b361 (cd := cB) (v := false) rfl rfl <| st rfl <| pick0 rfl b357 (cd := cB) (v := false) rfl rfl <| seqN [(0, .d (cS.enc v0)), (18, .d (cB.enc false))] (by kernel_rfl) <|
    xn <| cnd0 rfl rfl <| wpC_skip <| kpN [(0, .d (cS.enc v0))] (by kernel_rfl) <| m22 () h))

def rs_spec_eGood (r : Bool) : List D := [cB.enc r]
def m67 : MC := .seq (.reg [⟨some 3, .box (.t 1), none⟩,
    ⟨some 4, .asg (.c (.bool false)), none⟩] [0, 3])
  (.seq (.kp [0, 3] (.seq (.reg [⟨some 7, .fa 3 0 0, none⟩,
    ⟨some 8, .ld 7 1 false, none⟩,
    ⟨some 9, .len false (.t 8), none⟩,
    ⟨some 10, .mv (.t 0), none⟩,
    ⟨some 11, .len false (.t 10), none⟩,
    ⟨some 12, .bin .neq (.t 9) (.t 11), none⟩] [0, 3, 12])
  (.cond (.t 12) (.seq (.reg [⟨some 4, .asg (.c (.bool false)), none⟩] [4])
  (.ret)) (.skip))))
  (.seq (.kp [] (.seq (.reg [⟨some 13, .fa 3 0 0, none⟩,
    ⟨some 14, .ld 13 1 false, none⟩,
    ⟨some 15, .len false (.t 14), none⟩,
    ⟨some 16, .mv (.c (.int .i64 0)), none⟩] [0, 3, 13, 14, 15, 16])
  (.blk 0 (.loop (.seq (.reg [⟨some 17, .bin .lss (.t 16) (.t 15), none⟩] [0, 3, 13, 14, 15, 16, 17])
  (.seq (.kp [0, 3, 13, 14, 15, 16] (.cond (.t 17) (.skip) (.exit 0)))
  (.seq (.kp [0, 3, 13, 14, 15, 16] (.blk 1 (.seq (.reg [⟨some 18, .mv (.t 16), none⟩,
    ⟨some 19, .ia 14 (.t 16) 1, none⟩,
    ⟨some 20, .ld 19 1 false, none⟩,
    ⟨some 5, .asg (.t 18), none⟩,
    ⟨some 6, .asg (.t 20), none⟩] [0, 3, 5, 6, 13, 14, 15, 16])
  (.seq (.reg [⟨some 21, .mv (.t 6), none⟩,
    ⟨some 22, .mv (.t 0), none⟩,
    ⟨some 23, .mv (.t 5), none⟩,
    ⟨some 24, .call 64 [(.t 22), (.t 23)], none⟩,
    ⟨some 25, .call 61 [(.t 21), (.c (.int .i64 1)), (.t 24)], none⟩,
    ⟨some 26, .nt (.t 25), none⟩] [0, 3, 13, 14, 15, 16, 26])
  (.cond (.t 26) (.seq (.reg [⟨some 4, .asg (.c (.bool false)), none⟩] [4])
  (.ret)) (.skip))))))
  (.reg [⟨some 27, .bin .add (.t 16) (.c (.int .i64 1)), none⟩,
    ⟨some 16, .mv (.t 27), none⟩] [0, 3, 13, 14, 15, 16]))))))))
  (.seq (.reg [⟨some 4, .asg (.c (.bool true)), none⟩] [4])
  (.ret))))
theorem con_spec_eGood {v0 : (List XVariable)} {v1 : XEdit} {r : Bool} (h : sh_spec_eGood v0 v1 = some r) : Con Tryd.prog 67 [(cLs (cXVariable cS cI) rfl).enc v0, (cXEdit (cLs cI rfl)).enc v1] [] (rs_spec_eGood r) := by
  delta sh_spec_eGood at h
  refine top (out := none) (f := Tryd.f67) (m := m67) (rs := [.t 4]) (by kernel_rfl) rfl (by kernel_rfl) (by kernel_rfl) (by kernel_rfl) (by kernel_rfl) (by kernel_rfl) ?_
  exact
   ini [(0, .d ((cLs (cXVariable cS cI) rfl).enc v0)), (1, .d ((cXEdit (cLs cI rfl)).enc v1))] rfl <| wpC_seq <| reg_s <| x_box (ss rfl rfl) <| x_asg (sc cB false rfl) <| seqN [(0, .d ((cLs (cXVariable cS cI) rfl).enc v0)), (3, .box ((cXEdit (cLs cI rfl)).enc v1))] (by kernel_rfl) <|
    xn <| wpC_seq <| wpC_kp <| wpC_seq <| reg_s <| st rfl <| fab rfl rfl rfl rfl <| st rfl <| lda rfl rfl rfl rfl rfl rfl <| stw rfl <| lens rfl fun l8 => st rfl <| mvd rfl rfl <| stw rfl <| lens rfl fun l9 => st rfl <| b_neq (k := .i64) rfl rfl <| seqN [(0, .d ((cLs (cXVariable cS cI) rfl).enc v0)), (3, .box ((cXEdit (cLs cI rfl)).enc v1)), (12, .d (cB.enc (decide ((v1.Sets.length : Int) ≠ (v0.length : Int)))))] (by kernel_rfl) <|
    xn <| cnd rfl h (fun b10 h => wpC_seq <| reg_s <| x_asg (sc cB false rfl) <| seqN [(4, .d (cB.enc false))] (by kernel_rfl) <|
    xn <| wpC_ret <| rt <| rt <| re <| fin h (r1 (ss rfl rfl) <| r0) rfl)
    (fun b10 h => wpC_skip <| kpN [(0, .d ((cLs (cXVariable cS cI) rfl).enc v0)), (3, .box ((cXEdit (cLs cI rfl)).enc v1))] (by kernel_rfl) <| xn <| wpC_seq <| wpC_kp <| wpC_seq <| reg_s <| st rfl <| fab rfl rfl rfl rfl <| st rfl <| lda rfl rfl rfl rfl rfl rfl <| stw rfl <| lens rfl fun l58 => st rfl <| mvc cI (0 : Int) rfl <| seqN [(0, .d ((cLs (cXVariable cS cI) rfl).enc v0)), (3, .box ((cXEdit (cLs cI rfl)).enc v1)), (13, .adr 3 [.fld 0]), (14, .d ((cLs cI rfl).enc v1.Sets)), (15, .d (cI.enc (v1.Sets.length : Int))), (16, .d (cI.enc (0 : Int)))] (by kernel_rfl) <|
    xn <| wpC_blk <| lpR (fun (k60 : Nat) (s59 : Unit) => [(0, .d ((cLs (cXVariable cS cI) rfl).enc v0)), (3, .box ((cXEdit (cLs cI rfl)).enc v1)), (13, .adr 3 [.fld 0]), (14, .d ((cLs cI rfl).enc v1.Sets)), (15, .d (cI.enc (v1.Sets.length : Int))), (16, .d (cI.enc (k60 : Int)))]) () rfl h
    (fun G84 s59 h => wpC_seq <| reg_s <| st rfl <| b_lss (k := .i64) rfl rfl <| seqN [(0, .d ((cLs (cXVariable cS cI) rfl).enc v0)), (3, .box ((cXEdit (cLs cI rfl)).enc v1)), (13, .adr 3 [.fld 0]), (14, .d ((cLs cI rfl).enc v1.Sets)), (15, .d (cI.enc (v1.Sets.length : Int))), (16, .d (cI.enc (v1.Sets.length : Int))), (17, .d (cB.enc (decide ((v1.Sets.length : Int) < (v1.Sets.length : Int)))))] (by kernel_rfl) <|
    xn <| wpC_seq <| wpC_kp <| cnd0 rfl (dlf _) <| wpC_exit <| xt <| xt <| xt <| xb <| kpN [] (by kernel_rfl) <| xn <| wpC_seq <| reg_s <| x_asg (sc cB true rfl) <| seqN [(4, .d (cB.enc true))] (by kernel_rfl) <|
    xn <| wpC_ret <| re <| fin h (r1 (ss rfl rfl) <| r0) rfl)
    (fun G84 nx82 k60 s59 x61 hk62 hx63 hn83 h => wpC_seq <| reg_s <| st rfl <| b_lss (k := .i64) rfl rfl <| seqN [(0, .d ((cLs (cXVariable cS cI) rfl).enc v0)), (3, .box ((cXEdit (cLs cI rfl)).enc v1)), (13, .adr 3 [.fld 0]), (14, .d ((cLs cI rfl).enc v1.Sets)), (15, .d (cI.enc (v1.Sets.length : Int))), (16, .d (cI.enc (k60 : Int))), (17, .d (cB.enc (decide ((k60 : Int) < (v1.Sets.length : Int)))))] (by kernel_rfl) <|
    xn <| wpC_seq <| wpC_kp <| cnd1 rfl (dlt hk62) <| wpC_skip <| kpN [(0, .d ((cLs (cXVariable cS cI) rfl).enc v0)), (3, .box ((cXEdit (cLs cI rfl)).enc v1)), (13, .adr 3 [.fld 0]), (14, .d ((cLs cI rfl).enc v1.Sets)), (15, .d (cI.enc (v1.Sets.length : Int))), (16, .d (cI.enc (k60 : Int)))] (by kernel_rfl) <| xn <| wpC_seq <| wpC_kp <| wpC_blk <| wpC_seq <| reg_s <| st rfl <| mvd rfl rfl <| st rfl <| ias rfl rfl (Int.natCast_nonneg _) hx63 rfl <| st rfl <| ldi rfl rfl rfl rfl <| x_asg (ss rfl rfl) <| x_asg (ss rfl rfl) <| seqN [(0, .d ((cLs (cXVariable cS cI) rfl).enc v0)), (3, .box ((cXEdit (cLs cI rfl)).enc v1)), (5, .d (cI.enc (k60 : Int))), (6, .d (cI.enc x61)), (13, .adr 3 [.fld 0]), (14, .d ((cLs cI rfl).enc v1.Sets)), (15, .d (cI.enc (v1.Sets.length : Int))), (16, .d (cI.enc (k60 : Int)))] (by kernel_rfl) <|
    xn <| wpC_seq <| reg_s <| st rfl <| mvd rfl rfl <| st rfl <| mvd rfl rfl <| st rfl <| mvd rfl rfl <| bnd h fun x98 e99 h => st rfl <| o_call (a1 (c := (cLs (cXVariable cS cI) rfl)) (tLs (tXVariable tS tK)) rfl (a1 (c := cI) tK rfl a0)) (con_spec_eFull e99) (.inl (so1 sK so0)) <| bnd h fun x100 e101 h => st rfl <| o_call (a1 (c := cI) tK rfl (a1 (c := cI) tK rfl (a1 (c := cI) tK rfl a0))) (con_spec_l1In e101) (.inl (so1 sB so0)) <| st rfl <| o_nt rfl <| seqN [(0, .d ((cLs (cXVariable cS cI) rfl).enc v0)), (3, .box ((cXEdit (cLs cI rfl)).enc v1)), (13, .adr 3 [.fld 0]), (14, .d ((cLs cI rfl).enc v1.Sets)), (15, .d (cI.enc (v1.Sets.length : Int))), (16, .d (cI.enc (k60 : Int))), (26, .d (cB.enc (!x100)))] (by kernel_rfl) <|
    xn <| cnd rfl h (fun b102 h => wpC_seq <| reg_s <| x_asg (sc cB false rfl) <| seqN [(4, .d (cB.enc false))] (by kernel_rfl) <|
    xn <| wpC_ret <| rb <| rt <| rt <| rt <| rb <| rt <| rt <| re <| fin h (r1 (ss rfl rfl) <| r0) rfl)
    (fun b102 h => wpC_skip <| xbb <| kpN [(0, .d ((cLs (cXVariable cS cI) rfl).enc v0)), (3, .box ((cXEdit (cLs cI rfl)).enc v1)), (13, .adr 3 [.fld 0]), (14, .d ((cLs cI rfl).enc v1.Sets)), (15, .d (cI.enc (v1.Sets.length : Int))), (16, .d (cI.enc (k60 : Int)))] (by kernel_rfl) <| xn <| reg_s <| st rfl <| b_inc rfl rfl l58 hk62 <| st rfl <| mvd rfl rfl <| seqN [(0, .d ((cLs (cXVariable cS cI) rfl).enc v0)), (3, .box ((cXEdit (cLs cI rfl)).enc v1)), (13, .adr 3 [.fld 0]), (14, .d ((cLs cI rfl).enc v1.Sets)), (15, .d (cI.enc (v1.Sets.length : Int))), (16, .d (cI.enc ((k60 + 1 : Nat) : Int)))] (by kernel_rfl) <|
    xn <| hn83 () h)))

def rs_spec_eInvolved (r : (List Int)) : List D := [(cLo cI).enc r]
def m88 : MC := .seq (.reg [⟨some 3, .box (.t 1), none⟩,
    ⟨some 4, .asg (.c (.slice true [])), none⟩] [0, 3])
  (.seq (.reg [⟨some 5, .asg (.c (.slice true [])), none⟩] [0, 3, 5])
  (.seq (.kp [5] (.seq (.reg [⟨some 8, .fa 3 0 0, none⟩,
    ⟨some 9, .ld 8 1 false, none⟩,
    ⟨some 10, .len false (.t 9), none⟩,
    ⟨some 11, .mv (.c (.int .i64 0)), none⟩] [0, 3, 5, 8, 9, 10, 11])
  (.blk 0 (.loop (.seq (.reg [⟨some 12, .bin .lss (.t 11) (.t 10), none⟩] [0, 3, 5, 8, 9, 10, 11, 12])
  (.seq (.kp [0, 3, 5, 8, 9, 10, 11] (.cond (.t 12) (.skip) (.exit 0)))
  (.seq (.kp [0, 3, 5, 8, 9, 10, 11] (.blk 1 (.seq (.reg [⟨some 13, .mv (.t 11), none⟩,
    ⟨some 14, .ia 9 (.t 11) 1, none⟩,
    ⟨some 15, .ld 14 1 false, none⟩,
    ⟨some 6, .asg (.t 13), none⟩,
    ⟨some 7, .asg (.t 15), none⟩] [0, 3, 5, 6, 7, 8, 9, 10, 11])
  (.seq (.reg [⟨some 16, .mv (.t 7), none⟩,
    ⟨some 17, .mv (.t 0), none⟩,
    ⟨some 18, .mv (.t 6), none⟩,
    ⟨some 19, .call 64 [(.t 17), (.t 18)], none⟩,
    ⟨some 20, .bin .neq (.t 16) (.t 19), none⟩] [0, 3, 5, 6, 8, 9, 10, 11, 20])
  (.cond (.t 20) (.reg [⟨some 21, .mv (.t 5), none⟩,
    ⟨some 22, .mv (.t 6), none⟩,
    ⟨some 23, .bsl [(.t 22)] 1, none⟩,
    ⟨some 24, .app (.t 21) (.t 23) 1, none⟩,
    ⟨some 5, .asg (.t 24), none⟩] [0, 3, 5, 8, 9, 10, 11]) (.skip))))))
  (.reg [⟨some 25, .bin .add (.t 11) (.c (.int .i64 1)), none⟩,
    ⟨some 11, .mv (.t 25), none⟩] [0, 3, 5, 8, 9, 10, 11]))))))))
  (.seq (.reg [⟨some 26, .mv (.t 5), none⟩,
    ⟨some 4, .asg (.t 26), none⟩] [4])
  (.ret))))
theorem con_spec_eInvolved {v0 : (List XVariable)} {v1 : XEdit} {r : (List Int)} (h : sh_spec_eInvolved v0 v1 = some r) : Con Tryd.prog 88 [(cLs (cXVariable cS cI) rfl).enc v0, (cXEdit (cLs cI rfl)).enc v1] [] (rs_spec_eInvolved r) := by
  delta sh_spec_eInvolved at h
  refine top (out := none) (f := Tryd.f88) (m := m88) (rs := [.t 4]) (by kernel_rfl) rfl (by kernel_rfl) (by kernel_rfl) (by kernel_rfl) (by kernel_rfl) (by kernel_rfl) ?_
  exact
   ini [(0, .d ((cLs (cXVariable cS cI) rfl).enc v0)), (1, .d ((cXEdit (cLs cI rfl)).enc v1))] rfl <| wpC_seq <| reg_s <| x_box (ss rfl rfl) <| x_asg (sc (cLo cI) ([] : List Int) rfl) <| seqN [(0, .d ((cLs (cXVariable cS cI) rfl).enc v0)), (3, .box ((cXEdit (cLs cI rfl)).enc v1))] (by kernel_rfl) <|
    xn <| wpC_seq <| reg_s <| x_asg (sc (cLo cI) ([] : List Int) rfl) <| seqN [(0, .d ((cLs (cXVariable cS cI) rfl).enc v0)), (3, .box ((cXEdit (cLs cI rfl)).enc v1)), (5, .d ((cLo cI).enc ([] : List Int)))] (by kernel_rfl) <|
    xn <| wpC_seq <| wpC_kp <| wpC_seq <| reg_s <| st rfl <| fab rfl rfl rfl rfl <| st rfl <| lda rfl rfl rfl rfl rfl rfl <| stw rfl <| lens rfl fun l48 => st rfl <| mvc cI (0 : Int) rfl <| seqN [(0, .d ((cLs (cXVariable cS cI) rfl).enc v0)), (3, .box ((cXEdit (cLs cI rfl)).enc v1)), (5, .d ((cLo cI).enc ([] : List Int))), (8, .adr 3 [.fld 0]), (9, .d ((cLs cI rfl).enc v1.Sets)), (10, .d (cI.enc (v1.Sets.length : Int))), (11, .d (cI.enc (0 : Int)))] (by kernel_rfl) <|
    xn <| wpC_blk <| lpR (fun (k50 : Nat) (s49 : (List Int)) => [(0, .d ((cLs (cXVariable cS cI) rfl).enc v0)), (3, .box ((cXEdit (cLs cI rfl)).enc v1)), (5, .d ((cLo cI).enc s49)), (8, .adr 3 [.fld 0]), (9, .d ((cLs cI rfl).enc v1.Sets)), (10, .d (cI.enc (v1.Sets.length : Int))), (11, .d (cI.enc (k50 : Int)))]) ([] : List Int) rfl h
    (fun G80 s49 h => wpC_seq <| reg_s <| st rfl <| b_lss (k := .i64) rfl rfl <| seqN [(0, .d ((cLs (cXVariable cS cI) rfl).enc v0)), (3, .box ((cXEdit (cLs cI rfl)).enc v1)), (5, .d ((cLo cI).enc s49)), (8, .adr 3 [.fld 0]), (9, .d ((cLs cI rfl).enc v1.Sets)), (10, .d (cI.enc (v1.Sets.length : Int))), (11, .d (cI.enc (v1.Sets.length : Int))), (12, .d (cB.enc (decide ((v1.Sets.length : Int) < (v1.Sets.length : Int)))))] (by kernel_rfl) <|
    xn <| wpC_seq <| wpC_kp <| cnd0 rfl (dlf _) <| wpC_exit <| xt <| xt <| xt <| xb <| kpN [(5, .d ((cLo cI).enc s49))] (by kernel_rfl) <| xn <| wpC_seq <| reg_s <| st rfl <| mvo rfl rfl <| x_asg (sr rfl rfl) <| seqN [(4, .d ((cLo cI).enc s49))] (by kernel_rfl) <|
    xn <| wpC_ret <| re <| fin h (r1 (so rfl rfl) <| r0) rfl)
    (fun G80 nx78 k50 s49 x51 hk52 hx53 hn79 h => wpC_seq <| reg_s <| st rfl <| b_lss (k := .i64) rfl rfl <| seqN [(0, .d ((cLs (cXVariable cS cI) rfl).enc v0)), (3, .box ((cXEdit (cLs cI rfl)).enc v1)), (5, .d ((cLo cI).enc s49)), (8, .adr 3 [.fld 0]), (9, .d ((cLs cI rfl).enc v1.Sets)), (10, .d (cI.enc (v1.Sets.length : Int))), (11, .d (cI.enc (k50 : Int))), (12, .d (cB.enc (decide ((k50 : Int) < (v1.Sets.length : Int)))))] (by kernel_rfl) <|
    xn <| wpC_seq <| wpC_kp <| cnd1 rfl (dlt hk52) <| wpC_skip <| kpN [(0, .d ((cLs (cXVariable cS cI) rfl).enc v0)), (3, .box ((cXEdit (cLs cI rfl)).enc v1)), (5, .d ((cLo cI).enc s49)), (8, .adr 3 [.fld 0]), (9, .d ((cLs cI rfl).enc v1.Sets)), (10, .d (cI.enc (v1.Sets.length : Int))), (11, .d (cI.enc (k50 : Int)))] (by kernel_rfl) <| xn <| wpC_seq <| wpC_kp <| wpC_blk <| wpC_seq <| reg_s <| st rfl <| mvd rfl rfl <| st rfl <| ias rfl rfl (Int.natCast_nonneg _) hx53 rfl <| st rfl <| ldi rfl rfl rfl rfl <| x_asg (ss rfl rfl) <| x_asg (ss rfl rfl) <| seqN [(0, .d ((cLs (cXVariable cS cI) rfl).enc v0)), (3, .box ((cXEdit (cLs cI rfl)).enc v1)), (5, .d ((cLo cI).enc s49)), (6, .d (cI.enc (k50 : Int))), (7, .d (cI.enc x51)), (8, .adr 3 [.fld 0]), (9, .d ((cLs cI rfl).enc v1.Sets)), (10, .d (cI.enc (v1.Sets.length : Int))), (11, .d (cI.enc (k50 : Int)))] (by kernel_rfl) <|
    xn <| wpC_seq <| reg_s <| st rfl <| mvd rfl rfl <| st rfl <| mvd rfl rfl <| st rfl <| mvd rfl rfl <| bnd h fun x89 e90 h => st rfl <| o_call (a1 (c := (cLs (cXVariable cS cI) rfl)) (tLs (tXVariable tS tK)) rfl (a1 (c := cI) tK rfl a0)) (con_spec_eFull e90) (.inl (so1 sK so0)) <| st rfl <| b_neq (k := .i64) rfl rfl <| seqN [(0, .d ((cLs (cXVariable cS cI) rfl).enc v0)), (3, .box ((cXEdit (cLs cI rfl)).enc v1)), (5, .d ((cLo cI).enc s49)), (6, .d (cI.enc (k50 : Int))), (8, .adr 3 [.fld 0]), (9, .d ((cLs cI rfl).enc v1.Sets)), (10, .d (cI.enc (v1.Sets.length : Int))), (11, .d (cI.enc (k50 : Int))), (20, .d (cB.enc (decide (x51 ≠ x89))))] (by kernel_rfl) <|
    xn <| cnd rfl h (fun b91 h => reg_s <| st rfl <| mvo rfl rfl <| st rfl <| mvd rfl rfl <| x_bsl cI [(k50 : Int)] (t1 (ss rfl rfl) rfl t0) rfl rfl <| lnO_k h fun l92 h => x_app (sr rfl rfl) (tow rfl rfl) l92 rfl <| x_asg (so rfl rfl) <| seqN [(0, .d ((cLs (cXVariable cS cI) rfl).enc v0)), (3, .box ((cXEdit (cLs cI rfl)).enc v1)), (5, .d ((cLo cI).enc (s49 ++ [(k50 : Int)]))), (8, .adr 3 [.fld 0]), (9, .d ((cLs cI rfl).enc v1.Sets)), (10, .d (cI.enc (v1.Sets.length : Int))), (11, .d (cI.enc (k50 : Int)))] (by kernel_rfl) <|
    xbb <| kpN [(0, .d ((cLs (cXVariable cS cI) rfl).enc v0)), (3, .box ((cXEdit (cLs cI rfl)).enc v1)), (5, .d ((cLo cI).enc (s49 ++ [(k50 : Int)]))), (8, .adr 3 [.fld 0]), (9, .d ((cLs cI rfl).enc v1.Sets)), (10, .d (cI.enc (v1.Sets.length : Int))), (11, .d (cI.enc (k50 : Int)))] (by kernel_rfl) <| xn <| reg_s <| st rfl <| b_inc rfl rfl l48 hk52 <| st rfl <| mvd rfl rfl <| seqN [(0, .d ((cLs (cXVariable cS cI) rfl).enc v0)), (3, .box ((cXEdit (cLs cI rfl)).enc v1)), (5, .d ((cLo cI).enc (s49 ++ [(k50 : Int)]))), (8, .adr 3 [.fld 0]), (9, .d ((cLs cI rfl).enc v1.Sets)), (10, .d (cI.enc (v1.Sets.length : Int))), (11, .d (cI.enc ((k50 + 1 : Nat) : Int)))] (by kernel_rfl) <|
    xn <| hn79 (s49 ++ [(k50 : Int)]) h)
    (fun b91 h => wpC_skip <| xbb <| kpN [(0, .d ((cLs (cXVariable cS cI) rfl).enc v0)), (3, .box ((cXEdit (cLs cI rfl)).enc v1)), (5, .d ((cLo cI).enc s49)), (8, .adr 3 [.fld 0]), (9, .d ((cLs cI rfl).enc v1.Sets)), (10, .d (cI.enc (v1.Sets.length : Int))), (11, .d (cI.enc (k50 : Int)))] (by kernel_rfl) <| xn <| reg_s <| st rfl <| b_inc rfl rfl l48 hk52 <| st rfl <| mvd rfl rfl <| seqN [(0, .d ((cLs (cXVariable cS cI) rfl).enc v0)), (3, .box ((cXEdit (cLs cI rfl)).enc v1)), (5, .d ((cLo cI).enc s49)), (8, .adr 3 [.fld 0]), (9, .d ((cLs cI rfl).enc v1.Sets)), (10, .d (cI.enc (v1.Sets.length : Int))), (11, .d (cI.enc ((k50 + 1 : Nat) : Int)))] (by kernel_rfl) <|
    xn <| hn79 s49 h))

def rs_spec_eLevels (r : (List Int)) : List D := [(cLo cI).enc r]
def m89 : MC := .seq (.reg [⟨some 2, .asg (.c (.slice true [])), none⟩] [0])
  (.seq (.reg [⟨some 3, .asg (.c (.slice true [])), none⟩] [0, 3])
  (.seq (.kp [3] (.seq (.reg [⟨some 4, .asg (.c (.int .i64 0)), none⟩] [0, 3, 4])
  (.blk 0 (.loop (.seq (.kp [0, 3, 4] (.seq (.reg [⟨some 5, .mv (.t 0), none⟩,
    ⟨some 6, .mv (.t 4), none⟩,
    ⟨some 7, .cvi .u64 (.t 6), none⟩,
    ⟨some 8, .bin .shr (.t 5) (.t 7), none⟩,
    ⟨some 9, .bin .gtr (.t 8) (.c (.int .i64 0)), none⟩] [0, 3, 4, 9])
  (.cond (.t 9) (.skip) (.exit 0))))
  (.seq (.kp [0, 3, 4] (.blk 1 (.seq (.reg [⟨some 12, .mv (.t 0), none⟩,
    ⟨some 13, .mv (.t 4), none⟩,
    ⟨some 14, .cvi .u64 (.t 13), none⟩,
    ⟨some 15, .bin .shr (.t 12) (.t 14), none⟩,
    ⟨some 16, .bin .and (.t 15) (.c (.int .i64 1)), none⟩,
    ⟨some 17, .bin .eql (.t 16) (.c (.int .i64 1)), none⟩] [0, 3, 4, 17])
  (.cond (.t 17) (.reg [⟨some 18, .mv (.t 3), none⟩,
    ⟨some 19, .mv (.t 4), none⟩,
    ⟨some 20, .bsl [(.t 19)] 1, none⟩,
    ⟨some 21, .app (.t 18) (.t 20) 1, none⟩,
    ⟨some 3, .asg (.t 21), none⟩] [0, 3, 4]) (.skip)))))
  (.reg [⟨some 10, .mv (.t 4), none⟩,
    ⟨some 11, .bin .add (.t 10) (.c (.int .i64 1)), none⟩,
    ⟨some 4, .asg (.t 11), none⟩] [0, 3, 4])))))))
  (.seq (.reg [⟨some 22, .mv (.t 3), none⟩,
    ⟨some 2, .asg (.t 22), none⟩] [2])
  (.ret))))
theorem con_spec_eLevels {v0 : Int} {r : (List Int)} (h : sh_spec_eLevels v0 = some r) : Con Tryd.prog 89 [cI.enc v0] [] (rs_spec_eLevels r) := by
  delta sh_spec_eLevels at h
  refine top (out := none) (f := Tryd.f89) (m := m89) (rs := [.t 2]) (by kernel_rfl) rfl (by kernel_rfl) (by kernel_rfl) (by kernel_rfl) (by kernel_rfl) (by kernel_rfl) ?_
  exact
   ini [(0, .d (cI.enc v0))] rfl <| wpC_seq <| reg_s <| x_asg (sc (cLo cI) ([] : List Int) rfl) <| seqN [(0, .d (cI.enc v0))] (by kernel_rfl) <|
    xn <| wpC_seq <| reg_s <| x_asg (sc (cLo cI) ([] : List Int) rfl) <| seqN [(0, .d (cI.enc v0)), (3, .d ((cLo cI).enc ([] : List Int)))] (by kernel_rfl) <|
    xn <| wpC_seq <| wpC_kp <| wpC_seq <| reg_s <| x_asg (sc cI (0 : Int) rfl) <| seqN [(0, .d (cI.enc v0)), (3, .d ((cLo cI).enc ([] : List Int))), (4, .d (cI.enc (0 : Int)))] (by kernel_rfl) <|
    xn <| wpC_blk <| lpF (fun (s129 : ((List Int) × Int)) => [(0, .d (cI.enc v0)), (3, .d ((cLo cI).enc s129.1)), (4, .d (cI.enc s129.2))]) (([] : List Int), (0 : Int)) rfl h
    fun G216 nx214 s129 hn215 h => wpC_seq <| wpC_kp <| wpC_seq <| reg_s <| st rfl <| mvd rfl rfl <| st rfl <| mvd rfl rfl <| ckK_k h fun i224 h => st rfl <| o_cvi (k := .i64) (k' := .u64) rfl i224 <| ck_k h fun i225 h => st rfl <| b_shr (k := .i64) (k' := .u64) rfl rfl i225 rfl <| st rfl <| b_gtr (k := .i64) rfl rfl <| seqN [(0, .d (cI.enc v0)), (3, .d ((cLo cI).enc s129.1)), (4, .d (cI.enc s129.2)), (9, .d (cB.enc (decide ((0 : Int) < (v0 / 2 ^ (s129.2).toNat)))))] (by kernel_rfl) <|
    xn <| cnd rfl h (fun b226 h => wpC_skip <| kpN [(0, .d (cI.enc v0)), (3, .d ((cLo cI).enc s129.1)), (4, .d (cI.enc s129.2))] (by kernel_rfl) <| xn <| wpC_seq <| wpC_kp <| wpC_blk <| wpC_seq <| reg_s <| st rfl <| mvd rfl rfl <| st rfl <| mvd rfl rfl <| ckK_k h fun i247 h => st rfl <| o_cvi (k := .i64) (k' := .u64) rfl i247 <| ck_k h fun i248 h => st rfl <| b_shr (k := .i64) (k' := .u64) rfl rfl i248 rfl <| ck_k h fun i249 h => ckK_k h fun i250 h => ck_k h fun i251 h => ckK_k h fun i252 h => st rfl <| b_and (k := .i64) rfl rfl ⟨i249, i250⟩ ⟨i251, i252⟩ <| st rfl <| b_eql (k := .i64) rfl rfl <| seqN [(0, .d (cI.enc v0)), (3, .d ((cLo cI).enc s129.1)), (4, .d (cI.enc s129.2)), (17, .d (cB.enc (decide ((((v0 / 2 ^ (s129.2).toNat).toNat &&& (1 : Int).toNat : Nat) : Int) = (1 : Int)))))] (by kernel_rfl) <|
    xn <| cnd rfl h (fun b253 h => reg_s <| st rfl <| mvo rfl rfl <| st rfl <| mvd rfl rfl <| x_bsl cI [s129.2] (t1 (ss rfl rfl) rfl t0) rfl rfl <| lnO_k h fun l254 h => x_app (sr rfl rfl) (tow rfl rfl) l254 rfl <| x_asg (so rfl rfl) <| seqN [(0, .d (cI.enc v0)), (3, .d ((cLo cI).enc (s129.1 ++ [s129.2]))), (4, .d (cI.enc s129.2))] (by kernel_rfl) <|
    xbb <| kpN [(0, .d (cI.enc v0)), (3, .d ((cLo cI).enc (s129.1 ++ [s129.2]))), (4, .d (cI.enc s129.2))] (by kernel_rfl) <| xn <| reg_s <| st rfl <| mvd rfl rfl <| ckI_k h fun i255 h => st rfl <| b_add (k := .i64) rfl rfl i255 <| x_asg (ss rfl rfl) <| seqN [(0, .d (cI.enc v0)), (3, .d ((cLo cI).enc (s129.1 ++ [s129.2]))), (4, .d (cI.enc (s129.2 + (1 : Int))))] (by kernel_rfl) <|
    xn <| hn215 ((s129.1 ++ [s129.2]), (s129.2 + (1 : Int))) h)
    (fun b253 h => wpC_skip <| xbb <| kpN [(0, .d (cI.enc v0)), (3, .d ((cLo cI).enc s129.1)), (4, .d (cI.enc s129.2))] (by kernel_rfl) <| xn <| reg_s <| st rfl <| mvd rfl rfl <| ckI_k h fun i256 h => st rfl <| b_add (k := .i64) rfl rfl i256 <| x_asg (ss rfl rfl) <| seqN [(0, .d (cI.enc v0)), (3, .d ((cLo cI).enc s129.1)), (4, .d (cI.enc (s129.2 + (1 : Int))))] (by kernel_rfl) <|
    xn <| hn215 (s129.1, (s129.2 + (1 : Int))) h))
    (fun b226 h => wpC_exit <| xt <| xt <| xt <| xb <| kpN [(3, .d ((cLo cI).enc s129.1))] (by kernel_rfl) <| xn <| wpC_seq <| reg_s <| st rfl <| mvo rfl rfl <| x_asg (sr rfl rfl) <| seqN [(2, .d ((cLo cI).enc s129.1))] (by kernel_rfl) <|
    xn <| wpC_ret <| re <| fin h (r1 (so rfl rfl) <| r0) rfl)

def rs_spec_l1Num (r : (List UInt8)) : List D := [cS.enc r]
def m81 : MC := .seq (.reg [⟨some 2, .asg (.c (.str [])), none⟩] [0])
  (.seq (.kp [0] (.seq (.reg [⟨some 3, .mv (.t 0), none⟩,
    ⟨some 4, .bin .lss (.t 3) (.c (.int .i64 10)), none⟩] [0, 4])
  (.cond (.t 4) (.seq (.reg [⟨some 5, .mv (.t 0), none⟩,
    ⟨some 6, .bin .add (.c (.int .i64 48)) (.t 5), none⟩,
    ⟨some 7, .cvi .u8 (.t 6), none⟩,
    ⟨some 8, .bsl [(.t 7)] 1, none⟩,
    ⟨some 9, .b2s (.t 8), none⟩,
    ⟨some 2, .asg (.t 9), none⟩] [2])
  (.ret)) (.skip))))
  (.seq (.drw [⟨0, ⟨some 10, .mv (.t 0), none⟩, [11, 12, 13, 14, 15, 16, 17, 18, 19]⟩,
    ⟨1, ⟨some 11, .bin .quo (.t 10) (.c (.int .i64 10)), none⟩, [12, 13, 14, 15, 16, 17, 18, 19]⟩,
    ⟨2, ⟨some 12, .call 81 [(.t 11)], none⟩, [13, 14, 15, 16, 17, 18, 19]⟩,
    ⟨3, ⟨some 13, .mv (.t 0), none⟩, [10, 11, 12, 14, 15, 16, 17, 18, 19]⟩,
    ⟨4, ⟨some 14, .bin .rem (.t 13) (.c (.int .i64 10)), none⟩, [10, 11, 12, 15, 16, 17, 18, 19]⟩,
    ⟨5, ⟨some 15, .bin .add (.c (.int .i64 48)) (.t 14), none⟩, [10, 11, 12, 16, 17, 18, 19]⟩,
    ⟨6, ⟨some 16, .cvi .u8 (.t 15), none⟩, [10, 11, 12, 17, 18, 19]⟩,
    ⟨7, ⟨some 17, .bsl [(.t 16)] 1, none⟩, [10, 11, 12, 18, 19]⟩,
    ⟨8, ⟨some 18, .b2s (.t 17), none⟩, [10, 11, 12, 19]⟩,
    ⟨9, ⟨some 19, .bin .add (.t 12) (.t 18), none⟩, []⟩]
    [(10, ⟨some 2, .asg (.t 19), none⟩)] [2])
  (.ret)))
theorem con_spec_l1Num_B {self : Int → Option (List UInt8)} (hself : ∀ {v : Int} {r : (List UInt8)}, self v = some r → Con Tryd.prog 81 [cI.enc v] [] (rs_spec_l1Num r)) {v0 : Int} {r : (List UInt8)} (h : sh_spec_l1Num_B self v0 = some r) : Con Tryd.prog 81 [cI.enc v0] [] (rs_spec_l1Num r) := by
  delta sh_spec_l1Num_B at h
  refine top (out := none) (f := Tryd.f81) (m := m81) (rs := [.t 2]) (by kernel_rfl) rfl (by kernel_rfl) (by kernel_rfl) (by kernel_rfl) (by kernel_rfl) (by kernel_rfl) ?_
  exact
   ini [(0, .d (cI.enc v0))] rfl <| wpC_seq <| reg_s <| x_asg (sc cS ([] : List UInt8) rfl) <| seqN [(0, .d (cI.enc v0))] (by kernel_rfl) <|
    xn <| wpC_seq <| wpC_kp <| wpC_seq <| reg_s <| st rfl <| mvd rfl rfl <| st rfl <| b_lss (k := .i64) rfl rfl <| seqN [(0, .d (cI.enc v0)), (4, .d (cB.enc (decide (v0 < (10 : Int)))))] (by kernel_rfl) <|
    xn <| cnd rfl h (fun b10 h => wpC_seq <| reg_s <| st rfl <| mvd rfl rfl <| ckI_k h fun i15 h => st rfl <| b_add (k := .i64) rfl rfl i15 <| ckU_k h fun i16 h => st rfl <| o_cvi (k := .i64) (k' := .u8) rfl i16 <| x_bsl cU [((48 : Int) + v0)] (t1 (ss rfl rfl) rfl t0) rfl rfl <| ck_k h fun i17 h => st rfl <| o_b2s rfl rfl i17 <| x_asg (ss rfl rfl) <| seqN [(2, .d (cS.enc (bytesOf [((48 : Int) + v0)])))] (by kernel_rfl) <|
    xn <| wpC_ret <| rt <| rt <| re <| fin h (r1 (ss rfl rfl) <| r0) rfl)
    (fun b10 h => wpC_skip <| kpN [(0, .d (cI.enc v0))] (by kernel_rfl) <| xn <| wpC_seq <| drw_s <| pst rfl <| mvd rfl rfl ⟨rfl, ck_kp h fun i29 h => ckI_kp h fun i30 h => pst rfl <| b_quo (k := .i64) rfl rfl i29 i30 ⟨rfl, bndp h fun x31 e32 h => pst rfl <| o_call (a1 (c := cI) tK rfl a0) (hself e32) (.inl (so1 sS so0)) ⟨rfl, pst rfl <| mvd rfl rfl ⟨rfl, ck_kp h fun i33 h => pst rfl <| b_rem (k := .i64) rfl rfl i33 ⟨rfl, ckI_kp h fun i34 h => pst rfl <| b_add (k := .i64) rfl rfl i34 ⟨rfl, ckU_kp h fun i35 h => pst rfl <| o_cvi (k := .i64) (k' := .u8) rfl i35 ⟨rfl, pst rfl <| p_bsl cU [((48 : Int) + (v0.tmod (10 : Int)))] (e1 rfl rfl rfl e0) rfl rfl ⟨rfl, ck_kp h fun i36 h => pst rfl <| o_b2s rfl rfl i36 ⟨rfl, lnO_kp h fun l38 h => pst rfl <| b_cat rfl rfl l38 ⟨rfl, preN <| x_asg (ss rfl rfl) <| seqN [(2, .d (cS.enc (x31 ++ (bytesOf [((48 : Int) + (v0.tmod (10 : Int)))]))))] (by kernel_rfl) <|
    xn <| wpC_ret <| re <| fin h (r1 (ss rfl rfl) <| r0) rfl⟩⟩⟩⟩⟩⟩⟩⟩⟩⟩)
theorem con_spec_l1Num {v0 : Int} {r : (List UInt8)} (h : sh_spec_l1Num v0 = some r) : Con Tryd.prog 81 [cI.enc v0] [] (rs_spec_l1Num r) := by
  have key : ∀ (n : Nat) {v : Int} {r : (List UInt8)}, loopF sh_spec_l1Num_B n v = some r → Con Tryd.prog 81 [cI.enc v] [] (rs_spec_l1Num r) := by
    intro n
    induction n with
    | zero => intro v r h; cases h
    | succ n ih => intro v r h; exact con_spec_l1Num_B ih h
  exact key _ h

def rs_spec_eText (r : (List UInt8)) : List D := [cS.enc r]
def m68 : MC := .seq (.reg [⟨some 3, .box (.t 1), none⟩,
    ⟨some 4, .asg (.c (.str [])), none⟩] [0, 3])
  (.seq (.reg [⟨some 5, .asg (.c (.str [])), none⟩] [0, 3, 5])
  (.seq (.kp [5] (.seq (.reg [⟨some 10, .mv (.t 0), none⟩,
    ⟨some 11, .ld 3 1 true, none⟩,
    ⟨some 12, .call 88 [(.t 10), (.t 11)], none⟩,
    ⟨some 13, .len false (.t 12), none⟩,
    ⟨some 14, .mv (.c (.int .i64 0)), none⟩] [0, 3, 5, 12, 13, 14])
  (.blk 0 (.loop (.seq (.reg [⟨some 15, .bin .lss (.t 14) (.t 13), none⟩] [0, 3, 5, 12, 13, 14, 15])
  (.seq (.kp [0, 3, 5, 12, 13, 14] (.cond (.t 15) (.skip) (.exit 0)))
  (.seq (.kp [0, 3, 5, 12, 13, 14] (.blk 1 (.seq (.reg [⟨some 16, .ia 12 (.t 14) 1, none⟩,
    ⟨some 17, .ld 16 1 false, none⟩,
    ⟨some 7, .asg (.t 17), none⟩] [0, 3, 5, 7, 12, 13, 14])
  (.seq (.kp [0, 3, 5, 7, 12, 13, 14] (.seq (.reg [⟨some 18, .mv (.t 5), none⟩,
    ⟨some 19, .bin .neq (.t 18) (.c (.str [])), none⟩] [0, 3, 5, 7, 12, 13, 14, 19])
  (.cond (.t 19) (.reg [⟨some 20, .mv (.t 5), none⟩,
    ⟨some 21, .bin .add (.t 20) (.c (.str [32])), none⟩,
    ⟨some 5, .asg (.t 21), none⟩] [0, 3, 5, 7, 12, 13, 14]) (.skip))))
  (.seq (.reg [⟨some 22, .mv (.t 5), none⟩,
    ⟨some 23, .mv (.t 0), none⟩,
    ⟨some 24, .mv (.t 7), none⟩,
    ⟨some 25, .ia 23 (.t 24) 2, none⟩,
    ⟨some 26, .fa 25 0 0, none⟩,
    ⟨some 27, .ld 26 1 false, none⟩,
    ⟨some 28, .bin .add (.t 27) (.c (.str [61])), none⟩,
    ⟨some 29, .bin .add (.t 22) (.t 28), none⟩,
    ⟨some 5, .asg (.t 29), none⟩] [0, 3, 5, 7, 12, 13, 14])
  (.seq (.reg [⟨some 30, .fa 3 0 0, none⟩,
    ⟨some 31, .ld 30 1 false, none⟩,
    ⟨some 32, .mv (.t 7), none⟩,
    ⟨some 33, .ia 31 (.t 32) 1, none⟩,
    ⟨some 34, .ld 33 1 false, none⟩,
    ⟨some 35, .call 89 [(.t 34)], none⟩,
    ⟨some 36, .len false (.t 35), none⟩,
    ⟨some 37, .mv (.c (.int .i64 0)), none⟩] [0, 3, 5, 12, 13, 14, 35, 36, 37])
  (.blk 2 (.loop (.seq (.reg [⟨some 38, .bin .lss (.t 37) (.t 36), none⟩] [0, 3, 5, 12, 13, 14, 35, 36, 37, 38])
  (.seq (.kp [0, 3, 5, 12, 13, 14, 35, 36, 37] (.cond (.t 38) (.skip) (.exit 2)))
  (.seq (.kp [0, 3, 5, 12, 13, 14, 35, 36, 37] (.blk 3 (.seq (.reg [⟨some 39, .mv (.t 37), none⟩,
    ⟨some 40, .ia 35 (.t 37) 1, none⟩,
    ⟨some 41, .ld 40 1 false, none⟩,
    ⟨some 8, .asg (.t 39), none⟩,
    ⟨some 9, .asg (.t 41), none⟩] [0, 3, 5, 8, 9, 12, 13, 14, 35, 36, 37])
  (.seq (.kp [0, 3, 5, 9, 12, 13, 14, 35, 36, 37] (.seq (.reg [⟨some 42, .mv (.t 8), none⟩,
    ⟨some 43, .bin .gtr (.t 42) (.c (.int .i64 0)), none⟩] [0, 3, 5, 9, 12, 13, 14, 35, 36, 37, 43])
  (.cond (.t 43) (.reg [⟨some 44, .mv (.t 5), none⟩,
    ⟨some 45, .bin .add (.t 44) (.c (.str [44])), none⟩,
    ⟨some 5, .asg (.t 45), none⟩] [0, 3, 5, 9, 12, 13, 14, 35, 36, 37]) (.skip))))
  (.reg [⟨some 46, .mv (.t 5), none⟩,
    ⟨some 47, .mv (.t 9), none⟩,
    ⟨some 48, .call 81 [(.t 47)], none⟩,
    ⟨some 49, .bin .add (.t 46) (.t 48), none⟩,
    ⟨some 5, .asg (.t 49), none⟩] [0, 3, 5, 12, 13, 14, 35, 36, 37])))))
  (.reg [⟨some 50, .bin .add (.t 37) (.c (.int .i64 1)), none⟩,
    ⟨some 37, .mv (.t 50), none⟩] [0, 3, 5, 12, 13, 14, 35, 36, 37]))))))))))))
  (.reg [⟨some 51, .bin .add (.t 14) (.c (.int .i64 1)), none⟩,
    ⟨some 14, .mv (.t 51), none⟩] [0, 3, 5, 12, 13, 14]))))))))
  (.seq (.kp [5] (.seq (.reg [⟨some 52, .mv (.t 5), none⟩,
    ⟨some 53, .bin .eql (.t 52) (.c (.str [])), none⟩] [5, 53])
  (.cond (.t 53) (.seq (.reg [⟨some 4, .asg (.c (.str [97, 108, 108])), none⟩] [4])
  (.ret)) (.skip))))
  (.seq (.reg [⟨some 54, .mv (.t 5), none⟩,
    ⟨some 4, .asg (.t 54), none⟩] [4])
  (.ret)))))
theorem con_spec_eText {v0 : (List XVariable)} {v1 : XEdit} {r : (List UInt8)} (h : sh_spec_eText v0 v1 = some r) : Con Tryd.prog 68 [(cLs (cXVariable cS cI) rfl).enc v0, (cXEdit (cLs cI rfl)).enc v1] [] (rs_spec_eText r) := by
  delta sh_spec_eText at h
  refine top (out := none) (f := Tryd.f68) (m := m68) (rs := [.t 4]) (by kernel_rfl) rfl (by kernel_rfl) (by kernel_rfl) (by kernel_rfl) (by kernel_rfl) (by kernel_rfl) ?_
  exact
   ini [(0, .d ((cLs (cXVariable cS cI) rfl).enc v0)), (1, .d ((cXEdit (cLs cI rfl)).enc v1))] rfl <| wpC_seq <| reg_s <| x_box (ss rfl rfl) <| x_asg (sc cS ([] : List UInt8) rfl) <| seqN [(0, .d ((cLs (cXVariable cS cI) rfl).enc v0)), (3, .box ((cXEdit (cLs cI rfl)).enc v1))] (by kernel_rfl) <|
    xn <| wpC_seq <| reg_s <| x_asg (sc cS ([] : List UInt8) rfl) <| seqN [(0, .d ((cLs (cXVariable cS cI) rfl).enc v0)), (3, .box ((cXEdit (cLs cI rfl)).enc v1)), (5, .d (cS.enc ([] : List UInt8)))] (by kernel_rfl) <|
    xn <| wpC_seq <| wpC_kp <| wpC_seq <| reg_s <| st rfl <| mvd rfl rfl <| st rfl <| ldb rfl rfl rfl rfl <| bnd h fun x558 e559 h => st rfl <| o_call (a1 (c := (cLs (cXVariable cS cI) rfl)) (tLs (tXVariable tS tK)) rfl (a1 (c := (cXEdit (cLs cI rfl))) (tXEdit (tLs tK)) rfl a0)) (con_spec_eInvolved e559) (.inl (so1 (sLo sK) so0)) <| stw rfl <| leno rfl fun l560 => st rfl <| mvc cI (0 : Int) rfl <| seqN [(0, .d ((cLs (cXVariable cS cI) rfl).enc v0)), (3, .box ((cXEdit (cLs cI rfl)).enc v1)), (5, .d (cS.enc ([] : List UInt8))), (12, .d ((cLo cI).enc x558)), (13, .d (cI.enc (x558.length : Int))), (14, .d (cI.enc (0 : Int)))] (by kernel_rfl) <|
    xn <| wpC_blk <| lpR (fun (k562 : Nat) (s561 : (List UInt8)) => [(0, .d ((cLs (cXVariable cS cI) rfl).enc v0)), (3, .box ((cXEdit (cLs cI rfl)).enc v1)), (5, .d (cS.enc s561)), (12, .d ((cLo cI).enc x558)), (13, .d (cI.enc (x558.length : Int))), (14, .d (cI.enc (k562 : Int)))]) ([] : List UInt8) rfl h
    (fun G928 s561 h => wpC_seq <| reg_s <| st rfl <| b_lss (k := .i64) rfl rfl <| seqN [(0, .d ((cLs (cXVariable cS cI) rfl).enc v0)), (3, .box ((cXEdit (cLs cI rfl)).enc v1)), (5, .d (cS.enc s561)), (12, .d ((cLo cI).enc x558)), (13, .d (cI.enc (x558.length : Int))), (14, .d (cI.enc (x558.length : Int))), (15, .d (cB.enc (decide ((x558.length : Int) < (x558.length : Int)))))] (by kernel_rfl) <|
    xn <| wpC_seq <| wpC_kp <| cnd0 rfl (dlf _) <| wpC_exit <| xt <| xt <| xt <| xb <| kpN [(5, .d (cS.enc s561))] (by kernel_rfl) <| xn <| wpC_seq <| wpC_kp <| wpC_seq <| reg_s <| st rfl <| mvd rfl rfl <| st rfl <| b_seq rfl rfl <| seqN [(5, .d (cS.enc s561)), (53, .d (cB.enc (decide (s561 = ([] : List UInt8)))))] (by kernel_rfl) <|
    xn <| cnd rfl h (fun b930 h => wpC_seq <| reg_s <| x_asg (sc cS ([97, 108, 108] : List UInt8) rfl) <| seqN [(4, .d (cS.enc ([97, 108, 108] : List UInt8)))] (by kernel_rfl) <|
    xn <| wpC_ret <| rt <| rt <| re <| fin h (r1 (ss rfl rfl) <| r0) rfl)
    (fun b930 h => wpC_skip <| kpN [(5, .d (cS.enc s561))] (by kernel_rfl) <| xn <| wpC_seq <| reg_s <| st rfl <| mvd rfl rfl <| x_asg (ss rfl rfl) <| seqN [(4, .d (cS.enc s561))] (by kernel_rfl) <|
    xn <| wpC_ret <| re <| fin h (r1 (ss rfl rfl) <| r0) rfl))
    (fun G928 nx926 k562 s561 x563 hk564 hx565 hn927 h => wpC_seq <| reg_s <| st rfl <| b_lss (k := .i64) rfl rfl <| seqN [(0, .d ((cLs (cXVariable cS cI) rfl).enc v0)), (3, .box ((cXEdit (cLs cI rfl)).enc v1)), (5, .d (cS.enc s561)), (12, .d ((cLo cI).enc x558)), (13, .d (cI.enc (x558.length : Int))), (14, .d (cI.enc (k562 : Int))), (15, .d (cB.enc (decide ((k562 : Int) < (x558.length : Int)))))] (by kernel_rfl) <|
    xn <| wpC_seq <| wpC_kp <| cnd1 rfl (dlt hk564) <| wpC_skip <| kpN [(0, .d ((cLs (cXVariable cS cI) rfl).enc v0)), (3, .box ((cXEdit (cLs cI rfl)).enc v1)), (5, .d (cS.enc s561)), (12, .d ((cLo cI).enc x558)), (13, .d (cI.enc (x558.length : Int))), (14, .d (cI.enc (k562 : Int)))] (by kernel_rfl) <| xn <| wpC_seq <| wpC_kp <| wpC_blk <| wpC_seq <| reg_s <| st rfl <| iao rfl rfl (Int.natCast_nonneg _) hx565 rfl <| st rfl <| lda rfl rfl (Gt.idx hx565 Gt.nil) rfl rfl rfl <| x_asg (ss rfl rfl) <| seqN [(0, .d ((cLs (cXVariable cS cI) rfl).enc v0)), (3, .box ((cXEdit (cLs cI rfl)).enc v1)), (5, .d (cS.enc s561)), (7, .d (cI.enc x563)), (12, .d ((cLo cI).enc x558)), (13, .d (cI.enc (x558.length : Int))), (14, .d (cI.enc (k562 : Int)))] (by kernel_rfl) <|
    xn <| wpC_seq <| jw (fun (s1023 : (List UInt8)) => [(0, .d ((cLs (cXVariable cS cI) rfl).enc v0)), (3, .box ((cXEdit (cLs cI rfl)).enc v1)), (5, .d (cS.enc s1023)), (7, .d (cI.enc x563)), (12, .d ((cLo cI).enc x558)), (13, .d (cI.enc (x558.length : Int))), (14, .d (cI.enc (k562 : Int)))]) h (fun s1023 h => xn <| wpC_seq <| reg_s <| st rfl <| mvd rfl rfl <| st rfl <| mvd rfl rfl <| st rfl <| mvd rfl rfl <| getO_k h fun x1030 i1031 g1032 h => st rfl <| ias rfl rfl i1031 g1032 rfl <| st rfl <| fai rfl rfl rfl rfl <| st rfl <| ldi rfl rfl rfl rfl <| lnO_k h fun l1033 h => st rfl <| b_cat rfl rfl l1033 <| lnO_k h fun l1034 h => st rfl <| b_cat rfl rfl l1034 <| x_asg (ss rfl rfl) <| seqN [(0, .d ((cLs (cXVariable cS cI) rfl).enc v0)), (3, .box ((cXEdit (cLs cI rfl)).enc v1)), (5, .d (cS.enc (s1023 ++ (x1030.Name ++ ([61] : List UInt8))))), (7, .d (cI.enc x563)), (12, .d ((cLo cI).enc x558)), (13, .d (cI.enc (x558.length : Int))), (14, .d (cI.enc (k562 : Int)))] (by kernel_rfl) <|
    xn <| wpC_seq <| reg_s <| st rfl <| fab rfl rfl rfl rfl <| st rfl <| lda rfl rfl rfl rfl rfl rfl <| st rfl <| mvd rfl rfl <| getO_k h fun x1041 i1042 g1043 h => st rfl <| ias rfl rfl i1042 g1043 rfl <| st rfl <| ldi rfl rfl rfl rfl <| bnd h fun x1044 e1045 h => st rfl <| o_call (a1 (c := cI) tK rfl a0) (con_spec_eLevels e1045) (.inl (so1 (sLo sK) so0)) <| stw rfl <| leno rfl fun l1046 => st rfl <| mvc cI (0 : Int) rfl <| seqN [(0, .d ((cLs (cXVariable cS cI) rfl).enc v0)), (3, .box ((cXEdit (cLs cI rfl)).enc v1)), (5, .d (cS.enc (s1023 ++ (x1030.Name ++ ([61] : List UInt8))))), (12, .d ((cLo cI).enc x558)), (13, .d (cI.enc (x558.length : Int))), (14, .d (cI.enc (k562 : Int))), (35, .d ((cLo cI).enc x1044)), (36, .d (cI.enc (x1044.length : Int))), (37, .d (cI.enc (0 : Int)))] (by kernel_rfl) <|
    xn <| wpC_blk <| lpR (fun (k1048 : Nat) (s1047 : (List UInt8)) => [(0, .d ((cLs (cXVariable cS cI) rfl).enc v0)), (3, .box ((cXEdit (cLs cI rfl)).enc v1)), (5, .d (cS.enc s1047)), (12, .d ((cLo cI).enc x558)), (13, .d (cI.enc (x558.length : Int))), (14, .d (cI.enc (k562 : Int))), (35, .d ((cLo cI).enc x1044)), (36, .d (cI.enc (x1044.length : Int))), (37, .d (cI.enc (k1048 : Int)))]) (s1023 ++ (x1030.Name ++ ([61] : List UInt8))) rfl h
    (fun G1090 s1047 h => wpC_seq <| reg_s <| st rfl <| b_lss (k := .i64) rfl rfl <| seqN [(0, .d ((cLs (cXVariable cS cI) rfl).enc v0)), (3, .box ((cXEdit (cLs cI rfl)).enc v1)), (5, .d (cS.enc s1047)), (12, .d ((cLo cI).enc x558)), (13, .d (cI.enc (x558.length : Int))), (14, .d (cI.enc (k562 : Int))), (35, .d ((cLo cI).enc x1044)), (36, .d (cI.enc (x1044.length : Int))), (37, .d (cI.enc (x1044.length : Int))), (38, .d (cB.enc (decide ((x1044.length : Int) < (x1044.length : Int)))))] (by kernel_rfl) <|
    xn <| wpC_seq <| wpC_kp <| cnd0 rfl (dlf _) <| wpC_exit <| xt <| xt <| xt <| xb <| xbb <| kpN [(0, .d ((cLs (cXVariable cS cI) rfl).enc v0)), (3, .box ((cXEdit (cLs cI rfl)).enc v1)), (5, .d (cS.enc s1047)), (12, .d ((cLo cI).enc x558)), (13, .d (cI.enc (x558.length : Int))), (14, .d (cI.enc (k562 : Int)))] (by kernel_rfl) <| xn <| reg_s <| st rfl <| b_inc rfl rfl l560 hk564 <| st rfl <| mvd rfl rfl <| seqN [(0, .d ((cLs (cXVariable cS cI) rfl).enc v0)), (3, .box ((cXEdit (cLs cI rfl)).enc v1)), (5, .d (cS.enc s1047)), (12, .d ((cLo cI).enc x558)), (13, .d (cI.enc (x558.length : Int))), (14, .d (cI.enc ((k562 + 1 : Nat) : Int)))] (by kernel_rfl) <|
    xn <| hn927 s1047 h)
    (fun G1090 nx1088 k1048 s1047 x1049 hk1050 hx1051 hn1089 h => wpC_seq <| reg_s <| st rfl <| b_lss (k := .i64) rfl rfl <| seqN [(0, .d ((cLs (cXVariable cS cI) rfl).enc v0)), (3, .box ((cXEdit (cLs cI rfl)).enc v1)), (5, .d (cS.enc s1047)), (12, .d ((cLo cI).enc x558)), (13, .d (cI.enc (x558.length : Int))), (14, .d (cI.enc (k562 : Int))), (35, .d ((cLo cI).enc x1044)), (36, .d (cI.enc (x1044.length : Int))), (37, .d (cI.enc (k1048 : Int))), (38, .d (cB.enc (decide ((k1048 : Int) < (x1044.length : Int)))))] (by kernel_rfl) <|
    xn <| wpC_seq <| wpC_kp <| cnd1 rfl (dlt hk1050) <| wpC_skip <| kpN [(0, .d ((cLs (cXVariable cS cI) rfl).enc v0)), (3, .box ((cXEdit (cLs cI rfl)).enc v1)), (5, .d (cS.enc s1047)), (12, .d ((cLo cI).enc x558)), (13, .d (cI.enc (x558.length : Int))), (14, .d (cI.enc (k562 : Int))), (35, .d ((cLo cI).enc x1044)), (36, .d (cI.enc (x1044.length : Int))), (37, .d (cI.enc (k1048 : Int)))] (by kernel_rfl) <| xn <| wpC_seq <| wpC_kp <| wpC_blk <| wpC_seq <| reg_s <| st rfl <| mvd rfl rfl <| st rfl <| iao rfl rfl (Int.natCast_nonneg _) hx1051 rfl <| st rfl <| lda rfl rfl (Gt.idx hx1051 Gt.nil) rfl rfl rfl <| x_asg (ss rfl rfl) <| x_asg (ss rfl rfl) <| seqN [(0, .d ((cLs (cXVariable cS cI) rfl).enc v0)), (3, .box ((cXEdit (cLs cI rfl)).enc v1)), (5, .d (cS.enc s1047)), (8, .d (cI.enc (k1048 : Int))), (9, .d (cI.enc x1049)), (12, .d ((cLo cI).enc x558)), (13, .d (cI.enc (x558.length : Int))), (14, .d (cI.enc (k562 : Int))), (35, .d ((cLo cI).enc x1044)), (36, .d (cI.enc (x1044.length : Int))), (37, .d (cI.enc (k1048 : Int)))] (by kernel_rfl) <|
    xn <| wpC_seq <| jw (fun (s1102 : (List UInt8)) => [(0, .d ((cLs (cXVariable cS cI) rfl).enc v0)), (3, .box ((cXEdit (cLs cI rfl)).enc v1)), (5, .d (cS.enc s1102)), (9, .d (cI.enc x1049)), (12, .d ((cLo cI).enc x558)), (13, .d (cI.enc (x558.length : Int))), (14, .d (cI.enc (k562 : Int))), (35, .d ((cLo cI).enc x1044)), (36, .d (cI.enc (x1044.length : Int))), (37, .d (cI.enc (k1048 : Int)))]) h (fun s1102 h => xn <| reg_s <| st rfl <| mvd rfl rfl <| st rfl <| mvd rfl rfl <| bnd h fun x1104 e1105 h => st rfl <| o_call (a1 (c := cI) tK rfl a0) (con_spec_l1Num e1105) (.inl (so1 sS so0)) <| lnO_k h fun l1106 h => st rfl <| b_cat rfl rfl l1106 <| x_asg (ss rfl rfl) <| seqN [(0, .d ((cLs (cXVariable cS cI) rfl).enc v0)), (3, .box ((cXEdit (cLs cI rfl)).enc v1)), (5, .d (cS.enc (s1102 ++ x1104))), (12, .d ((cLo cI).enc x558)), (13, .d (cI.enc (x558.length : Int))), (14, .d (cI.enc (k562 : Int))), (35, .d ((cLo cI).enc x1044)), (36, .d (cI.enc (x1044.length : Int))), (37, .d (cI.enc (k1048 : Int)))] (by kernel_rfl) <|
    xbb <| kpN [(0, .d ((cLs (cXVariable cS cI) rfl).enc v0)), (3, .box ((cXEdit (cLs cI rfl)).enc v1)), (5, .d (cS.enc (s1102 ++ x1104))), (12, .d ((cLo cI).enc x558)), (13, .d (cI.enc (x558.length : Int))), (14, .d (cI.enc (k562 : Int))), (35, .d ((cLo cI).enc x1044)), (36, .d (cI.enc (x1044.length : Int))), (37, .d (cI.enc (k1048 : Int)))] (by kernel_rfl) <| xn <| reg_s <| st rfl <| b_inc rfl rfl l1046 hk1050 <| st rfl <| mvd rfl rfl <| seqN [(0, .d ((cLs (cXVariable cS cI) rfl).enc v0)), (3, .box ((cXEdit (cLs cI rfl)).enc v1)), (5, .d (cS.enc (s1102 ++ x1104))), (12, .d ((cLo cI).enc x558)), (13, .d (cI.enc (x558.length : Int))), (14, .d (cI.enc (k562 : Int))), (35, .d ((cLo cI).enc x1044)), (36, .d (cI.enc (x1044.length : Int))), (37, .d (cI.enc ((k1048 + 1 : Nat) : Int)))] (by kernel_rfl) <|
    xn <| hn1089 (s1102 ++ x1104) h)
    fun s1102' q1103 h => wpC_kp <| wpC_seq <| reg_s <| st rfl <| mvd rfl rfl <| st rfl <| b_gtr (k := .i64) rfl rfl <| seqN [(0, .d ((cLs (cXVariable cS cI) rfl).enc v0)), (3, .box ((cXEdit (cLs cI rfl)).enc v1)), (5, .d (cS.enc s1047)), (9, .d (cI.enc x1049)), (12, .d ((cLo cI).enc x558)), (13, .d (cI.enc (x558.length : Int))), (14, .d (cI.enc (k562 : Int))), (35, .d ((cLo cI).enc x1044)), (36, .d (cI.enc (x1044.length : Int))), (37, .d (cI.enc (k1048 : Int))), (43, .d (cB.enc (decide ((0 : Int) < (k1048 : Int)))))] (by kernel_rfl) <|
    xn <| cnd rfl h (fun b1107 h => reg_s <| st rfl <| mvd rfl rfl <| lnO_k h fun l1108 h => st rfl <| b_cat rfl rfl l1108 <| x_asg (ss rfl rfl) <| seqN [(0, .d ((cLs (cXVariable cS cI) rfl).enc v0)), (3, .box ((cXEdit (cLs cI rfl)).enc v1)), (5, .d (cS.enc (s1047 ++ ([44] : List UInt8)))), (9, .d (cI.enc x1049)), (12, .d ((cLo cI).enc x558)), (13, .d (cI.enc (x558.length : Int))), (14, .d (cI.enc (k562 : Int))), (35, .d ((cLo cI).enc x1044)), (36, .d (cI.enc (x1044.length : Int))), (37, .d (cI.enc (k1048 : Int)))] (by kernel_rfl) <|
    kpN [(0, .d ((cLs (cXVariable cS cI) rfl).enc v0)), (3, .box ((cXEdit (cLs cI rfl)).enc v1)), (5, .d (cS.enc (s1047 ++ ([44] : List UInt8)))), (9, .d (cI.enc x1049)), (12, .d ((cLo cI).enc x558)), (13, .d (cI.enc (x558.length : Int))), (14, .d (cI.enc (k562 : Int))), (35, .d ((cLo cI).enc x1044)), (36, .d (cI.enc (x1044.length : Int))), (37, .d (cI.enc (k1048 : Int)))] (by kernel_rfl) <| lfn (S := (fun (s1102 : (List UInt8)) => [(0, .d ((cLs (cXVariable cS cI) rfl).enc v0)), (3, .box ((cXEdit (cLs cI rfl)).enc v1)), (5, .d (cS.enc s1102)), (9, .d (cI.enc x1049)), (12, .d ((cLo cI).enc x558)), (13, .d (cI.enc (x558.length : Int))), (14, .d (cI.enc (k562 : Int))), (35, .d ((cLo cI).enc x1044)), (36, .d (cI.enc (x1044.length : Int))), (37, .d (cI.enc (k1048 : Int)))])) h q1103 rfl)
    (fun b1107 h => wpC_skip <| kpN [(0, .d ((cLs (cXVariable cS cI) rfl).enc v0)), (3, .box ((cXEdit (cLs cI rfl)).enc v1)), (5, .d (cS.enc s1047)), (9, .d (cI.enc x1049)), (12, .d ((cLo cI).enc x558)), (13, .d (cI.enc (x558.length : Int))), (14, .d (cI.enc (k562 : Int))), (35, .d ((cLo cI).enc x1044)), (36, .d (cI.enc (x1044.length : Int))), (37, .d (cI.enc (k1048 : Int)))] (by kernel_rfl) <| lfn (S := (fun (s1102 : (List UInt8)) => [(0, .d ((cLs (cXVariable cS cI) rfl).enc v0)), (3, .box ((cXEdit (cLs cI rfl)).enc v1)), (5, .d (cS.enc s1102)), (9, .d (cI.enc x1049)), (12, .d ((cLo cI).enc x558)), (13, .d (cI.enc (x558.length : Int))), (14, .d (cI.enc (k562 : Int))), (35, .d ((cLo cI).enc x1044)), (36, .d (cI.enc (x1044.length : Int))), (37, .d (cI.enc (k1048 : Int)))])) h q1103 rfl)))
    fun s1023' q1024 h => wpC_kp <| wpC_seq <| reg_s <| st rfl <| mvd rfl rfl <| st rfl <| b_sne rfl rfl <| seqN [(0, .d ((cLs (cXVariable cS cI) rfl).enc v0)), (3, .box ((cXEdit (cLs cI rfl)).enc v1)), (5, .d (cS.enc s561)), (7, .d (cI.enc x563)), (12, .d ((cLo cI).enc x558)), (13, .d (cI.enc (x558.length : Int))), (14, .d (cI.enc (k562 : Int))), (19, .d (cB.enc (decide (s561 ≠ ([] : List UInt8)))))] (by kernel_rfl) <|
    xn <| cnd rfl h (fun b1109 h => reg_s <| st rfl <| mvd rfl rfl <| lnO_k h fun l1110 h => st rfl <| b_cat rfl rfl l1110 <| x_asg (ss rfl rfl) <| seqN [(0, .d ((cLs (cXVariable cS cI) rfl).enc v0)), (3, .box ((cXEdit (cLs cI rfl)).enc v1)), (5, .d (cS.enc (s561 ++ ([32] : List UInt8)))), (7, .d (cI.enc x563)), (12, .d ((cLo cI).enc x558)), (13, .d (cI.enc (x558.length : Int))), (14, .d (cI.enc (k562 : Int)))] (by kernel_rfl) <|
    kpN [(0, .d ((cLs (cXVariable cS cI) rfl).enc v0)), (3, .box ((cXEdit (cLs cI rfl)).enc v1)), (5, .d (cS.enc (s561 ++ ([32] : List UInt8)))), (7, .d (cI.enc x563)), (12, .d ((cLo cI).enc x558)), (13, .d (cI.enc (x558.length : Int))), (14, .d (cI.enc (k562 : Int)))] (by kernel_rfl) <| lfn (S := (fun (s1023 : (List UInt8)) => [(0, .d ((cLs (cXVariable cS cI) rfl).enc v0)), (3, .box ((cXEdit (cLs cI rfl)).enc v1)), (5, .d (cS.enc s1023)), (7, .d (cI.enc x563)), (12, .d ((cLo cI).enc x558)), (13, .d (cI.enc (x558.length : Int))), (14, .d (cI.enc (k562 : Int)))])) h q1024 rfl)
    (fun b1109 h => wpC_skip <| kpN [(0, .d ((cLs (cXVariable cS cI) rfl).enc v0)), (3, .box ((cXEdit (cLs cI rfl)).enc v1)), (5, .d (cS.enc s561)), (7, .d (cI.enc x563)), (12, .d ((cLo cI).enc x558)), (13, .d (cI.enc (x558.length : Int))), (14, .d (cI.enc (k562 : Int)))] (by kernel_rfl) <| lfn (S := (fun (s1023 : (List UInt8)) => [(0, .d ((cLs (cXVariable cS cI) rfl).enc v0)), (3, .box ((cXEdit (cLs cI rfl)).enc v1)), (5, .d (cS.enc s1023)), (7, .d (cI.enc x563)), (12, .d ((cLo cI).enc x558)), (13, .d (cI.enc (x558.length : Int))), (14, .d (cI.enc (k562 : Int)))])) h q1024 rfl))

def rs_spec_eParse (r : (XEdit × Bool)) : List D := [(cXEdit (cLo cI)).enc r.1, cB.enc r.2]
def m38 : MC := .seq (.reg [⟨some 4, .alloc (.agg [.slice true []]), none⟩,
    ⟨some 5, .asg (.c (.bool false)), none⟩] [0, 1, 4])
  (.seq (.reg [⟨some 15, .bld [.slice true []] [], none⟩,
    ⟨some 6, .alloc (.agg [.slice true []]), none⟩,
    ⟨none, .st 6 (.t 15) 1, none⟩] [0, 1, 4, 6])
  (.seq (.kp [0, 1, 4, 6] (.seq (.reg [⟨some 16, .mv (.t 0), none⟩,
    ⟨some 17, .len false (.t 16), none⟩,
    ⟨some 18, .mv (.c (.int .i64 0)), none⟩] [0, 1, 4, 6, 17, 18])
  (.blk 0 (.loop (.seq (.reg [⟨some 19, .bin .lss (.t 18) (.t 17), none⟩] [0, 1, 4, 6, 17, 18, 19])
  (.seq (.kp [0, 1, 4, 6, 17, 18] (.cond (.t 19) (.skip) (.exit 0)))
  (.seq (.kp [0, 1, 4, 6, 17, 18] (.blk 1 (.seq (.reg [⟨some 20, .mv (.t 18), none⟩,
    ⟨some 7, .asg (.t 20), none⟩] [0, 1, 4, 6, 7, 17, 18])
  (.drw [⟨0, ⟨some 21, .fa 6 0 0, none⟩, [22, 23, 24, 25, 26]⟩,
    ⟨1, ⟨some 22, .ld 21 1 false, none⟩, [23, 24, 25, 26]⟩,
    ⟨2, ⟨some 23, .mv (.t 0), none⟩, [21, 22, 24, 25, 26]⟩,
    ⟨3, ⟨some 24, .mv (.t 7), none⟩, [21, 22, 23, 25, 26]⟩,
    ⟨4, ⟨some 25, .call 64 [(.t 23), (.t 24)], none⟩, [21, 22, 26]⟩,
    ⟨5, ⟨some 26, .bsl [(.t 25)] 1, none⟩, [21, 22]⟩]
    [(6, ⟨some 27, .app (.t 22) (.t 26) 1, none⟩),
    (7, ⟨some 28, .fa 6 0 0, none⟩),
    (8, ⟨none, .st 28 (.t 27) 1, none⟩)] [0, 1, 4, 6, 17, 18]))))
  (.reg [⟨some 29, .bin .add (.t 18) (.c (.int .i64 1)), none⟩,
    ⟨some 18, .mv (.t 29), none⟩] [0, 1, 4, 6, 17, 18]))))))))
  (.seq (.kp [0, 1, 4, 6] (.seq (.reg [⟨some 30, .mv (.t 1), none⟩,
    ⟨some 31, .bin .neq (.t 30) (.c (.str [97, 108, 108])), none⟩] [0, 1, 4, 6, 31])
  (.cond (.t 31) (.seq (.reg [⟨some 32, .mv (.t 1), none⟩,
    ⟨some 33, .call 65 [(.t 32), (.c (.int .u8 32))], none⟩,
    ⟨some 34, .len false (.t 33), none⟩,
    ⟨some 35, .mv (.c (.int .i64 0)), none⟩] [0, 1, 4, 6, 33, 34, 35])
  (.blk 2 (.loop (.seq (.reg [⟨some 36, .bin .lss (.t 35) (.t 34), none⟩] [0, 1, 4, 6, 33, 34, 35, 36])
  (.seq (.kp [0, 1, 4, 6, 33, 34, 35] (.cond (.t 36) (.skip) (.exit 2)))
  (.seq (.kp [0, 1, 4, 6, 33, 34, 35] (.blk 3 (.seq (.reg [⟨some 37, .ia 33 (.t 35) 1, none⟩,
    ⟨some 38, .ld 37 1 false, none⟩,
    ⟨some 9, .asg (.t 38), none⟩] [0, 1, 4, 6, 9, 33, 34, 35])
  (.seq (.reg [⟨some 39, .mv (.t 9), none⟩,
    ⟨some 40, .call 65 [(.t 39), (.c (.int .u8 61))], none⟩,
    ⟨some 10, .asg (.t 40), none⟩] [0, 1, 4, 6, 10, 33, 34, 35])
  (.seq (.reg [⟨some 41, .mv (.t 0), none⟩,
    ⟨some 42, .mv (.t 10), none⟩,
    ⟨some 43, .ia 42 (.c (.int .i64 0)) 1, none⟩,
    ⟨some 44, .ld 43 1 false, none⟩,
    ⟨some 45, .call 63 [(.t 41), (.t 44)], none⟩,
    ⟨some 11, .asg (.t 45), none⟩] [0, 1, 4, 6, 10, 11, 33, 34, 35])
  (.seq (.kp [0, 1, 4, 6, 10, 11, 33, 34, 35] (.seq (.reg [⟨some 46, .mv (.t 10), none⟩,
    ⟨some 47, .len false (.t 46), none⟩,
    ⟨some 48, .bin .neq (.t 47) (.c (.int .i64 2)), none⟩,
    ⟨some 49, .mv (.t 48), none⟩,
    ⟨some 50, .mv (.t 11), some (49, false)⟩,
    ⟨some 51, .bin .lss (.t 50) (.c (.int .i64 0)), some (49, false)⟩,
    ⟨some 52, .pick (.t 49) (.c (.bool true)) (.t 51), none⟩] [0, 1, 4, 6, 10, 11, 33, 34, 35, 52])
  (.cond (.t 52) (.seq (.reg [⟨some 53, .bld [.slice true []] [], none⟩,
    ⟨none, .st 4 (.t 53) 1, none⟩,
    ⟨some 5, .asg (.c (.bool false)), none⟩] [4, 5])
  (.ret)) (.skip))))
  (.seq (.reg [⟨some 54, .fa 6 0 0, none⟩,
    ⟨some 55, .ld 54 1 false, none⟩,
    ⟨some 56, .mv (.t 11), none⟩,
    ⟨some 57, .ia 55 (.t 56) 1, none⟩,
    ⟨none, .st 57 (.c (.int .i64 0)) 1, none⟩] [0, 1, 4, 6, 10, 11, 33, 34, 35])
  (.seq (.reg [⟨some 58, .mv (.t 10), none⟩,
    ⟨some 59, .ia 58 (.c (.int .i64 1)) 1, none⟩,
    ⟨some 60, .ld 59 1 false, none⟩,
    ⟨some 61, .call 65 [(.t 60), (.c (.int .u8 44))], none⟩,
    ⟨some 62, .len false (.t 61), none⟩,
    ⟨some 63, .mv (.c (.int .i64 0)), none⟩] [0, 1, 4, 6, 11, 33, 34, 35, 61, 62, 63])
  (.blk 4 (.loop (.seq (.reg [⟨some 64, .bin .lss (.t 63) (.t 62), none⟩] [0, 1, 4, 6, 11, 33, 34, 35, 61, 62, 63, 64])
  (.seq (.kp [0, 1, 4, 6, 11, 33, 34, 35, 61, 62, 63] (.cond (.t 64) (.skip) (.exit 4)))
  (.seq (.kp [0, 1, 4, 6, 11, 33, 34, 35, 61, 62, 63] (.blk 5 (.seq (.reg [⟨some 65, .ia 61 (.t 63) 1, none⟩,
    ⟨some 66, .ld 65 1 false, none⟩,
    ⟨some 13, .asg (.t 66), none⟩] [0, 1, 4, 6, 11, 13, 33, 34, 35, 61, 62, 63])
  (.seq (.reg [⟨some 67, .mv (.t 13), none⟩,
    ⟨some 68, .call 66 [(.t 67)], none⟩,
    ⟨some 14, .asg (.t 68), none⟩] [0, 1, 4, 6, 11, 14, 33, 34, 35, 61, 62, 63])
  (.seq (.kp [0, 1, 4, 6, 11, 14, 33, 34, 35, 61, 62, 63] (.seq (.reg [⟨some 69, .mv (.t 14), none⟩,
    ⟨some 70, .mv (.t 0), none⟩,
    ⟨some 71, .mv (.t 11), none⟩,
    ⟨some 72, .ia 70 (.t 71) 2, none⟩,
    ⟨some 73, .fa 72 1 1, none⟩,
    ⟨some 74, .ld 73 1 false, none⟩,
    ⟨some 75, .bin .sub (.t 74) (.c (.int .i64 1)), none⟩,
    ⟨some 76, .call 61 [(.t 69), (.c (.int .i64 0)), (.t 75)], none⟩,
    ⟨some 77, .nt (.t 76), none⟩] [0, 1, 4, 6, 11, 14, 33, 34, 35, 61, 62, 63, 77])
  (.cond (.t 77) (.seq (.reg [⟨some 78, .bld [.slice true []] [], none⟩,
    ⟨none, .st 4 (.t 78) 1, none⟩,
    ⟨some 5, .asg (.c (.bool false)), none⟩] [4, 5])
  (.ret)) (.skip))))
  (.reg [⟨some 79, .fa 6 0 0, none⟩,
    ⟨some 80, .ld 79 1 false, none⟩,
    ⟨some 81, .mv (.t 11), none⟩,
    ⟨some 82, .ia 80 (.t 81) 1, none⟩,
    ⟨some 83, .ld 82 1 false, none⟩,
    ⟨some 84, .mv (.t 14), none⟩,
    ⟨some 85, .cvi .u64 (.t 84), none⟩,
    ⟨some 86, .bin .shl (.c (.int .i64 1)) (.t 85), none⟩,
    ⟨some 87, .bin .or (.t 83) (.t 86), none⟩,
    ⟨some 88, .ia 80 (.t 81) 1, none⟩,
    ⟨none, .st 88 (.t 87) 1, none⟩] [0, 1, 4, 6, 11, 33, 34, 35, 61, 62, 63]))))))
  (.reg [⟨some 89, .bin .add (.t 63) (.c (.int .i64 1)), none⟩,
    ⟨some 63, .mv (.t 89), none⟩] [0, 1, 4, 6, 11, 33, 34, 35, 61, 62, 63]))))))))))))))
  (.reg [⟨some 90, .bin .add (.t 35) (.c (.int .i64 1)), none⟩,
    ⟨some 35, .mv (.t 90), none⟩] [0, 1, 4, 6, 33, 34, 35]))))))) (.skip))))
  (.seq (.kp [4, 6] (.seq (.reg [⟨some 91, .mv (.t 0), none⟩,
    ⟨some 92, .ld 6 1 true, none⟩,
    ⟨some 93, .call 67 [(.t 91), (.t 92)], none⟩,
    ⟨some 94, .nt (.t 93), none⟩,
    ⟨some 95, .mv (.t 94), none⟩,
    ⟨some 96, .mv (.t 0), some (95, false)⟩,
    ⟨some 97, .ld 6 1 true, some (95, false)⟩,
    ⟨some 98, .call 68 [(.t 96), (.t 97)], some (95, false)⟩,
    ⟨some 99, .mv (.t 1), some (95, false)⟩,
    ⟨some 100, .bin .neq (.t 98) (.t 99), some (95, false)⟩,
    ⟨some 101, .pick (.t 95) (.c (.bool true)) (.t 100), none⟩] [4, 6, 101])
  (.cond (.t 101) (.seq (.reg [⟨some 102, .bld [.slice true []] [], none⟩,
    ⟨none, .st 4 (.t 102) 1, none⟩,
    ⟨some 5, .asg (.c (.bool false)), none⟩] [4, 5])
  (.ret)) (.skip))))
  (.seq (.reg [⟨some 103, .ld 6 1 true, none⟩,
    ⟨none, .st 4 (.t 103) 1, none⟩,
    ⟨some 5, .asg (.c (.bool true)), none⟩] [4, 5])
  (.ret))))))
theorem con_spec_eParse {v0 : (List XVariable)} {v1 : (List UInt8)} {r : (XEdit × Bool)} (h : sh_spec_eParse v0 v1 = some r) : Con Tryd.prog 38 [(cLs (cXVariable cS cI) rfl).enc v0, cS.enc v1] [] (rs_spec_eParse r) := by
  delta sh_spec_eParse at h
  refine top (out := none) (f := Tryd.f38) (m := m38) (rs := [.c 4 1 true, .t 5]) (by kernel_rfl) rfl (by kernel_rfl) (by kernel_rfl) (by kernel_rfl) (by kernel_rfl) (by kernel_rfl) ?_
  exact
   ini [(0, .d ((cLs (cXVariable cS cI) rfl).enc v0)), (1, .d (cS.enc v1))] rfl <| wpC_seq <| reg_s <| x_all (cXEdit (cLo cI)) (⟨([] : List Int)⟩ : XEdit) rfl <| x_asg (sc cB false rfl) <| seqN [(0, .d ((cLs (cXVariable cS cI) rfl).enc v0)), (1, .d (cS.enc v1)), (4, .box ((cXEdit (cLo cI)).enc (⟨([] : List Int)⟩ : XEdit)))] (by kernel_rfl) <|
    xn <| wpC_seq <| reg_s <| x_bld ((cXEdit (cLo cI)).enc (⟨([] : List Int)⟩ : XEdit)) t0 rfl rfl <| x_all (cXEdit (cLo cI)) (⟨([] : List Int)⟩ : XEdit) rfl <| x_stb (so rfl rfl) rfl (Cd.h_sz _ _) rfl <| seqN [(0, .d ((cLs (cXVariable cS cI) rfl).enc v0)), (1, .d (cS.enc v1)), (4, .box ((cXEdit (cLo cI)).enc (⟨([] : List Int)⟩ : XEdit))), (6, .box ((cXEdit (cLo cI)).enc (⟨([] : List Int)⟩ : XEdit)))] (by kernel_rfl) <|
    xn <| wpC_seq <| wpC_kp <| wpC_seq <| reg_s <| st rfl <| mvd rfl rfl <| stw rfl <| lens rfl fun l30 => st rfl <| mvc cI (0 : Int) rfl <| seqN [(0, .d ((cLs (cXVariable cS cI) rfl).enc v0)), (1, .d (cS.enc v1)), (4, .box ((cXEdit (cLo cI)).enc (⟨([] : List Int)⟩ : XEdit))), (6, .box ((cXEdit (cLo cI)).enc (⟨([] : List Int)⟩ : XEdit))), (17, .d (cI.enc (v0.length : Int))), (18, .d (cI.enc (0 : Int)))] (by kernel_rfl) <|
    xn <| wpC_blk <| lpR (fun (k32 : Nat) (s31 : XEdit) => [(0, .d ((cLs (cXVariable cS cI) rfl).enc v0)), (1, .d (cS.enc v1)), (4, .box ((cXEdit (cLo cI)).enc (⟨([] : List Int)⟩ : XEdit))), (6, .box ((cXEdit (cLo cI)).enc s31)), (17, .d (cI.enc (v0.length : Int))), (18, .d (cI.enc (k32 : Int)))]) (⟨([] : List Int)⟩ : XEdit) rfl h
    (fun G50 s31 h => wpC_seq <| reg_s <| st rfl <| b_lss (k := .i64) rfl rfl <| seqN [(0, .d ((cLs (cXVariable cS cI) rfl).enc v0)), (1, .d (cS.enc v1)), (4, .box ((cXEdit (cLo cI)).enc (⟨([] : List Int)⟩ : XEdit))), (6, .box ((cXEdit (cLo cI)).enc s31)), (17, .d (cI.enc (v0.length : Int))), (18, .d (cI.enc (v0.length : Int))), (19, .d (cB.enc (decide ((v0.length : Int) < (v0.length : Int)))))] (by kernel_rfl) <|
    xn <| wpC_seq <| wpC_kp <| cnd0 rfl (dlf _) <| wpC_exit <| xt <| xt <| xt <| xb <| kpN [(0, .d ((cLs (cXVariable cS cI) rfl).enc v0)), (1, .d (cS.enc v1)), (4, .box ((cXEdit (cLo cI)).enc (⟨([] : List Int)⟩ : XEdit))), (6, .box ((cXEdit (cLo cI)).enc s31))] (by kernel_rfl) <| xn <| sqj (fun (s1806 : XEdit) => [(0, .d ((cLs (cXVariable cS cI) rfl).enc v0)), (1, .d (cS.enc v1)), (4, .box ((cXEdit (cLo cI)).enc (⟨([] : List Int)⟩ : XEdit))), (6, .box ((cXEdit (cLo cI)).enc s1806))]) h (fun s1806 h => wpC_seq <| wpC_kp <| wpC_seq <| reg_s <| st rfl <| mvd rfl rfl <| st rfl <| ldbo rfl rfl rfl rfl <| bnd h fun x1825 e1826 h => st rfl <| o_call (a1 (c := (cLs (cXVariable cS cI) rfl)) (tLs (tXVariable tS tK)) rfl (a1 (c := (cXEdit (cLo cI))) (tXEdit (tLo tK)) rfl a0)) (con_spec_eGood e1826) (.inl (so1 sB so0)) <| st rfl <| o_nt rfl <| st rfl <| mvd rfl rfl <| ite_k h (fun b1827 h => gf rfl b1827 <| gf rfl b1827 <| gf rfl b1827 <| gf rfl b1827 <| gf rfl b1827 <| st rfl <| pick1 rfl b1827 (cd := cB) (v := true) rfl rfl <| seqN [(4, .box ((cXEdit (cLo cI)).enc (⟨([] : List Int)⟩ : XEdit))), (6, .box ((cXEdit (cLo cI)).enc s1806)), (101, .d (cB.enc true))] (by kernel_rfl) <|
    xn <| cnd1 rfl rfl <| wpC_seq <| reg_s <| x_bld ((cXEdit (cLo cI)).enc (⟨([] : List Int)⟩ : XEdit)) t0 rfl rfl <| x_stb (so rfl rfl) rfl (Cd.h_sz _ _) rfl <| x_asg (sc cB false rfl) <| seqN [(4, .box ((cXEdit (cLo cI)).enc (⟨([] : List Int)⟩ : XEdit))), (5, .d (cB.enc false))] (by kernel_rfl) <|
    xn <| wpC_ret <| rt <| rt <| re <| fin h (r2 rfl rfl rfl <| r1 (ss rfl rfl) <| r0) rfl)
    (fun b1827 h => gt' rfl b1827 <| st rfl <| mvd rfl rfl <| gt' rfl b1827 <| st rfl <| ldbo rfl rfl rfl rfl <| gt' rfl b1827 <| bnd h fun x1828 e1829 h => st rfl <| o_call (a1 (c := (cLs (cXVariable cS cI) rfl)) (tLs (tXVariable tS tK)) rfl (a1 (c := (cXEdit (cLo cI))) (tXEdit (tLo tK)) rfl a0)) (con_spec_eText e1829) (.inl (so1 sS so0)) <| gt' rfl b1827 <| st rfl <| mvd rfl rfl <| gt' rfl b1827 <| st rfl <| b_sne rfl rfl <| st rfl <| pick0 rfl b1827 (cd := cB) (v := (decide (x1828 ≠ v1))) rfl rfl <| seqN [(4, .box ((cXEdit (cLo cI)).enc (⟨([] : List Int)⟩ : XEdit))), (6, .box ((cXEdit (cLo cI)).enc s1806)), (101, .d (cB.enc (decide (x1828 ≠ v1))))] (by kernel_rfl) <|
    xn <| cnd rfl h (fun b1830 h => wpC_seq <| reg_s <| x_bld ((cXEdit (cLo cI)).enc (⟨([] : List Int)⟩ : XEdit)) t0 rfl rfl <| x_stb (so rfl rfl) rfl (Cd.h_sz _ _) rfl <| x_asg (sc cB false rfl) <| seqN [(4, .box ((cXEdit (cLo cI)).enc (⟨([] : List Int)⟩ : XEdit))), (5, .d (cB.enc false))] (by kernel_rfl) <|
    xn <| wpC_ret <| rt <| rt <| re <| fin h (r2 rfl rfl rfl <| r1 (ss rfl rfl) <| r0) rfl)
    (fun b1830 h => wpC_skip <| kpN [(4, .box ((cXEdit (cLo cI)).enc (⟨([] : List Int)⟩ : XEdit))), (6, .box ((cXEdit (cLo cI)).enc s1806))] (by kernel_rfl) <| xn <| wpC_seq <| reg_s <| st rfl <| ldbo rfl rfl rfl rfl <| x_stb (sb rfl rfl) rfl (Cd.h_sz _ _) rfl <| x_asg (sc cB true rfl) <| seqN [(4, .box ((cXEdit (cLo cI)).enc s1806)), (5, .d (cB.enc true))] (by kernel_rfl) <|
    xn <| wpC_ret <| re <| fin h (r2 rfl rfl rfl <| r1 (ss rfl rfl) <| r0) rfl)))
    fun m1808 h => wpC_kp <| wpC_seq <| reg_s <| st rfl <| mvd rfl rfl <| st rfl <| b_sne rfl rfl <| seqN [(0, .d ((cLs (cXVariable cS cI) rfl).enc v0)), (1, .d (cS.enc v1)), (4, .box ((cXEdit (cLo cI)).enc (⟨([] : List Int)⟩ : XEdit))), (6, .box ((cXEdit (cLo cI)).enc s31)), (31, .d (cB.enc (decide (v1 ≠ ([97, 108, 108] : List UInt8)))))] (by kernel_rfl) <|
    xn <| cnd rfl h (fun b1831 h => wpC_seq <| reg_s <| st rfl <| mvd rfl rfl <| bnd h fun x1835 e1836 h => st rfl <| o_call (a1 (c := cS) tS rfl (a1 (c := cU) tK rfl a0)) (con_spec_l1Split e1836) (.inl (so1 (sLo sS) so0)) <| stw rfl <| leno rfl fun l1837 => st rfl <| mvc cI (0 : Int) rfl <| seqN [(0, .d ((cLs (cXVariable cS cI) rfl).enc v0)), (1, .d (cS.enc v1)), (4, .box ((cXEdit (cLo cI)).enc (⟨([] : List Int)⟩ : XEdit))), (6, .box ((cXEdit (cLo cI)).enc s31)), (33, .d ((cLo cS).enc x1835)), (34, .d (cI.enc (x1835.length : Int))), (35, .d (cI.enc (0 : Int)))] (by kernel_rfl) <|
    xn <| wpC_blk <| lpR (fun (k1839 : Nat) (s1838 : XEdit) => [(0, .d ((cLs (cXVariable cS cI) rfl).enc v0)), (1, .d (cS.enc v1)), (4, .box ((cXEdit (cLo cI)).enc (⟨([] : List Int)⟩ : XEdit))), (6, .box ((cXEdit (cLo cI)).enc s1838)), (33, .d ((cLo cS).enc x1835)), (34, .d (cI.enc (x1835.length : Int))), (35, .d (cI.enc (k1839 : Int)))]) s31 rfl h
    (fun G3005 s1838 h => wpC_seq <| reg_s <| st rfl <| b_lss (k := .i64) rfl rfl <| seqN [(0, .d ((cLs (cXVariable cS cI) rfl).enc v0)), (1, .d (cS.enc v1)), (4, .box ((cXEdit (cLo cI)).enc (⟨([] : List Int)⟩ : XEdit))), (6, .box ((cXEdit (cLo cI)).enc s1838)), (33, .d ((cLo cS).enc x1835)), (34, .d (cI.enc (x1835.length : Int))), (35, .d (cI.enc (x1835.length : Int))), (36, .d (cB.enc (decide ((x1835.length : Int) < (x1835.length : Int)))))] (by kernel_rfl) <|
    xn <| wpC_seq <| wpC_kp <| cnd0 rfl (dlf _) <| wpC_exit <| xt <| xt <| xt <| xb <| kpN [(0, .d ((cLs (cXVariable cS cI) rfl).enc v0)), (1, .d (cS.enc v1)), (4, .box ((cXEdit (cLo cI)).enc (⟨([] : List Int)⟩ : XEdit))), (6, .box ((cXEdit (cLo cI)).enc s1838))] (by kernel_rfl) <| m1808 s1838 h)
    (fun G3005 nx3003 k1839 s1838 x1840 hk1841 hx1842 hn3004 h => wpC_seq <| reg_s <| st rfl <| b_lss (k := .i64) rfl rfl <| seqN [(0, .d ((cLs (cXVariable cS cI) rfl).enc v0)), (1, .d (cS.enc v1)), (4, .box ((cXEdit (cLo cI)).enc (⟨([] : List Int)⟩ : XEdit))), (6, .box ((cXEdit (cLo cI)).enc s1838)), (33, .d ((cLo cS).enc x1835)), (34, .d (cI.enc (x1835.length : Int))), (35, .d (cI.enc (k1839 : Int))), (36, .d (cB.enc (decide ((k1839 : Int) < (x1835.length : Int)))))] (by kernel_rfl) <|
    xn <| wpC_seq <| wpC_kp <| cnd1 rfl (dlt hk1841) <| wpC_skip <| kpN [(0, .d ((cLs (cXVariable cS cI) rfl).enc v0)), (1, .d (cS.enc v1)), (4, .box ((cXEdit (cLo cI)).enc (⟨([] : List Int)⟩ : XEdit))), (6, .box ((cXEdit (cLo cI)).enc s1838)), (33, .d ((cLo cS).enc x1835)), (34, .d (cI.enc (x1835.length : Int))), (35, .d (cI.enc (k1839 : Int)))] (by kernel_rfl) <| xn <| wpC_seq <| wpC_kp <| wpC_blk <| wpC_seq <| reg_s <| st rfl <| iao rfl rfl (Int.natCast_nonneg _) hx1842 rfl <| st rfl <| lda rfl rfl (Gt.idx hx1842 Gt.nil) rfl rfl rfl <| x_asg (ss rfl rfl) <| seqN [(0, .d ((cLs (cXVariable cS cI) rfl).enc v0)), (1, .d (cS.enc v1)), (4, .box ((cXEdit (cLo cI)).enc (⟨([] : List Int)⟩ : XEdit))), (6, .box ((cXEdit (cLo cI)).enc s1838)), (9, .d (cS.enc x1840)), (33, .d ((cLo cS).enc x1835)), (34, .d (cI.enc (x1835.length : Int))), (35, .d (cI.enc (k1839 : Int)))] (by kernel_rfl) <|
    xn <| wpC_seq <| reg_s <| st rfl <| mvd rfl rfl <| bnd h fun x3298 e3299 h => st rfl <| o_call (a1 (c := cS) tS rfl (a1 (c := cU) tK rfl a0)) (con_spec_l1Split e3299) (.inl (so1 (sLo sS) so0)) <| x_asg (so rfl rfl) <| seqN [(0, .d ((cLs (cXVariable cS cI) rfl).enc v0)), (1, .d (cS.enc v1)), (4, .box ((cXEdit (cLo cI)).enc (⟨([] : List Int)⟩ : XEdit))), (6, .box ((cXEdit (cLo cI)).enc s1838)), (10, .d ((cLo cS).enc x3298)), (33, .d ((cLo cS).enc x1835)), (34, .d (cI.enc (x1835.length : Int))), (35, .d (cI.enc (k1839 : Int)))] (by kernel_rfl) <|
    xn <| wpC_seq <| reg_s <| st rfl <| mvd rfl rfl <| st rfl <| mvo rfl rfl <| getO_k h fun x3305 i3306 g3307 h => st rfl <| iar rfl rfl rfl rfl i3306 g3307 rfl <| st rfl <| lda rfl rfl (Gt.idx g3307 Gt.nil) rfl rfl rfl <| bnd h fun x3308 e3309 h => st rfl <| o_call (a1 (c := (cLs (cXVariable cS cI) rfl)) (tLs (tXVariable tS tK)) rfl (a1 (c := cS) tS rfl a0)) (con_spec_sFind e3309) (.inl (so1 sK so0)) <| x_asg (ss rfl rfl) <| seqN [(0, .d ((cLs (cXVariable cS cI) rfl).enc v0)), (1, .d (cS.enc v1)), (4, .box ((cXEdit (cLo cI)).enc (⟨([] : List Int)⟩ : XEdit))), (6, .box ((cXEdit (cLo cI)).enc s1838)), (10, .d ((cLo cS).enc x3298)), (11, .d (cI.enc x3308)), (33, .d ((cLo cS).enc x1835)), (34, .d (cI.enc (x1835.length : Int))), (35, .d (cI.enc (k1839 : Int)))] (by kernel_rfl) <|
    xn <| wpC_seq <| wpC_kp <| wpC_seq <| reg_s <| st rfl <| mvo rfl rfl <| stw rfl <| leno rfl fun l3317 => st rfl <| b_neq (k := .i64) rfl rfl <| st rfl <| mvd rfl rfl <| ite_k h (fun b3318 h => gf rfl b3318 <| gf rfl b3318 <| st rfl <| pick1 rfl b3318 (cd := cB) (v := true) rfl rfl <| seqN [(0, .d ((cLs (cXVariable cS cI) rfl).enc v0)), (1, .d (cS.enc v1)), (4, .box ((cXEdit (cLo cI)).enc (⟨([] : List Int)⟩ : XEdit))), (6, .box ((cXEdit (cLo cI)).enc s1838)), (10, .d ((cLo cS).enc x3298)), (11, .d (cI.enc x3308)), (33, .d ((cLo cS).enc x1835)), (34, .d (cI.enc (x1835.length : Int))), (35, .d (cI.enc (k1839 : Int))), (52, .d (cB.enc true))] (by kernel_rfl) <|
    xn <| cnd1 rfl rfl <| wpC_seq <| reg_s <| x_bld ((cXEdit (cLo cI)).enc (⟨([] : List Int)⟩ : XEdit)) t0 rfl rfl <| x_stb (so rfl rfl) rfl (Cd.h_sz _ _) rfl <| x_asg (sc cB false rfl) <| seqN [(4, .box ((cXEdit (cLo cI)).enc (⟨([] : List Int)⟩ : XEdit))), (5, .d (cB.enc false))] (by kernel_rfl) <|
    xn <| wpC_ret <| rt <| rt <| rb <| rt <| rt <| rt <| rb <| rt <| rt <| re <| fin h (r2 rfl rfl rfl <| r1 (ss rfl rfl) <| r0) rfl)
    (fun b3318 h => gt' rfl b3318 <| st rfl <| mvd rfl rfl <| gt' rfl b3318 <| st rfl <| b_lss (k := .i64) rfl rfl <| st rfl <| pick0 rfl b3318 (cd := cB) (v := (decide (x3308 < (0 : Int)))) rfl rfl <| seqN [(0, .d ((cLs (cXVariable cS cI) rfl).enc v0)), (1, .d (cS.enc v1)), (4, .box ((cXEdit (cLo cI)).enc (⟨([] : List Int)⟩ : XEdit))), (6, .box ((cXEdit (cLo cI)).enc s1838)), (10, .d ((cLo cS).enc x3298)), (11, .d (cI.enc x3308)), (33, .d ((cLo cS).enc x1835)), (34, .d (cI.enc (x1835.length : Int))), (35, .d (cI.enc (k1839 : Int))), (52, .d (cB.enc (decide (x3308 < (0 : Int)))))] (by kernel_rfl) <|
    xn <| cnd rfl h (fun b3319 h => wpC_seq <| reg_s <| x_bld ((cXEdit (cLo cI)).enc (⟨([] : List Int)⟩ : XEdit)) t0 rfl rfl <| x_stb (so rfl rfl) rfl (Cd.h_sz _ _) rfl <| x_asg (sc cB false rfl) <| seqN [(4, .box ((cXEdit (cLo cI)).enc (⟨([] : List Int)⟩ : XEdit))), (5, .d (cB.enc false))] (by kernel_rfl) <|
    xn <| wpC_ret <| rt <| rt <| rb <| rt <| rt <| rt <| rb <| rt <| rt <| re <| fin h (r2 rfl rfl rfl <| r1 (ss rfl rfl) <| r0) rfl)
    (fun b3319 h => wpC_skip <| kpN [(0, .d ((cLs (cXVariable cS cI) rfl).enc v0)), (1, .d (cS.enc v1)), (4, .box ((cXEdit (cLo cI)).enc (⟨([] : List Int)⟩ : XEdit))), (6, .box ((cXEdit (cLo cI)).enc s1838)), (10, .d ((cLo cS).enc x3298)), (11, .d (cI.enc x3308)), (33, .d ((cLo cS).enc x1835)), (34, .d (cI.enc (x1835.length : Int))), (35, .d (cI.enc (k1839 : Int)))] (by kernel_rfl) <| xn <| wpC_seq <| reg_s <| st rfl <| fab rfl rfl rfl rfl <| st rfl <| ldao rfl rfl rfl rfl rfl rfl <| st rfl <| mvd rfl rfl <| getO_k h fun x3323 i3324 g3325 h => st rfl <| iar rfl rfl rfl rfl i3324 g3325 rfl <| x_sta ((cXEdit (cLo cI)).enc (⟨(s1838.Sets.set (x3308).toNat (0 : Int))⟩ : XEdit)) (sc cI (0 : Int) rfl) rfl rfl (Ln.fld rfl rfl (Ln.idx g3325 Ln.nil) rfl) (Cd.h_sz cI _) rfl <| seqN [(0, .d ((cLs (cXVariable cS cI) rfl).enc v0)), (1, .d (cS.enc v1)), (4, .box ((cXEdit (cLo cI)).enc (⟨([] : List Int)⟩ : XEdit))), (6, .box ((cXEdit (cLo cI)).enc (⟨(s1838.Sets.set (x3308).toNat (0 : Int))⟩ : XEdit))), (10, .d ((cLo cS).enc x3298)), (11, .d (cI.enc x3308)), (33, .d ((cLo cS).enc x1835)), (34, .d (cI.enc (x1835.length : Int))), (35, .d (cI.enc (k1839 : Int)))] (by kernel_rfl) <|
    xn <| wpC_seq <| reg_s <| st rfl <| mvo rfl rfl <| getO_k h fun x3332 i3333 g3334 h => st rfl <| iar rfl rfl rfl rfl i3333 g3334 rfl <| st rfl <| lda rfl rfl (Gt.idx g3334 Gt.nil) rfl rfl rfl <| bnd h fun x3335 e3336 h => st rfl <| o_call (a1 (c := cS) tS rfl (a1 (c := cU) tK rfl a0)) (con_spec_l1Split e3336) (.inl (so1 (sLo sS) so0)) <| stw rfl <| leno rfl fun l3337 => st rfl <| mvc cI (0 : Int) rfl <| seqN [(0, .d ((cLs (cXVariable cS cI) rfl).enc v0)), (1, .d (cS.enc v1)), (4, .box ((cXEdit (cLo cI)).enc (⟨([] : List Int)⟩ : XEdit))), (6, .box ((cXEdit (cLo cI)).enc (⟨(s1838.Sets.set (x3308).toNat (0 : Int))⟩ : XEdit))), (11, .d (cI.enc x3308)), (33, .d ((cLo cS).enc x1835)), (34, .d (cI.enc (x1835.length : Int))), (35, .d (cI.enc (k1839 : Int))), (61, .d ((cLo cS).enc x3335)), (62, .d (cI.enc (x3335.length : Int))), (63, .d (cI.enc (0 : Int)))] (by kernel_rfl) <|
    xn <| wpC_blk <| lpR (fun (k3339 : Nat) (s3338 : XEdit) => [(0, .d ((cLs (cXVariable cS cI) rfl).enc v0)), (1, .d (cS.enc v1)), (4, .box ((cXEdit (cLo cI)).enc (⟨([] : List Int)⟩ : XEdit))), (6, .box ((cXEdit (cLo cI)).enc s3338)), (11, .d (cI.enc x3308)), (33, .d ((cLo cS).enc x1835)), (34, .d (cI.enc (x1835.length : Int))), (35, .d (cI.enc (k1839 : Int))), (61, .d ((cLo cS).enc x3335)), (62, .d (cI.enc (x3335.length : Int))), (63, .d (cI.enc (k3339 : Int)))]) (⟨(s1838.Sets.set (x3308).toNat (0 : Int))⟩ : XEdit) rfl h
    (fun G3505 s3338 h => wpC_seq <| reg_s <| st rfl <| b_lss (k := .i64) rfl rfl <| seqN [(0, .d ((cLs (cXVariable cS cI) rfl).enc v0)), (1, .d (cS.enc v1)), (4, .box ((cXEdit (cLo cI)).enc (⟨([] : List Int)⟩ : XEdit))), (6, .box ((cXEdit (cLo cI)).enc s3338)), (11, .d (cI.enc x3308)), (33, .d ((cLo cS).enc x1835)), (34, .d (cI.enc (x1835.length : Int))), (35, .d (cI.enc (k1839 : Int))), (61, .d ((cLo cS).enc x3335)), (62, .d (cI.enc (x3335.length : Int))), (63, .d (cI.enc (x3335.length : Int))), (64, .d (cB.enc (decide ((x3335.length : Int) < (x3335.length : Int)))))] (by kernel_rfl) <|
    xn <| wpC_seq <| wpC_kp <| cnd0 rfl (dlf _) <| wpC_exit <| xt <| xt <| xt <| xb <| xbb <| kpN [(0, .d ((cLs (cXVariable cS cI) rfl).enc v0)), (1, .d (cS.enc v1)), (4, .box ((cXEdit (cLo cI)).enc (⟨([] : List Int)⟩ : XEdit))), (6, .box ((cXEdit (cLo cI)).enc s3338)), (33, .d ((cLo cS).enc x1835)), (34, .d (cI.enc (x1835.length : Int))), (35, .d (cI.enc (k1839 : Int)))] (by kernel_rfl) <| xn <| reg_s <| st rfl <| b_inc rfl rfl l1837 hk1841 <| st rfl <| mvd rfl rfl <| seqN [(0, .d ((cLs (cXVariable cS cI) rfl).enc v0)), (1, .d (cS.enc v1)), (4, .box ((cXEdit (cLo cI)).enc (⟨([] : List Int)⟩ : XEdit))), (6, .box ((cXEdit (cLo cI)).enc s3338)), (33, .d ((cLo cS).enc x1835)), (34, .d (cI.enc (x1835.length : Int))), (35, .d (cI.enc ((k1839 + 1 : Nat) : Int)))] (by kernel_rfl) <|
    xn <| hn3004 s3338 h)
    (fun G3505 nx3503 k3339 s3338 x3340 hk3341 hx3342 hn3504 h => wpC_seq <| reg_s <| st rfl <| b_lss (k := .i64) rfl rfl <| seqN [(0, .d ((cLs (cXVariable cS cI) rfl).enc v0)), (1, .d (cS.enc v1)), (4, .box ((cXEdit (cLo cI)).enc (⟨([] : List Int)⟩ : XEdit))), (6, .box ((cXEdit (cLo cI)).enc s3338)), (11, .d (cI.enc x3308)), (33, .d ((cLo cS).enc x1835)), (34, .d (cI.enc (x1835.length : Int))), (35, .d (cI.enc (k1839 : Int))), (61, .d ((cLo cS).enc x3335)), (62, .d (cI.enc (x3335.length : Int))), (63, .d (cI.enc (k3339 : Int))), (64, .d (cB.enc (decide ((k3339 : Int) < (x3335.length : Int)))))] (by kernel_rfl) <|
    xn <| wpC_seq <| wpC_kp <| cnd1 rfl (dlt hk3341) <| wpC_skip <| kpN [(0, .d ((cLs (cXVariable cS cI) rfl).enc v0)), (1, .d (cS.enc v1)), (4, .box ((cXEdit (cLo cI)).enc (⟨([] : List Int)⟩ : XEdit))), (6, .box ((cXEdit (cLo cI)).enc s3338)), (11, .d (cI.enc x3308)), (33, .d ((cLo cS).enc x1835)), (34, .d (cI.enc (x1835.length : Int))), (35, .d (cI.enc (k1839 : Int))), (61, .d ((cLo cS).enc x3335)), (62, .d (cI.enc (x3335.length : Int))), (63, .d (cI.enc (k3339 : Int)))] (by kernel_rfl) <| xn <| wpC_seq <| wpC_kp <| wpC_blk <| wpC_seq <| reg_s <| st rfl <| iao rfl rfl (Int.natCast_nonneg _) hx3342 rfl <| st rfl <| lda rfl rfl (Gt.idx hx3342 Gt.nil) rfl rfl rfl <| x_asg (ss rfl rfl) <| seqN [(0, .d ((cLs (cXVariable cS cI) rfl).enc v0)), (1, .d (cS.enc v1)), (4, .box ((cXEdit (cLo cI)).enc (⟨([] : List Int)⟩ : XEdit))), (6, .box ((cXEdit (cLo cI)).enc s3338)), (11, .d (cI.enc x3308)), (13, .d (cS.enc x3340)), (33, .d ((cLo cS).enc x1835)), (34, .d (cI.enc (x1835.length : Int))), (35, .d (cI.enc (k1839 : Int))), (61, .d ((cLo cS).enc x3335)), (62, .d (cI.enc (x3335.length : Int))), (63, .d (cI.enc (k3339 : Int)))] (by kernel_rfl) <|
    xn <| wpC_seq <| reg_s <| st rfl <| mvd rfl rfl <| bnd h fun x3548 e3549 h => st rfl <| o_call (a1 (c := cS) tS rfl a0) (con_spec_l1Read e3549) (.inl (so1 sK so0)) <| x_asg (ss rfl rfl) <| seqN [(0, .d ((cLs (cXVariable cS cI) rfl).enc v0)), (1, .d (cS.enc v1)), (4, .box ((cXEdit (cLo cI)).enc (⟨([] : List Int)⟩ : XEdit))), (6, .box ((cXEdit (cLo cI)).enc s3338)), (11, .d (cI.enc x3308)), (14, .d (cI.enc x3548)), (33, .d ((cLo cS).enc x1835)), (34, .d (cI.enc (x1835.length : Int))), (35, .d (cI.enc (k1839 : Int))), (61, .d ((cLo cS).enc x3335)), (62, .d (cI.enc (x3335.length : Int))), (63, .d (cI.enc (k3339 : Int)))] (by kernel_rfl) <|
    xn <| wpC_seq <| wpC_kp <| wpC_seq <| reg_s <| st rfl <| mvd rfl rfl <| st rfl <| mvd rfl rfl <| st rfl <| mvd rfl rfl <| getO_k h fun x3569 i3570 g3571 h => st rfl <| ias rfl rfl i3570 g3571 rfl <| st rfl <| fai rfl rfl rfl rfl <| st rfl <| ldi rfl rfl rfl rfl <| ckI_k h fun i3572 h => st rfl <| b_sub (k := .i64) rfl rfl i3572 <| bnd h fun x3573 e3574 h => st rfl <| o_call (a1 (c := cI) tK rfl (a1 (c := cI) tK rfl (a1 (c := cI) tK rfl a0))) (con_spec_l1In e3574) (.inl (so1 sB so0)) <| st rfl <| o_nt rfl <| seqN [(0, .d ((cLs (cXVariable cS cI) rfl).enc v0)), (1, .d (cS.enc v1)), (4, .box ((cXEdit (cLo cI)).enc (⟨([] : List Int)⟩ : XEdit))), (6, .box ((cXEdit (cLo cI)).enc s3338)), (11, .d (cI.enc x3308)), (14, .d (cI.enc x3548)), (33, .d ((cLo cS).enc x1835)), (34, .d (cI.enc (x1835.length : Int))), (35, .d (cI.enc (k1839 : Int))), (61, .d ((cLo cS).enc x3335)), (62, .d (cI.enc (x3335.length : Int))), (63, .d (cI.enc (k3339 : Int))), (77, .d (cB.enc (!x3573)))] (by kernel_rfl) <|
    xn <| cnd rfl h (fun b3575 h => wpC_seq <| reg_s <| x_bld ((cXEdit (cLo cI)).enc (⟨([] : List Int)⟩ : XEdit)) t0 rfl rfl <| x_stb (so rfl rfl) rfl (Cd.h_sz _ _) rfl <| x_asg (sc cB false rfl) <| seqN [(4, .box ((cXEdit (cLo cI)).enc (⟨([] : List Int)⟩ : XEdit))), (5, .d (cB.enc false))] (by kernel_rfl) <|
    xn <| wpC_ret <| rt <| rt <| rb <| rt <| rt <| rt <| rb <| rb <| rt <| rt <| rt <| rb <| rt <| rt <| re <| fin h (r2 rfl rfl rfl <| r1 (ss rfl rfl) <| r0) rfl)
    (fun b3575 h => wpC_skip <| kpN [(0, .d ((cLs (cXVariable cS cI) rfl).enc v0)), (1, .d (cS.enc v1)), (4, .box ((cXEdit (cLo cI)).enc (⟨([] : List Int)⟩ : XEdit))), (6, .box ((cXEdit (cLo cI)).enc s3338)), (11, .d (cI.enc x3308)), (14, .d (cI.enc x3548)), (33, .d ((cLo cS).enc x1835)), (34, .d (cI.enc (x1835.length : Int))), (35, .d (cI.enc (k1839 : Int))), (61, .d ((cLo cS).enc x3335)), (62, .d (cI.enc (x3335.length : Int))), (63, .d (cI.enc (k3339 : Int)))] (by kernel_rfl) <| xn <| reg_s <| st rfl <| fab rfl rfl rfl rfl <| st rfl <| ldao rfl rfl rfl rfl rfl rfl <| st rfl <| mvd rfl rfl <| getO_k h fun x3576 i3577 g3578 h => st rfl <| iar rfl rfl rfl rfl i3577 g3578 rfl <| st rfl <| lda rfl rfl (Gt.fld rfl rfl (Gt.idx g3578 Gt.nil)) rfl rfl rfl <| st rfl <| mvd rfl rfl <| ckK_k h fun i3579 h => st rfl <| o_cvi (k := .i64) (k' := .u64) rfl i3579 <| ck_k h fun i3580 h => ckI_k h fun i3581 h => st rfl <| b_shl (k := .i64) (k' := .u64) rfl rfl i3580 rfl i3581 <| ck_k h fun i3582 h => ckK_k h fun i3583 h => ck_k h fun i3584 h => ckK_k h fun i3585 h => st rfl <| b_or (k := .i64) rfl rfl ⟨i3582, i3583⟩ ⟨i3584, i3585⟩ <| st rfl <| iar rfl rfl rfl rfl i3577 g3578 rfl <| x_sta ((cXEdit (cLo cI)).enc (⟨(s3338.Sets.set (x3308).toNat ((x3576.toNat ||| ((1 : Int) * 2 ^ (x3548).toNat).toNat : Nat) : Int))⟩ : XEdit)) (ss rfl rfl) rfl rfl (Ln.fld rfl rfl (Ln.idx g3578 Ln.nil) rfl) (Cd.h_sz cI _) rfl <| seqN [(0, .d ((cLs (cXVariable cS cI) rfl).enc v0)), (1, .d (cS.enc v1)), (4, .box ((cXEdit (cLo cI)).enc (⟨([] : List Int)⟩ : XEdit))), (6, .box ((cXEdit (cLo cI)).enc (⟨(s3338.Sets.set (x3308).toNat ((x3576.toNat ||| ((1 : Int) * 2 ^ (x3548).toNat).toNat : Nat) : Int))⟩ : XEdit))), (11, .d (cI.enc x3308)), (33, .d ((cLo cS).enc x1835)), (34, .d (cI.enc (x1835.length : Int))), (35, .d (cI.enc (k1839 : Int))), (61, .d ((cLo cS).enc x3335)), (62, .d (cI.enc (x3335.length : Int))), (63, .d (cI.enc (k3339 : Int)))] (by kernel_rfl) <|
    xbb <| kpN [(0, .d ((cLs (cXVariable cS cI) rfl).enc v0)), (1, .d (cS.enc v1)), (4, .box ((cXEdit (cLo cI)).enc (⟨([] : List Int)⟩ : XEdit))), (6, .box ((cXEdit (cLo cI)).enc (⟨(s3338.Sets.set (x3308).toNat ((x3576.toNat ||| ((1 : Int) * 2 ^ (x3548).toNat).toNat : Nat) : Int))⟩ : XEdit))), (11, .d (cI.enc x3308)), (33, .d ((cLo cS).enc x1835)), (34, .d (cI.enc (x1835.length : Int))), (35, .d (cI.enc (k1839 : Int))), (61, .d ((cLo cS).enc x3335)), (62, .d (cI.enc (x3335.length : Int))), (63, .d (cI.enc (k3339 : Int)))] (by kernel_rfl) <| xn <| reg_s <| st rfl <| b_inc rfl rfl l3337 hk3341 <| st rfl <| mvd rfl rfl <| seqN [(0, .d ((cLs (cXVariable cS cI) rfl).enc v0)), (1, .d (cS.enc v1)), (4, .box ((cXEdit (cLo cI)).enc (⟨([] : List Int)⟩ : XEdit))), (6, .box ((cXEdit (cLo cI)).enc (⟨(s3338.Sets.set (x3308).toNat ((x3576.toNat ||| ((1 : Int) * 2 ^ (x3548).toNat).toNat : Nat) : Int))⟩ : XEdit))), (11, .d (cI.enc x3308)), (33, .d ((cLo cS).enc x1835)), (34, .d (cI.enc (x1835.length : Int))), (35, .d (cI.enc (k1839 : Int))), (61, .d ((cLo cS).enc x3335)), (62, .d (cI.enc (x3335.length : Int))), (63, .d (cI.enc ((k3339 + 1 : Nat) : Int)))] (by kernel_rfl) <|
    xn <| hn3504 (⟨(s3338.Sets.set (x3308).toNat ((x3576.toNat ||| ((1 : Int) * 2 ^ (x3548).toNat).toNat : Nat) : Int))⟩ : XEdit) h))))))
    (fun b1831 h => wpC_skip <| kpN [(0, .d ((cLs (cXVariable cS cI) rfl).enc v0)), (1, .d (cS.enc v1)), (4, .box ((cXEdit (cLo cI)).enc (⟨([] : List Int)⟩ : XEdit))), (6, .box ((cXEdit (cLo cI)).enc s31))] (by kernel_rfl) <| m1808 s31 h))
    (fun G50 nx48 k32 s31 x33 hk34 hx35 hn49 h => wpC_seq <| reg_s <| st rfl <| b_lss (k := .i64) rfl rfl <| seqN [(0, .d ((cLs (cXVariable cS cI) rfl).enc v0)), (1, .d (cS.enc v1)), (4, .box ((cXEdit (cLo cI)).enc (⟨([] : List Int)⟩ : XEdit))), (6, .box ((cXEdit (cLo cI)).enc s31)), (17, .d (cI.enc (v0.length : Int))), (18, .d (cI.enc (k32 : Int))), (19, .d (cB.enc (decide ((k32 : Int) < (v0.length : Int)))))] (by kernel_rfl) <|
    xn <| wpC_seq <| wpC_kp <| cnd1 rfl (dlt hk34) <| wpC_skip <| kpN [(0, .d ((cLs (cXVariable cS cI) rfl).enc v0)), (1, .d (cS.enc v1)), (4, .box ((cXEdit (cLo cI)).enc (⟨([] : List Int)⟩ : XEdit))), (6, .box ((cXEdit (cLo cI)).enc s31)), (17, .d (cI.enc (v0.length : Int))), (18, .d (cI.enc (k32 : Int)))] (by kernel_rfl) <| xn <| wpC_seq <| wpC_kp <| wpC_blk <| wpC_seq <| reg_s <| st rfl <| mvd rfl rfl <| x_asg (ss rfl rfl) <| seqN [(0, .d ((cLs (cXVariable cS cI) rfl).enc v0)), (1, .d (cS.enc v1)), (4, .box ((cXEdit (cLo cI)).enc (⟨([] : List Int)⟩ : XEdit))), (6, .box ((cXEdit (cLo cI)).enc s31)), (7, .d (cI.enc (k32 : Int))), (17, .d (cI.enc (v0.length : Int))), (18, .d (cI.enc (k32 : Int)))] (by kernel_rfl) <|
    xn <| drw_s <| pst rfl <| fab rfl rfl rfl rfl ⟨rfl, pst rfl <| ldao rfl rfl rfl rfl rfl rfl ⟨rfl, pst rfl <| mvd rfl rfl ⟨rfl, pst rfl <| mvd rfl rfl ⟨rfl, bndp h fun x3589 e3590 h => pst rfl <| o_call (a1 (c := (cLs (cXVariable cS cI) rfl)) (tLs (tXVariable tS tK)) rfl (a1 (c := cI) tK rfl a0)) (con_spec_eFull e3590) (.inl (so1 sK so0)) ⟨rfl, pst rfl <| p_bsl cI [x3589] (e1 rfl rfl rfl e0) rfl rfl ⟨rfl, preN <| lnO_k h fun l3591 h => x_app (sp ((cXEdit (cH (α := (List Int)))).enc (⟨s31.Sets⟩ : XEdit)) rfl rfl (Ln.fld rfl rfl Ln.nil rfl)) (tow rfl rfl) l3591 rfl <| st rfl <| fab rfl rfl rfl rfl <| x_sta ((cXEdit (cLo cI)).enc (⟨(s31.Sets ++ [x3589])⟩ : XEdit)) (so rfl rfl) rfl rfl (Ln.fld rfl rfl Ln.nil rfl) (Cd.h_sz (cH (α := (List Int))) _) rfl <| seqN [(0, .d ((cLs (cXVariable cS cI) rfl).enc v0)), (1, .d (cS.enc v1)), (4, .box ((cXEdit (cLo cI)).enc (⟨([] : List Int)⟩ : XEdit))), (6, .box ((cXEdit (cLo cI)).enc (⟨(s31.Sets ++ [x3589])⟩ : XEdit))), (17, .d (cI.enc (v0.length : Int))), (18, .d (cI.enc (k32 : Int)))] (by kernel_rfl) <|
    xbb <| kpN [(0, .d ((cLs (cXVariable cS cI) rfl).enc v0)), (1, .d (cS.enc v1)), (4, .box ((cXEdit (cLo cI)).enc (⟨([] : List Int)⟩ : XEdit))), (6, .box ((cXEdit (cLo cI)).enc (⟨(s31.Sets ++ [x3589])⟩ : XEdit))), (17, .d (cI.enc (v0.length : Int))), (18, .d (cI.enc (k32 : Int)))] (by kernel_rfl) <| xn <| reg_s <| st rfl <| b_inc rfl rfl l30 hk34 <| st rfl <| mvd rfl rfl <| seqN [(0, .d ((cLs (cXVariable cS cI) rfl).enc v0)), (1, .d (cS.enc v1)), (4, .box ((cXEdit (cLo cI)).enc (⟨([] : List Int)⟩ : XEdit))), (6, .box ((cXEdit (cLo cI)).enc (⟨(s31.Sets ++ [x3589])⟩ : XEdit))), (17, .d (cI.enc (v0.length : Int))), (18, .d (cI.enc ((k32 + 1 : Nat) : Int)))] (by kernel_rfl) <|
    xn <| hn49 (⟨(s31.Sets ++ [x3589])⟩ : XEdit) h⟩⟩⟩⟩⟩⟩)

def rs_spec_ParseEdit (r : (XEdit × Bool)) : List D := [(cXEdit (cLo cI)).enc r.1, cB.enc r.2]
def m18 : MC := .seq (.reg [⟨some 4, .alloc (.agg [.slice true []]), none⟩,
    ⟨some 5, .asg (.c (.bool false)), none⟩] [0, 1, 4])
  (.seq (.kp [0, 1, 4] (.seq (.reg [⟨some 6, .mv (.t 0), none⟩,
    ⟨some 7, .call 37 [(.t 6)], none⟩,
    ⟨some 8, .nt (.t 7), none⟩] [0, 1, 4, 8])
  (.cond (.t 8) (.seq (.reg [⟨some 9, .bld [.slice true []] [], none⟩,
    ⟨none, .st 4 (.t 9) 1, none⟩,
    ⟨some 5, .asg (.c (.bool false)), none⟩] [4, 5])
  (.ret)) (.skip))))
  (.seq (.reg [⟨some 10, .mv (.t 0), none⟩,
    ⟨some 11, .mv (.t 1), none⟩,
    ⟨some 12, .call 38 [(.t 10), (.t 11)], none⟩,
    ⟨some 13, .ext 12 0, none⟩,
    ⟨some 14, .ext 12 1, none⟩,
    ⟨none, .st 4 (.t 13) 1, none⟩,
    ⟨some 5, .asg (.t 14), none⟩] [4, 5])
  (.ret)))
theorem con_spec_ParseEdit {v0 : (List XVariable)} {v1 : (List UInt8)} {r : (XEdit × Bool)} (h : sh_spec_ParseEdit v0 v1 = some r) : Con Tryd.prog 18 [(cLs (cXVariable cS cI) rfl).enc v0, cS.enc v1] [] (rs_spec_ParseEdit r) := by
  delta sh_spec_ParseEdit at h
  refine top (out := none) (f := Tryd.f18) (m := m18) (rs := [.c 4 1 true, .t 5]) (by kernel_rfl) rfl (by kernel_rfl) (by kernel_rfl) (by kernel_rfl) (by kernel_rfl) (by kernel_rfl) ?_
  exact
   ini [(0, .d ((cLs (cXVariable cS cI) rfl).enc v0)), (1, .d (cS.enc v1))] rfl <| wpC_seq <| reg_s <| x_all (cXEdit (cLo cI)) (⟨([] : List Int)⟩ : XEdit) rfl <| x_asg (sc cB false rfl) <| seqN [(0, .d ((cLs (cXVariable cS cI) rfl).enc v0)), (1, .d (cS.enc v1)), (4, .box ((cXEdit (cLo cI)).enc (⟨([] : List Int)⟩ : XEdit)))] (by kernel_rfl) <|
    xn <| wpC_seq <| wpC_kp <| wpC_seq <| reg_s <| st rfl <| mvd rfl rfl <| bnd h fun x8 e9 h => st rfl <| o_call (a1 (c := (cLs (cXVariable cS cI) rfl)) (tLs (tXVariable tS tK)) rfl a0) (con_spec_sGood e9) (.inl (so1 sB so0)) <| st rfl <| o_nt rfl <| seqN [(0, .d ((cLs (cXVariable cS cI) rfl).enc v0)), (1, .d (cS.enc v1)), (4, .box ((cXEdit (cLo cI)).enc (⟨([] : List Int)⟩ : XEdit))), (8, .d (cB.enc (!x8)))] (by kernel_rfl) <|
    xn <| cnd rfl h (fun b10 h => wpC_seq <| reg_s <| x_bld ((cXEdit (cLo cI)).enc (⟨([] : List Int)⟩ : XEdit)) t0 rfl rfl <| x_stb (so rfl rfl) rfl (Cd.h_sz _ _) rfl <| x_asg (sc cB false rfl) <| seqN [(4, .box ((cXEdit (cLo cI)).enc (⟨([] : List Int)⟩ : XEdit))), (5, .d (cB.enc false))] (by kernel_rfl) <|
    xn <| wpC_ret <| rt <| rt <| re <| fin h (r2 rfl rfl rfl <| r1 (ss rfl rfl) <| r0) rfl)
    (fun b10 h => wpC_skip <| kpN [(0, .d ((cLs (cXVariable cS cI) rfl).enc v0)), (1, .d (cS.enc v1)), (4, .box ((cXEdit (cLo cI)).enc (⟨([] : List Int)⟩ : XEdit)))] (by kernel_rfl) <| xn <| wpC_seq <| reg_s <| st rfl <| mvd rfl rfl <| st rfl <| mvd rfl rfl <| bnd h fun x13 e14 h => st rfl <| o_call (a1 (c := (cLs (cXVariable cS cI) rfl)) (tLs (tXVariable tS tK)) rfl (a1 (c := cS) tS rfl a0)) (con_spec_eParse e14) (.inl (so1 (sXEdit (sLo sK)) (so1 sB so0))) <| x_ext rfl rfl <| x_ext rfl rfl <| x_stb (so rfl rfl) rfl (Cd.h_sz _ _) rfl <| x_asg (ss rfl rfl) <| seqN [(4, .box ((cXEdit (cLo cI)).enc x13.1)), (5, .d (cB.enc x13.2))] (by kernel_rfl) <|
    xn <| wpC_ret <| re <| fin h (r2 rfl rfl rfl <| r1 (ss rfl rfl) <| r0) rfl)

def rs_impl_isWord (r : Bool) : List D := [cB.enc r]
def m69 : MC := .seq (.reg [⟨some 2, .asg (.c (.bool false)), none⟩] [0])
  (.seq (.kp [0] (.seq (.reg [⟨some 4, .mv (.t 0), none⟩,
    ⟨some 5, .len true (.t 4), none⟩,
    ⟨some 6, .bin .lss (.t 5) (.c (.int .i64 1)), none⟩,
    ⟨some 7, .mv (.t 6), none⟩,
    ⟨some 8, .mv (.t 0), some (7, false)⟩,
    ⟨some 9, .len true (.t 8), some (7, false)⟩,
    ⟨some 10, .bin .gtr (.t 9) (.c (.int .i64 8)), some (7, false)⟩,
    ⟨some 11, .pick (.t 7) (.c (.bool true)) (.t 10), none⟩] [0, 11])
  (.cond (.t 11) (.seq (.reg [⟨some 2, .asg (.c (.bool false)), none⟩] [2])
  (.ret)) (.skip))))
  (.seq (.kp [] (.seq (.reg [⟨some 12, .mv (.t 0), none⟩,
    ⟨some 13, .len true (.t 12), none⟩,
    ⟨some 14, .mv (.c (.int .i64 0)), none⟩] [0, 13, 14])
  (.blk 0 (.loop (.seq (.reg [⟨some 15, .bin .lss (.t 14) (.t 13), none⟩] [0, 13, 14, 15])
  (.seq (.kp [0, 13, 14] (.cond (.t 15) (.skip) (.exit 0)))
  (.seq (.kp [0, 13, 14] (.blk 1 (.seq (.reg [⟨some 16, .mv (.t 14), none⟩,
    ⟨some 3, .asg (.t 16), none⟩] [0, 3, 13, 14])
  (.seq (.reg [⟨some 17, .mv (.t 0), none⟩,
    ⟨some 18, .mv (.t 3), none⟩,
    ⟨some 19, .ix (.t 17) (.t 18), none⟩,
    ⟨some 20, .bin .lss (.t 19) (.c (.int .u8 97)), none⟩,
    ⟨some 21, .mv (.t 20), none⟩,
    ⟨some 22, .mv (.t 0), some (21, false)⟩,
    ⟨some 23, .mv (.t 3), some (21, false)⟩,
    ⟨some 24, .ix (.t 22) (.t 23), some (21, false)⟩,
    ⟨some 25, .bin .gtr (.t 24) (.c (.int .u8 122)), some (21, false)⟩,
    ⟨some 26, .pick (.t 21) (.c (.bool true)) (.t 25), none⟩] [0, 13, 14, 26])
  (.cond (.t 26) (.seq (.reg [⟨some 2, .asg (.c (.bool false)), none⟩] [2])
  (.ret)) (.skip))))))
  (.reg [⟨some 27, .bin .add (.t 14) (.c (.int .i64 1)), none⟩,
    ⟨some 14, .mv (.t 27), none⟩] [0, 13, 14]))))))))
  (.seq (.reg [⟨some 2, .asg (.c (.bool true)), none⟩] [2])
  (.ret))))
theorem con_impl_isWord {v0 : (List UInt8)} {r : Bool} (h : sh_impl_isWord v0 = some r) : Con Tryd.prog 69 [cS.enc v0] [] (rs_impl_isWord r) := by
  delta sh_impl_isWord at h
  refine top (out := none) (f := Tryd.f69) (m := m69) (rs := [.t 2]) (by kernel_rfl) rfl (by kernel_rfl) (by kernel_rfl) (by kernel_rfl) (by kernel_rfl) (by kernel_rfl) ?_
  exact
   ini [(0, .d (cS.enc v0))] rfl <| wpC_seq <| reg_s <| x_asg (sc cB false rfl) <| seqN [(0, .d (cS.enc v0))] (by kernel_rfl) <|
    xn <| wpC_seq <| wpC_kp <| wpC_seq <| reg_s <| st rfl <| mvd rfl rfl <| stw rfl <| lent rfl fun l11 => st rfl <| b_lss (k := .i64) rfl rfl <| st rfl <| mvd rfl rfl <| ite_k h (fun b12 h => gf rfl b12 <| gf rfl b12 <| gf rfl b12 <| st rfl <| pick1 rfl b12 (cd := cB) (v := true) rfl rfl <| seqN [(0, .d (cS.enc v0)), (11, .d (cB.enc true))] (by kernel_rfl) <|
    xn <| cnd1 rfl rfl <| wpC_seq <| reg_s <| x_asg (sc cB false rfl) <| seqN [(2, .d (cB.enc false))] (by kernel_rfl) <|
    xn <| wpC_ret <| rt <| rt <| re <| fin h (r1 (ss rfl rfl) <| r0) rfl)
    (fun b12 h => gt' rfl b12 <| st rfl <| mvd rfl rfl <| gt' rfl b12 <| stw rfl <| lent rfl fun l13 => gt' rfl b12 <| st rfl <| b_gtr (k := .i64) rfl rfl <| st rfl <| pick0 rfl b12 (cd := cB) (v := (decide ((8 : Int) < (v0.length : Int)))) rfl rfl <| seqN [(0, .d (cS.enc v0)), (11, .d (cB.enc (decide ((8 : Int) < (v0.length : Int)))))] (by kernel_rfl) <|
    xn <| cnd rfl h (fun b14 h => wpC_seq <| reg_s <| x_asg (sc cB false rfl) <| seqN [(2, .d (cB.enc false))] (by kernel_rfl) <|
    xn <| wpC_ret <| rt <| rt <| re <| fin h (r1 (ss rfl rfl) <| r0) rfl)
    (fun b14 h => wpC_skip <| kpN [(0, .d (cS.enc v0))] (by kernel_rfl) <| xn <| wpC_seq <| wpC_kp <| wpC_seq <| reg_s <| st rfl <| mvd rfl rfl <| stw rfl <| lent rfl fun l38 => st rfl <| mvc cI (0 : Int) rfl <| seqN [(0, .d (cS.enc v0)), (13, .d (cI.enc (v0.length : Int))), (14, .d (cI.enc (0 : Int)))] (by kernel_rfl) <|
    xn <| wpC_blk <| lpR (fun (k40 : Nat) (s39 : Unit) => [(0, .d (cS.enc v0)), (13, .d (cI.enc (v0.length : Int))), (14, .d (cI.enc (k40 : Int)))]) () rfl h
    (fun G52 s39 h => wpC_seq <| reg_s <| st rfl <| b_lss (k := .i64) rfl rfl <| seqN [(0, .d (cS.enc v0)), (13, .d (cI.enc (v0.length : Int))), (14, .d (cI.enc (v0.length : Int))), (15, .d (cB.enc (decide ((v0.length : Int) < (v0.length : Int)))))] (by kernel_rfl) <|
    xn <| wpC_seq <| wpC_kp <| cnd0 rfl (dlf _) <| wpC_exit <| xt <| xt <| xt <| xb <| kpN [] (by kernel_rfl) <| xn <| wpC_seq <| reg_s <| x_asg (sc cB true rfl) <| seqN [(2, .d (cB.enc true))] (by kernel_rfl) <|
    xn <| wpC_ret <| re <| fin h (r1 (ss rfl rfl) <| r0) rfl)
    (fun G52 nx50 k40 s39 x41 hk42 hx43 hn51 h => wpC_seq <| reg_s <| st rfl <| b_lss (k := .i64) rfl rfl <| seqN [(0, .d (cS.enc v0)), (13, .d (cI.enc (v0.length : Int))), (14, .d (cI.enc (k40 : Int))), (15, .d (cB.enc (decide ((k40 : Int) < (v0.length : Int)))))] (by kernel_rfl) <|
    xn <| wpC_seq <| wpC_kp <| cnd1 rfl (dlt hk42) <| wpC_skip <| kpN [(0, .d (cS.enc v0)), (13, .d (cI.enc (v0.length : Int))), (14, .d (cI.enc (k40 : Int)))] (by kernel_rfl) <| xn <| wpC_seq <| wpC_kp <| wpC_blk <| wpC_seq <| reg_s <| st rfl <| mvd rfl rfl <| x_asg (ss rfl rfl) <| seqN [(0, .d (cS.enc v0)), (3, .d (cI.enc (k40 : Int))), (13, .d (cI.enc (v0.length : Int))), (14, .d (cI.enc (k40 : Int)))] (by kernel_rfl) <|
    xn <| wpC_seq <| reg_s <| st rfl <| mvd rfl rfl <| st rfl <| mvd rfl rfl <| st rfl <| o_ix (k := .i64) rfl rfl (Int.natCast_nonneg _) hx43 <| st rfl <| b_lss (k := .u8) rfl rfl <| st rfl <| mvd rfl rfl <| ite_k h (fun b57 h => gf rfl b57 <| gf rfl b57 <| gf rfl b57 <| gf rfl b57 <| st rfl <| pick1 rfl b57 (cd := cB) (v := true) rfl rfl <| seqN [(0, .d (cS.enc v0)), (13, .d (cI.enc (v0.length : Int))), (14, .d (cI.enc (k40 : Int))), (26, .d (cB.enc true))] (by kernel_rfl) <|
    xn <| cnd1 rfl rfl <| wpC_seq <| reg_s <| x_asg (sc cB false rfl) <| seqN [(2, .d (cB.enc false))] (by kernel_rfl) <|
    xn <| wpC_ret <| rb <| rt <| rt <| rt <| rb <| rt <| rt <| re <| fin h (r1 (ss rfl rfl) <| r0) rfl)
    (fun b57 h => gt' rfl b57 <| st rfl <| mvd rfl rfl <| gt' rfl b57 <| st rfl <| mvd rfl rfl <| gt' rfl b57 <| st rfl <| o_ix (k := .i64) rfl rfl (Int.natCast_nonneg _) hx43 <| gt' rfl b57 <| st rfl <| b_gtr (k := .u8) rfl rfl <| st rfl <| pick0 rfl b57 (cd := cB) (v := (decide ((122 : Int) < (x41.toNat : Int)))) rfl rfl <| seqN [(0, .d (cS.enc v0)), (13, .d (cI.enc (v0.length : Int))), (14, .d (cI.enc (k40 : Int))), (26, .d (cB.enc (decide ((122 : Int) < (x41.toNat : Int)))))] (by kernel_rfl) <|
    xn <| cnd rfl h (fun b58 h => wpC_seq <| reg_s <| x_asg (sc cB false rfl) <| seqN [(2, .d (cB.enc false))] (by kernel_rfl) <|
    xn <| wpC_ret <| rb <| rt <| rt <| rt <| rb <| rt <| rt <| re <| fin h (r1 (ss rfl rfl) <| r0) rfl)
    (fun b58 h => wpC_skip <| xbb <| kpN [(0, .d (cS.enc v0)), (13, .d (cI.enc (v0.length : Int))), (14, .d (cI.enc (k40 : Int)))] (by kernel_rfl) <| xn <| reg_s <| st rfl <| b_inc rfl rfl l38 hk42 <| st rfl <| mvd rfl rfl <| seqN [(0, .d (cS.enc v0)), (13, .d (cI.enc (v0.length : Int))), (14, .d (cI.enc ((k40 + 1 : Nat) : Int)))] (by kernel_rfl) <|
    xn <| hn51 () h)))))
end AS.W
