/- The program computes the plain functions. No condition. -/
import Derived.Test.YtpllepipjbiefaaDoorQReportTextS
import Derived.Test.YtpllepipjbiefaaDoorProg
import Derived.Test.YtpllepipjbiefaaDoorQReportTextX
set_option maxRecDepth 100000
set_option linter.unusedVariables false
set_option linter.unusedSimpArgs false
namespace AS.W
open Go Go.Proofs
def rs_laws_szIntS (r : Int) : List D := [cI.enc r]
def m24 : MC := .seq (.reg [⟨some 4, .asg (.c (.int .i64 0)), none⟩] [0, 1])
  (.seq (.reg [⟨some 5, .mv (.t 1), none⟩,
    ⟨some 6, .mv (.t 0), none⟩,
    ⟨some 7, .len false (.t 6), none⟩,
    ⟨some 8, .bin .sub (.t 5) (.t 7), none⟩,
    ⟨some 1, .asg (.t 8), none⟩] [1])
  (.seq (.kp [1] (.seq (.reg [⟨some 9, .mv (.t 1), none⟩,
    ⟨some 10, .bin .lss (.t 9) (.c (.int .i64 0)), none⟩] [1, 10])
  (.cond (.t 10) (.seq (.reg [⟨some 4, .asg (.c (.int .i64 (-1))), none⟩] [4])
  (.ret)) (.skip))))
  (.seq (.reg [⟨some 11, .mv (.t 1), none⟩,
    ⟨some 4, .asg (.t 11), none⟩] [4])
  (.ret))))
theorem con_laws_szIntS {v0 : (List Int)} {v1 : Int} {r : Int} (h : sh_laws_szIntS v0 v1 = some r) : Con Tryd.prog 24 [(cLs cI rfl).enc v0, cI.enc v1] [] (rs_laws_szIntS r) := by
  delta sh_laws_szIntS at h
  refine top (out := none) (f := Tryd.f24) (m := m24) (rs := [.t 4]) (by kernel_rfl) rfl (by kernel_rfl) (by kernel_rfl) (by kernel_rfl) (by kernel_rfl) (by kernel_rfl) ?_
  exact
   ini [(0, .d ((cLs cI rfl).enc v0)), (1, .d (cI.enc v1))] rfl <| wpC_seq <| reg_s <| x_asg (sc cI (0 : Int) rfl) <| seqN [(0, .d ((cLs cI rfl).enc v0)), (1, .d (cI.enc v1))] (by kernel_rfl) <|
    xn <| wpC_seq <| reg_s <| st rfl <| mvd rfl rfl <| st rfl <| mvd rfl rfl <| stw rfl <| lens rfl fun l3 => ckI_k h fun i4 h => st rfl <| b_sub (k := .i64) rfl rfl i4 <| x_asg (ss rfl rfl) <| seqN [(1, .d (cI.enc (v1 - (v0.length : Int))))] (by kernel_rfl) <|
    xn <| wpC_seq <| wpC_kp <| wpC_seq <| reg_s <| st rfl <| mvd rfl rfl <| st rfl <| b_lss (k := .i64) rfl rfl <| seqN [(1, .d (cI.enc (v1 - (v0.length : Int)))), (10, .d (cB.enc (decide ((v1 - (v0.length : Int)) < (0 : Int)))))] (by kernel_rfl) <|
    xn <| cnd rfl h (fun b6 h => wpC_seq <| reg_s <| x_asg (sc cI (-1 : Int) rfl) <| seqN [(4, .d (cI.enc (-1 : Int)))] (by kernel_rfl) <|
    xn <| wpC_ret <| rt <| rt <| re <| fin h (r1 (ss rfl rfl) <| r0) rfl)
    (fun b6 h => wpC_skip <| kpN [(1, .d (cI.enc (v1 - (v0.length : Int))))] (by kernel_rfl) <| xn <| wpC_seq <| reg_s <| st rfl <| mvd rfl rfl <| x_asg (ss rfl rfl) <| seqN [(4, .d (cI.enc (v1 - (v0.length : Int))))] (by kernel_rfl) <|
    xn <| wpC_ret <| re <| fin h (r1 (ss rfl rfl) <| r0) rfl)

def rs_laws_szGeo (r : Int) : List D := [cI.enc r]
def m5 : MC := .seq (.reg [⟨some 2, .box (.t 0), none⟩,
    ⟨some 4, .asg (.c (.int .i64 0)), none⟩] [1, 2])
  (.seq (.reg [⟨some 5, .fa 2 0 0, none⟩,
    ⟨some 6, .ld 5 1 false, none⟩,
    ⟨some 7, .mv (.t 1), none⟩,
    ⟨some 8, .call 24 [(.t 6), (.t 7)], none⟩,
    ⟨some 1, .asg (.t 8), none⟩] [1])
  (.seq (.kp [1] (.seq (.reg [⟨some 9, .mv (.t 1), none⟩,
    ⟨some 10, .bin .lss (.t 9) (.c (.int .i64 0)), none⟩] [1, 10])
  (.cond (.t 10) (.seq (.reg [⟨some 4, .asg (.c (.int .i64 (-1))), none⟩] [4])
  (.ret)) (.skip))))
  (.seq (.reg [⟨some 11, .mv (.t 1), none⟩,
    ⟨some 4, .asg (.t 11), none⟩] [4])
  (.ret))))
theorem con_laws_szGeo {v0 : XGeo} {v1 : Int} {r : Int} (h : sh_laws_szGeo v0 v1 = some r) : Con Tryd.prog 5 [(cXGeo (cLs cI rfl)).enc v0, cI.enc v1] [] (rs_laws_szGeo r) := by
  delta sh_laws_szGeo at h
  refine top (out := none) (f := Tryd.f5) (m := m5) (rs := [.t 4]) (by kernel_rfl) rfl (by kernel_rfl) (by kernel_rfl) (by kernel_rfl) (by kernel_rfl) (by kernel_rfl) ?_
  exact
   ini [(0, .d ((cXGeo (cLs cI rfl)).enc v0)), (1, .d (cI.enc v1))] rfl <| wpC_seq <| reg_s <| x_box (ss rfl rfl) <| x_asg (sc cI (0 : Int) rfl) <| seqN [(1, .d (cI.enc v1)), (2, .box ((cXGeo (cLs cI rfl)).enc v0))] (by kernel_rfl) <|
    xn <| wpC_seq <| reg_s <| st rfl <| fab rfl rfl rfl rfl <| st rfl <| lda rfl rfl rfl rfl rfl rfl <| st rfl <| mvd rfl rfl <| bnd h fun x3 e4 h => st rfl <| o_call (a1 (c := (cLs cI rfl)) (tLs tK) rfl (a1 (c := cI) tK rfl a0)) (con_laws_szIntS e4) (.inl (so1 sK so0)) <| x_asg (ss rfl rfl) <| seqN [(1, .d (cI.enc x3))] (by kernel_rfl) <|
    xn <| wpC_seq <| wpC_kp <| wpC_seq <| reg_s <| st rfl <| mvd rfl rfl <| st rfl <| b_lss (k := .i64) rfl rfl <| seqN [(1, .d (cI.enc x3)), (10, .d (cB.enc (decide (x3 < (0 : Int)))))] (by kernel_rfl) <|
    xn <| cnd rfl h (fun b6 h => wpC_seq <| reg_s <| x_asg (sc cI (-1 : Int) rfl) <| seqN [(4, .d (cI.enc (-1 : Int)))] (by kernel_rfl) <|
    xn <| wpC_ret <| rt <| rt <| re <| fin h (r1 (ss rfl rfl) <| r0) rfl)
    (fun b6 h => wpC_skip <| kpN [(1, .d (cI.enc x3))] (by kernel_rfl) <| xn <| wpC_seq <| reg_s <| st rfl <| mvd rfl rfl <| x_asg (ss rfl rfl) <| seqN [(4, .d (cI.enc x3))] (by kernel_rfl) <|
    xn <| wpC_ret <| re <| fin h (r1 (ss rfl rfl) <| r0) rfl)

def rs_laws_szVariable (r : Int) : List D := [cI.enc r]
def m25 : MC := .seq (.reg [⟨some 2, .box (.t 0), none⟩,
    ⟨some 4, .asg (.c (.int .i64 0)), none⟩] [1, 2])
  (.seq (.reg [⟨some 5, .mv (.t 1), none⟩,
    ⟨some 6, .fa 2 0 0, none⟩,
    ⟨some 7, .ld 6 1 false, none⟩,
    ⟨some 8, .len true (.t 7), none⟩,
    ⟨some 9, .bin .sub (.t 5) (.t 8), none⟩,
    ⟨some 1, .asg (.t 9), none⟩] [1])
  (.seq (.kp [1] (.seq (.reg [⟨some 10, .mv (.t 1), none⟩,
    ⟨some 11, .bin .lss (.t 10) (.c (.int .i64 0)), none⟩] [1, 11])
  (.cond (.t 11) (.seq (.reg [⟨some 4, .asg (.c (.int .i64 (-1))), none⟩] [4])
  (.ret)) (.skip))))
  (.seq (.reg [⟨some 12, .mv (.t 1), none⟩,
    ⟨some 4, .asg (.t 12), none⟩] [4])
  (.ret))))
theorem con_laws_szVariable {v0 : XVariable} {v1 : Int} {r : Int} (h : sh_laws_szVariable v0 v1 = some r) : Con Tryd.prog 25 [(cXVariable cS cI).enc v0, cI.enc v1] [] (rs_laws_szVariable r) := by
  delta sh_laws_szVariable at h
  refine top (out := none) (f := Tryd.f25) (m := m25) (rs := [.t 4]) (by kernel_rfl) rfl (by kernel_rfl) (by kernel_rfl) (by kernel_rfl) (by kernel_rfl) (by kernel_rfl) ?_
  exact
   ini [(0, .d ((cXVariable cS cI).enc v0)), (1, .d (cI.enc v1))] rfl <| wpC_seq <| reg_s <| x_box (ss rfl rfl) <| x_asg (sc cI (0 : Int) rfl) <| seqN [(1, .d (cI.enc v1)), (2, .box ((cXVariable cS cI).enc v0))] (by kernel_rfl) <|
    xn <| wpC_seq <| reg_s <| st rfl <| mvd rfl rfl <| st rfl <| fab rfl rfl rfl rfl <| st rfl <| lda rfl rfl rfl rfl rfl rfl <| stw rfl <| lent rfl fun l3 => ckI_k h fun i4 h => st rfl <| b_sub (k := .i64) rfl rfl i4 <| x_asg (ss rfl rfl) <| seqN [(1, .d (cI.enc (v1 - (v0.Name.length : Int))))] (by kernel_rfl) <|
    xn <| wpC_seq <| wpC_kp <| wpC_seq <| reg_s <| st rfl <| mvd rfl rfl <| st rfl <| b_lss (k := .i64) rfl rfl <| seqN [(1, .d (cI.enc (v1 - (v0.Name.length : Int)))), (11, .d (cB.enc (decide ((v1 - (v0.Name.length : Int)) < (0 : Int)))))] (by kernel_rfl) <|
    xn <| cnd rfl h (fun b6 h => wpC_seq <| reg_s <| x_asg (sc cI (-1 : Int) rfl) <| seqN [(4, .d (cI.enc (-1 : Int)))] (by kernel_rfl) <|
    xn <| wpC_ret <| rt <| rt <| re <| fin h (r1 (ss rfl rfl) <| r0) rfl)
    (fun b6 h => wpC_skip <| kpN [(1, .d (cI.enc (v1 - (v0.Name.length : Int))))] (by kernel_rfl) <| xn <| wpC_seq <| reg_s <| st rfl <| mvd rfl rfl <| x_asg (ss rfl rfl) <| seqN [(4, .d (cI.enc (v1 - (v0.Name.length : Int))))] (by kernel_rfl) <|
    xn <| wpC_ret <| re <| fin h (r1 (ss rfl rfl) <| r0) rfl)

def rs_laws_szVariableS (r : Int) : List D := [cI.enc r]
def m6 : MC := .seq (.reg [⟨some 4, .asg (.c (.int .i64 0)), none⟩] [0, 1])
  (.seq (.reg [⟨some 6, .mv (.t 1), none⟩,
    ⟨some 7, .mv (.t 0), none⟩,
    ⟨some 8, .len false (.t 7), none⟩,
    ⟨some 9, .bin .sub (.t 6) (.t 8), none⟩,
    ⟨some 1, .asg (.t 9), none⟩] [0, 1])
  (.seq (.kp [0, 1] (.seq (.reg [⟨some 10, .mv (.t 1), none⟩,
    ⟨some 11, .bin .lss (.t 10) (.c (.int .i64 0)), none⟩] [0, 1, 11])
  (.cond (.t 11) (.seq (.reg [⟨some 4, .asg (.c (.int .i64 (-1))), none⟩] [4])
  (.ret)) (.skip))))
  (.seq (.kp [1] (.seq (.reg [⟨some 5, .asg (.c (.int .i64 0)), none⟩] [0, 1, 5])
  (.blk 0 (.loop (.seq (.kp [0, 1, 5] (.seq (.reg [⟨some 12, .mv (.t 5), none⟩,
    ⟨some 13, .mv (.t 0), none⟩,
    ⟨some 14, .len false (.t 13), none⟩,
    ⟨some 15, .bin .lss (.t 12) (.t 14), none⟩] [0, 1, 5, 15])
  (.cond (.t 15) (.skip) (.exit 0))))
  (.seq (.kp [0, 1, 5] (.blk 1 (.seq (.reg [⟨some 18, .mv (.t 0), none⟩,
    ⟨some 19, .mv (.t 5), none⟩,
    ⟨some 20, .ia 18 (.t 19) 2, none⟩,
    ⟨some 21, .ld 20 2 true, none⟩,
    ⟨some 22, .mv (.t 1), none⟩,
    ⟨some 23, .call 25 [(.t 21), (.t 22)], none⟩,
    ⟨some 1, .asg (.t 23), none⟩] [0, 1, 5])
  (.seq (.reg [⟨some 24, .mv (.t 1), none⟩,
    ⟨some 25, .bin .lss (.t 24) (.c (.int .i64 0)), none⟩] [0, 1, 5, 25])
  (.cond (.t 25) (.seq (.reg [⟨some 4, .asg (.c (.int .i64 (-1))), none⟩] [4])
  (.ret)) (.skip))))))
  (.reg [⟨some 16, .mv (.t 5), none⟩,
    ⟨some 17, .bin .add (.t 16) (.c (.int .i64 1)), none⟩,
    ⟨some 5, .asg (.t 17), none⟩] [0, 1, 5])))))))
  (.seq (.reg [⟨some 26, .mv (.t 1), none⟩,
    ⟨some 4, .asg (.t 26), none⟩] [4])
  (.ret)))))
theorem con_laws_szVariableS {v0 : (List XVariable)} {v1 : Int} {r : Int} (h : sh_laws_szVariableS v0 v1 = some r) : Con Tryd.prog 6 [(cLs (cXVariable cS cI) rfl).enc v0, cI.enc v1] [] (rs_laws_szVariableS r) := by
  delta sh_laws_szVariableS at h
  refine top (out := none) (f := Tryd.f6) (m := m6) (rs := [.t 4]) (by kernel_rfl) rfl (by kernel_rfl) (by kernel_rfl) (by kernel_rfl) (by kernel_rfl) (by kernel_rfl) ?_
  exact
   ini [(0, .d ((cLs (cXVariable cS cI) rfl).enc v0)), (1, .d (cI.enc v1))] rfl <| wpC_seq <| reg_s <| x_asg (sc cI (0 : Int) rfl) <| seqN [(0, .d ((cLs (cXVariable cS cI) rfl).enc v0)), (1, .d (cI.enc v1))] (by kernel_rfl) <|
    xn <| wpC_seq <| reg_s <| st rfl <| mvd rfl rfl <| st rfl <| mvd rfl rfl <| stw rfl <| lens rfl fun l3 => ckI_k h fun i4 h => st rfl <| b_sub (k := .i64) rfl rfl i4 <| x_asg (ss rfl rfl) <| seqN [(0, .d ((cLs (cXVariable cS cI) rfl).enc v0)), (1, .d (cI.enc (v1 - (v0.length : Int))))] (by kernel_rfl) <|
    xn <| wpC_seq <| wpC_kp <| wpC_seq <| reg_s <| st rfl <| mvd rfl rfl <| st rfl <| b_lss (k := .i64) rfl rfl <| seqN [(0, .d ((cLs (cXVariable cS cI) rfl).enc v0)), (1, .d (cI.enc (v1 - (v0.length : Int)))), (11, .d (cB.enc (decide ((v1 - (v0.length : Int)) < (0 : Int)))))] (by kernel_rfl) <|
    xn <| cnd rfl h (fun b6 h => wpC_seq <| reg_s <| x_asg (sc cI (-1 : Int) rfl) <| seqN [(4, .d (cI.enc (-1 : Int)))] (by kernel_rfl) <|
    xn <| wpC_ret <| rt <| rt <| re <| fin h (r1 (ss rfl rfl) <| r0) rfl)
    (fun b6 h => wpC_skip <| kpN [(0, .d ((cLs (cXVariable cS cI) rfl).enc v0)), (1, .d (cI.enc (v1 - (v0.length : Int))))] (by kernel_rfl) <| xn <| wpC_seq <| wpC_kp <| wpC_seq <| reg_s <| x_asg (sc cI (0 : Int) rfl) <| seqN [(0, .d ((cLs (cXVariable cS cI) rfl).enc v0)), (1, .d (cI.enc (v1 - (v0.length : Int)))), (5, .d (cI.enc (0 : Int)))] (by kernel_rfl) <|
    xn <| wpC_blk <| lpF (fun (s102 : (Int × Int)) => [(0, .d ((cLs (cXVariable cS cI) rfl).enc v0)), (1, .d (cI.enc s102.1)), (5, .d (cI.enc s102.2))]) ((v1 - (v0.length : Int)), (0 : Int)) rfl h
    fun G167 nx165 s102 hn166 h => wpC_seq <| wpC_kp <| wpC_seq <| reg_s <| st rfl <| mvd rfl rfl <| st rfl <| mvd rfl rfl <| stw rfl <| lens rfl fun l172 => st rfl <| b_lss (k := .i64) rfl rfl <| seqN [(0, .d ((cLs (cXVariable cS cI) rfl).enc v0)), (1, .d (cI.enc s102.1)), (5, .d (cI.enc s102.2)), (15, .d (cB.enc (decide (s102.2 < (v0.length : Int)))))] (by kernel_rfl) <|
    xn <| cnd rfl h (fun b173 h => wpC_skip <| kpN [(0, .d ((cLs (cXVariable cS cI) rfl).enc v0)), (1, .d (cI.enc s102.1)), (5, .d (cI.enc s102.2))] (by kernel_rfl) <| xn <| wpC_seq <| wpC_kp <| wpC_blk <| wpC_seq <| reg_s <| st rfl <| mvd rfl rfl <| st rfl <| mvd rfl rfl <| getO_k h fun x190 i191 g192 h => st rfl <| ias rfl rfl i191 g192 rfl <| st rfl <| ldi rfl rfl rfl rfl <| st rfl <| mvd rfl rfl <| bnd h fun x193 e194 h => st rfl <| o_call (a1 (c := (cXVariable cS cI)) (tXVariable tS tK) rfl (a1 (c := cI) tK rfl a0)) (con_laws_szVariable e194) (.inl (so1 sK so0)) <| x_asg (ss rfl rfl) <| seqN [(0, .d ((cLs (cXVariable cS cI) rfl).enc v0)), (1, .d (cI.enc x193)), (5, .d (cI.enc s102.2))] (by kernel_rfl) <|
    xn <| wpC_seq <| reg_s <| st rfl <| mvd rfl rfl <| st rfl <| b_lss (k := .i64) rfl rfl <| seqN [(0, .d ((cLs (cXVariable cS cI) rfl).enc v0)), (1, .d (cI.enc x193)), (5, .d (cI.enc s102.2)), (25, .d (cB.enc (decide (x193 < (0 : Int)))))] (by kernel_rfl) <|
    xn <| cnd rfl h (fun b195 h => wpC_seq <| reg_s <| x_asg (sc cI (-1 : Int) rfl) <| seqN [(4, .d (cI.enc (-1 : Int)))] (by kernel_rfl) <|
    xn <| wpC_ret <| rb <| rt <| rt <| rt <| rb <| rt <| rt <| re <| fin h (r1 (ss rfl rfl) <| r0) rfl)
    (fun b195 h => wpC_skip <| xbb <| kpN [(0, .d ((cLs (cXVariable cS cI) rfl).enc v0)), (1, .d (cI.enc x193)), (5, .d (cI.enc s102.2))] (by kernel_rfl) <| xn <| reg_s <| st rfl <| mvd rfl rfl <| ckI_k h fun i196 h => st rfl <| b_add (k := .i64) rfl rfl i196 <| x_asg (ss rfl rfl) <| seqN [(0, .d ((cLs (cXVariable cS cI) rfl).enc v0)), (1, .d (cI.enc x193)), (5, .d (cI.enc (s102.2 + (1 : Int))))] (by kernel_rfl) <|
    xn <| hn166 (x193, (s102.2 + (1 : Int))) h))
    (fun b173 h => wpC_exit <| xt <| xt <| xt <| xb <| kpN [(1, .d (cI.enc s102.1))] (by kernel_rfl) <| xn <| wpC_seq <| reg_s <| st rfl <| mvd rfl rfl <| x_asg (ss rfl rfl) <| seqN [(4, .d (cI.enc s102.1))] (by kernel_rfl) <|
    xn <| wpC_ret <| re <| fin h (r1 (ss rfl rfl) <| r0) rfl))

def rs_laws_szTable (r : Int) : List D := [cI.enc r]
def m7 : MC := .seq (.reg [⟨some 2, .box (.t 0), none⟩,
    ⟨some 4, .asg (.c (.int .i64 0)), none⟩] [1, 2])
  (.seq (.reg [⟨some 5, .fa 2 1 1, none⟩,
    ⟨some 6, .ld 5 1 false, none⟩,
    ⟨some 7, .mv (.t 1), none⟩,
    ⟨some 8, .call 24 [(.t 6), (.t 7)], none⟩,
    ⟨some 1, .asg (.t 8), none⟩] [1, 2])
  (.seq (.kp [1, 2] (.seq (.reg [⟨some 9, .mv (.t 1), none⟩,
    ⟨some 10, .bin .lss (.t 9) (.c (.int .i64 0)), none⟩] [1, 2, 10])
  (.cond (.t 10) (.seq (.reg [⟨some 4, .asg (.c (.int .i64 (-1))), none⟩] [4])
  (.ret)) (.skip))))
  (.seq (.reg [⟨some 11, .fa 2 2 2, none⟩,
    ⟨some 12, .ld 11 1 false, none⟩,
    ⟨some 13, .mv (.t 1), none⟩,
    ⟨some 14, .call 24 [(.t 12), (.t 13)], none⟩,
    ⟨some 1, .asg (.t 14), none⟩] [1])
  (.seq (.kp [1] (.seq (.reg [⟨some 15, .mv (.t 1), none⟩,
    ⟨some 16, .bin .lss (.t 15) (.c (.int .i64 0)), none⟩] [1, 16])
  (.cond (.t 16) (.seq (.reg [⟨some 4, .asg (.c (.int .i64 (-1))), none⟩] [4])
  (.ret)) (.skip))))
  (.seq (.reg [⟨some 17, .mv (.t 1), none⟩,
    ⟨some 4, .asg (.t 17), none⟩] [4])
  (.ret))))))
theorem con_laws_szTable {v0 : XTable} {v1 : Int} {r : Int} (h : sh_laws_szTable v0 v1 = some r) : Con Tryd.prog 7 [(cXTable cI (cLs cI rfl) (cLs cI rfl) cI).enc v0, cI.enc v1] [] (rs_laws_szTable r) := by
  delta sh_laws_szTable at h
  refine top (out := none) (f := Tryd.f7) (m := m7) (rs := [.t 4]) (by kernel_rfl) rfl (by kernel_rfl) (by kernel_rfl) (by kernel_rfl) (by kernel_rfl) (by kernel_rfl) ?_
  exact
   ini [(0, .d ((cXTable cI (cLs cI rfl) (cLs cI rfl) cI).enc v0)), (1, .d (cI.enc v1))] rfl <| wpC_seq <| reg_s <| x_box (ss rfl rfl) <| x_asg (sc cI (0 : Int) rfl) <| seqN [(1, .d (cI.enc v1)), (2, .box ((cXTable cI (cLs cI rfl) (cLs cI rfl) cI).enc v0))] (by kernel_rfl) <|
    xn <| wpC_seq <| reg_s <| st rfl <| fab rfl rfl rfl rfl <| st rfl <| lda rfl rfl rfl rfl rfl rfl <| st rfl <| mvd rfl rfl <| bnd h fun x3 e4 h => st rfl <| o_call (a1 (c := (cLs cI rfl)) (tLs tK) rfl (a1 (c := cI) tK rfl a0)) (con_laws_szIntS e4) (.inl (so1 sK so0)) <| x_asg (ss rfl rfl) <| seqN [(1, .d (cI.enc x3)), (2, .box ((cXTable cI (cLs cI rfl) (cLs cI rfl) cI).enc v0))] (by kernel_rfl) <|
    xn <| wpC_seq <| wpC_kp <| wpC_seq <| reg_s <| st rfl <| mvd rfl rfl <| st rfl <| b_lss (k := .i64) rfl rfl <| seqN [(1, .d (cI.enc x3)), (2, .box ((cXTable cI (cLs cI rfl) (cLs cI rfl) cI).enc v0)), (10, .d (cB.enc (decide (x3 < (0 : Int)))))] (by kernel_rfl) <|
    xn <| cnd rfl h (fun b6 h => wpC_seq <| reg_s <| x_asg (sc cI (-1 : Int) rfl) <| seqN [(4, .d (cI.enc (-1 : Int)))] (by kernel_rfl) <|
    xn <| wpC_ret <| rt <| rt <| re <| fin h (r1 (ss rfl rfl) <| r0) rfl)
    (fun b6 h => wpC_skip <| kpN [(1, .d (cI.enc x3)), (2, .box ((cXTable cI (cLs cI rfl) (cLs cI rfl) cI).enc v0))] (by kernel_rfl) <| xn <| wpC_seq <| reg_s <| st rfl <| fab rfl rfl rfl rfl <| st rfl <| lda rfl rfl rfl rfl rfl rfl <| st rfl <| mvd rfl rfl <| bnd h fun x9 e10 h => st rfl <| o_call (a1 (c := (cLs cI rfl)) (tLs tK) rfl (a1 (c := cI) tK rfl a0)) (con_laws_szIntS e10) (.inl (so1 sK so0)) <| x_asg (ss rfl rfl) <| seqN [(1, .d (cI.enc x9))] (by kernel_rfl) <|
    xn <| wpC_seq <| wpC_kp <| wpC_seq <| reg_s <| st rfl <| mvd rfl rfl <| st rfl <| b_lss (k := .i64) rfl rfl <| seqN [(1, .d (cI.enc x9)), (16, .d (cB.enc (decide (x9 < (0 : Int)))))] (by kernel_rfl) <|
    xn <| cnd rfl h (fun b12 h => wpC_seq <| reg_s <| x_asg (sc cI (-1 : Int) rfl) <| seqN [(4, .d (cI.enc (-1 : Int)))] (by kernel_rfl) <|
    xn <| wpC_ret <| rt <| rt <| re <| fin h (r1 (ss rfl rfl) <| r0) rfl)
    (fun b12 h => wpC_skip <| kpN [(1, .d (cI.enc x9))] (by kernel_rfl) <| xn <| wpC_seq <| reg_s <| st rfl <| mvd rfl rfl <| x_asg (ss rfl rfl) <| seqN [(4, .d (cI.enc x9))] (by kernel_rfl) <|
    xn <| wpC_ret <| re <| fin h (r1 (ss rfl rfl) <| r0) rfl))

def rs_laws_toIntS (r : (List Int)) : List D := [(cLo cI).enc r]
def m12 : MC := .seq (.reg [⟨some 2, .asg (.c (.slice true [])), none⟩] [0])
  (.seq (.reg [⟨some 5, .mv (.t 0), none⟩,
    ⟨some 6, .len false (.t 5), none⟩,
    ⟨some 7, .mk (.int .i64 0) (.t 6), none⟩,
    ⟨some 3, .asg (.t 7), none⟩] [0, 3])
  (.seq (.kp [3] (.seq (.reg [⟨some 4, .asg (.c (.int .i64 0)), none⟩] [0, 3, 4])
  (.blk 0 (.loop (.seq (.kp [0, 3, 4] (.seq (.reg [⟨some 8, .mv (.t 4), none⟩,
    ⟨some 9, .mv (.t 0), none⟩,
    ⟨some 10, .len false (.t 9), none⟩,
    ⟨some 11, .bin .lss (.t 8) (.t 10), none⟩] [0, 3, 4, 11])
  (.cond (.t 11) (.skip) (.exit 0))))
  (.seq (.kp [0, 3, 4] (.blk 1 (.reg [⟨some 14, .mv (.t 3), none⟩,
    ⟨some 15, .mv (.t 4), none⟩,
    ⟨some 16, .mv (.t 0), none⟩,
    ⟨some 17, .mv (.t 4), none⟩,
    ⟨some 18, .ia 16 (.t 17) 1, none⟩,
    ⟨some 19, .ld 18 1 false, none⟩,
    ⟨some 20, .ia 14 (.t 15) 1, none⟩,
    ⟨none, .st 20 (.t 19) 1, none⟩] [0, 3, 4])))
  (.reg [⟨some 12, .mv (.t 4), none⟩,
    ⟨some 13, .bin .add (.t 12) (.c (.int .i64 1)), none⟩,
    ⟨some 4, .asg (.t 13), none⟩] [0, 3, 4])))))))
  (.seq (.reg [⟨some 21, .mv (.t 3), none⟩,
    ⟨some 2, .asg (.t 21), none⟩] [2])
  (.ret))))
theorem con_laws_toIntS {v0 : (List Int)} {r : (List Int)} (h : sh_laws_toIntS v0 = some r) : Con Tryd.prog 12 [(cLs cI rfl).enc v0] [] (rs_laws_toIntS r) := by
  delta sh_laws_toIntS at h
  refine top (out := none) (f := Tryd.f12) (m := m12) (rs := [.t 2]) (by kernel_rfl) rfl (by kernel_rfl) (by kernel_rfl) (by kernel_rfl) (by kernel_rfl) (by kernel_rfl) ?_
  exact
   ini [(0, .d ((cLs cI rfl).enc v0))] rfl <| wpC_seq <| reg_s <| x_asg (sc (cLo cI) ([] : List Int) rfl) <| seqN [(0, .d ((cLs cI rfl).enc v0))] (by kernel_rfl) <|
    xn <| wpC_seq <| reg_s <| st rfl <| mvd rfl rfl <| stw rfl <| lens rfl fun l4 => mkO_k h fun i5 l6 h => st rfl <| o_mk (c := cI) (a0 := (0 : Int)) rfl (k := .i64) rfl i5 l6 <| x_asg (so rfl rfl) <| seqN [(0, .d ((cLs cI rfl).enc v0)), (3, .d ((cLo cI).enc (List.replicate ((v0.length : Int)).toNat (0 : Int))))] (by kernel_rfl) <|
    xn <| wpC_seq <| wpC_kp <| wpC_seq <| reg_s <| x_asg (sc cI (0 : Int) rfl) <| seqN [(0, .d ((cLs cI rfl).enc v0)), (3, .d ((cLo cI).enc (List.replicate ((v0.length : Int)).toNat (0 : Int)))), (4, .d (cI.enc (0 : Int)))] (by kernel_rfl) <|
    xn <| wpC_blk <| lpF (fun (s72 : ((List Int) × Int)) => [(0, .d ((cLs cI rfl).enc v0)), (3, .d ((cLo cI).enc s72.1)), (4, .d (cI.enc s72.2))]) ((List.replicate ((v0.length : Int)).toNat (0 : Int)), (0 : Int)) rfl h
    fun G117 nx115 s72 hn116 h => wpC_seq <| wpC_kp <| wpC_seq <| reg_s <| st rfl <| mvd rfl rfl <| st rfl <| mvd rfl rfl <| stw rfl <| lens rfl fun l122 => st rfl <| b_lss (k := .i64) rfl rfl <| seqN [(0, .d ((cLs cI rfl).enc v0)), (3, .d ((cLo cI).enc s72.1)), (4, .d (cI.enc s72.2)), (11, .d (cB.enc (decide (s72.2 < (v0.length : Int)))))] (by kernel_rfl) <|
    xn <| cnd rfl h (fun b123 h => wpC_skip <| kpN [(0, .d ((cLs cI rfl).enc v0)), (3, .d ((cLo cI).enc s72.1)), (4, .d (cI.enc s72.2))] (by kernel_rfl) <| xn <| wpC_seq <| wpC_kp <| wpC_blk <| reg_s <| st rfl <| mvo rfl rfl <| st rfl <| mvd rfl rfl <| st rfl <| mvd rfl rfl <| st rfl <| mvd rfl rfl <| getO_k h fun x130 i131 g132 h => st rfl <| ias rfl rfl i131 g132 rfl <| st rfl <| ldi rfl rfl rfl rfl <| getO_k h fun x133 i134 g135 h => st rfl <| iar rfl rfl rfl rfl i134 g135 rfl <| x_sta ((cLo cI).enc (s72.1.set (s72.2).toNat x130)) (ss rfl rfl) rfl rfl (Ln.idx g135 Ln.nil) (Cd.h_sz cI _) rfl <| seqN [(0, .d ((cLs cI rfl).enc v0)), (3, .d ((cLo cI).enc (s72.1.set (s72.2).toNat x130))), (4, .d (cI.enc s72.2))] (by kernel_rfl) <|
    xbb <| kpN [(0, .d ((cLs cI rfl).enc v0)), (3, .d ((cLo cI).enc (s72.1.set (s72.2).toNat x130))), (4, .d (cI.enc s72.2))] (by kernel_rfl) <| xn <| reg_s <| st rfl <| mvd rfl rfl <| ckI_k h fun i136 h => st rfl <| b_add (k := .i64) rfl rfl i136 <| x_asg (ss rfl rfl) <| seqN [(0, .d ((cLs cI rfl).enc v0)), (3, .d ((cLo cI).enc (s72.1.set (s72.2).toNat x130))), (4, .d (cI.enc (s72.2 + (1 : Int))))] (by kernel_rfl) <|
    xn <| hn116 ((s72.1.set (s72.2).toNat x130), (s72.2 + (1 : Int))) h)
    (fun b123 h => wpC_exit <| xt <| xt <| xt <| xb <| kpN [(3, .d ((cLo cI).enc s72.1))] (by kernel_rfl) <| xn <| wpC_seq <| reg_s <| st rfl <| mvo rfl rfl <| x_asg (sr rfl rfl) <| seqN [(2, .d ((cLo cI).enc s72.1))] (by kernel_rfl) <|
    xn <| wpC_ret <| re <| fin h (r1 (so rfl rfl) <| r0) rfl)

def rs_laws_toGeo (r : XGeo) : List D := [(cXGeo (cLo cI)).enc r]
def m9 : MC := .seq (.reg [⟨some 1, .box (.t 0), none⟩,
    ⟨some 2, .alloc (.agg [.slice true []]), none⟩] [1, 2])
  (.seq (.reg [⟨some 3, .alloc (.agg [.slice true []]), none⟩] [1, 2, 3])
  (.seq (.reg [⟨some 4, .fa 1 0 0, none⟩,
    ⟨some 5, .ld 4 1 false, none⟩,
    ⟨some 6, .call 12 [(.t 5)], none⟩,
    ⟨some 7, .fa 3 0 0, none⟩,
    ⟨none, .st 7 (.t 6) 1, none⟩] [2, 3])
  (.seq (.reg [⟨some 8, .ld 3 1 true, none⟩,
    ⟨none, .st 2 (.t 8) 1, none⟩] [2])
  (.ret))))
theorem con_laws_toGeo {v0 : XGeo} {r : XGeo} (h : sh_laws_toGeo v0 = some r) : Con Tryd.prog 9 [(cXGeo (cLs cI rfl)).enc v0] [] (rs_laws_toGeo r) := by
  delta sh_laws_toGeo at h
  refine top (out := none) (f := Tryd.f9) (m := m9) (rs := [.c 2 1 true]) (by kernel_rfl) rfl (by kernel_rfl) (by kernel_rfl) (by kernel_rfl) (by kernel_rfl) (by kernel_rfl) ?_
  exact
   ini [(0, .d ((cXGeo (cLs cI rfl)).enc v0))] rfl <| wpC_seq <| reg_s <| x_box (ss rfl rfl) <| x_all (cXGeo (cLo cI)) (⟨([] : List Int)⟩ : XGeo) rfl <| seqN [(1, .box ((cXGeo (cLs cI rfl)).enc v0)), (2, .box ((cXGeo (cLo cI)).enc (⟨([] : List Int)⟩ : XGeo)))] (by kernel_rfl) <|
    xn <| wpC_seq <| reg_s <| x_all (cXGeo (cLo cI)) (⟨([] : List Int)⟩ : XGeo) rfl <| seqN [(1, .box ((cXGeo (cLs cI rfl)).enc v0)), (2, .box ((cXGeo (cLo cI)).enc (⟨([] : List Int)⟩ : XGeo))), (3, .box ((cXGeo (cLo cI)).enc (⟨([] : List Int)⟩ : XGeo)))] (by kernel_rfl) <|
    xn <| wpC_seq <| reg_s <| st rfl <| fab rfl rfl rfl rfl <| st rfl <| lda rfl rfl rfl rfl rfl rfl <| bnd h fun x3 e4 h => st rfl <| o_call (a1 (c := (cLs cI rfl)) (tLs tK) rfl a0) (con_laws_toIntS e4) (.inl (so1 (sLo sK) so0)) <| st rfl <| fab rfl rfl rfl rfl <| x_sta ((cXGeo (cLo cI)).enc (⟨x3⟩ : XGeo)) (so rfl rfl) rfl rfl (Ln.fld rfl rfl Ln.nil rfl) (Cd.h_sz (cLo cI) _) rfl <| seqN [(2, .box ((cXGeo (cLo cI)).enc (⟨([] : List Int)⟩ : XGeo))), (3, .box ((cXGeo (cLo cI)).enc (⟨x3⟩ : XGeo)))] (by kernel_rfl) <|
    xn <| wpC_seq <| reg_s <| st rfl <| ldbo rfl rfl rfl rfl <| x_stb (sb rfl rfl) rfl (Cd.h_sz _ _) rfl <| seqN [(2, .box ((cXGeo (cLo cI)).enc (⟨x3⟩ : XGeo)))] (by kernel_rfl) <|
    xn <| wpC_ret <| re <| fin h (r2 rfl rfl rfl <| r0) rfl

def rs_laws_toGeo_fz (r : XGeo) : List D := [(cXGeo (cLs cI rfl)).enc r]
theorem con_laws_toGeo_fz {v0 : XGeo} {r : XGeo} (h : sh_laws_toGeo v0 = some r) : Con Tryd.prog 9 [(cXGeo (cLs cI rfl)).enc v0] [] (rs_laws_toGeo_fz r) := con_fz (tXGeo (tLo tK)) (con_laws_toGeo h)

def rs_laws_toVariable (r : XVariable) : List D := [(cXVariable cS cI).enc r]
def m28 : MC := .seq (.reg [⟨some 1, .box (.t 0), none⟩,
    ⟨some 2, .alloc (.agg [.str [], .int .i64 0]), none⟩] [1, 2])
  (.seq (.reg [⟨some 3, .alloc (.agg [.str [], .int .i64 0]), none⟩] [1, 2, 3])
  (.seq (.reg [⟨some 4, .fa 1 0 0, none⟩,
    ⟨some 5, .ld 4 1 false, none⟩,
    ⟨some 6, .fa 3 0 0, none⟩,
    ⟨none, .st 6 (.t 5) 1, none⟩] [1, 2, 3])
  (.seq (.reg [⟨some 7, .fa 1 1 1, none⟩,
    ⟨some 8, .ld 7 1 false, none⟩,
    ⟨some 9, .fa 3 1 1, none⟩,
    ⟨none, .st 9 (.t 8) 1, none⟩] [2, 3])
  (.seq (.reg [⟨some 10, .ld 3 2 true, none⟩,
    ⟨none, .st 2 (.t 10) 2, none⟩] [2])
  (.ret)))))
theorem con_laws_toVariable {v0 : XVariable} {r : XVariable} (h : sh_laws_toVariable v0 = some r) : Con Tryd.prog 28 [(cXVariable cS cI).enc v0] [] (rs_laws_toVariable r) := by
  delta sh_laws_toVariable at h
  refine top (out := none) (f := Tryd.f28) (m := m28) (rs := [.c 2 2 true]) (by kernel_rfl) rfl (by kernel_rfl) (by kernel_rfl) (by kernel_rfl) (by kernel_rfl) (by kernel_rfl) ?_
  exact
   ini [(0, .d ((cXVariable cS cI).enc v0))] rfl <| wpC_seq <| reg_s <| x_box (ss rfl rfl) <| x_all (cXVariable cS cI) (⟨([] : List UInt8), (0 : Int)⟩ : XVariable) rfl <| seqN [(1, .box ((cXVariable cS cI).enc v0)), (2, .box ((cXVariable cS cI).enc (⟨([] : List UInt8), (0 : Int)⟩ : XVariable)))] (by kernel_rfl) <|
    xn <| wpC_seq <| reg_s <| x_all (cXVariable cS cI) (⟨([] : List UInt8), (0 : Int)⟩ : XVariable) rfl <| seqN [(1, .box ((cXVariable cS cI).enc v0)), (2, .box ((cXVariable cS cI).enc (⟨([] : List UInt8), (0 : Int)⟩ : XVariable))), (3, .box ((cXVariable cS cI).enc (⟨([] : List UInt8), (0 : Int)⟩ : XVariable)))] (by kernel_rfl) <|
    xn <| wpC_seq <| reg_s <| st rfl <| fab rfl rfl rfl rfl <| st rfl <| lda rfl rfl rfl rfl rfl rfl <| st rfl <| fab rfl rfl rfl rfl <| x_sta ((cXVariable cS cI).enc (⟨v0.Name, (0 : Int)⟩ : XVariable)) (ss rfl rfl) rfl rfl (Ln.fld rfl rfl Ln.nil rfl) (Cd.h_sz cS _) rfl <| seqN [(1, .box ((cXVariable cS cI).enc v0)), (2, .box ((cXVariable cS cI).enc (⟨([] : List UInt8), (0 : Int)⟩ : XVariable))), (3, .box ((cXVariable cS cI).enc (⟨v0.Name, (0 : Int)⟩ : XVariable)))] (by kernel_rfl) <|
    xn <| wpC_seq <| reg_s <| st rfl <| fab rfl rfl rfl rfl <| st rfl <| lda rfl rfl rfl rfl rfl rfl <| st rfl <| fab rfl rfl rfl rfl <| x_sta ((cXVariable cS cI).enc (⟨v0.Name, v0.Levels⟩ : XVariable)) (ss rfl rfl) rfl rfl (Ln.fld rfl rfl Ln.nil rfl) (Cd.h_sz cI _) rfl <| seqN [(2, .box ((cXVariable cS cI).enc (⟨([] : List UInt8), (0 : Int)⟩ : XVariable))), (3, .box ((cXVariable cS cI).enc (⟨v0.Name, v0.Levels⟩ : XVariable)))] (by kernel_rfl) <|
    xn <| wpC_seq <| reg_s <| st rfl <| ldb rfl rfl rfl rfl <| x_stb (ss rfl rfl) rfl (Cd.h_sz _ _) rfl <| seqN [(2, .box ((cXVariable cS cI).enc (⟨v0.Name, v0.Levels⟩ : XVariable)))] (by kernel_rfl) <|
    xn <| wpC_ret <| re <| fin h (r2 rfl rfl rfl <| r0) rfl

def rs_laws_toVariableS (r : (List XVariable)) : List D := [(cLo (cXVariable cS cI)).enc r]
def m10 : MC := .seq (.reg [⟨some 2, .asg (.c (.slice true [])), none⟩] [0])
  (.seq (.reg [⟨some 5, .mv (.t 0), none⟩,
    ⟨some 6, .len false (.t 5), none⟩,
    ⟨some 7, .mk (.agg [.str [], .int .i64 0]) (.t 6), none⟩,
    ⟨some 3, .asg (.t 7), none⟩] [0, 3])
  (.seq (.kp [3] (.seq (.reg [⟨some 4, .asg (.c (.int .i64 0)), none⟩] [0, 3, 4])
  (.blk 0 (.loop (.seq (.kp [0, 3, 4] (.seq (.reg [⟨some 8, .mv (.t 4), none⟩,
    ⟨some 9, .mv (.t 0), none⟩,
    ⟨some 10, .len false (.t 9), none⟩,
    ⟨some 11, .bin .lss (.t 8) (.t 10), none⟩] [0, 3, 4, 11])
  (.cond (.t 11) (.skip) (.exit 0))))
  (.seq (.kp [0, 3, 4] (.blk 1 (.reg [⟨some 14, .mv (.t 3), none⟩,
    ⟨some 15, .mv (.t 4), none⟩,
    ⟨some 16, .mv (.t 0), none⟩,
    ⟨some 17, .mv (.t 4), none⟩,
    ⟨some 18, .ia 16 (.t 17) 2, none⟩,
    ⟨some 19, .ld 18 2 true, none⟩,
    ⟨some 20, .call 28 [(.t 19)], none⟩,
    ⟨some 21, .ia 14 (.t 15) 2, none⟩,
    ⟨none, .st 21 (.t 20) 2, none⟩] [0, 3, 4])))
  (.reg [⟨some 12, .mv (.t 4), none⟩,
    ⟨some 13, .bin .add (.t 12) (.c (.int .i64 1)), none⟩,
    ⟨some 4, .asg (.t 13), none⟩] [0, 3, 4])))))))
  (.seq (.reg [⟨some 22, .mv (.t 3), none⟩,
    ⟨some 2, .asg (.t 22), none⟩] [2])
  (.ret))))
theorem con_laws_toVariableS {v0 : (List XVariable)} {r : (List XVariable)} (h : sh_laws_toVariableS v0 = some r) : Con Tryd.prog 10 [(cLs (cXVariable cS cI) rfl).enc v0] [] (rs_laws_toVariableS r) := by
  delta sh_laws_toVariableS at h
  refine top (out := none) (f := Tryd.f10) (m := m10) (rs := [.t 2]) (by kernel_rfl) rfl (by kernel_rfl) (by kernel_rfl) (by kernel_rfl) (by kernel_rfl) (by kernel_rfl) ?_
  exact
   ini [(0, .d ((cLs (cXVariable cS cI) rfl).enc v0))] rfl <| wpC_seq <| reg_s <| x_asg (sc (cLo (cXVariable cS cI)) ([] : List XVariable) rfl) <| seqN [(0, .d ((cLs (cXVariable cS cI) rfl).enc v0))] (by kernel_rfl) <|
    xn <| wpC_seq <| reg_s <| st rfl <| mvd rfl rfl <| stw rfl <| lens rfl fun l4 => mkO_k h fun i5 l6 h => st rfl <| o_mk (c := (cXVariable cS cI)) (a0 := (⟨([] : List UInt8), (0 : Int)⟩ : XVariable)) rfl (k := .i64) rfl i5 l6 <| x_asg (so rfl rfl) <| seqN [(0, .d ((cLs (cXVariable cS cI) rfl).enc v0)), (3, .d ((cLo (cXVariable cS cI)).enc (List.replicate ((v0.length : Int)).toNat (⟨([] : List UInt8), (0 : Int)⟩ : XVariable))))] (by kernel_rfl) <|
    xn <| wpC_seq <| wpC_kp <| wpC_seq <| reg_s <| x_asg (sc cI (0 : Int) rfl) <| seqN [(0, .d ((cLs (cXVariable cS cI) rfl).enc v0)), (3, .d ((cLo (cXVariable cS cI)).enc (List.replicate ((v0.length : Int)).toNat (⟨([] : List UInt8), (0 : Int)⟩ : XVariable)))), (4, .d (cI.enc (0 : Int)))] (by kernel_rfl) <|
    xn <| wpC_blk <| lpF (fun (s84 : ((List XVariable) × Int)) => [(0, .d ((cLs (cXVariable cS cI) rfl).enc v0)), (3, .d ((cLo (cXVariable cS cI)).enc s84.1)), (4, .d (cI.enc s84.2))]) ((List.replicate ((v0.length : Int)).toNat (⟨([] : List UInt8), (0 : Int)⟩ : XVariable)), (0 : Int)) rfl h
    fun G137 nx135 s84 hn136 h => wpC_seq <| wpC_kp <| wpC_seq <| reg_s <| st rfl <| mvd rfl rfl <| st rfl <| mvd rfl rfl <| stw rfl <| lens rfl fun l142 => st rfl <| b_lss (k := .i64) rfl rfl <| seqN [(0, .d ((cLs (cXVariable cS cI) rfl).enc v0)), (3, .d ((cLo (cXVariable cS cI)).enc s84.1)), (4, .d (cI.enc s84.2)), (11, .d (cB.enc (decide (s84.2 < (v0.length : Int)))))] (by kernel_rfl) <|
    xn <| cnd rfl h (fun b143 h => wpC_skip <| kpN [(0, .d ((cLs (cXVariable cS cI) rfl).enc v0)), (3, .d ((cLo (cXVariable cS cI)).enc s84.1)), (4, .d (cI.enc s84.2))] (by kernel_rfl) <| xn <| wpC_seq <| wpC_kp <| wpC_blk <| reg_s <| st rfl <| mvo rfl rfl <| st rfl <| mvd rfl rfl <| st rfl <| mvd rfl rfl <| st rfl <| mvd rfl rfl <| getO_k h fun x152 i153 g154 h => st rfl <| ias rfl rfl i153 g154 rfl <| st rfl <| ldi rfl rfl rfl rfl <| bnd h fun x155 e156 h => st rfl <| o_call (a1 (c := (cXVariable cS cI)) (tXVariable tS tK) rfl a0) (con_laws_toVariable e156) (.inl (so1 (sXVariable sS sK) so0)) <| getO_k h fun x157 i158 g159 h => st rfl <| iar rfl rfl rfl rfl i158 g159 rfl <| x_sta ((cLo (cXVariable cS cI)).enc (s84.1.set (s84.2).toNat x155)) (ss rfl rfl) rfl rfl (Ln.idx g159 Ln.nil) (Cd.h_sz (cXVariable cS cI) _) rfl <| seqN [(0, .d ((cLs (cXVariable cS cI) rfl).enc v0)), (3, .d ((cLo (cXVariable cS cI)).enc (s84.1.set (s84.2).toNat x155))), (4, .d (cI.enc s84.2))] (by kernel_rfl) <|
    xbb <| kpN [(0, .d ((cLs (cXVariable cS cI) rfl).enc v0)), (3, .d ((cLo (cXVariable cS cI)).enc (s84.1.set (s84.2).toNat x155))), (4, .d (cI.enc s84.2))] (by kernel_rfl) <| xn <| reg_s <| st rfl <| mvd rfl rfl <| ckI_k h fun i160 h => st rfl <| b_add (k := .i64) rfl rfl i160 <| x_asg (ss rfl rfl) <| seqN [(0, .d ((cLs (cXVariable cS cI) rfl).enc v0)), (3, .d ((cLo (cXVariable cS cI)).enc (s84.1.set (s84.2).toNat x155))), (4, .d (cI.enc (s84.2 + (1 : Int))))] (by kernel_rfl) <|
    xn <| hn136 ((s84.1.set (s84.2).toNat x155), (s84.2 + (1 : Int))) h)
    (fun b143 h => wpC_exit <| xt <| xt <| xt <| xb <| kpN [(3, .d ((cLo (cXVariable cS cI)).enc s84.1))] (by kernel_rfl) <| xn <| wpC_seq <| reg_s <| st rfl <| mvo rfl rfl <| x_asg (sr rfl rfl) <| seqN [(2, .d ((cLo (cXVariable cS cI)).enc s84.1))] (by kernel_rfl) <|
    xn <| wpC_ret <| re <| fin h (r1 (so rfl rfl) <| r0) rfl)

def rs_laws_toVariableS_fz (r : (List XVariable)) : List D := [(cLs (cXVariable cS cI) rfl).enc r]
theorem con_laws_toVariableS_fz {v0 : (List XVariable)} {r : (List XVariable)} (h : sh_laws_toVariableS v0 = some r) : Con Tryd.prog 10 [(cLs (cXVariable cS cI) rfl).enc v0] [] (rs_laws_toVariableS_fz r) := con_fz (tLo (tXVariable tS tK)) (con_laws_toVariableS h)

def rs_laws_toTable (r : XTable) : List D := [(cXTable cI (cLo cI) (cLo cI) cI).enc r]
def m11 : MC := .seq (.reg [⟨some 1, .box (.t 0), none⟩,
    ⟨some 2, .alloc (.agg [.int .i64 0, .slice true [], .slice true [], .int .i64 0]), none⟩] [1, 2])
  (.seq (.reg [⟨some 3, .alloc (.agg [.int .i64 0, .slice true [], .slice true [], .int .i64 0]), none⟩] [1, 2, 3])
  (.seq (.reg [⟨some 4, .fa 1 0 0, none⟩,
    ⟨some 5, .ld 4 1 false, none⟩,
    ⟨some 6, .fa 3 0 0, none⟩,
    ⟨none, .st 6 (.t 5) 1, none⟩] [1, 2, 3])
  (.seq (.reg [⟨some 7, .fa 1 1 1, none⟩,
    ⟨some 8, .ld 7 1 false, none⟩,
    ⟨some 9, .call 12 [(.t 8)], none⟩,
    ⟨some 10, .fa 3 1 1, none⟩,
    ⟨none, .st 10 (.t 9) 1, none⟩] [1, 2, 3])
  (.seq (.reg [⟨some 11, .fa 1 2 2, none⟩,
    ⟨some 12, .ld 11 1 false, none⟩,
    ⟨some 13, .call 12 [(.t 12)], none⟩,
    ⟨some 14, .fa 3 2 2, none⟩,
    ⟨none, .st 14 (.t 13) 1, none⟩] [1, 2, 3])
  (.seq (.reg [⟨some 15, .fa 1 3 3, none⟩,
    ⟨some 16, .ld 15 1 false, none⟩,
    ⟨some 17, .fa 3 3 3, none⟩,
    ⟨none, .st 17 (.t 16) 1, none⟩] [2, 3])
  (.seq (.reg [⟨some 18, .ld 3 4 true, none⟩,
    ⟨none, .st 2 (.t 18) 4, none⟩] [2])
  (.ret)))))))
theorem con_laws_toTable {v0 : XTable} {r : XTable} (h : sh_laws_toTable v0 = some r) : Con Tryd.prog 11 [(cXTable cI (cLs cI rfl) (cLs cI rfl) cI).enc v0] [] (rs_laws_toTable r) := by
  delta sh_laws_toTable at h
  refine top (out := none) (f := Tryd.f11) (m := m11) (rs := [.c 2 4 true]) (by kernel_rfl) rfl (by kernel_rfl) (by kernel_rfl) (by kernel_rfl) (by kernel_rfl) (by kernel_rfl) ?_
  exact
   ini [(0, .d ((cXTable cI (cLs cI rfl) (cLs cI rfl) cI).enc v0))] rfl <| wpC_seq <| reg_s <| x_box (ss rfl rfl) <| x_all (cXTable cI (cLo cI) (cLo cI) cI) (⟨(0 : Int), ([] : List Int), ([] : List Int), (0 : Int)⟩ : XTable) rfl <| seqN [(1, .box ((cXTable cI (cLs cI rfl) (cLs cI rfl) cI).enc v0)), (2, .box ((cXTable cI (cLo cI) (cLo cI) cI).enc (⟨(0 : Int), ([] : List Int), ([] : List Int), (0 : Int)⟩ : XTable)))] (by kernel_rfl) <|
    xn <| wpC_seq <| reg_s <| x_all (cXTable cI (cLo cI) (cLo cI) cI) (⟨(0 : Int), ([] : List Int), ([] : List Int), (0 : Int)⟩ : XTable) rfl <| seqN [(1, .box ((cXTable cI (cLs cI rfl) (cLs cI rfl) cI).enc v0)), (2, .box ((cXTable cI (cLo cI) (cLo cI) cI).enc (⟨(0 : Int), ([] : List Int), ([] : List Int), (0 : Int)⟩ : XTable))), (3, .box ((cXTable cI (cLo cI) (cLo cI) cI).enc (⟨(0 : Int), ([] : List Int), ([] : List Int), (0 : Int)⟩ : XTable)))] (by kernel_rfl) <|
    xn <| wpC_seq <| reg_s <| st rfl <| fab rfl rfl rfl rfl <| st rfl <| lda rfl rfl rfl rfl rfl rfl <| st rfl <| fab rfl rfl rfl rfl <| x_sta ((cXTable cI (cLo cI) (cLo cI) cI).enc (⟨v0.Level, ([] : List Int), ([] : List Int), (0 : Int)⟩ : XTable)) (ss rfl rfl) rfl rfl (Ln.fld rfl rfl Ln.nil rfl) (Cd.h_sz cI _) rfl <| seqN [(1, .box ((cXTable cI (cLs cI rfl) (cLs cI rfl) cI).enc v0)), (2, .box ((cXTable cI (cLo cI) (cLo cI) cI).enc (⟨(0 : Int), ([] : List Int), ([] : List Int), (0 : Int)⟩ : XTable))), (3, .box ((cXTable cI (cLo cI) (cLo cI) cI).enc (⟨v0.Level, ([] : List Int), ([] : List Int), (0 : Int)⟩ : XTable)))] (by kernel_rfl) <|
    xn <| wpC_seq <| reg_s <| st rfl <| fab rfl rfl rfl rfl <| st rfl <| lda rfl rfl rfl rfl rfl rfl <| bnd h fun x3 e4 h => st rfl <| o_call (a1 (c := (cLs cI rfl)) (tLs tK) rfl a0) (con_laws_toIntS e4) (.inl (so1 (sLo sK) so0)) <| st rfl <| fab rfl rfl rfl rfl <| x_sta ((cXTable cI (cLo cI) (cLo cI) cI).enc (⟨v0.Level, x3, ([] : List Int), (0 : Int)⟩ : XTable)) (so rfl rfl) rfl rfl (Ln.fld rfl rfl Ln.nil rfl) (Cd.h_sz (cLo cI) _) rfl <| seqN [(1, .box ((cXTable cI (cLs cI rfl) (cLs cI rfl) cI).enc v0)), (2, .box ((cXTable cI (cLo cI) (cLo cI) cI).enc (⟨(0 : Int), ([] : List Int), ([] : List Int), (0 : Int)⟩ : XTable))), (3, .box ((cXTable cI (cLo cI) (cLo cI) cI).enc (⟨v0.Level, x3, ([] : List Int), (0 : Int)⟩ : XTable)))] (by kernel_rfl) <|
    xn <| wpC_seq <| reg_s <| st rfl <| fab rfl rfl rfl rfl <| st rfl <| lda rfl rfl rfl rfl rfl rfl <| bnd h fun x7 e8 h => st rfl <| o_call (a1 (c := (cLs cI rfl)) (tLs tK) rfl a0) (con_laws_toIntS e8) (.inl (so1 (sLo sK) so0)) <| st rfl <| fab rfl rfl rfl rfl <| x_sta ((cXTable cI (cLo cI) (cLo cI) cI).enc (⟨v0.Level, x3, x7, (0 : Int)⟩ : XTable)) (so rfl rfl) rfl rfl (Ln.fld rfl rfl Ln.nil rfl) (Cd.h_sz (cLo cI) _) rfl <| seqN [(1, .box ((cXTable cI (cLs cI rfl) (cLs cI rfl) cI).enc v0)), (2, .box ((cXTable cI (cLo cI) (cLo cI) cI).enc (⟨(0 : Int), ([] : List Int), ([] : List Int), (0 : Int)⟩ : XTable))), (3, .box ((cXTable cI (cLo cI) (cLo cI) cI).enc (⟨v0.Level, x3, x7, (0 : Int)⟩ : XTable)))] (by kernel_rfl) <|
    xn <| wpC_seq <| reg_s <| st rfl <| fab rfl rfl rfl rfl <| st rfl <| lda rfl rfl rfl rfl rfl rfl <| st rfl <| fab rfl rfl rfl rfl <| x_sta ((cXTable cI (cLo cI) (cLo cI) cI).enc (⟨v0.Level, x3, x7, v0.Sum⟩ : XTable)) (ss rfl rfl) rfl rfl (Ln.fld rfl rfl Ln.nil rfl) (Cd.h_sz cI _) rfl <| seqN [(2, .box ((cXTable cI (cLo cI) (cLo cI) cI).enc (⟨(0 : Int), ([] : List Int), ([] : List Int), (0 : Int)⟩ : XTable))), (3, .box ((cXTable cI (cLo cI) (cLo cI) cI).enc (⟨v0.Level, x3, x7, v0.Sum⟩ : XTable)))] (by kernel_rfl) <|
    xn <| wpC_seq <| reg_s <| st rfl <| ldbo rfl rfl rfl rfl <| x_stb (sb rfl rfl) rfl (Cd.h_sz _ _) rfl <| seqN [(2, .box ((cXTable cI (cLo cI) (cLo cI) cI).enc (⟨v0.Level, x3, x7, v0.Sum⟩ : XTable)))] (by kernel_rfl) <|
    xn <| wpC_ret <| re <| fin h (r2 rfl rfl rfl <| r0) rfl

def rs_laws_toTable_fz (r : XTable) : List D := [(cXTable cI (cLs cI rfl) (cLs cI rfl) cI).enc r]
theorem con_laws_toTable_fz {v0 : XTable} {r : XTable} (h : sh_laws_toTable v0 = some r) : Con Tryd.prog 11 [(cXTable cI (cLs cI rfl) (cLs cI rfl) cI).enc v0] [] (rs_laws_toTable_fz r) := con_fz (tXTable tK (tLo tK) (tLo tK) tK) (con_laws_toTable h)

def rs_spec_l1In (r : Bool) : List D := [cB.enc r]
def m61 : MC := .seq (.reg [⟨some 6, .asg (.c (.bool false)), none⟩] [0, 1, 2])
  (.seq (.reg [⟨some 7, .mv (.t 0), none⟩,
    ⟨some 8, .mv (.t 1), none⟩,
    ⟨some 9, .bin .geq (.t 7) (.t 8), none⟩,
    ⟨some 10, .mv (.t 9), none⟩,
    ⟨some 11, .mv (.t 0), some (10, true)⟩,
    ⟨some 12, .mv (.t 2), some (10, true)⟩,
    ⟨some 13, .bin .leq (.t 11) (.t 12), some (10, true)⟩,
    ⟨some 14, .pick (.t 10) (.t 13) (.c (.bool false)), none⟩,
    ⟨some 6, .asg (.t 14), none⟩] [6])
  (.ret))
theorem con_spec_l1In {v0 : Int} {v1 : Int} {v2 : Int} {r : Bool} (h : sh_spec_l1In v0 v1 v2 = some r) : Con Tryd.prog 61 [cI.enc v0, cI.enc v1, cI.enc v2] [] (rs_spec_l1In r) := by
  delta sh_spec_l1In at h
  refine top (out := none) (f := Tryd.f61) (m := m61) (rs := [.t 6]) (by kernel_rfl) rfl (by kernel_rfl) (by kernel_rfl) (by kernel_rfl) (by kernel_rfl) (by kernel_rfl) ?_
  exact
   ini [(0, .d (cI.enc v0)), (1, .d (cI.enc v1)), (2, .d (cI.enc v2))] rfl <| wpC_seq <| reg_s <| x_asg (sc cB false rfl) <| seqN [(0, .d (cI.enc v0)), (1, .d (cI.enc v1)), (2, .d (cI.enc v2))] (by kernel_rfl) <|
    xn <| wpC_seq <| reg_s <| st rfl <| mvd rfl rfl <| st rfl <| mvd rfl rfl <| st rfl <| b_geq (k := .i64) rfl rfl <| st rfl <| mvd rfl rfl <| ite_k h (fun b2 h => gt' rfl b2 <| st rfl <| mvd rfl rfl <| gt' rfl b2 <| st rfl <| mvd rfl rfl <| gt' rfl b2 <| st rfl <| b_leq (k := .i64) rfl rfl <| st rfl <| pick1 rfl b2 (cd := cB) (v := (decide (v0 ≤ v2))) rfl rfl <| x_asg (ss rfl rfl) <| seqN [(6, .d (cB.enc (decide (v0 ≤ v2))))] (by kernel_rfl) <|
    xn <| wpC_ret <| re <| fin h (r1 (ss rfl rfl) <| r0) rfl)
    (fun b2 h => gf rfl b2 <| gf rfl b2 <| gf rfl b2 <| st rfl <| pick0 rfl b2 (cd := cB) (v := false) rfl rfl <| x_asg (ss rfl rfl) <| seqN [(6, .d (cB.enc false))] (by kernel_rfl) <|
    xn <| wpC_ret <| re <| fin h (r1 (ss rfl rfl) <| r0) rfl)

def rs_spec_gGood (r : Bool) : List D := [cB.enc r]
def m74 : MC := .seq (.reg [⟨some 1, .box (.t 0), none⟩,
    ⟨some 2, .asg (.c (.bool false)), none⟩] [1])
  (.seq (.kp [1] (.seq (.reg [⟨some 5, .fa 1 0 0, none⟩,
    ⟨some 6, .ld 5 1 false, none⟩,
    ⟨some 7, .len false (.t 6), none⟩,
    ⟨some 8, .call 61 [(.t 7), (.c (.int .i64 1)), (.c (.int .i64 30))], none⟩,
    ⟨some 9, .nt (.t 8), none⟩,
    ⟨some 10, .mv (.t 9), none⟩,
    ⟨some 11, .fa 1 0 0, some (10, false)⟩,
    ⟨some 12, .ld 11 1 false, some (10, false)⟩,
    ⟨some 13, .ia 12 (.c (.int .i64 0)) 1, some (10, false)⟩,
    ⟨some 14, .ld 13 1 false, some (10, false)⟩,
    ⟨some 15, .bin .neq (.t 14) (.c (.int .i64 (-1))), some (10, false)⟩,
    ⟨some 16, .pick (.t 10) (.c (.bool true)) (.t 15), none⟩] [1, 16])
  (.cond (.t 16) (.seq (.reg [⟨some 2, .asg (.c (.bool false)), none⟩] [2])
  (.ret)) (.skip))))
  (.seq (.kp [] (.seq (.reg [⟨some 17, .fa 1 0 0, none⟩,
    ⟨some 18, .ld 17 1 false, none⟩,
    ⟨some 19, .len false (.t 18), none⟩,
    ⟨some 20, .mv (.c (.int .i64 0)), none⟩] [1, 17, 18, 19, 20])
  (.blk 0 (.loop (.seq (.reg [⟨some 21, .bin .lss (.t 20) (.t 19), none⟩] [1, 17, 18, 19, 20, 21])
  (.seq (.kp [1, 17, 18, 19, 20] (.cond (.t 21) (.skip) (.exit 0)))
  (.seq (.kp [1, 17, 18, 19, 20] (.blk 1 (.seq (.reg [⟨some 22, .mv (.t 20), none⟩,
    ⟨some 23, .ia 18 (.t 20) 1, none⟩,
    ⟨some 24, .ld 23 1 false, none⟩,
    ⟨some 3, .asg (.t 22), none⟩,
    ⟨some 4, .asg (.t 24), none⟩] [1, 3, 4, 17, 18, 19, 20])
  (.seq (.reg [⟨some 25, .mv (.t 3), none⟩,
    ⟨some 26, .bin .gtr (.t 25) (.c (.int .i64 0)), none⟩,
    ⟨some 27, .mv (.t 26), none⟩,
    ⟨some 28, .mv (.t 4), some (27, true)⟩,
    ⟨some 29, .mv (.t 3), some (27, true)⟩,
    ⟨some 30, .bin .sub (.t 29) (.c (.int .i64 1)), some (27, true)⟩,
    ⟨some 31, .call 61 [(.t 28), (.c (.int .i64 0)), (.t 30)], some (27, true)⟩,
    ⟨some 32, .nt (.t 31), some (27, true)⟩,
    ⟨some 33, .pick (.t 27) (.t 32) (.c (.bool false)), none⟩] [1, 17, 18, 19, 20, 33])
  (.cond (.t 33) (.seq (.reg [⟨some 2, .asg (.c (.bool false)), none⟩] [2])
  (.ret)) (.skip))))))
  (.reg [⟨some 34, .bin .add (.t 20) (.c (.int .i64 1)), none⟩,
    ⟨some 20, .mv (.t 34), none⟩] [1, 17, 18, 19, 20]))))))))
  (.seq (.reg [⟨some 2, .asg (.c (.bool true)), none⟩] [2])
  (.ret))))
theorem con_spec_gGood {v0 : XGeo} {r : Bool} (h : sh_spec_gGood v0 = some r) : Con Tryd.prog 74 [(cXGeo (cLs cI rfl)).enc v0] [] (rs_spec_gGood r) := by
  delta sh_spec_gGood at h
  refine top (out := none) (f := Tryd.f74) (m := m74) (rs := [.t 2]) (by kernel_rfl) rfl (by kernel_rfl) (by kernel_rfl) (by kernel_rfl) (by kernel_rfl) (by kernel_rfl) ?_
  exact
   ini [(0, .d ((cXGeo (cLs cI rfl)).enc v0))] rfl <| wpC_seq <| reg_s <| x_box (ss rfl rfl) <| x_asg (sc cB false rfl) <| seqN [(1, .box ((cXGeo (cLs cI rfl)).enc v0))] (by kernel_rfl) <|
    xn <| wpC_seq <| wpC_kp <| wpC_seq <| reg_s <| st rfl <| fab rfl rfl rfl rfl <| st rfl <| lda rfl rfl rfl rfl rfl rfl <| stw rfl <| lens rfl fun l23 => bnd h fun x24 e25 h => st rfl <| o_call (a1 (c := cI) tK rfl (a1 (c := cI) tK rfl (a1 (c := cI) tK rfl a0))) (con_spec_l1In e25) (.inl (so1 sB so0)) <| st rfl <| o_nt rfl <| st rfl <| mvd rfl rfl <| ite_k h (fun b26 h => gf rfl b26 <| gf rfl b26 <| gf rfl b26 <| gf rfl b26 <| gf rfl b26 <| st rfl <| pick1 rfl b26 (cd := cB) (v := true) rfl rfl <| seqN [(1, .box ((cXGeo (cLs cI rfl)).enc v0)), (16, .d (cB.enc true))] (by kernel_rfl) <|
    xn <| cnd1 rfl rfl <| wpC_seq <| reg_s <| x_asg (sc cB false rfl) <| seqN [(2, .d (cB.enc false))] (by kernel_rfl) <|
    xn <| wpC_ret <| rt <| rt <| re <| fin h (r1 (ss rfl rfl) <| r0) rfl)
    (fun b26 h => gt' rfl b26 <| st rfl <| fab rfl rfl rfl rfl <| gt' rfl b26 <| st rfl <| lda rfl rfl rfl rfl rfl rfl <| gt' rfl b26 <| getO_k h fun x27 i28 g29 h => st rfl <| ias rfl rfl i28 g29 rfl <| gt' rfl b26 <| st rfl <| ldi rfl rfl rfl rfl <| gt' rfl b26 <| st rfl <| b_neq (k := .i64) rfl rfl <| st rfl <| pick0 rfl b26 (cd := cB) (v := (decide (x27 ≠ (-1 : Int)))) rfl rfl <| seqN [(1, .box ((cXGeo (cLs cI rfl)).enc v0)), (16, .d (cB.enc (decide (x27 ≠ (-1 : Int)))))] (by kernel_rfl) <|
    xn <| cnd rfl h (fun b30 h => wpC_seq <| reg_s <| x_asg (sc cB false rfl) <| seqN [(2, .d (cB.enc false))] (by kernel_rfl) <|
    xn <| wpC_ret <| rt <| rt <| re <| fin h (r1 (ss rfl rfl) <| r0) rfl)
    (fun b30 h => wpC_skip <| kpN [(1, .box ((cXGeo (cLs cI rfl)).enc v0))] (by kernel_rfl) <| xn <| wpC_seq <| wpC_kp <| wpC_seq <| reg_s <| st rfl <| fab rfl rfl rfl rfl <| st rfl <| lda rfl rfl rfl rfl rfl rfl <| stw rfl <| lens rfl fun l78 => st rfl <| mvc cI (0 : Int) rfl <| seqN [(1, .box ((cXGeo (cLs cI rfl)).enc v0)), (17, .adr 1 [.fld 0]), (18, .d ((cLs cI rfl).enc v0.Parents)), (19, .d (cI.enc (v0.Parents.length : Int))), (20, .d (cI.enc (0 : Int)))] (by kernel_rfl) <|
    xn <| wpC_blk <| lpR (fun (k80 : Nat) (s79 : Unit) => [(1, .box ((cXGeo (cLs cI rfl)).enc v0)), (17, .adr 1 [.fld 0]), (18, .d ((cLs cI rfl).enc v0.Parents)), (19, .d (cI.enc (v0.Parents.length : Int))), (20, .d (cI.enc (k80 : Int)))]) () rfl h
    (fun G104 s79 h => wpC_seq <| reg_s <| st rfl <| b_lss (k := .i64) rfl rfl <| seqN [(1, .box ((cXGeo (cLs cI rfl)).enc v0)), (17, .adr 1 [.fld 0]), (18, .d ((cLs cI rfl).enc v0.Parents)), (19, .d (cI.enc (v0.Parents.length : Int))), (20, .d (cI.enc (v0.Parents.length : Int))), (21, .d (cB.enc (decide ((v0.Parents.length : Int) < (v0.Parents.length : Int)))))] (by kernel_rfl) <|
    xn <| wpC_seq <| wpC_kp <| cnd0 rfl (dlf _) <| wpC_exit <| xt <| xt <| xt <| xb <| kpN [] (by kernel_rfl) <| xn <| wpC_seq <| reg_s <| x_asg (sc cB true rfl) <| seqN [(2, .d (cB.enc true))] (by kernel_rfl) <|
    xn <| wpC_ret <| re <| fin h (r1 (ss rfl rfl) <| r0) rfl)
    (fun G104 nx102 k80 s79 x81 hk82 hx83 hn103 h => wpC_seq <| reg_s <| st rfl <| b_lss (k := .i64) rfl rfl <| seqN [(1, .box ((cXGeo (cLs cI rfl)).enc v0)), (17, .adr 1 [.fld 0]), (18, .d ((cLs cI rfl).enc v0.Parents)), (19, .d (cI.enc (v0.Parents.length : Int))), (20, .d (cI.enc (k80 : Int))), (21, .d (cB.enc (decide ((k80 : Int) < (v0.Parents.length : Int)))))] (by kernel_rfl) <|
    xn <| wpC_seq <| wpC_kp <| cnd1 rfl (dlt hk82) <| wpC_skip <| kpN [(1, .box ((cXGeo (cLs cI rfl)).enc v0)), (17, .adr 1 [.fld 0]), (18, .d ((cLs cI rfl).enc v0.Parents)), (19, .d (cI.enc (v0.Parents.length : Int))), (20, .d (cI.enc (k80 : Int)))] (by kernel_rfl) <| xn <| wpC_seq <| wpC_kp <| wpC_blk <| wpC_seq <| reg_s <| st rfl <| mvd rfl rfl <| st rfl <| ias rfl rfl (Int.natCast_nonneg _) hx83 rfl <| st rfl <| ldi rfl rfl rfl rfl <| x_asg (ss rfl rfl) <| x_asg (ss rfl rfl) <| seqN [(1, .box ((cXGeo (cLs cI rfl)).enc v0)), (3, .d (cI.enc (k80 : Int))), (4, .d (cI.enc x81)), (17, .adr 1 [.fld 0]), (18, .d ((cLs cI rfl).enc v0.Parents)), (19, .d (cI.enc (v0.Parents.length : Int))), (20, .d (cI.enc (k80 : Int)))] (by kernel_rfl) <|
    xn <| wpC_seq <| reg_s <| st rfl <| mvd rfl rfl <| st rfl <| b_gtr (k := .i64) rfl rfl <| st rfl <| mvd rfl rfl <| ite_k h (fun b118 h => gt' rfl b118 <| st rfl <| mvd rfl rfl <| gt' rfl b118 <| st rfl <| mvd rfl rfl <| gt' rfl b118 <| ckI_k h fun i119 h => st rfl <| b_sub (k := .i64) rfl rfl i119 <| gt' rfl b118 <| bnd h fun x120 e121 h => st rfl <| o_call (a1 (c := cI) tK rfl (a1 (c := cI) tK rfl (a1 (c := cI) tK rfl a0))) (con_spec_l1In e121) (.inl (so1 sB so0)) <| gt' rfl b118 <| st rfl <| o_nt rfl <| st rfl <| pick1 rfl b118 (cd := cB) (v := (!x120)) rfl rfl <| seqN [(1, .box ((cXGeo (cLs cI rfl)).enc v0)), (17, .adr 1 [.fld 0]), (18, .d ((cLs cI rfl).enc v0.Parents)), (19, .d (cI.enc (v0.Parents.length : Int))), (20, .d (cI.enc (k80 : Int))), (33, .d (cB.enc (!x120)))] (by kernel_rfl) <|
    xn <| cnd rfl h (fun b122 h => wpC_seq <| reg_s <| x_asg (sc cB false rfl) <| seqN [(2, .d (cB.enc false))] (by kernel_rfl) <|
    xn <| wpC_ret <| rb <| rt <| rt <| rt <| rb <| rt <| rt <| re <| fin h (r1 (ss rfl rfl) <| r0) rfl)
    (fun b122 h => wpC_skip <| xbb <| kpN [(1, .box ((cXGeo (cLs cI rfl)).enc v0)), (17, .adr 1 [.fld 0]), (18, .d ((cLs cI rfl).enc v0.Parents)), (19, .d (cI.enc (v0.Parents.length : Int))), (20, .d (cI.enc (k80 : Int)))] (by kernel_rfl) <| xn <| reg_s <| st rfl <| b_inc rfl rfl l78 hk82 <| st rfl <| mvd rfl rfl <| seqN [(1, .box ((cXGeo (cLs cI rfl)).enc v0)), (17, .adr 1 [.fld 0]), (18, .d ((cLs cI rfl).enc v0.Parents)), (19, .d (cI.enc (v0.Parents.length : Int))), (20, .d (cI.enc ((k80 + 1 : Nat) : Int)))] (by kernel_rfl) <|
    xn <| hn103 () h))
    (fun b118 h => gf rfl b118 <| gf rfl b118 <| gf rfl b118 <| gf rfl b118 <| gf rfl b118 <| st rfl <| pick0 rfl b118 (cd := cB) (v := false) rfl rfl <| seqN [(1, .box ((cXGeo (cLs cI rfl)).enc v0)), (17, .adr 1 [.fld 0]), (18, .d ((cLs cI rfl).enc v0.Parents)), (19, .d (cI.enc (v0.Parents.length : Int))), (20, .d (cI.enc (k80 : Int))), (33, .d (cB.enc false))] (by kernel_rfl) <|
    xn <| cnd0 rfl rfl <| wpC_skip <| xbb <| kpN [(1, .box ((cXGeo (cLs cI rfl)).enc v0)), (17, .adr 1 [.fld 0]), (18, .d ((cLs cI rfl).enc v0.Parents)), (19, .d (cI.enc (v0.Parents.length : Int))), (20, .d (cI.enc (k80 : Int)))] (by kernel_rfl) <| xn <| reg_s <| st rfl <| b_inc rfl rfl l78 hk82 <| st rfl <| mvd rfl rfl <| seqN [(1, .box ((cXGeo (cLs cI rfl)).enc v0)), (17, .adr 1 [.fld 0]), (18, .d ((cLs cI rfl).enc v0.Parents)), (19, .d (cI.enc (v0.Parents.length : Int))), (20, .d (cI.enc ((k80 + 1 : Nat) : Int)))] (by kernel_rfl) <|
    xn <| hn103 () h))))

def rs_spec_sName (r : Bool) : List D := [cB.enc r]
def m62 : MC := .seq (.reg [⟨some 2, .asg (.c (.bool false)), none⟩] [0])
  (.seq (.kp [0] (.seq (.reg [⟨some 3, .asg (.c (.int .i64 0)), none⟩] [0, 3])
  (.blk 0 (.loop (.seq (.kp [0, 3] (.seq (.reg [⟨some 4, .mv (.t 3), none⟩,
    ⟨some 5, .mv (.t 0), none⟩,
    ⟨some 6, .len true (.t 5), none⟩,
    ⟨some 7, .bin .lss (.t 4) (.t 6), none⟩] [0, 3, 7])
  (.cond (.t 7) (.skip) (.exit 0))))
  (.seq (.kp [0, 3] (.blk 1 (.seq (.reg [⟨some 10, .mv (.t 0), none⟩,
    ⟨some 11, .mv (.t 3), none⟩,
    ⟨some 12, .ix (.t 10) (.t 11), none⟩,
    ⟨some 13, .bin .lss (.t 12) (.c (.int .u8 97)), none⟩,
    ⟨some 14, .mv (.t 13), none⟩,
    ⟨some 15, .mv (.t 0), some (14, false)⟩,
    ⟨some 16, .mv (.t 3), some (14, false)⟩,
    ⟨some 17, .ix (.t 15) (.t 16), some (14, false)⟩,
    ⟨some 18, .bin .gtr (.t 17) (.c (.int .u8 122)), some (14, false)⟩,
    ⟨some 19, .pick (.t 14) (.c (.bool true)) (.t 18), none⟩] [0, 3, 19])
  (.cond (.t 19) (.seq (.reg [⟨some 2, .asg (.c (.bool false)), none⟩] [2])
  (.ret)) (.skip)))))
  (.reg [⟨some 8, .mv (.t 3), none⟩,
    ⟨some 9, .bin .add (.t 8) (.c (.int .i64 1)), none⟩,
    ⟨some 3, .asg (.t 9), none⟩] [0, 3])))))))
  (.seq (.reg [⟨some 20, .mv (.t 0), none⟩,
    ⟨some 21, .len true (.t 20), none⟩,
    ⟨some 22, .call 61 [(.t 21), (.c (.int .i64 1)), (.c (.int .i64 8))], none⟩,
    ⟨some 2, .asg (.t 22), none⟩] [2])
  (.ret)))
theorem con_spec_sName {v0 : (List UInt8)} {r : Bool} (h : sh_spec_sName v0 = some r) : Con Tryd.prog 62 [cS.enc v0] [] (rs_spec_sName r) := by
  delta sh_spec_sName at h
  refine top (out := none) (f := Tryd.f62) (m := m62) (rs := [.t 2]) (by kernel_rfl) rfl (by kernel_rfl) (by kernel_rfl) (by kernel_rfl) (by kernel_rfl) (by kernel_rfl) ?_
  exact
   ini [(0, .d (cS.enc v0))] rfl <| wpC_seq <| reg_s <| x_asg (sc cB false rfl) <| seqN [(0, .d (cS.enc v0))] (by kernel_rfl) <|
    xn <| wpC_seq <| wpC_kp <| wpC_seq <| reg_s <| x_asg (sc cI (0 : Int) rfl) <| seqN [(0, .d (cS.enc v0)), (3, .d (cI.enc (0 : Int)))] (by kernel_rfl) <|
    xn <| wpC_blk <| lpF (fun (s84 : Int) => [(0, .d (cS.enc v0)), (3, .d (cI.enc s84))]) (0 : Int) rfl h
    fun G141 nx139 s84 hn140 h => wpC_seq <| wpC_kp <| wpC_seq <| reg_s <| st rfl <| mvd rfl rfl <| st rfl <| mvd rfl rfl <| stw rfl <| lent rfl fun l146 => st rfl <| b_lss (k := .i64) rfl rfl <| seqN [(0, .d (cS.enc v0)), (3, .d (cI.enc s84)), (7, .d (cB.enc (decide (s84 < (v0.length : Int)))))] (by kernel_rfl) <|
    xn <| cnd rfl h (fun b147 h => wpC_skip <| kpN [(0, .d (cS.enc v0)), (3, .d (cI.enc s84))] (by kernel_rfl) <| xn <| wpC_seq <| wpC_kp <| wpC_blk <| wpC_seq <| reg_s <| st rfl <| mvd rfl rfl <| st rfl <| mvd rfl rfl <| getO_k h fun x161 i162 g163 h => st rfl <| o_ix (k := .i64) rfl rfl i162 g163 <| st rfl <| b_lss (k := .u8) rfl rfl <| st rfl <| mvd rfl rfl <| ite_k h (fun b164 h => gf rfl b164 <| gf rfl b164 <| gf rfl b164 <| gf rfl b164 <| st rfl <| pick1 rfl b164 (cd := cB) (v := true) rfl rfl <| seqN [(0, .d (cS.enc v0)), (3, .d (cI.enc s84)), (19, .d (cB.enc true))] (by kernel_rfl) <|
    xn <| cnd1 rfl rfl <| wpC_seq <| reg_s <| x_asg (sc cB false rfl) <| seqN [(2, .d (cB.enc false))] (by kernel_rfl) <|
    xn <| wpC_ret <| rb <| rt <| rt <| rt <| rb <| rt <| rt <| re <| fin h (r1 (ss rfl rfl) <| r0) rfl)
    (fun b164 h => gt' rfl b164 <| st rfl <| mvd rfl rfl <| gt' rfl b164 <| st rfl <| mvd rfl rfl <| gt' rfl b164 <| st rfl <| o_ix (k := .i64) rfl rfl i162 g163 <| gt' rfl b164 <| st rfl <| b_gtr (k := .u8) rfl rfl <| st rfl <| pick0 rfl b164 (cd := cB) (v := (decide ((122 : Int) < (x161.toNat : Int)))) rfl rfl <| seqN [(0, .d (cS.enc v0)), (3, .d (cI.enc s84)), (19, .d (cB.enc (decide ((122 : Int) < (x161.toNat : Int)))))] (by kernel_rfl) <|
    xn <| cnd rfl h (fun b165 h => wpC_seq <| reg_s <| x_asg (sc cB false rfl) <| seqN [(2, .d (cB.enc false))] (by kernel_rfl) <|
    xn <| wpC_ret <| rb <| rt <| rt <| rt <| rb <| rt <| rt <| re <| fin h (r1 (ss rfl rfl) <| r0) rfl)
    (fun b165 h => wpC_skip <| xbb <| kpN [(0, .d (cS.enc v0)), (3, .d (cI.enc s84))] (by kernel_rfl) <| xn <| reg_s <| st rfl <| mvd rfl rfl <| ckI_k h fun i166 h => st rfl <| b_add (k := .i64) rfl rfl i166 <| x_asg (ss rfl rfl) <| seqN [(0, .d (cS.enc v0)), (3, .d (cI.enc (s84 + (1 : Int))))] (by kernel_rfl) <|
    xn <| hn140 (s84 + (1 : Int)) h)))
    (fun b147 h => wpC_exit <| xt <| xt <| xt <| xb <| kpN [(0, .d (cS.enc v0))] (by kernel_rfl) <| xn <| wpC_seq <| reg_s <| st rfl <| mvd rfl rfl <| stw rfl <| lent rfl fun l170 => bnd h fun x171 e172 h => st rfl <| o_call (a1 (c := cI) tK rfl (a1 (c := cI) tK rfl (a1 (c := cI) tK rfl a0))) (con_spec_l1In e172) (.inl (so1 sB so0)) <| x_asg (ss rfl rfl) <| seqN [(2, .d (cB.enc x171))] (by kernel_rfl) <|
    xn <| wpC_ret <| re <| fin h (r1 (ss rfl rfl) <| r0) rfl)

def rs_spec_sFind (r : Int) : List D := [cI.enc r]
def m63 : MC := .seq (.reg [⟨some 4, .asg (.c (.int .i64 0)), none⟩] [0, 1])
  (.seq (.kp [] (.seq (.reg [⟨some 7, .mv (.t 0), none⟩,
    ⟨some 8, .len false (.t 7), none⟩,
    ⟨some 9, .mv (.c (.int .i64 0)), none⟩] [0, 1, 7, 8, 9])
  (.blk 0 (.loop (.seq (.reg [⟨some 10, .bin .lss (.t 9) (.t 8), none⟩] [0, 1, 7, 8, 9, 10])
  (.seq (.kp [0, 1, 7, 8, 9] (.cond (.t 10) (.skip) (.exit 0)))
  (.seq (.kp [0, 1, 7, 8, 9] (.blk 1 (.seq (.reg [⟨some 11, .mv (.t 9), none⟩,
    ⟨some 12, .ia 7 (.t 9) 2, none⟩,
    ⟨some 13, .ld 12 2 true, none⟩,
    ⟨some 6, .alloc (.agg [.str [], .int .i64 0]), none⟩,
    ⟨some 5, .asg (.t 11), none⟩,
    ⟨none, .st 6 (.t 13) 2, none⟩] [0, 1, 5, 6, 7, 8, 9])
  (.seq (.reg [⟨some 14, .fa 6 0 0, none⟩,
    ⟨some 15, .ld 14 1 false, none⟩,
    ⟨some 16, .mv (.t 1), none⟩,
    ⟨some 17, .bin .eql (.t 15) (.t 16), none⟩] [0, 1, 5, 7, 8, 9, 17])
  (.cond (.t 17) (.seq (.reg [⟨some 18, .mv (.t 5), none⟩,
    ⟨some 4, .asg (.t 18), none⟩] [4])
  (.ret)) (.skip))))))
  (.reg [⟨some 19, .bin .add (.t 9) (.c (.int .i64 1)), none⟩,
    ⟨some 9, .mv (.t 19), none⟩] [0, 1, 7, 8, 9]))))))))
  (.seq (.reg [⟨some 4, .asg (.c (.int .i64 (-1))), none⟩] [4])
  (.ret)))
theorem con_spec_sFind {v0 : (List XVariable)} {v1 : (List UInt8)} {r : Int} (h : sh_spec_sFind v0 v1 = some r) : Con Tryd.prog 63 [(cLs (cXVariable cS cI) rfl).enc v0, cS.enc v1] [] (rs_spec_sFind r) := by
  delta sh_spec_sFind at h
  refine top (out := none) (f := Tryd.f63) (m := m63) (rs := [.t 4]) (by kernel_rfl) rfl (by kernel_rfl) (by kernel_rfl) (by kernel_rfl) (by kernel_rfl) (by kernel_rfl) ?_
  exact
   ini [(0, .d ((cLs (cXVariable cS cI) rfl).enc v0)), (1, .d (cS.enc v1))] rfl <| wpC_seq <| reg_s <| x_asg (sc cI (0 : Int) rfl) <| seqN [(0, .d ((cLs (cXVariable cS cI) rfl).enc v0)), (1, .d (cS.enc v1))] (by kernel_rfl) <|
    xn <| wpC_seq <| wpC_kp <| wpC_seq <| reg_s <| st rfl <| mvd rfl rfl <| stw rfl <| lens rfl fun l16 => st rfl <| mvc cI (0 : Int) rfl <| seqN [(0, .d ((cLs (cXVariable cS cI) rfl).enc v0)), (1, .d (cS.enc v1)), (7, .d ((cLs (cXVariable cS cI) rfl).enc v0)), (8, .d (cI.enc (v0.length : Int))), (9, .d (cI.enc (0 : Int)))] (by kernel_rfl) <|
    xn <| wpC_blk <| lpR (fun (k18 : Nat) (s17 : Unit) => [(0, .d ((cLs (cXVariable cS cI) rfl).enc v0)), (1, .d (cS.enc v1)), (7, .d ((cLs (cXVariable cS cI) rfl).enc v0)), (8, .d (cI.enc (v0.length : Int))), (9, .d (cI.enc (k18 : Int)))]) () rfl h
    (fun G26 s17 h => wpC_seq <| reg_s <| st rfl <| b_lss (k := .i64) rfl rfl <| seqN [(0, .d ((cLs (cXVariable cS cI) rfl).enc v0)), (1, .d (cS.enc v1)), (7, .d ((cLs (cXVariable cS cI) rfl).enc v0)), (8, .d (cI.enc (v0.length : Int))), (9, .d (cI.enc (v0.length : Int))), (10, .d (cB.enc (decide ((v0.length : Int) < (v0.length : Int)))))] (by kernel_rfl) <|
    xn <| wpC_seq <| wpC_kp <| cnd0 rfl (dlf _) <| wpC_exit <| xt <| xt <| xt <| xb <| kpN [] (by kernel_rfl) <| xn <| wpC_seq <| reg_s <| x_asg (sc cI (-1 : Int) rfl) <| seqN [(4, .d (cI.enc (-1 : Int)))] (by kernel_rfl) <|
    xn <| wpC_ret <| re <| fin h (r1 (ss rfl rfl) <| r0) rfl)
    (fun G26 nx24 k18 s17 x19 hk20 hx21 hn25 h => wpC_seq <| reg_s <| st rfl <| b_lss (k := .i64) rfl rfl <| seqN [(0, .d ((cLs (cXVariable cS cI) rfl).enc v0)), (1, .d (cS.enc v1)), (7, .d ((cLs (cXVariable cS cI) rfl).enc v0)), (8, .d (cI.enc (v0.length : Int))), (9, .d (cI.enc (k18 : Int))), (10, .d (cB.enc (decide ((k18 : Int) < (v0.length : Int)))))] (by kernel_rfl) <|
    xn <| wpC_seq <| wpC_kp <| cnd1 rfl (dlt hk20) <| wpC_skip <| kpN [(0, .d ((cLs (cXVariable cS cI) rfl).enc v0)), (1, .d (cS.enc v1)), (7, .d ((cLs (cXVariable cS cI) rfl).enc v0)), (8, .d (cI.enc (v0.length : Int))), (9, .d (cI.enc (k18 : Int)))] (by kernel_rfl) <| xn <| wpC_seq <| wpC_kp <| wpC_blk <| wpC_seq <| reg_s <| st rfl <| mvd rfl rfl <| st rfl <| ias rfl rfl (Int.natCast_nonneg _) hx21 rfl <| st rfl <| ldi rfl rfl rfl rfl <| x_all (cXVariable cS cI) (⟨([] : List UInt8), (0 : Int)⟩ : XVariable) rfl <| x_asg (ss rfl rfl) <| x_stb (ss rfl rfl) rfl (Cd.h_sz _ _) rfl <| seqN [(0, .d ((cLs (cXVariable cS cI) rfl).enc v0)), (1, .d (cS.enc v1)), (5, .d (cI.enc (k18 : Int))), (6, .box ((cXVariable cS cI).enc x19)), (7, .d ((cLs (cXVariable cS cI) rfl).enc v0)), (8, .d (cI.enc (v0.length : Int))), (9, .d (cI.enc (k18 : Int)))] (by kernel_rfl) <|
    xn <| wpC_seq <| reg_s <| st rfl <| fab rfl rfl rfl rfl <| st rfl <| lda rfl rfl rfl rfl rfl rfl <| st rfl <| mvd rfl rfl <| st rfl <| b_seq rfl rfl <| seqN [(0, .d ((cLs (cXVariable cS cI) rfl).enc v0)), (1, .d (cS.enc v1)), (5, .d (cI.enc (k18 : Int))), (7, .d ((cLs (cXVariable cS cI) rfl).enc v0)), (8, .d (cI.enc (v0.length : Int))), (9, .d (cI.enc (k18 : Int))), (17, .d (cB.enc (decide (x19.Name = v1))))] (by kernel_rfl) <|
    xn <| cnd rfl h (fun b28 h => wpC_seq <| reg_s <| st rfl <| mvd rfl rfl <| x_asg (ss rfl rfl) <| seqN [(4, .d (cI.enc (k18 : Int)))] (by kernel_rfl) <|
    xn <| wpC_ret <| rb <| rt <| rt <| rt <| rb <| rt <| rt <| re <| fin h (r1 (ss rfl rfl) <| r0) rfl)
    (fun b28 h => wpC_skip <| xbb <| kpN [(0, .d ((cLs (cXVariable cS cI) rfl).enc v0)), (1, .d (cS.enc v1)), (7, .d ((cLs (cXVariable cS cI) rfl).enc v0)), (8, .d (cI.enc (v0.length : Int))), (9, .d (cI.enc (k18 : Int)))] (by kernel_rfl) <| xn <| reg_s <| st rfl <| b_inc rfl rfl l16 hk20 <| st rfl <| mvd rfl rfl <| seqN [(0, .d ((cLs (cXVariable cS cI) rfl).enc v0)), (1, .d (cS.enc v1)), (7, .d ((cLs (cXVariable cS cI) rfl).enc v0)), (8, .d (cI.enc (v0.length : Int))), (9, .d (cI.enc ((k18 + 1 : Nat) : Int)))] (by kernel_rfl) <|
    xn <| hn25 () h))

def rs_spec_sGood (r : Bool) : List D := [cB.enc r]
def m37 : MC := .seq (.reg [⟨some 2, .asg (.c (.bool false)), none⟩] [0])
  (.seq (.kp [0] (.seq (.reg [⟨some 5, .mv (.t 0), none⟩,
    ⟨some 6, .len false (.t 5), none⟩,
    ⟨some 7, .call 61 [(.t 6), (.c (.int .i64 1)), (.c (.int .i64 6))], none⟩,
    ⟨some 8, .nt (.t 7), none⟩] [0, 8])
  (.cond (.t 8) (.seq (.reg [⟨some 2, .asg (.c (.bool false)), none⟩] [2])
  (.ret)) (.skip))))
  (.seq (.kp [] (.seq (.reg [⟨some 9, .mv (.t 0), none⟩,
    ⟨some 10, .len false (.t 9), none⟩,
    ⟨some 11, .mv (.c (.int .i64 0)), none⟩] [0, 9, 10, 11])
  (.blk 0 (.loop (.seq (.reg [⟨some 12, .bin .lss (.t 11) (.t 10), none⟩] [0, 9, 10, 11, 12])
  (.seq (.kp [0, 9, 10, 11] (.cond (.t 12) (.skip) (.exit 0)))
  (.seq (.kp [0, 9, 10, 11] (.blk 1 (.seq (.reg [⟨some 13, .mv (.t 11), none⟩,
    ⟨some 14, .ia 9 (.t 11) 2, none⟩,
    ⟨some 15, .ld 14 2 true, none⟩,
    ⟨some 4, .alloc (.agg [.str [], .int .i64 0]), none⟩,
    ⟨some 3, .asg (.t 13), none⟩,
    ⟨none, .st 4 (.t 15) 2, none⟩] [0, 3, 4, 9, 10, 11])
  (.seq (.drw [⟨0, ⟨some 16, .fa 4 0 0, none⟩, [17, 18, 19, 20, 21, 22, 23, 24, 25, 26, 27, 28, 29, 30, 31, 32, 33, 34]⟩,
    ⟨1, ⟨some 17, .ld 16 1 false, none⟩, [18, 19, 20, 21, 22, 23, 24, 25, 26, 27, 28, 29, 30, 31, 32, 33, 34]⟩,
    ⟨2, ⟨some 18, .call 62 [(.t 17)], none⟩, [19, 20, 21, 22, 23, 24, 25, 26, 27, 28, 29, 30, 31, 32, 33, 34]⟩,
    ⟨3, ⟨some 19, .nt (.t 18), none⟩, [20, 21, 22, 23, 24, 25, 26, 27, 28, 29, 30, 31, 32, 33, 34]⟩,
    ⟨4, ⟨some 20, .mv (.t 19), none⟩, [21, 22, 23, 24, 25, 26, 27, 28, 29, 30, 31, 32, 33, 34]⟩,
    ⟨5, ⟨some 21, .fa 4 1 1, some (20, false)⟩, [22, 23, 24, 25, 26, 27, 28, 29, 30, 31, 32, 33, 34]⟩,
    ⟨6, ⟨some 22, .ld 21 1 false, some (20, false)⟩, [23, 24, 25, 26, 27, 28, 29, 30, 31, 32, 33, 34]⟩,
    ⟨7, ⟨some 23, .call 61 [(.t 22), (.c (.int .i64 2)), (.c (.int .i64 8))], some (20, false)⟩, [24, 25, 26, 27, 28, 29, 30, 31, 32, 33, 34]⟩,
    ⟨8, ⟨some 24, .nt (.t 23), some (20, false)⟩, [25, 26, 27, 28, 29, 30, 31, 32, 33, 34]⟩,
    ⟨9, ⟨some 25, .pick (.t 20) (.c (.bool true)) (.t 24), none⟩, [26, 27, 28, 29, 30, 31, 32, 33, 34]⟩,
    ⟨10, ⟨some 26, .mv (.t 25), none⟩, [27, 28, 29, 30, 31, 32, 33, 34]⟩,
    ⟨11, ⟨some 27, .mv (.t 0), some (26, false)⟩, [28, 29, 30, 31, 32, 33, 34]⟩,
    ⟨12, ⟨some 28, .mv (.t 3), some (26, false)⟩, [27, 29, 30, 31, 32, 33, 34]⟩,
    ⟨13, ⟨some 29, .sl (.t 27) none (some (.t 28)) 2, some (26, false)⟩, [30, 31, 32, 33, 34]⟩,
    ⟨14, ⟨some 30, .fa 4 0 0, some (26, false)⟩, [27, 28, 29, 31, 32, 33, 34]⟩,
    ⟨15, ⟨some 31, .ld 30 1 false, some (26, false)⟩, [27, 28, 29, 32, 33, 34]⟩,
    ⟨16, ⟨some 32, .call 63 [(.t 29), (.t 31)], some (26, false)⟩, [33, 34]⟩,
    ⟨17, ⟨some 33, .bin .geq (.t 32) (.c (.int .i64 0)), some (26, false)⟩, [34]⟩,
    ⟨18, ⟨some 34, .pick (.t 26) (.c (.bool true)) (.t 33), none⟩, []⟩]
    [] [0, 9, 10, 11, 34])
  (.cond (.t 34) (.seq (.reg [⟨some 2, .asg (.c (.bool false)), none⟩] [2])
  (.ret)) (.skip))))))
  (.reg [⟨some 35, .bin .add (.t 11) (.c (.int .i64 1)), none⟩,
    ⟨some 11, .mv (.t 35), none⟩] [0, 9, 10, 11]))))))))
  (.seq (.reg [⟨some 2, .asg (.c (.bool true)), none⟩] [2])
  (.ret))))
theorem con_spec_sGood {v0 : (List XVariable)} {r : Bool} (h : sh_spec_sGood v0 = some r) : Con Tryd.prog 37 [(cLs (cXVariable cS cI) rfl).enc v0] [] (rs_spec_sGood r) := by
  delta sh_spec_sGood at h
  refine top (out := none) (f := Tryd.f37) (m := m37) (rs := [.t 2]) (by kernel_rfl) rfl (by kernel_rfl) (by kernel_rfl) (by kernel_rfl) (by kernel_rfl) (by kernel_rfl) ?_
  exact
   ini [(0, .d ((cLs (cXVariable cS cI) rfl).enc v0))] rfl <| wpC_seq <| reg_s <| x_asg (sc cB false rfl) <| seqN [(0, .d ((cLs (cXVariable cS cI) rfl).enc v0))] (by kernel_rfl) <|
    xn <| wpC_seq <| wpC_kp <| wpC_seq <| reg_s <| st rfl <| mvd rfl rfl <| stw rfl <| lens rfl fun l11 => bnd h fun x12 e13 h => st rfl <| o_call (a1 (c := cI) tK rfl (a1 (c := cI) tK rfl (a1 (c := cI) tK rfl a0))) (con_spec_l1In e13) (.inl (so1 sB so0)) <| st rfl <| o_nt rfl <| seqN [(0, .d ((cLs (cXVariable cS cI) rfl).enc v0)), (8, .d (cB.enc (!x12)))] (by kernel_rfl) <|
    xn <| cnd rfl h (fun b14 h => wpC_seq <| reg_s <| x_asg (sc cB false rfl) <| seqN [(2, .d (cB.enc false))] (by kernel_rfl) <|
    xn <| wpC_ret <| rt <| rt <| re <| fin h (r1 (ss rfl rfl) <| r0) rfl)
    (fun b14 h => wpC_skip <| kpN [(0, .d ((cLs (cXVariable cS cI) rfl).enc v0))] (by kernel_rfl) <| xn <| wpC_seq <| wpC_kp <| wpC_seq <| reg_s <| st rfl <| mvd rfl rfl <| stw rfl <| lens rfl fun l102 => st rfl <| mvc cI (0 : Int) rfl <| seqN [(0, .d ((cLs (cXVariable cS cI) rfl).enc v0)), (9, .d ((cLs (cXVariable cS cI) rfl).enc v0)), (10, .d (cI.enc (v0.length : Int))), (11, .d (cI.enc (0 : Int)))] (by kernel_rfl) <|
    xn <| wpC_blk <| lpR (fun (k104 : Nat) (s103 : Unit) => [(0, .d ((cLs (cXVariable cS cI) rfl).enc v0)), (9, .d ((cLs (cXVariable cS cI) rfl).enc v0)), (10, .d (cI.enc (v0.length : Int))), (11, .d (cI.enc (k104 : Int)))]) () rfl h
    (fun G148 s103 h => wpC_seq <| reg_s <| st rfl <| b_lss (k := .i64) rfl rfl <| seqN [(0, .d ((cLs (cXVariable cS cI) rfl).enc v0)), (9, .d ((cLs (cXVariable cS cI) rfl).enc v0)), (10, .d (cI.enc (v0.length : Int))), (11, .d (cI.enc (v0.length : Int))), (12, .d (cB.enc (decide ((v0.length : Int) < (v0.length : Int)))))] (by kernel_rfl) <|
    xn <| wpC_seq <| wpC_kp <| cnd0 rfl (dlf _) <| wpC_exit <| xt <| xt <| xt <| xb <| kpN [] (by kernel_rfl) <| xn <| wpC_seq <| reg_s <| x_asg (sc cB true rfl) <| seqN [(2, .d (cB.enc true))] (by kernel_rfl) <|
    xn <| wpC_ret <| re <| fin h (r1 (ss rfl rfl) <| r0) rfl)
    (fun G148 nx146 k104 s103 x105 hk106 hx107 hn147 h => wpC_seq <| reg_s <| st rfl <| b_lss (k := .i64) rfl rfl <| seqN [(0, .d ((cLs (cXVariable cS cI) rfl).enc v0)), (9, .d ((cLs (cXVariable cS cI) rfl).enc v0)), (10, .d (cI.enc (v0.length : Int))), (11, .d (cI.enc (k104 : Int))), (12, .d (cB.enc (decide ((k104 : Int) < (v0.length : Int)))))] (by kernel_rfl) <|
    xn <| wpC_seq <| wpC_kp <| cnd1 rfl (dlt hk106) <| wpC_skip <| kpN [(0, .d ((cLs (cXVariable cS cI) rfl).enc v0)), (9, .d ((cLs (cXVariable cS cI) rfl).enc v0)), (10, .d (cI.enc (v0.length : Int))), (11, .d (cI.enc (k104 : Int)))] (by kernel_rfl) <| xn <| wpC_seq <| wpC_kp <| wpC_blk <| wpC_seq <| reg_s <| st rfl <| mvd rfl rfl <| st rfl <| ias rfl rfl (Int.natCast_nonneg _) hx107 rfl <| st rfl <| ldi rfl rfl rfl rfl <| x_all (cXVariable cS cI) (⟨([] : List UInt8), (0 : Int)⟩ : XVariable) rfl <| x_asg (ss rfl rfl) <| x_stb (ss rfl rfl) rfl (Cd.h_sz _ _) rfl <| seqN [(0, .d ((cLs (cXVariable cS cI) rfl).enc v0)), (3, .d (cI.enc (k104 : Int))), (4, .box ((cXVariable cS cI).enc x105)), (9, .d ((cLs (cXVariable cS cI) rfl).enc v0)), (10, .d (cI.enc (v0.length : Int))), (11, .d (cI.enc (k104 : Int)))] (by kernel_rfl) <|
    xn <| wpC_seq <| drw_s <| pst rfl <| fab rfl rfl rfl rfl ⟨rfl, pst rfl <| lda rfl rfl rfl rfl rfl rfl ⟨rfl, bndp h fun x177 e178 h => pst rfl <| o_call (a1 (c := cS) tS rfl a0) (con_spec_sName e178) (.inl (so1 sB so0)) ⟨rfl, pst rfl <| o_nt rfl ⟨rfl, pst rfl <| mvd rfl rfl ⟨rfl, ite_kp h (fun b179 h => pgf rfl rfl b179 <| pgf rfl rfl b179 <| pgf rfl rfl b179 <| pgf rfl rfl b179 <| pst rfl <| pick1 rfl b179 (cd := cB) (v := true) rfl rfl ⟨rfl, pst rfl <| mvd rfl rfl ⟨rfl, pgf rfl rfl rfl <| pgf rfl rfl rfl <| pgf rfl rfl rfl <| pgf rfl rfl rfl <| pgf rfl rfl rfl <| pgf rfl rfl rfl <| pgf rfl rfl rfl <| pst rfl <| pick1 rfl rfl (cd := cB) (v := true) rfl rfl ⟨rfl, preN <| seqN [(0, .d ((cLs (cXVariable cS cI) rfl).enc v0)), (9, .d ((cLs (cXVariable cS cI) rfl).enc v0)), (10, .d (cI.enc (v0.length : Int))), (11, .d (cI.enc (k104 : Int))), (34, .d (cB.enc true))] (by kernel_rfl) <|
    xn <| cnd1 rfl rfl <| wpC_seq <| reg_s <| x_asg (sc cB false rfl) <| seqN [(2, .d (cB.enc false))] (by kernel_rfl) <|
    xn <| wpC_ret <| rb <| rt <| rt <| rt <| rb <| rt <| rt <| re <| fin h (r1 (ss rfl rfl) <| r0) rfl⟩⟩⟩)
    (fun b179 h => pgt rfl b179 <| pst rfl <| fab rfl rfl rfl rfl ⟨rfl, pgt rfl b179 <| pst rfl <| lda rfl rfl rfl rfl rfl rfl ⟨rfl, pgt rfl b179 <| bndp h fun x180 e181 h => pst rfl <| o_call (a1 (c := cI) tK rfl (a1 (c := cI) tK rfl (a1 (c := cI) tK rfl a0))) (con_spec_l1In e181) (.inl (so1 sB so0)) ⟨rfl, pgt rfl b179 <| pst rfl <| o_nt rfl ⟨rfl, pst rfl <| pick0 rfl b179 (cd := cB) (v := (!x180)) rfl rfl ⟨rfl, pst rfl <| mvd rfl rfl ⟨rfl, ite_kp h (fun b182 h => pgf rfl rfl b182 <| pgf rfl rfl b182 <| pgf rfl rfl b182 <| pgf rfl rfl b182 <| pgf rfl rfl b182 <| pgf rfl rfl b182 <| pgf rfl rfl b182 <| pst rfl <| pick1 rfl b182 (cd := cB) (v := true) rfl rfl ⟨rfl, preN <| seqN [(0, .d ((cLs (cXVariable cS cI) rfl).enc v0)), (9, .d ((cLs (cXVariable cS cI) rfl).enc v0)), (10, .d (cI.enc (v0.length : Int))), (11, .d (cI.enc (k104 : Int))), (34, .d (cB.enc true))] (by kernel_rfl) <|
    xn <| cnd1 rfl rfl <| wpC_seq <| reg_s <| x_asg (sc cB false rfl) <| seqN [(2, .d (cB.enc false))] (by kernel_rfl) <|
    xn <| wpC_ret <| rb <| rt <| rt <| rt <| rb <| rt <| rt <| re <| fin h (r1 (ss rfl rfl) <| r0) rfl⟩)
    (fun b182 h => pgt rfl b182 <| pst rfl <| mvd rfl rfl ⟨rfl, pgt rfl b182 <| pst rfl <| mvd rfl rfl ⟨rfl, pgt rfl b182 <| ck_kp h fun i183 h => pst rfl <| o_sl rfl rfl lo0 (hi1 (k := .i64) rfl i183.1) i183.2 ⟨rfl, pgt rfl b182 <| pst rfl <| fab rfl rfl rfl rfl ⟨rfl, pgt rfl b182 <| pst rfl <| lda rfl rfl rfl rfl rfl rfl ⟨rfl, pgt rfl b182 <| bndp h fun x184 e185 h => pst rfl <| o_call (a1 (c := (cLs (cXVariable cS cI) rfl)) (tLs (tXVariable tS tK)) rfl (a1 (c := cS) tS rfl a0)) (con_spec_sFind e185) (.inl (so1 sK so0)) ⟨rfl, pgt rfl b182 <| pst rfl <| b_geq (k := .i64) rfl rfl ⟨rfl, pst rfl <| pick0 rfl b182 (cd := cB) (v := (decide ((0 : Int) ≤ x184))) rfl rfl ⟨rfl, preN <| seqN [(0, .d ((cLs (cXVariable cS cI) rfl).enc v0)), (9, .d ((cLs (cXVariable cS cI) rfl).enc v0)), (10, .d (cI.enc (v0.length : Int))), (11, .d (cI.enc (k104 : Int))), (34, .d (cB.enc (decide ((0 : Int) ≤ x184))))] (by kernel_rfl) <|
    xn <| cnd rfl h (fun b186 h => wpC_seq <| reg_s <| x_asg (sc cB false rfl) <| seqN [(2, .d (cB.enc false))] (by kernel_rfl) <|
    xn <| wpC_ret <| rb <| rt <| rt <| rt <| rb <| rt <| rt <| re <| fin h (r1 (ss rfl rfl) <| r0) rfl)
    (fun b186 h => wpC_skip <| xbb <| kpN [(0, .d ((cLs (cXVariable cS cI) rfl).enc v0)), (9, .d ((cLs (cXVariable cS cI) rfl).enc v0)), (10, .d (cI.enc (v0.length : Int))), (11, .d (cI.enc (k104 : Int)))] (by kernel_rfl) <| xn <| reg_s <| st rfl <| b_inc rfl rfl l102 hk106 <| st rfl <| mvd rfl rfl <| seqN [(0, .d ((cLs (cXVariable cS cI) rfl).enc v0)), (9, .d ((cLs (cXVariable cS cI) rfl).enc v0)), (10, .d (cI.enc (v0.length : Int))), (11, .d (cI.enc ((k104 + 1 : Nat) : Int)))] (by kernel_rfl) <|
    xn <| hn147 () h)⟩⟩⟩⟩⟩⟩⟩⟩)⟩⟩⟩⟩⟩⟩)⟩⟩⟩⟩⟩))

def rs_spec_gDepth (r : Int) : List D := [cI.enc r]
def m94 : MC := .seq (.reg [⟨some 2, .box (.t 0), none⟩,
    ⟨some 4, .asg (.c (.int .i64 0)), none⟩] [1, 2])
  (.seq (.reg [⟨some 5, .asg (.c (.int .i64 0)), none⟩] [1, 2, 5])
  (.seq (.kp [5] (.blk 0 (.loop (.kp [1, 2, 5] (.seq (.kp [1, 2, 5] (.seq (.reg [⟨some 6, .fa 2 0 0, none⟩,
    ⟨some 7, .ld 6 1 false, none⟩,
    ⟨some 8, .mv (.t 1), none⟩,
    ⟨some 9, .ia 7 (.t 8) 1, none⟩,
    ⟨some 10, .ld 9 1 false, none⟩,
    ⟨some 11, .bin .geq (.t 10) (.c (.int .i64 0)), none⟩] [1, 2, 5, 11])
  (.cond (.t 11) (.skip) (.exit 0))))
  (.blk 1 (.seq (.reg [⟨some 12, .fa 2 0 0, none⟩,
    ⟨some 13, .ld 12 1 false, none⟩,
    ⟨some 14, .mv (.t 1), none⟩,
    ⟨some 15, .ia 13 (.t 14) 1, none⟩,
    ⟨some 16, .ld 15 1 false, none⟩,
    ⟨some 1, .asg (.t 16), none⟩] [1, 2, 5])
  (.reg [⟨some 17, .mv (.t 5), none⟩,
    ⟨some 18, .bin .add (.t 17) (.c (.int .i64 1)), none⟩,
    ⟨some 5, .asg (.t 18), none⟩] [1, 2, 5]))))))))
  (.seq (.reg [⟨some 19, .mv (.t 5), none⟩,
    ⟨some 4, .asg (.t 19), none⟩] [4])
  (.ret))))
theorem con_spec_gDepth {v0 : XGeo} {v1 : Int} {r : Int} (h : sh_spec_gDepth v0 v1 = some r) : Con Tryd.prog 94 [(cXGeo (cLs cI rfl)).enc v0, cI.enc v1] [] (rs_spec_gDepth r) := by
  delta sh_spec_gDepth at h
  refine top (out := none) (f := Tryd.f94) (m := m94) (rs := [.t 4]) (by kernel_rfl) rfl (by kernel_rfl) (by kernel_rfl) (by kernel_rfl) (by kernel_rfl) (by kernel_rfl) ?_
  exact
   ini [(0, .d ((cXGeo (cLs cI rfl)).enc v0)), (1, .d (cI.enc v1))] rfl <| wpC_seq <| reg_s <| x_box (ss rfl rfl) <| x_asg (sc cI (0 : Int) rfl) <| seqN [(1, .d (cI.enc v1)), (2, .box ((cXGeo (cLs cI rfl)).enc v0))] (by kernel_rfl) <|
    xn <| wpC_seq <| reg_s <| x_asg (sc cI (0 : Int) rfl) <| seqN [(1, .d (cI.enc v1)), (2, .box ((cXGeo (cLs cI rfl)).enc v0)), (5, .d (cI.enc (0 : Int)))] (by kernel_rfl) <|
    xn <| wpC_seq <| wpC_kp <| wpC_blk <| lpF (fun (s54 : (Int × Int)) => [(1, .d (cI.enc s54.1)), (2, .box ((cXGeo (cLs cI rfl)).enc v0)), (5, .d (cI.enc s54.2))]) (v1, (0 : Int)) rfl h
    fun G91 nx89 s54 hn90 h => wpC_kp <| wpC_seq <| wpC_kp <| wpC_seq <| reg_s <| st rfl <| fab rfl rfl rfl rfl <| st rfl <| lda rfl rfl rfl rfl rfl rfl <| st rfl <| mvd rfl rfl <| getO_k h fun x102 i103 g104 h => st rfl <| ias rfl rfl i103 g104 rfl <| st rfl <| ldi rfl rfl rfl rfl <| st rfl <| b_geq (k := .i64) rfl rfl <| seqN [(1, .d (cI.enc s54.1)), (2, .box ((cXGeo (cLs cI rfl)).enc v0)), (5, .d (cI.enc s54.2)), (11, .d (cB.enc (decide ((0 : Int) ≤ x102))))] (by kernel_rfl) <|
    xn <| cnd rfl h (fun b105 h => wpC_skip <| kpN [(1, .d (cI.enc s54.1)), (2, .box ((cXGeo (cLs cI rfl)).enc v0)), (5, .d (cI.enc s54.2))] (by kernel_rfl) <| xn <| wpC_blk <| wpC_seq <| reg_s <| st rfl <| fab rfl rfl rfl rfl <| st rfl <| lda rfl rfl rfl rfl rfl rfl <| st rfl <| mvd rfl rfl <| st rfl <| ias rfl rfl i103 g104 rfl <| st rfl <| ldi rfl rfl rfl rfl <| x_asg (ss rfl rfl) <| seqN [(1, .d (cI.enc x102)), (2, .box ((cXGeo (cLs cI rfl)).enc v0)), (5, .d (cI.enc s54.2))] (by kernel_rfl) <|
    xn <| reg_s <| st rfl <| mvd rfl rfl <| ckI_k h fun i106 h => st rfl <| b_add (k := .i64) rfl rfl i106 <| x_asg (ss rfl rfl) <| seqN [(1, .d (cI.enc x102)), (2, .box ((cXGeo (cLs cI rfl)).enc v0)), (5, .d (cI.enc (s54.2 + (1 : Int))))] (by kernel_rfl) <|
    xbb <| kpN [(1, .d (cI.enc x102)), (2, .box ((cXGeo (cLs cI rfl)).enc v0)), (5, .d (cI.enc (s54.2 + (1 : Int))))] (by kernel_rfl) <| xn <| hn90 (x102, (s54.2 + (1 : Int))) h)
    (fun b105 h => wpC_exit <| xt <| xt <| xt <| xt <| xb <| kpN [(5, .d (cI.enc s54.2))] (by kernel_rfl) <| xn <| wpC_seq <| reg_s <| st rfl <| mvd rfl rfl <| x_asg (ss rfl rfl) <| seqN [(4, .d (cI.enc s54.2))] (by kernel_rfl) <|
    xn <| wpC_ret <| re <| fin h (r1 (ss rfl rfl) <| r0) rfl)

def rs_spec_gLevel (r : (List Int)) : List D := [(cLo cI).enc r]
def m75 : MC := .seq (.reg [⟨some 2, .box (.t 0), none⟩,
    ⟨some 4, .asg (.c (.slice true [])), none⟩] [1, 2])
  (.seq (.reg [⟨some 5, .asg (.c (.slice true [])), none⟩] [1, 2, 5])
  (.seq (.kp [5] (.seq (.reg [⟨some 7, .fa 2 0 0, none⟩,
    ⟨some 8, .ld 7 1 false, none⟩,
    ⟨some 9, .len false (.t 8), none⟩,
    ⟨some 10, .mv (.c (.int .i64 0)), none⟩] [1, 2, 5, 9, 10])
  (.blk 0 (.loop (.seq (.reg [⟨some 11, .bin .lss (.t 10) (.t 9), none⟩] [1, 2, 5, 9, 10, 11])
  (.seq (.kp [1, 2, 5, 9, 10] (.cond (.t 11) (.skip) (.exit 0)))
  (.seq (.kp [1, 2, 5, 9, 10] (.blk 1 (.seq (.reg [⟨some 12, .mv (.t 10), none⟩,
    ⟨some 6, .asg (.t 12), none⟩] [1, 2, 5, 6, 9, 10])
  (.seq (.reg [⟨some 13, .ld 2 1 true, none⟩,
    ⟨some 14, .mv (.t 6), none⟩,
    ⟨some 15, .call 94 [(.t 13), (.t 14)], none⟩,
    ⟨some 16, .mv (.t 1), none⟩,
    ⟨some 17, .bin .eql (.t 15) (.t 16), none⟩] [1, 2, 5, 6, 9, 10, 17])
  (.cond (.t 17) (.reg [⟨some 18, .mv (.t 5), none⟩,
    ⟨some 19, .mv (.t 6), none⟩,
    ⟨some 20, .bsl [(.t 19)] 1, none⟩,
    ⟨some 21, .app (.t 18) (.t 20) 1, none⟩,
    ⟨some 5, .asg (.t 21), none⟩] [1, 2, 5, 9, 10]) (.skip))))))
  (.reg [⟨some 22, .bin .add (.t 10) (.c (.int .i64 1)), none⟩,
    ⟨some 10, .mv (.t 22), none⟩] [1, 2, 5, 9, 10]))))))))
  (.seq (.reg [⟨some 23, .mv (.t 5), none⟩,
    ⟨some 4, .asg (.t 23), none⟩] [4])
  (.ret))))
theorem con_spec_gLevel {v0 : XGeo} {v1 : Int} {r : (List Int)} (h : sh_spec_gLevel v0 v1 = some r) : Con Tryd.prog 75 [(cXGeo (cLs cI rfl)).enc v0, cI.enc v1] [] (rs_spec_gLevel r) := by
  delta sh_spec_gLevel at h
  refine top (out := none) (f := Tryd.f75) (m := m75) (rs := [.t 4]) (by kernel_rfl) rfl (by kernel_rfl) (by kernel_rfl) (by kernel_rfl) (by kernel_rfl) (by kernel_rfl) ?_
  exact
   ini [(0, .d ((cXGeo (cLs cI rfl)).enc v0)), (1, .d (cI.enc v1))] rfl <| wpC_seq <| reg_s <| x_box (ss rfl rfl) <| x_asg (sc (cLo cI) ([] : List Int) rfl) <| seqN [(1, .d (cI.enc v1)), (2, .box ((cXGeo (cLs cI rfl)).enc v0))] (by kernel_rfl) <|
    xn <| wpC_seq <| reg_s <| x_asg (sc (cLo cI) ([] : List Int) rfl) <| seqN [(1, .d (cI.enc v1)), (2, .box ((cXGeo (cLs cI rfl)).enc v0)), (5, .d ((cLo cI).enc ([] : List Int)))] (by kernel_rfl) <|
    xn <| wpC_seq <| wpC_kp <| wpC_seq <| reg_s <| st rfl <| fab rfl rfl rfl rfl <| st rfl <| lda rfl rfl rfl rfl rfl rfl <| stw rfl <| lens rfl fun l48 => st rfl <| mvc cI (0 : Int) rfl <| seqN [(1, .d (cI.enc v1)), (2, .box ((cXGeo (cLs cI rfl)).enc v0)), (5, .d ((cLo cI).enc ([] : List Int))), (9, .d (cI.enc (v0.Parents.length : Int))), (10, .d (cI.enc (0 : Int)))] (by kernel_rfl) <|
    xn <| wpC_blk <| lpR (fun (k50 : Nat) (s49 : (List Int)) => [(1, .d (cI.enc v1)), (2, .box ((cXGeo (cLs cI rfl)).enc v0)), (5, .d ((cLo cI).enc s49)), (9, .d (cI.enc (v0.Parents.length : Int))), (10, .d (cI.enc (k50 : Int)))]) ([] : List Int) rfl h
    (fun G80 s49 h => wpC_seq <| reg_s <| st rfl <| b_lss (k := .i64) rfl rfl <| seqN [(1, .d (cI.enc v1)), (2, .box ((cXGeo (cLs cI rfl)).enc v0)), (5, .d ((cLo cI).enc s49)), (9, .d (cI.enc (v0.Parents.length : Int))), (10, .d (cI.enc (v0.Parents.length : Int))), (11, .d (cB.enc (decide ((v0.Parents.length : Int) < (v0.Parents.length : Int)))))] (by kernel_rfl) <|
    xn <| wpC_seq <| wpC_kp <| cnd0 rfl (dlf _) <| wpC_exit <| xt <| xt <| xt <| xb <| kpN [(5, .d ((cLo cI).enc s49))] (by kernel_rfl) <| xn <| wpC_seq <| reg_s <| st rfl <| mvo rfl rfl <| x_asg (sr rfl rfl) <| seqN [(4, .d ((cLo cI).enc s49))] (by kernel_rfl) <|
    xn <| wpC_ret <| re <| fin h (r1 (so rfl rfl) <| r0) rfl)
    (fun G80 nx78 k50 s49 x51 hk52 hx53 hn79 h => wpC_seq <| reg_s <| st rfl <| b_lss (k := .i64) rfl rfl <| seqN [(1, .d (cI.enc v1)), (2, .box ((cXGeo (cLs cI rfl)).enc v0)), (5, .d ((cLo cI).enc s49)), (9, .d (cI.enc (v0.Parents.length : Int))), (10, .d (cI.enc (k50 : Int))), (11, .d (cB.enc (decide ((k50 : Int) < (v0.Parents.length : Int)))))] (by kernel_rfl) <|
    xn <| wpC_seq <| wpC_kp <| cnd1 rfl (dlt hk52) <| wpC_skip <| kpN [(1, .d (cI.enc v1)), (2, .box ((cXGeo (cLs cI rfl)).enc v0)), (5, .d ((cLo cI).enc s49)), (9, .d (cI.enc (v0.Parents.length : Int))), (10, .d (cI.enc (k50 : Int)))] (by kernel_rfl) <| xn <| wpC_seq <| wpC_kp <| wpC_blk <| wpC_seq <| reg_s <| st rfl <| mvd rfl rfl <| x_asg (ss rfl rfl) <| seqN [(1, .d (cI.enc v1)), (2, .box ((cXGeo (cLs cI rfl)).enc v0)), (5, .d ((cLo cI).enc s49)), (6, .d (cI.enc (k50 : Int))), (9, .d (cI.enc (v0.Parents.length : Int))), (10, .d (cI.enc (k50 : Int)))] (by kernel_rfl) <|
    xn <| wpC_seq <| reg_s <| st rfl <| ldb rfl rfl rfl rfl <| st rfl <| mvd rfl rfl <| bnd h fun x89 e90 h => st rfl <| o_call (a1 (c := (cXGeo (cLs cI rfl))) (tXGeo (tLs tK)) rfl (a1 (c := cI) tK rfl a0)) (con_spec_gDepth e90) (.inl (so1 sK so0)) <| st rfl <| mvd rfl rfl <| st rfl <| b_eql (k := .i64) rfl rfl <| seqN [(1, .d (cI.enc v1)), (2, .box ((cXGeo (cLs cI rfl)).enc v0)), (5, .d ((cLo cI).enc s49)), (6, .d (cI.enc (k50 : Int))), (9, .d (cI.enc (v0.Parents.length : Int))), (10, .d (cI.enc (k50 : Int))), (17, .d (cB.enc (decide (x89 = v1))))] (by kernel_rfl) <|
    xn <| cnd rfl h (fun b91 h => reg_s <| st rfl <| mvo rfl rfl <| st rfl <| mvd rfl rfl <| x_bsl cI [(k50 : Int)] (t1 (ss rfl rfl) rfl t0) rfl rfl <| lnO_k h fun l92 h => x_app (sr rfl rfl) (to rfl rfl) l92 rfl <| x_asg (so rfl rfl) <| seqN [(1, .d (cI.enc v1)), (2, .box ((cXGeo (cLs cI rfl)).enc v0)), (5, .d ((cLo cI).enc (s49 ++ [(k50 : Int)]))), (9, .d (cI.enc (v0.Parents.length : Int))), (10, .d (cI.enc (k50 : Int)))] (by kernel_rfl) <|
    xbb <| kpN [(1, .d (cI.enc v1)), (2, .box ((cXGeo (cLs cI rfl)).enc v0)), (5, .d ((cLo cI).enc (s49 ++ [(k50 : Int)]))), (9, .d (cI.enc (v0.Parents.length : Int))), (10, .d (cI.enc (k50 : Int)))] (by kernel_rfl) <| xn <| reg_s <| st rfl <| b_inc rfl rfl l48 hk52 <| st rfl <| mvd rfl rfl <| seqN [(1, .d (cI.enc v1)), (2, .box ((cXGeo (cLs cI rfl)).enc v0)), (5, .d ((cLo cI).enc (s49 ++ [(k50 : Int)]))), (9, .d (cI.enc (v0.Parents.length : Int))), (10, .d (cI.enc ((k50 + 1 : Nat) : Int)))] (by kernel_rfl) <|
    xn <| hn79 (s49 ++ [(k50 : Int)]) h)
    (fun b91 h => wpC_skip <| xbb <| kpN [(1, .d (cI.enc v1)), (2, .box ((cXGeo (cLs cI rfl)).enc v0)), (5, .d ((cLo cI).enc s49)), (9, .d (cI.enc (v0.Parents.length : Int))), (10, .d (cI.enc (k50 : Int)))] (by kernel_rfl) <| xn <| reg_s <| st rfl <| b_inc rfl rfl l48 hk52 <| st rfl <| mvd rfl rfl <| seqN [(1, .d (cI.enc v1)), (2, .box ((cXGeo (cLs cI rfl)).enc v0)), (5, .d ((cLo cI).enc s49)), (9, .d (cI.enc (v0.Parents.length : Int))), (10, .d (cI.enc ((k50 + 1 : Nat) : Int)))] (by kernel_rfl) <|
    xn <| hn79 s49 h))

def rs_spec_l1Rising (r : Bool) : List D := [cB.enc r]
def m76 : MC := .seq (.reg [⟨some 6, .asg (.c (.bool false)), none⟩] [0, 1, 2])
  (.seq (.kp [] (.seq (.reg [⟨some 9, .mv (.t 0), none⟩,
    ⟨some 10, .len false (.t 9), none⟩,
    ⟨some 11, .mv (.c (.int .i64 0)), none⟩] [0, 1, 2, 9, 10, 11])
  (.blk 0 (.loop (.seq (.reg [⟨some 12, .bin .lss (.t 11) (.t 10), none⟩] [0, 1, 2, 9, 10, 11, 12])
  (.seq (.kp [0, 1, 2, 9, 10, 11] (.cond (.t 12) (.skip) (.exit 0)))
  (.seq (.kp [0, 1, 2, 9, 10, 11] (.blk 1 (.seq (.reg [⟨some 13, .mv (.t 11), none⟩,
    ⟨some 14, .ia 9 (.t 11) 1, none⟩,
    ⟨some 15, .ld 14 1 false, none⟩,
    ⟨some 7, .asg (.t 13), none⟩,
    ⟨some 8, .asg (.t 15), none⟩] [0, 1, 2, 7, 8, 9, 10, 11])
  (.seq (.reg [⟨some 16, .mv (.t 8), none⟩,
    ⟨some 17, .mv (.t 1), none⟩,
    ⟨some 18, .mv (.t 2), none⟩,
    ⟨some 19, .call 61 [(.t 16), (.t 17), (.t 18)], none⟩,
    ⟨some 20, .nt (.t 19), none⟩,
    ⟨some 21, .mv (.t 20), none⟩,
    ⟨some 22, .mv (.t 7), some (21, false)⟩,
    ⟨some 23, .bin .gtr (.t 22) (.c (.int .i64 0)), some (21, false)⟩,
    ⟨some 24, .mv (.t 23), some (21, false)⟩,
    ⟨some 25, .mv (.t 0), some (24, true)⟩,
    ⟨some 26, .mv (.t 7), some (24, true)⟩,
    ⟨some 27, .bin .sub (.t 26) (.c (.int .i64 1)), some (24, true)⟩,
    ⟨some 28, .ia 25 (.t 27) 1, some (24, true)⟩,
    ⟨some 29, .ld 28 1 false, some (24, true)⟩,
    ⟨some 30, .mv (.t 8), some (24, true)⟩,
    ⟨some 31, .bin .geq (.t 29) (.t 30), some (24, true)⟩,
    ⟨some 32, .pick (.t 24) (.t 31) (.c (.bool false)), some (21, false)⟩,
    ⟨some 33, .pick (.t 21) (.c (.bool true)) (.t 32), none⟩] [0, 1, 2, 9, 10, 11, 33])
  (.cond (.t 33) (.seq (.reg [⟨some 6, .asg (.c (.bool false)), none⟩] [6])
  (.ret)) (.skip))))))
  (.reg [⟨some 34, .bin .add (.t 11) (.c (.int .i64 1)), none⟩,
    ⟨some 11, .mv (.t 34), none⟩] [0, 1, 2, 9, 10, 11]))))))))
  (.seq (.reg [⟨some 6, .asg (.c (.bool true)), none⟩] [6])
  (.ret)))
theorem con_spec_l1Rising {v0 : (List Int)} {v1 : Int} {v2 : Int} {r : Bool} (h : sh_spec_l1Rising v0 v1 v2 = some r) : Con Tryd.prog 76 [(cLs cI rfl).enc v0, cI.enc v1, cI.enc v2] [] (rs_spec_l1Rising r) := by
  delta sh_spec_l1Rising at h
  refine top (out := none) (f := Tryd.f76) (m := m76) (rs := [.t 6]) (by kernel_rfl) rfl (by kernel_rfl) (by kernel_rfl) (by kernel_rfl) (by kernel_rfl) (by kernel_rfl) ?_
  exact
   ini [(0, .d ((cLs cI rfl).enc v0)), (1, .d (cI.enc v1)), (2, .d (cI.enc v2))] rfl <| wpC_seq <| reg_s <| x_asg (sc cB false rfl) <| seqN [(0, .d ((cLs cI rfl).enc v0)), (1, .d (cI.enc v1)), (2, .d (cI.enc v2))] (by kernel_rfl) <|
    xn <| wpC_seq <| wpC_kp <| wpC_seq <| reg_s <| st rfl <| mvd rfl rfl <| stw rfl <| lens rfl fun l80 => st rfl <| mvc cI (0 : Int) rfl <| seqN [(0, .d ((cLs cI rfl).enc v0)), (1, .d (cI.enc v1)), (2, .d (cI.enc v2)), (9, .d ((cLs cI rfl).enc v0)), (10, .d (cI.enc (v0.length : Int))), (11, .d (cI.enc (0 : Int)))] (by kernel_rfl) <|
    xn <| wpC_blk <| lpR (fun (k82 : Nat) (s81 : Unit) => [(0, .d ((cLs cI rfl).enc v0)), (1, .d (cI.enc v1)), (2, .d (cI.enc v2)), (9, .d ((cLs cI rfl).enc v0)), (10, .d (cI.enc (v0.length : Int))), (11, .d (cI.enc (k82 : Int)))]) () rfl h
    (fun G122 s81 h => wpC_seq <| reg_s <| st rfl <| b_lss (k := .i64) rfl rfl <| seqN [(0, .d ((cLs cI rfl).enc v0)), (1, .d (cI.enc v1)), (2, .d (cI.enc v2)), (9, .d ((cLs cI rfl).enc v0)), (10, .d (cI.enc (v0.length : Int))), (11, .d (cI.enc (v0.length : Int))), (12, .d (cB.enc (decide ((v0.length : Int) < (v0.length : Int)))))] (by kernel_rfl) <|
    xn <| wpC_seq <| wpC_kp <| cnd0 rfl (dlf _) <| wpC_exit <| xt <| xt <| xt <| xb <| kpN [] (by kernel_rfl) <| xn <| wpC_seq <| reg_s <| x_asg (sc cB true rfl) <| seqN [(6, .d (cB.enc true))] (by kernel_rfl) <|
    xn <| wpC_ret <| re <| fin h (r1 (ss rfl rfl) <| r0) rfl)
    (fun G122 nx120 k82 s81 x83 hk84 hx85 hn121 h => wpC_seq <| reg_s <| st rfl <| b_lss (k := .i64) rfl rfl <| seqN [(0, .d ((cLs cI rfl).enc v0)), (1, .d (cI.enc v1)), (2, .d (cI.enc v2)), (9, .d ((cLs cI rfl).enc v0)), (10, .d (cI.enc (v0.length : Int))), (11, .d (cI.enc (k82 : Int))), (12, .d (cB.enc (decide ((k82 : Int) < (v0.length : Int)))))] (by kernel_rfl) <|
    xn <| wpC_seq <| wpC_kp <| cnd1 rfl (dlt hk84) <| wpC_skip <| kpN [(0, .d ((cLs cI rfl).enc v0)), (1, .d (cI.enc v1)), (2, .d (cI.enc v2)), (9, .d ((cLs cI rfl).enc v0)), (10, .d (cI.enc (v0.length : Int))), (11, .d (cI.enc (k82 : Int)))] (by kernel_rfl) <| xn <| wpC_seq <| wpC_kp <| wpC_blk <| wpC_seq <| reg_s <| st rfl <| mvd rfl rfl <| st rfl <| ias rfl rfl (Int.natCast_nonneg _) hx85 rfl <| st rfl <| ldi rfl rfl rfl rfl <| x_asg (ss rfl rfl) <| x_asg (ss rfl rfl) <| seqN [(0, .d ((cLs cI rfl).enc v0)), (1, .d (cI.enc v1)), (2, .d (cI.enc v2)), (7, .d (cI.enc (k82 : Int))), (8, .d (cI.enc x83)), (9, .d ((cLs cI rfl).enc v0)), (10, .d (cI.enc (v0.length : Int))), (11, .d (cI.enc (k82 : Int)))] (by kernel_rfl) <|
    xn <| wpC_seq <| reg_s <| st rfl <| mvd rfl rfl <| st rfl <| mvd rfl rfl <| st rfl <| mvd rfl rfl <| bnd h fun x148 e149 h => st rfl <| o_call (a1 (c := cI) tK rfl (a1 (c := cI) tK rfl (a1 (c := cI) tK rfl a0))) (con_spec_l1In e149) (.inl (so1 sB so0)) <| st rfl <| o_nt rfl <| st rfl <| mvd rfl rfl <| ite_k h (fun b150 h => gf rfl b150 <| gf rfl b150 <| gf rfl b150 <| gu rfl <| gu rfl <| gu rfl <| gu rfl <| gu rfl <| gu rfl <| gu rfl <| gf rfl b150 <| st rfl <| pick1 rfl b150 (cd := cB) (v := true) rfl rfl <| seqN [(0, .d ((cLs cI rfl).enc v0)), (1, .d (cI.enc v1)), (2, .d (cI.enc v2)), (9, .d ((cLs cI rfl).enc v0)), (10, .d (cI.enc (v0.length : Int))), (11, .d (cI.enc (k82 : Int))), (33, .d (cB.enc true))] (by kernel_rfl) <|
    xn <| cnd1 rfl rfl <| wpC_seq <| reg_s <| x_asg (sc cB false rfl) <| seqN [(6, .d (cB.enc false))] (by kernel_rfl) <|
    xn <| wpC_ret <| rb <| rt <| rt <| rt <| rb <| rt <| rt <| re <| fin h (r1 (ss rfl rfl) <| r0) rfl)
    (fun b150 h => gt' rfl b150 <| st rfl <| mvd rfl rfl <| gt' rfl b150 <| st rfl <| b_gtr (k := .i64) rfl rfl <| gt' rfl b150 <| st rfl <| mvd rfl rfl <| ite_k h (fun b151 h => gt' rfl b151 <| st rfl <| mvd rfl rfl <| gt' rfl b151 <| st rfl <| mvd rfl rfl <| gt' rfl b151 <| ckI_k h fun i152 h => st rfl <| b_sub (k := .i64) rfl rfl i152 <| gt' rfl b151 <| getO_k h fun x153 i154 g155 h => st rfl <| ias rfl rfl i154 g155 rfl <| gt' rfl b151 <| st rfl <| ldi rfl rfl rfl rfl <| gt' rfl b151 <| st rfl <| mvd rfl rfl <| gt' rfl b151 <| st rfl <| b_geq (k := .i64) rfl rfl <| gt' rfl b150 <| st rfl <| pick1 rfl b151 (cd := cB) (v := (decide (x83 ≤ x153))) rfl rfl <| st rfl <| pick0 rfl b150 (cd := cB) (v := (decide (x83 ≤ x153))) rfl rfl <| seqN [(0, .d ((cLs cI rfl).enc v0)), (1, .d (cI.enc v1)), (2, .d (cI.enc v2)), (9, .d ((cLs cI rfl).enc v0)), (10, .d (cI.enc (v0.length : Int))), (11, .d (cI.enc (k82 : Int))), (33, .d (cB.enc (decide (x83 ≤ x153))))] (by kernel_rfl) <|
    xn <| cnd rfl h (fun b156 h => wpC_seq <| reg_s <| x_asg (sc cB false rfl) <| seqN [(6, .d (cB.enc false))] (by kernel_rfl) <|
    xn <| wpC_ret <| rb <| rt <| rt <| rt <| rb <| rt <| rt <| re <| fin h (r1 (ss rfl rfl) <| r0) rfl)
    (fun b156 h => wpC_skip <| xbb <| kpN [(0, .d ((cLs cI rfl).enc v0)), (1, .d (cI.enc v1)), (2, .d (cI.enc v2)), (9, .d ((cLs cI rfl).enc v0)), (10, .d (cI.enc (v0.length : Int))), (11, .d (cI.enc (k82 : Int)))] (by kernel_rfl) <| xn <| reg_s <| st rfl <| b_inc rfl rfl l80 hk84 <| st rfl <| mvd rfl rfl <| seqN [(0, .d ((cLs cI rfl).enc v0)), (1, .d (cI.enc v1)), (2, .d (cI.enc v2)), (9, .d ((cLs cI rfl).enc v0)), (10, .d (cI.enc (v0.length : Int))), (11, .d (cI.enc ((k82 + 1 : Nat) : Int)))] (by kernel_rfl) <|
    xn <| hn121 () h))
    (fun b151 h => gf rfl b151 <| gf rfl b151 <| gf rfl b151 <| gf rfl b151 <| gf rfl b151 <| gf rfl b151 <| gf rfl b151 <| gt' rfl b150 <| st rfl <| pick0 rfl b151 (cd := cB) (v := false) rfl rfl <| st rfl <| pick0 rfl b150 (cd := cB) (v := false) rfl rfl <| seqN [(0, .d ((cLs cI rfl).enc v0)), (1, .d (cI.enc v1)), (2, .d (cI.enc v2)), (9, .d ((cLs cI rfl).enc v0)), (10, .d (cI.enc (v0.length : Int))), (11, .d (cI.enc (k82 : Int))), (33, .d (cB.enc false))] (by kernel_rfl) <|
    xn <| cnd0 rfl rfl <| wpC_skip <| xbb <| kpN [(0, .d ((cLs cI rfl).enc v0)), (1, .d (cI.enc v1)), (2, .d (cI.enc v2)), (9, .d ((cLs cI rfl).enc v0)), (10, .d (cI.enc (v0.length : Int))), (11, .d (cI.enc (k82 : Int)))] (by kernel_rfl) <| xn <| reg_s <| st rfl <| b_inc rfl rfl l80 hk84 <| st rfl <| mvd rfl rfl <| seqN [(0, .d ((cLs cI rfl).enc v0)), (1, .d (cI.enc v1)), (2, .d (cI.enc v2)), (9, .d ((cLs cI rfl).enc v0)), (10, .d (cI.enc (v0.length : Int))), (11, .d (cI.enc ((k82 + 1 : Nat) : Int)))] (by kernel_rfl) <|
    xn <| hn121 () h)))

def rs_spec_uWhere (r : Bool) : List D := [cB.enc r]
def m77 : MC := .seq (.reg [⟨some 4, .asg (.c (.bool false)), none⟩] [0, 1])
  (.seq (.kp [0, 1] (.seq (.reg [⟨some 7, .mv (.t 1), none⟩,
    ⟨some 8, .len false (.t 7), none⟩,
    ⟨some 9, .mv (.t 0), none⟩,
    ⟨some 10, .len false (.t 9), none⟩,
    ⟨some 11, .bin .neq (.t 8) (.t 10), none⟩] [0, 1, 11])
  (.cond (.t 11) (.seq (.reg [⟨some 4, .asg (.c (.bool false)), none⟩] [4])
  (.ret)) (.skip))))
  (.seq (.kp [] (.seq (.reg [⟨some 12, .mv (.t 0), none⟩,
    ⟨some 13, .len false (.t 12), none⟩,
    ⟨some 14, .mv (.c (.int .i64 0)), none⟩] [0, 1, 12, 13, 14])
  (.blk 0 (.loop (.seq (.reg [⟨some 15, .bin .lss (.t 14) (.t 13), none⟩] [0, 1, 12, 13, 14, 15])
  (.seq (.kp [0, 1, 12, 13, 14] (.cond (.t 15) (.skip) (.exit 0)))
  (.seq (.kp [0, 1, 12, 13, 14] (.blk 1 (.seq (.reg [⟨some 16, .mv (.t 14), none⟩,
    ⟨some 17, .ia 12 (.t 14) 2, none⟩,
    ⟨some 18, .ld 17 2 true, none⟩,
    ⟨some 6, .alloc (.agg [.str [], .int .i64 0]), none⟩,
    ⟨some 5, .asg (.t 16), none⟩,
    ⟨none, .st 6 (.t 18) 2, none⟩] [0, 1, 5, 6, 12, 13, 14])
  (.seq (.drw [⟨0, ⟨some 19, .mv (.t 1), none⟩, [20, 21, 22, 23, 24, 25, 26, 27, 28, 29]⟩,
    ⟨1, ⟨some 20, .mv (.t 5), none⟩, [19, 21, 22, 23, 24, 25, 26, 27, 28, 29]⟩,
    ⟨2, ⟨some 21, .ia 19 (.t 20) 1, none⟩, [22, 23, 24, 25, 26, 27, 28, 29]⟩,
    ⟨3, ⟨some 22, .ld 21 1 false, none⟩, [23, 24, 25, 26, 27, 28, 29]⟩,
    ⟨4, ⟨some 23, .fa 6 1 1, none⟩, [19, 20, 21, 22, 24, 25, 26, 27, 28, 29]⟩,
    ⟨5, ⟨some 24, .ld 23 1 false, none⟩, [19, 20, 21, 22, 25, 26, 27, 28, 29]⟩,
    ⟨6, ⟨some 25, .cvi .u64 (.t 24), none⟩, [19, 20, 21, 22, 26, 27, 28, 29]⟩,
    ⟨7, ⟨some 26, .bin .shl (.c (.int .i64 1)) (.t 25), none⟩, [19, 20, 21, 22, 27, 28, 29]⟩,
    ⟨8, ⟨some 27, .bin .sub (.t 26) (.c (.int .i64 1)), none⟩, [19, 20, 21, 22, 28, 29]⟩,
    ⟨9, ⟨some 28, .call 61 [(.t 22), (.c (.int .i64 0)), (.t 27)], none⟩, [29]⟩,
    ⟨10, ⟨some 29, .nt (.t 28), none⟩, []⟩]
    [] [0, 1, 12, 13, 14, 29])
  (.cond (.t 29) (.seq (.reg [⟨some 4, .asg (.c (.bool false)), none⟩] [4])
  (.ret)) (.skip))))))
  (.reg [⟨some 30, .bin .add (.t 14) (.c (.int .i64 1)), none⟩,
    ⟨some 14, .mv (.t 30), none⟩] [0, 1, 12, 13, 14]))))))))
  (.seq (.reg [⟨some 4, .asg (.c (.bool true)), none⟩] [4])
  (.ret))))
theorem con_spec_uWhere {v0 : (List XVariable)} {v1 : (List Int)} {r : Bool} (h : sh_spec_uWhere v0 v1 = some r) : Con Tryd.prog 77 [(cLs (cXVariable cS cI) rfl).enc v0, (cLs cI rfl).enc v1] [] (rs_spec_uWhere r) := by
  delta sh_spec_uWhere at h
  refine top (out := none) (f := Tryd.f77) (m := m77) (rs := [.t 4]) (by kernel_rfl) rfl (by kernel_rfl) (by kernel_rfl) (by kernel_rfl) (by kernel_rfl) (by kernel_rfl) ?_
  exact
   ini [(0, .d ((cLs (cXVariable cS cI) rfl).enc v0)), (1, .d ((cLs cI rfl).enc v1))] rfl <| wpC_seq <| reg_s <| x_asg (sc cB false rfl) <| seqN [(0, .d ((cLs (cXVariable cS cI) rfl).enc v0)), (1, .d ((cLs cI rfl).enc v1))] (by kernel_rfl) <|
    xn <| wpC_seq <| wpC_kp <| wpC_seq <| reg_s <| st rfl <| mvd rfl rfl <| stw rfl <| lens rfl fun l8 => st rfl <| mvd rfl rfl <| stw rfl <| lens rfl fun l9 => st rfl <| b_neq (k := .i64) rfl rfl <| seqN [(0, .d ((cLs (cXVariable cS cI) rfl).enc v0)), (1, .d ((cLs cI rfl).enc v1)), (11, .d (cB.enc (decide ((v1.length : Int) ≠ (v0.length : Int)))))] (by kernel_rfl) <|
    xn <| cnd rfl h (fun b10 h => wpC_seq <| reg_s <| x_asg (sc cB false rfl) <| seqN [(4, .d (cB.enc false))] (by kernel_rfl) <|
    xn <| wpC_ret <| rt <| rt <| re <| fin h (r1 (ss rfl rfl) <| r0) rfl)
    (fun b10 h => wpC_skip <| kpN [(0, .d ((cLs (cXVariable cS cI) rfl).enc v0)), (1, .d ((cLs cI rfl).enc v1))] (by kernel_rfl) <| xn <| wpC_seq <| wpC_kp <| wpC_seq <| reg_s <| st rfl <| mvd rfl rfl <| stw rfl <| lens rfl fun l98 => st rfl <| mvc cI (0 : Int) rfl <| seqN [(0, .d ((cLs (cXVariable cS cI) rfl).enc v0)), (1, .d ((cLs cI rfl).enc v1)), (12, .d ((cLs (cXVariable cS cI) rfl).enc v0)), (13, .d (cI.enc (v0.length : Int))), (14, .d (cI.enc (0 : Int)))] (by kernel_rfl) <|
    xn <| wpC_blk <| lpR (fun (k100 : Nat) (s99 : Unit) => [(0, .d ((cLs (cXVariable cS cI) rfl).enc v0)), (1, .d ((cLs cI rfl).enc v1)), (12, .d ((cLs (cXVariable cS cI) rfl).enc v0)), (13, .d (cI.enc (v0.length : Int))), (14, .d (cI.enc (k100 : Int)))]) () rfl h
    (fun G144 s99 h => wpC_seq <| reg_s <| st rfl <| b_lss (k := .i64) rfl rfl <| seqN [(0, .d ((cLs (cXVariable cS cI) rfl).enc v0)), (1, .d ((cLs cI rfl).enc v1)), (12, .d ((cLs (cXVariable cS cI) rfl).enc v0)), (13, .d (cI.enc (v0.length : Int))), (14, .d (cI.enc (v0.length : Int))), (15, .d (cB.enc (decide ((v0.length : Int) < (v0.length : Int)))))] (by kernel_rfl) <|
    xn <| wpC_seq <| wpC_kp <| cnd0 rfl (dlf _) <| wpC_exit <| xt <| xt <| xt <| xb <| kpN [] (by kernel_rfl) <| xn <| wpC_seq <| reg_s <| x_asg (sc cB true rfl) <| seqN [(4, .d (cB.enc true))] (by kernel_rfl) <|
    xn <| wpC_ret <| re <| fin h (r1 (ss rfl rfl) <| r0) rfl)
    (fun G144 nx142 k100 s99 x101 hk102 hx103 hn143 h => wpC_seq <| reg_s <| st rfl <| b_lss (k := .i64) rfl rfl <| seqN [(0, .d ((cLs (cXVariable cS cI) rfl).enc v0)), (1, .d ((cLs cI rfl).enc v1)), (12, .d ((cLs (cXVariable cS cI) rfl).enc v0)), (13, .d (cI.enc (v0.length : Int))), (14, .d (cI.enc (k100 : Int))), (15, .d (cB.enc (decide ((k100 : Int) < (v0.length : Int)))))] (by kernel_rfl) <|
    xn <| wpC_seq <| wpC_kp <| cnd1 rfl (dlt hk102) <| wpC_skip <| kpN [(0, .d ((cLs (cXVariable cS cI) rfl).enc v0)), (1, .d ((cLs cI rfl).enc v1)), (12, .d ((cLs (cXVariable cS cI) rfl).enc v0)), (13, .d (cI.enc (v0.length : Int))), (14, .d (cI.enc (k100 : Int)))] (by kernel_rfl) <| xn <| wpC_seq <| wpC_kp <| wpC_blk <| wpC_seq <| reg_s <| st rfl <| mvd rfl rfl <| st rfl <| ias rfl rfl (Int.natCast_nonneg _) hx103 rfl <| st rfl <| ldi rfl rfl rfl rfl <| x_all (cXVariable cS cI) (⟨([] : List UInt8), (0 : Int)⟩ : XVariable) rfl <| x_asg (ss rfl rfl) <| x_stb (ss rfl rfl) rfl (Cd.h_sz _ _) rfl <| seqN [(0, .d ((cLs (cXVariable cS cI) rfl).enc v0)), (1, .d ((cLs cI rfl).enc v1)), (5, .d (cI.enc (k100 : Int))), (6, .box ((cXVariable cS cI).enc x101)), (12, .d ((cLs (cXVariable cS cI) rfl).enc v0)), (13, .d (cI.enc (v0.length : Int))), (14, .d (cI.enc (k100 : Int)))] (by kernel_rfl) <|
    xn <| wpC_seq <| drw_s <| pst rfl <| mvd rfl rfl ⟨rfl, pst rfl <| mvd rfl rfl ⟨rfl, getO_kp h fun x173 i174 g175 h => pst rfl <| ias rfl rfl i174 g175 rfl ⟨rfl, pst rfl <| ldi rfl rfl rfl rfl ⟨rfl, pst rfl <| fab rfl rfl rfl rfl ⟨rfl, pst rfl <| lda rfl rfl rfl rfl rfl rfl ⟨rfl, ckK_kp h fun i176 h => pst rfl <| o_cvi (k := .i64) (k' := .u64) rfl i176 ⟨rfl, ck_kp h fun i177 h => ckI_kp h fun i178 h => pst rfl <| b_shl (k := .i64) (k' := .u64) rfl rfl i177 rfl i178 ⟨rfl, ckI_kp h fun i179 h => pst rfl <| b_sub (k := .i64) rfl rfl i179 ⟨rfl, bndp h fun x180 e181 h => pst rfl <| o_call (a1 (c := cI) tK rfl (a1 (c := cI) tK rfl (a1 (c := cI) tK rfl a0))) (con_spec_l1In e181) (.inl (so1 sB so0)) ⟨rfl, pst rfl <| o_nt rfl ⟨rfl, preN <| seqN [(0, .d ((cLs (cXVariable cS cI) rfl).enc v0)), (1, .d ((cLs cI rfl).enc v1)), (12, .d ((cLs (cXVariable cS cI) rfl).enc v0)), (13, .d (cI.enc (v0.length : Int))), (14, .d (cI.enc (k100 : Int))), (29, .d (cB.enc (!x180)))] (by kernel_rfl) <|
    xn <| cnd rfl h (fun b182 h => wpC_seq <| reg_s <| x_asg (sc cB false rfl) <| seqN [(4, .d (cB.enc false))] (by kernel_rfl) <|
    xn <| wpC_ret <| rb <| rt <| rt <| rt <| rb <| rt <| rt <| re <| fin h (r1 (ss rfl rfl) <| r0) rfl)
    (fun b182 h => wpC_skip <| xbb <| kpN [(0, .d ((cLs (cXVariable cS cI) rfl).enc v0)), (1, .d ((cLs cI rfl).enc v1)), (12, .d ((cLs (cXVariable cS cI) rfl).enc v0)), (13, .d (cI.enc (v0.length : Int))), (14, .d (cI.enc (k100 : Int)))] (by kernel_rfl) <| xn <| reg_s <| st rfl <| b_inc rfl rfl l98 hk102 <| st rfl <| mvd rfl rfl <| seqN [(0, .d ((cLs (cXVariable cS cI) rfl).enc v0)), (1, .d ((cLs cI rfl).enc v1)), (12, .d ((cLs (cXVariable cS cI) rfl).enc v0)), (13, .d (cI.enc (v0.length : Int))), (14, .d (cI.enc ((k100 + 1 : Nat) : Int)))] (by kernel_rfl) <|
    xn <| hn143 () h)⟩⟩⟩⟩⟩⟩⟩⟩⟩⟩⟩))

def rs_spec_sPart (r : (List XVariable)) : List D := [(cLo (cXVariable cS cI)).enc r]
def m79 : MC := .seq (.reg [⟨some 4, .asg (.c (.slice true [])), none⟩] [0, 1])
  (.seq (.reg [⟨some 5, .asg (.c (.slice true [])), none⟩] [0, 1, 5])
  (.seq (.kp [5] (.seq (.reg [⟨some 8, .mv (.t 1), none⟩,
    ⟨some 9, .len false (.t 8), none⟩,
    ⟨some 10, .mv (.c (.int .i64 0)), none⟩] [0, 1, 5, 8, 9, 10])
  (.blk 0 (.loop (.seq (.reg [⟨some 11, .bin .lss (.t 10) (.t 9), none⟩] [0, 1, 5, 8, 9, 10, 11])
  (.seq (.kp [0, 1, 5, 8, 9, 10] (.cond (.t 11) (.skip) (.exit 0)))
  (.seq (.kp [0, 1, 5, 8, 9, 10] (.blk 1 (.seq (.reg [⟨some 12, .ia 8 (.t 10) 1, none⟩,
    ⟨some 13, .ld 12 1 false, none⟩,
    ⟨some 7, .asg (.t 13), none⟩] [0, 1, 5, 7, 8, 9, 10])
  (.reg [⟨some 14, .mv (.t 5), none⟩,
    ⟨some 15, .mv (.t 0), none⟩,
    ⟨some 16, .mv (.t 7), none⟩,
    ⟨some 17, .ia 15 (.t 16) 2, none⟩,
    ⟨some 18, .ld 17 2 true, none⟩,
    ⟨some 19, .bsl [(.t 18)] 2, none⟩,
    ⟨some 20, .app (.t 14) (.t 19) 2, none⟩,
    ⟨some 5, .asg (.t 20), none⟩] [0, 1, 5, 8, 9, 10]))))
  (.reg [⟨some 21, .bin .add (.t 10) (.c (.int .i64 1)), none⟩,
    ⟨some 10, .mv (.t 21), none⟩] [0, 1, 5, 8, 9, 10]))))))))
  (.seq (.reg [⟨some 22, .mv (.t 5), none⟩,
    ⟨some 4, .asg (.t 22), none⟩] [4])
  (.ret))))
theorem con_spec_sPart {v0 : (List XVariable)} {v1 : (List Int)} {r : (List XVariable)} (h : sh_spec_sPart v0 v1 = some r) : Con Tryd.prog 79 [(cLs (cXVariable cS cI) rfl).enc v0, (cLs cI rfl).enc v1] [] (rs_spec_sPart r) := by
  delta sh_spec_sPart at h
  refine top (out := none) (f := Tryd.f79) (m := m79) (rs := [.t 4]) (by kernel_rfl) rfl (by kernel_rfl) (by kernel_rfl) (by kernel_rfl) (by kernel_rfl) (by kernel_rfl) ?_
  exact
   ini [(0, .d ((cLs (cXVariable cS cI) rfl).enc v0)), (1, .d ((cLs cI rfl).enc v1))] rfl <| wpC_seq <| reg_s <| x_asg (sc (cLo (cXVariable cS cI)) ([] : List XVariable) rfl) <| seqN [(0, .d ((cLs (cXVariable cS cI) rfl).enc v0)), (1, .d ((cLs cI rfl).enc v1))] (by kernel_rfl) <|
    xn <| wpC_seq <| reg_s <| x_asg (sc (cLo (cXVariable cS cI)) ([] : List XVariable) rfl) <| seqN [(0, .d ((cLs (cXVariable cS cI) rfl).enc v0)), (1, .d ((cLs cI rfl).enc v1)), (5, .d ((cLo (cXVariable cS cI)).enc ([] : List XVariable)))] (by kernel_rfl) <|
    xn <| wpC_seq <| wpC_kp <| wpC_seq <| reg_s <| st rfl <| mvd rfl rfl <| stw rfl <| lens rfl fun l36 => st rfl <| mvc cI (0 : Int) rfl <| seqN [(0, .d ((cLs (cXVariable cS cI) rfl).enc v0)), (1, .d ((cLs cI rfl).enc v1)), (5, .d ((cLo (cXVariable cS cI)).enc ([] : List XVariable))), (8, .d ((cLs cI rfl).enc v1)), (9, .d (cI.enc (v1.length : Int))), (10, .d (cI.enc (0 : Int)))] (by kernel_rfl) <|
    xn <| wpC_blk <| lpR (fun (k38 : Nat) (s37 : (List XVariable)) => [(0, .d ((cLs (cXVariable cS cI) rfl).enc v0)), (1, .d ((cLs cI rfl).enc v1)), (5, .d ((cLo (cXVariable cS cI)).enc s37)), (8, .d ((cLs cI rfl).enc v1)), (9, .d (cI.enc (v1.length : Int))), (10, .d (cI.enc (k38 : Int)))]) ([] : List XVariable) rfl h
    (fun G60 s37 h => wpC_seq <| reg_s <| st rfl <| b_lss (k := .i64) rfl rfl <| seqN [(0, .d ((cLs (cXVariable cS cI) rfl).enc v0)), (1, .d ((cLs cI rfl).enc v1)), (5, .d ((cLo (cXVariable cS cI)).enc s37)), (8, .d ((cLs cI rfl).enc v1)), (9, .d (cI.enc (v1.length : Int))), (10, .d (cI.enc (v1.length : Int))), (11, .d (cB.enc (decide ((v1.length : Int) < (v1.length : Int)))))] (by kernel_rfl) <|
    xn <| wpC_seq <| wpC_kp <| cnd0 rfl (dlf _) <| wpC_exit <| xt <| xt <| xt <| xb <| kpN [(5, .d ((cLo (cXVariable cS cI)).enc s37))] (by kernel_rfl) <| xn <| wpC_seq <| reg_s <| st rfl <| mvo rfl rfl <| x_asg (sr rfl rfl) <| seqN [(4, .d ((cLo (cXVariable cS cI)).enc s37))] (by kernel_rfl) <|
    xn <| wpC_ret <| re <| fin h (r1 (so rfl rfl) <| r0) rfl)
    (fun G60 nx58 k38 s37 x39 hk40 hx41 hn59 h => wpC_seq <| reg_s <| st rfl <| b_lss (k := .i64) rfl rfl <| seqN [(0, .d ((cLs (cXVariable cS cI) rfl).enc v0)), (1, .d ((cLs cI rfl).enc v1)), (5, .d ((cLo (cXVariable cS cI)).enc s37)), (8, .d ((cLs cI rfl).enc v1)), (9, .d (cI.enc (v1.length : Int))), (10, .d (cI.enc (k38 : Int))), (11, .d (cB.enc (decide ((k38 : Int) < (v1.length : Int)))))] (by kernel_rfl) <|
    xn <| wpC_seq <| wpC_kp <| cnd1 rfl (dlt hk40) <| wpC_skip <| kpN [(0, .d ((cLs (cXVariable cS cI) rfl).enc v0)), (1, .d ((cLs cI rfl).enc v1)), (5, .d ((cLo (cXVariable cS cI)).enc s37)), (8, .d ((cLs cI rfl).enc v1)), (9, .d (cI.enc (v1.length : Int))), (10, .d (cI.enc (k38 : Int)))] (by kernel_rfl) <| xn <| wpC_seq <| wpC_kp <| wpC_blk <| wpC_seq <| reg_s <| st rfl <| ias rfl rfl (Int.natCast_nonneg _) hx41 rfl <| st rfl <| ldi rfl rfl rfl rfl <| x_asg (ss rfl rfl) <| seqN [(0, .d ((cLs (cXVariable cS cI) rfl).enc v0)), (1, .d ((cLs cI rfl).enc v1)), (5, .d ((cLo (cXVariable cS cI)).enc s37)), (7, .d (cI.enc x39)), (8, .d ((cLs cI rfl).enc v1)), (9, .d (cI.enc (v1.length : Int))), (10, .d (cI.enc (k38 : Int)))] (by kernel_rfl) <|
    xn <| reg_s <| st rfl <| mvo rfl rfl <| st rfl <| mvd rfl rfl <| st rfl <| mvd rfl rfl <| getO_k h fun x65 i66 g67 h => st rfl <| ias rfl rfl i66 g67 rfl <| st rfl <| ldi rfl rfl rfl rfl <| x_bsl (cXVariable cS cI) [x65] (t1 (ss rfl rfl) rfl t0) rfl rfl <| lnO_k h fun l68 h => x_app (sr rfl rfl) (to rfl rfl) l68 rfl <| x_asg (so rfl rfl) <| seqN [(0, .d ((cLs (cXVariable cS cI) rfl).enc v0)), (1, .d ((cLs cI rfl).enc v1)), (5, .d ((cLo (cXVariable cS cI)).enc (s37 ++ [x65]))), (8, .d ((cLs cI rfl).enc v1)), (9, .d (cI.enc (v1.length : Int))), (10, .d (cI.enc (k38 : Int)))] (by kernel_rfl) <|
    xbb <| kpN [(0, .d ((cLs (cXVariable cS cI) rfl).enc v0)), (1, .d ((cLs cI rfl).enc v1)), (5, .d ((cLo (cXVariable cS cI)).enc (s37 ++ [x65]))), (8, .d ((cLs cI rfl).enc v1)), (9, .d (cI.enc (v1.length : Int))), (10, .d (cI.enc (k38 : Int)))] (by kernel_rfl) <| xn <| reg_s <| st rfl <| b_inc rfl rfl l36 hk40 <| st rfl <| mvd rfl rfl <| seqN [(0, .d ((cLs (cXVariable cS cI) rfl).enc v0)), (1, .d ((cLs cI rfl).enc v1)), (5, .d ((cLo (cXVariable cS cI)).enc (s37 ++ [x65]))), (8, .d ((cLs cI rfl).enc v1)), (9, .d (cI.enc (v1.length : Int))), (10, .d (cI.enc ((k38 + 1 : Nat) : Int)))] (by kernel_rfl) <|
    xn <| hn59 (s37 ++ [x65]) h)

def rs_spec_sCount (r : Int) : List D := [cI.enc r]
def m78 : MC := .seq (.reg [⟨some 2, .asg (.c (.int .i64 0)), none⟩] [0])
  (.seq (.reg [⟨some 3, .asg (.c (.int .i64 1)), none⟩] [0, 3])
  (.seq (.kp [3] (.seq (.reg [⟨some 6, .mv (.t 0), none⟩,
    ⟨some 7, .len false (.t 6), none⟩,
    ⟨some 8, .mv (.c (.int .i64 0)), none⟩] [0, 3, 6, 7, 8])
  (.blk 0 (.loop (.seq (.reg [⟨some 9, .bin .lss (.t 8) (.t 7), none⟩] [0, 3, 6, 7, 8, 9])
  (.seq (.kp [0, 3, 6, 7, 8] (.cond (.t 9) (.skip) (.exit 0)))
  (.seq (.kp [0, 3, 6, 7, 8] (.blk 1 (.seq (.reg [⟨some 10, .ia 6 (.t 8) 2, none⟩,
    ⟨some 11, .ld 10 2 true, none⟩,
    ⟨some 5, .alloc (.agg [.str [], .int .i64 0]), none⟩,
    ⟨none, .st 5 (.t 11) 2, none⟩] [0, 3, 5, 6, 7, 8])
  (.reg [⟨some 12, .mv (.t 3), none⟩,
    ⟨some 13, .fa 5 1 1, none⟩,
    ⟨some 14, .ld 13 1 false, none⟩,
    ⟨some 15, .bin .mul (.t 12) (.t 14), none⟩,
    ⟨some 3, .asg (.t 15), none⟩] [0, 3, 6, 7, 8]))))
  (.reg [⟨some 16, .bin .add (.t 8) (.c (.int .i64 1)), none⟩,
    ⟨some 8, .mv (.t 16), none⟩] [0, 3, 6, 7, 8]))))))))
  (.seq (.reg [⟨some 17, .mv (.t 3), none⟩,
    ⟨some 2, .asg (.t 17), none⟩] [2])
  (.ret))))
theorem con_spec_sCount {v0 : (List XVariable)} {r : Int} (h : sh_spec_sCount v0 = some r) : Con Tryd.prog 78 [(cLs (cXVariable cS cI) rfl).enc v0] [] (rs_spec_sCount r) := by
  delta sh_spec_sCount at h
  refine top (out := none) (f := Tryd.f78) (m := m78) (rs := [.t 2]) (by kernel_rfl) rfl (by kernel_rfl) (by kernel_rfl) (by kernel_rfl) (by kernel_rfl) (by kernel_rfl) ?_
  exact
   ini [(0, .d ((cLs (cXVariable cS cI) rfl).enc v0))] rfl <| wpC_seq <| reg_s <| x_asg (sc cI (0 : Int) rfl) <| seqN [(0, .d ((cLs (cXVariable cS cI) rfl).enc v0))] (by kernel_rfl) <|
    xn <| wpC_seq <| reg_s <| x_asg (sc cI (1 : Int) rfl) <| seqN [(0, .d ((cLs (cXVariable cS cI) rfl).enc v0)), (3, .d (cI.enc (1 : Int)))] (by kernel_rfl) <|
    xn <| wpC_seq <| wpC_kp <| wpC_seq <| reg_s <| st rfl <| mvd rfl rfl <| stw rfl <| lens rfl fun l18 => st rfl <| mvc cI (0 : Int) rfl <| seqN [(0, .d ((cLs (cXVariable cS cI) rfl).enc v0)), (3, .d (cI.enc (1 : Int))), (6, .d ((cLs (cXVariable cS cI) rfl).enc v0)), (7, .d (cI.enc (v0.length : Int))), (8, .d (cI.enc (0 : Int)))] (by kernel_rfl) <|
    xn <| wpC_blk <| lpR (fun (k20 : Nat) (s19 : Int) => [(0, .d ((cLs (cXVariable cS cI) rfl).enc v0)), (3, .d (cI.enc s19)), (6, .d ((cLs (cXVariable cS cI) rfl).enc v0)), (7, .d (cI.enc (v0.length : Int))), (8, .d (cI.enc (k20 : Int)))]) (1 : Int) rfl h
    (fun G30 s19 h => wpC_seq <| reg_s <| st rfl <| b_lss (k := .i64) rfl rfl <| seqN [(0, .d ((cLs (cXVariable cS cI) rfl).enc v0)), (3, .d (cI.enc s19)), (6, .d ((cLs (cXVariable cS cI) rfl).enc v0)), (7, .d (cI.enc (v0.length : Int))), (8, .d (cI.enc (v0.length : Int))), (9, .d (cB.enc (decide ((v0.length : Int) < (v0.length : Int)))))] (by kernel_rfl) <|
    xn <| wpC_seq <| wpC_kp <| cnd0 rfl (dlf _) <| wpC_exit <| xt <| xt <| xt <| xb <| kpN [(3, .d (cI.enc s19))] (by kernel_rfl) <| xn <| wpC_seq <| reg_s <| st rfl <| mvd rfl rfl <| x_asg (ss rfl rfl) <| seqN [(2, .d (cI.enc s19))] (by kernel_rfl) <|
    xn <| wpC_ret <| re <| fin h (r1 (ss rfl rfl) <| r0) rfl)
    (fun G30 nx28 k20 s19 x21 hk22 hx23 hn29 h => wpC_seq <| reg_s <| st rfl <| b_lss (k := .i64) rfl rfl <| seqN [(0, .d ((cLs (cXVariable cS cI) rfl).enc v0)), (3, .d (cI.enc s19)), (6, .d ((cLs (cXVariable cS cI) rfl).enc v0)), (7, .d (cI.enc (v0.length : Int))), (8, .d (cI.enc (k20 : Int))), (9, .d (cB.enc (decide ((k20 : Int) < (v0.length : Int)))))] (by kernel_rfl) <|
    xn <| wpC_seq <| wpC_kp <| cnd1 rfl (dlt hk22) <| wpC_skip <| kpN [(0, .d ((cLs (cXVariable cS cI) rfl).enc v0)), (3, .d (cI.enc s19)), (6, .d ((cLs (cXVariable cS cI) rfl).enc v0)), (7, .d (cI.enc (v0.length : Int))), (8, .d (cI.enc (k20 : Int)))] (by kernel_rfl) <| xn <| wpC_seq <| wpC_kp <| wpC_blk <| wpC_seq <| reg_s <| st rfl <| ias rfl rfl (Int.natCast_nonneg _) hx23 rfl <| st rfl <| ldi rfl rfl rfl rfl <| x_all (cXVariable cS cI) (⟨([] : List UInt8), (0 : Int)⟩ : XVariable) rfl <| x_stb (ss rfl rfl) rfl (Cd.h_sz _ _) rfl <| seqN [(0, .d ((cLs (cXVariable cS cI) rfl).enc v0)), (3, .d (cI.enc s19)), (5, .box ((cXVariable cS cI).enc x21)), (6, .d ((cLs (cXVariable cS cI) rfl).enc v0)), (7, .d (cI.enc (v0.length : Int))), (8, .d (cI.enc (k20 : Int)))] (by kernel_rfl) <|
    xn <| reg_s <| st rfl <| mvd rfl rfl <| st rfl <| fab rfl rfl rfl rfl <| st rfl <| lda rfl rfl rfl rfl rfl rfl <| ckI_k h fun i32 h => st rfl <| b_mul (k := .i64) rfl rfl i32 <| x_asg (ss rfl rfl) <| seqN [(0, .d ((cLs (cXVariable cS cI) rfl).enc v0)), (3, .d (cI.enc (s19 * x21.Levels))), (6, .d ((cLs (cXVariable cS cI) rfl).enc v0)), (7, .d (cI.enc (v0.length : Int))), (8, .d (cI.enc (k20 : Int)))] (by kernel_rfl) <|
    xbb <| kpN [(0, .d ((cLs (cXVariable cS cI) rfl).enc v0)), (3, .d (cI.enc (s19 * x21.Levels))), (6, .d ((cLs (cXVariable cS cI) rfl).enc v0)), (7, .d (cI.enc (v0.length : Int))), (8, .d (cI.enc (k20 : Int)))] (by kernel_rfl) <| xn <| reg_s <| st rfl <| b_inc rfl rfl l18 hk22 <| st rfl <| mvd rfl rfl <| seqN [(0, .d ((cLs (cXVariable cS cI) rfl).enc v0)), (3, .d (cI.enc (s19 * x21.Levels))), (6, .d ((cLs (cXVariable cS cI) rfl).enc v0)), (7, .d (cI.enc (v0.length : Int))), (8, .d (cI.enc ((k20 + 1 : Nat) : Int)))] (by kernel_rfl) <|
    xn <| hn29 (s19 * x21.Levels) h)

def rs_spec_uCount (r : Int) : List D := [cI.enc r]
def m49 : MC := .seq (.reg [⟨some 3, .box (.t 0), none⟩,
    ⟨some 5, .box (.t 2), none⟩,
    ⟨some 6, .asg (.c (.int .i64 0)), none⟩] [1, 3, 5])
  (.seq (.drw [⟨0, ⟨some 7, .ld 3 1 true, none⟩, [8, 9, 10, 11, 12, 13, 14, 15, 16, 17]⟩,
    ⟨1, ⟨some 8, .fa 5 0 0, none⟩, [7, 9, 10, 11, 12, 13, 14, 15, 16, 17]⟩,
    ⟨2, ⟨some 9, .ld 8 1 false, none⟩, [7, 10, 11, 12, 13, 14, 15, 16, 17]⟩,
    ⟨3, ⟨some 10, .call 75 [(.t 7), (.t 9)], none⟩, [11, 12, 13, 14, 15, 16, 17]⟩,
    ⟨4, ⟨some 11, .len false (.t 10), none⟩, [12, 13, 14, 15, 16, 17]⟩,
    ⟨5, ⟨some 12, .mv (.t 1), none⟩, [7, 8, 9, 10, 11, 13, 14, 15, 16, 17]⟩,
    ⟨6, ⟨some 13, .fa 5 1 1, none⟩, [7, 8, 9, 10, 11, 12, 14, 15, 16, 17]⟩,
    ⟨7, ⟨some 14, .ld 13 1 false, none⟩, [7, 8, 9, 10, 11, 12, 15, 16, 17]⟩,
    ⟨8, ⟨some 15, .call 79 [(.t 12), (.t 14)], none⟩, [11, 16, 17]⟩,
    ⟨9, ⟨some 16, .call 78 [(.t 15)], none⟩, [11, 17]⟩,
    ⟨10, ⟨some 17, .bin .mul (.t 11) (.t 16), none⟩, []⟩]
    [(11, ⟨some 6, .asg (.t 17), none⟩)] [6])
  (.ret))
theorem con_spec_uCount {v0 : XGeo} {v1 : (List XVariable)} {v2 : XTable} {r : Int} (h : sh_spec_uCount v0 v1 v2 = some r) : Con Tryd.prog 49 [(cXGeo (cLs cI rfl)).enc v0, (cLs (cXVariable cS cI) rfl).enc v1, (cXTable cI (cLs cI rfl) (cLs cI rfl) cI).enc v2] [] (rs_spec_uCount r) := by
  delta sh_spec_uCount at h
  refine top (out := none) (f := Tryd.f49) (m := m49) (rs := [.t 6]) (by kernel_rfl) rfl (by kernel_rfl) (by kernel_rfl) (by kernel_rfl) (by kernel_rfl) (by kernel_rfl) ?_
  exact
   ini [(0, .d ((cXGeo (cLs cI rfl)).enc v0)), (1, .d ((cLs (cXVariable cS cI) rfl).enc v1)), (2, .d ((cXTable cI (cLs cI rfl) (cLs cI rfl) cI).enc v2))] rfl <| wpC_seq <| reg_s <| x_box (ss rfl rfl) <| x_box (ss rfl rfl) <| x_asg (sc cI (0 : Int) rfl) <| seqN [(1, .d ((cLs (cXVariable cS cI) rfl).enc v1)), (3, .box ((cXGeo (cLs cI rfl)).enc v0)), (5, .box ((cXTable cI (cLs cI rfl) (cLs cI rfl) cI).enc v2))] (by kernel_rfl) <|
    xn <| wpC_seq <| drw_s <| pst rfl <| ldb rfl rfl rfl rfl ⟨rfl, pst rfl <| fab rfl rfl rfl rfl ⟨rfl, pst rfl <| lda rfl rfl rfl rfl rfl rfl ⟨rfl, bndp h fun x9 e10 h => pst rfl <| o_call (a1 (c := (cXGeo (cLs cI rfl))) (tXGeo (tLs tK)) rfl (a1 (c := cI) tK rfl a0)) (con_spec_gLevel e10) (.inl (so1 (sLo sK) so0)) ⟨rfl, lmO_kp h fun l11 h => pst rfl <| plno rfl l11 ⟨rfl, pst rfl <| mvd rfl rfl ⟨rfl, pst rfl <| fab rfl rfl rfl rfl ⟨rfl, pst rfl <| lda rfl rfl rfl rfl rfl rfl ⟨rfl, bndp h fun x12 e13 h => pst rfl <| o_call (a1 (c := (cLs (cXVariable cS cI) rfl)) (tLs (tXVariable tS tK)) rfl (a1 (c := (cLs cI rfl)) (tLs tK) rfl a0)) (con_spec_sPart e13) (.inl (so1 (sLo (sXVariable sS sK)) so0)) ⟨rfl, bndp h fun x14 e15 h => pst rfl <| o_call (a1 (c := (cLo (cXVariable cS cI))) (tLo (tXVariable tS tK)) rfl a0) (con_spec_sCount e15) (.inl (so1 sK so0)) ⟨rfl, ckI_kp h fun i16 h => pst rfl <| b_mul (k := .i64) rfl rfl i16 ⟨rfl, preN <| x_asg (ss rfl rfl) <| seqN [(6, .d (cI.enc ((x9.length : Int) * x14)))] (by kernel_rfl) <|
    xn <| wpC_ret <| re <| fin h (r1 (ss rfl rfl) <| r0) rfl⟩⟩⟩⟩⟩⟩⟩⟩⟩⟩⟩

def rs_spec_uGood (r : Bool) : List D := [cB.enc r]
def m48 : MC := .seq (.reg [⟨some 3, .box (.t 0), none⟩,
    ⟨some 5, .box (.t 2), none⟩,
    ⟨some 6, .asg (.c (.bool false)), none⟩] [1, 3, 5])
  (.seq (.kp [1, 3, 5] (.seq (.reg [⟨some 7, .ld 3 1 true, none⟩,
    ⟨some 8, .call 74 [(.t 7)], none⟩,
    ⟨some 9, .nt (.t 8), none⟩,
    ⟨some 10, .mv (.t 9), none⟩,
    ⟨some 11, .mv (.t 1), some (10, false)⟩,
    ⟨some 12, .call 37 [(.t 11)], some (10, false)⟩,
    ⟨some 13, .nt (.t 12), some (10, false)⟩,
    ⟨some 14, .pick (.t 10) (.c (.bool true)) (.t 13), none⟩,
    ⟨some 15, .mv (.t 14), none⟩,
    ⟨some 16, .ld 3 1 true, some (15, false)⟩,
    ⟨some 17, .fa 5 0 0, some (15, false)⟩,
    ⟨some 18, .ld 17 1 false, some (15, false)⟩,
    ⟨some 19, .call 75 [(.t 16), (.t 18)], some (15, false)⟩,
    ⟨some 20, .len false (.t 19), some (15, false)⟩,
    ⟨some 21, .bin .eql (.t 20) (.c (.int .i64 0)), some (15, false)⟩,
    ⟨some 22, .pick (.t 15) (.c (.bool true)) (.t 21), none⟩,
    ⟨some 23, .mv (.t 22), none⟩,
    ⟨some 24, .fa 5 1 1, some (23, false)⟩,
    ⟨some 25, .ld 24 1 false, some (23, false)⟩,
    ⟨some 26, .mv (.t 1), some (23, false)⟩,
    ⟨some 27, .len false (.t 26), some (23, false)⟩,
    ⟨some 28, .bin .sub (.t 27) (.c (.int .i64 1)), some (23, false)⟩,
    ⟨some 29, .call 76 [(.t 25), (.c (.int .i64 0)), (.t 28)], some (23, false)⟩,
    ⟨some 30, .nt (.t 29), some (23, false)⟩,
    ⟨some 31, .pick (.t 23) (.c (.bool true)) (.t 30), none⟩,
    ⟨some 32, .mv (.t 31), none⟩,
    ⟨some 33, .mv (.t 1), some (32, false)⟩,
    ⟨some 34, .fa 5 2 2, some (32, false)⟩,
    ⟨some 35, .ld 34 1 false, some (32, false)⟩,
    ⟨some 36, .call 77 [(.t 33), (.t 35)], some (32, false)⟩,
    ⟨some 37, .nt (.t 36), some (32, false)⟩,
    ⟨some 38, .pick (.t 32) (.c (.bool true)) (.t 37), none⟩,
    ⟨some 39, .mv (.t 38), none⟩,
    ⟨some 40, .fa 5 3 3, some (39, false)⟩,
    ⟨some 41, .ld 40 1 false, some (39, false)⟩,
    ⟨some 42, .mv (.t 1), some (39, false)⟩,
    ⟨some 43, .len false (.t 42), some (39, false)⟩,
    ⟨some 44, .bin .sub (.t 43) (.c (.int .i64 1)), some (39, false)⟩,
    ⟨some 45, .call 61 [(.t 41), (.c (.int .i64 (-1))), (.t 44)], some (39, false)⟩,
    ⟨some 46, .nt (.t 45), some (39, false)⟩,
    ⟨some 47, .pick (.t 39) (.c (.bool true)) (.t 46), none⟩] [1, 3, 5, 47])
  (.cond (.t 47) (.seq (.reg [⟨some 6, .asg (.c (.bool false)), none⟩] [6])
  (.ret)) (.skip))))
  (.seq (.reg [⟨some 48, .ld 3 1 true, none⟩,
    ⟨some 49, .mv (.t 1), none⟩,
    ⟨some 50, .ld 5 4 true, none⟩,
    ⟨some 51, .call 49 [(.t 48), (.t 49), (.t 50)], none⟩,
    ⟨some 52, .bin .leq (.t 51) (.c (.int .i64 600)), none⟩,
    ⟨some 6, .asg (.t 52), none⟩] [6])
  (.ret)))
theorem con_spec_uGood {v0 : XGeo} {v1 : (List XVariable)} {v2 : XTable} {r : Bool} (h : sh_spec_uGood v0 v1 v2 = some r) : Con Tryd.prog 48 [(cXGeo (cLs cI rfl)).enc v0, (cLs (cXVariable cS cI) rfl).enc v1, (cXTable cI (cLs cI rfl) (cLs cI rfl) cI).enc v2] [] (rs_spec_uGood r) := by
  delta sh_spec_uGood at h
  refine top (out := none) (f := Tryd.f48) (m := m48) (rs := [.t 6]) (by kernel_rfl) rfl (by kernel_rfl) (by kernel_rfl) (by kernel_rfl) (by kernel_rfl) (by kernel_rfl) ?_
  exact
   ini [(0, .d ((cXGeo (cLs cI rfl)).enc v0)), (1, .d ((cLs (cXVariable cS cI) rfl).enc v1)), (2, .d ((cXTable cI (cLs cI rfl) (cLs cI rfl) cI).enc v2))] rfl <| wpC_seq <| reg_s <| x_box (ss rfl rfl) <| x_box (ss rfl rfl) <| x_asg (sc cB false rfl) <| seqN [(1, .d ((cLs (cXVariable cS cI) rfl).enc v1)), (3, .box ((cXGeo (cLs cI rfl)).enc v0)), (5, .box ((cXTable cI (cLs cI rfl) (cLs cI rfl) cI).enc v2))] (by kernel_rfl) <|
    xn <| wpC_seq <| wpC_kp <| wpC_seq <| jw (fun (s70 : Bool) => [(1, .d ((cLs (cXVariable cS cI) rfl).enc v1)), (3, .box ((cXGeo (cLs cI rfl)).enc v0)), (5, .box ((cXTable cI (cLs cI rfl) (cLs cI rfl) cI).enc v2)), (47, .d (cB.enc s70))]) h (fun s70 h => xn <| cnd rfl h (fun b72 h => wpC_seq <| reg_s <| x_asg (sc cB false rfl) <| seqN [(6, .d (cB.enc false))] (by kernel_rfl) <|
    xn <| wpC_ret <| rt <| rt <| re <| fin h (r1 (ss rfl rfl) <| r0) rfl)
    (fun b72 h => wpC_skip <| kpN [(1, .d ((cLs (cXVariable cS cI) rfl).enc v1)), (3, .box ((cXGeo (cLs cI rfl)).enc v0)), (5, .box ((cXTable cI (cLs cI rfl) (cLs cI rfl) cI).enc v2))] (by kernel_rfl) <| xn <| wpC_seq <| reg_s <| st rfl <| ldb rfl rfl rfl rfl <| st rfl <| mvd rfl rfl <| st rfl <| ldb rfl rfl rfl rfl <| bnd h fun x75 e76 h => st rfl <| o_call (a1 (c := (cXGeo (cLs cI rfl))) (tXGeo (tLs tK)) rfl (a1 (c := (cLs (cXVariable cS cI) rfl)) (tLs (tXVariable tS tK)) rfl (a1 (c := (cXTable cI (cLs cI rfl) (cLs cI rfl) cI)) (tXTable tK (tLs tK) (tLs tK) tK) rfl a0))) (con_spec_uCount e76) (.inl (so1 sK so0)) <| st rfl <| b_leq (k := .i64) rfl rfl <| x_asg (ss rfl rfl) <| seqN [(6, .d (cB.enc (decide (x75 ≤ (600 : Int)))))] (by kernel_rfl) <|
    xn <| wpC_ret <| re <| fin h (r1 (ss rfl rfl) <| r0) rfl))
    fun s70' q71 h => reg_s <| st rfl <| ldb rfl rfl rfl rfl <| bnd h fun x77 e78 h => st rfl <| o_call (a1 (c := (cXGeo (cLs cI rfl))) (tXGeo (tLs tK)) rfl a0) (con_spec_gGood e78) (.inl (so1 sB so0)) <| st rfl <| o_nt rfl <| st rfl <| mvd rfl rfl <| ite_k h (fun b79 h => gf rfl b79 <| gf rfl b79 <| gf rfl b79 <| st rfl <| pick1 rfl b79 (cd := cB) (v := true) rfl rfl <| st rfl <| mvd rfl rfl <| gf rfl rfl <| gf rfl rfl <| gf rfl rfl <| gf rfl rfl <| gf rfl rfl <| gf rfl rfl <| st rfl <| pick1 rfl rfl (cd := cB) (v := true) rfl rfl <| st rfl <| mvd rfl rfl <| gf rfl rfl <| gf rfl rfl <| gf rfl rfl <| gf rfl rfl <| gf rfl rfl <| gf rfl rfl <| gf rfl rfl <| st rfl <| pick1 rfl rfl (cd := cB) (v := true) rfl rfl <| st rfl <| mvd rfl rfl <| gf rfl rfl <| gf rfl rfl <| gf rfl rfl <| gf rfl rfl <| gf rfl rfl <| st rfl <| pick1 rfl rfl (cd := cB) (v := true) rfl rfl <| st rfl <| mvd rfl rfl <| gf rfl rfl <| gf rfl rfl <| gf rfl rfl <| gf rfl rfl <| gf rfl rfl <| gf rfl rfl <| gf rfl rfl <| st rfl <| pick1 rfl rfl (cd := cB) (v := true) rfl rfl <| seqN [(1, .d ((cLs (cXVariable cS cI) rfl).enc v1)), (3, .box ((cXGeo (cLs cI rfl)).enc v0)), (5, .box ((cXTable cI (cLs cI rfl) (cLs cI rfl) cI).enc v2)), (47, .d (cB.enc true))] (by kernel_rfl) <|
    lfn (S := (fun (s70 : Bool) => [(1, .d ((cLs (cXVariable cS cI) rfl).enc v1)), (3, .box ((cXGeo (cLs cI rfl)).enc v0)), (5, .box ((cXTable cI (cLs cI rfl) (cLs cI rfl) cI).enc v2)), (47, .d (cB.enc s70))])) h q71 rfl)
    (fun b79 h => gt' rfl b79 <| st rfl <| mvd rfl rfl <| gt' rfl b79 <| bnd h fun x80 e81 h => st rfl <| o_call (a1 (c := (cLs (cXVariable cS cI) rfl)) (tLs (tXVariable tS tK)) rfl a0) (con_spec_sGood e81) (.inl (so1 sB so0)) <| gt' rfl b79 <| st rfl <| o_nt rfl <| st rfl <| pick0 rfl b79 (cd := cB) (v := (!x80)) rfl rfl <| st rfl <| mvd rfl rfl <| ite_k h (fun b82 h => gf rfl b82 <| gf rfl b82 <| gf rfl b82 <| gf rfl b82 <| gf rfl b82 <| gf rfl b82 <| st rfl <| pick1 rfl b82 (cd := cB) (v := true) rfl rfl <| st rfl <| mvd rfl rfl <| gf rfl rfl <| gf rfl rfl <| gf rfl rfl <| gf rfl rfl <| gf rfl rfl <| gf rfl rfl <| gf rfl rfl <| st rfl <| pick1 rfl rfl (cd := cB) (v := true) rfl rfl <| st rfl <| mvd rfl rfl <| gf rfl rfl <| gf rfl rfl <| gf rfl rfl <| gf rfl rfl <| gf rfl rfl <| st rfl <| pick1 rfl rfl (cd := cB) (v := true) rfl rfl <| st rfl <| mvd rfl rfl <| gf rfl rfl <| gf rfl rfl <| gf rfl rfl <| gf rfl rfl <| gf rfl rfl <| gf rfl rfl <| gf rfl rfl <| st rfl <| pick1 rfl rfl (cd := cB) (v := true) rfl rfl <| seqN [(1, .d ((cLs (cXVariable cS cI) rfl).enc v1)), (3, .box ((cXGeo (cLs cI rfl)).enc v0)), (5, .box ((cXTable cI (cLs cI rfl) (cLs cI rfl) cI).enc v2)), (47, .d (cB.enc true))] (by kernel_rfl) <|
    lfn (S := (fun (s70 : Bool) => [(1, .d ((cLs (cXVariable cS cI) rfl).enc v1)), (3, .box ((cXGeo (cLs cI rfl)).enc v0)), (5, .box ((cXTable cI (cLs cI rfl) (cLs cI rfl) cI).enc v2)), (47, .d (cB.enc s70))])) h q71 rfl)
    (fun b82 h => gt' rfl b82 <| st rfl <| ldb rfl rfl rfl rfl <| gt' rfl b82 <| st rfl <| fab rfl rfl rfl rfl <| gt' rfl b82 <| st rfl <| lda rfl rfl rfl rfl rfl rfl <| gt' rfl b82 <| bnd h fun x83 e84 h => st rfl <| o_call (a1 (c := (cXGeo (cLs cI rfl))) (tXGeo (tLs tK)) rfl (a1 (c := cI) tK rfl a0)) (con_spec_gLevel e84) (.inl (so1 (sLo sK) so0)) <| gt' rfl b82 <| stw rfl <| leno rfl fun l85 => gt' rfl b82 <| st rfl <| b_eql (k := .i64) rfl rfl <| st rfl <| pick0 rfl b82 (cd := cB) (v := (decide ((x83.length : Int) = (0 : Int)))) rfl rfl <| st rfl <| mvd rfl rfl <| ite_k h (fun b86 h => gf rfl b86 <| gf rfl b86 <| gf rfl b86 <| gf rfl b86 <| gf rfl b86 <| gf rfl b86 <| gf rfl b86 <| st rfl <| pick1 rfl b86 (cd := cB) (v := true) rfl rfl <| st rfl <| mvd rfl rfl <| gf rfl rfl <| gf rfl rfl <| gf rfl rfl <| gf rfl rfl <| gf rfl rfl <| st rfl <| pick1 rfl rfl (cd := cB) (v := true) rfl rfl <| st rfl <| mvd rfl rfl <| gf rfl rfl <| gf rfl rfl <| gf rfl rfl <| gf rfl rfl <| gf rfl rfl <| gf rfl rfl <| gf rfl rfl <| st rfl <| pick1 rfl rfl (cd := cB) (v := true) rfl rfl <| seqN [(1, .d ((cLs (cXVariable cS cI) rfl).enc v1)), (3, .box ((cXGeo (cLs cI rfl)).enc v0)), (5, .box ((cXTable cI (cLs cI rfl) (cLs cI rfl) cI).enc v2)), (47, .d (cB.enc true))] (by kernel_rfl) <|
    lfn (S := (fun (s70 : Bool) => [(1, .d ((cLs (cXVariable cS cI) rfl).enc v1)), (3, .box ((cXGeo (cLs cI rfl)).enc v0)), (5, .box ((cXTable cI (cLs cI rfl) (cLs cI rfl) cI).enc v2)), (47, .d (cB.enc s70))])) h q71 rfl)
    (fun b86 h => gt' rfl b86 <| st rfl <| fab rfl rfl rfl rfl <| gt' rfl b86 <| st rfl <| lda rfl rfl rfl rfl rfl rfl <| gt' rfl b86 <| st rfl <| mvd rfl rfl <| gt' rfl b86 <| stw rfl <| lens rfl fun l87 => gt' rfl b86 <| ckI_k h fun i88 h => st rfl <| b_sub (k := .i64) rfl rfl i88 <| gt' rfl b86 <| bnd h fun x89 e90 h => st rfl <| o_call (a1 (c := (cLs cI rfl)) (tLs tK) rfl (a1 (c := cI) tK rfl (a1 (c := cI) tK rfl a0))) (con_spec_l1Rising e90) (.inl (so1 sB so0)) <| gt' rfl b86 <| st rfl <| o_nt rfl <| st rfl <| pick0 rfl b86 (cd := cB) (v := (!x89)) rfl rfl <| st rfl <| mvd rfl rfl <| ite_k h (fun b91 h => gf rfl b91 <| gf rfl b91 <| gf rfl b91 <| gf rfl b91 <| gf rfl b91 <| st rfl <| pick1 rfl b91 (cd := cB) (v := true) rfl rfl <| st rfl <| mvd rfl rfl <| gf rfl rfl <| gf rfl rfl <| gf rfl rfl <| gf rfl rfl <| gf rfl rfl <| gf rfl rfl <| gf rfl rfl <| st rfl <| pick1 rfl rfl (cd := cB) (v := true) rfl rfl <| seqN [(1, .d ((cLs (cXVariable cS cI) rfl).enc v1)), (3, .box ((cXGeo (cLs cI rfl)).enc v0)), (5, .box ((cXTable cI (cLs cI rfl) (cLs cI rfl) cI).enc v2)), (47, .d (cB.enc true))] (by kernel_rfl) <|
    lfn (S := (fun (s70 : Bool) => [(1, .d ((cLs (cXVariable cS cI) rfl).enc v1)), (3, .box ((cXGeo (cLs cI rfl)).enc v0)), (5, .box ((cXTable cI (cLs cI rfl) (cLs cI rfl) cI).enc v2)), (47, .d (cB.enc s70))])) h q71 rfl)
    (fun b91 h => gt' rfl b91 <| st rfl <| mvd rfl rfl <| gt' rfl b91 <| st rfl <| fab rfl rfl rfl rfl <| gt' rfl b91 <| st rfl <| lda rfl rfl rfl rfl rfl rfl <| gt' rfl b91 <| bnd h fun x92 e93 h => st rfl <| o_call (a1 (c := (cLs (cXVariable cS cI) rfl)) (tLs (tXVariable tS tK)) rfl (a1 (c := (cLs cI rfl)) (tLs tK) rfl a0)) (con_spec_uWhere e93) (.inl (so1 sB so0)) <| gt' rfl b91 <| st rfl <| o_nt rfl <| st rfl <| pick0 rfl b91 (cd := cB) (v := (!x92)) rfl rfl <| st rfl <| mvd rfl rfl <| ite_k h (fun b94 h => gf rfl b94 <| gf rfl b94 <| gf rfl b94 <| gf rfl b94 <| gf rfl b94 <| gf rfl b94 <| gf rfl b94 <| st rfl <| pick1 rfl b94 (cd := cB) (v := true) rfl rfl <| seqN [(1, .d ((cLs (cXVariable cS cI) rfl).enc v1)), (3, .box ((cXGeo (cLs cI rfl)).enc v0)), (5, .box ((cXTable cI (cLs cI rfl) (cLs cI rfl) cI).enc v2)), (47, .d (cB.enc true))] (by kernel_rfl) <|
    lfn (S := (fun (s70 : Bool) => [(1, .d ((cLs (cXVariable cS cI) rfl).enc v1)), (3, .box ((cXGeo (cLs cI rfl)).enc v0)), (5, .box ((cXTable cI (cLs cI rfl) (cLs cI rfl) cI).enc v2)), (47, .d (cB.enc s70))])) h q71 rfl)
    (fun b94 h => gt' rfl b94 <| st rfl <| fab rfl rfl rfl rfl <| gt' rfl b94 <| st rfl <| lda rfl rfl rfl rfl rfl rfl <| gt' rfl b94 <| st rfl <| mvd rfl rfl <| gt' rfl b94 <| stw rfl <| lens rfl fun l95 => gt' rfl b94 <| ckI_k h fun i96 h => st rfl <| b_sub (k := .i64) rfl rfl i96 <| gt' rfl b94 <| bnd h fun x97 e98 h => st rfl <| o_call (a1 (c := cI) tK rfl (a1 (c := cI) tK rfl (a1 (c := cI) tK rfl a0))) (con_spec_l1In e98) (.inl (so1 sB so0)) <| gt' rfl b94 <| st rfl <| o_nt rfl <| st rfl <| pick0 rfl b94 (cd := cB) (v := (!x97)) rfl rfl <| seqN [(1, .d ((cLs (cXVariable cS cI) rfl).enc v1)), (3, .box ((cXGeo (cLs cI rfl)).enc v0)), (5, .box ((cXTable cI (cLs cI rfl) (cLs cI rfl) cI).enc v2)), (47, .d (cB.enc (!x97)))] (by kernel_rfl) <|
    lfn (S := (fun (s70 : Bool) => [(1, .d ((cLs (cXVariable cS cI) rfl).enc v1)), (3, .box ((cXGeo (cLs cI rfl)).enc v0)), (5, .box ((cXTable cI (cLs cI rfl) (cLs cI rfl) cI).enc v2)), (47, .d (cB.enc s70))])) h q71 rfl)))))

def rs_spec_l1All (r : Bool) : List D := [cB.enc r]
def m50 : MC := .seq (.reg [⟨some 6, .asg (.c (.bool false)), none⟩] [0, 1, 2])
  (.seq (.kp [] (.seq (.reg [⟨some 9, .mv (.t 0), none⟩,
    ⟨some 10, .len false (.t 9), none⟩,
    ⟨some 11, .mv (.c (.int .i64 0)), none⟩] [0, 1, 2, 9, 10, 11])
  (.blk 0 (.loop (.seq (.reg [⟨some 12, .bin .lss (.t 11) (.t 10), none⟩] [0, 1, 2, 9, 10, 11, 12])
  (.seq (.kp [0, 1, 2, 9, 10, 11] (.cond (.t 12) (.skip) (.exit 0)))
  (.seq (.kp [0, 1, 2, 9, 10, 11] (.blk 1 (.seq (.reg [⟨some 13, .ia 9 (.t 11) 1, none⟩,
    ⟨some 14, .ld 13 1 false, none⟩,
    ⟨some 8, .asg (.t 14), none⟩] [0, 1, 2, 8, 9, 10, 11])
  (.seq (.reg [⟨some 15, .mv (.t 8), none⟩,
    ⟨some 16, .mv (.t 1), none⟩,
    ⟨some 17, .mv (.t 2), none⟩,
    ⟨some 18, .call 61 [(.t 15), (.t 16), (.t 17)], none⟩,
    ⟨some 19, .nt (.t 18), none⟩] [0, 1, 2, 9, 10, 11, 19])
  (.cond (.t 19) (.seq (.reg [⟨some 6, .asg (.c (.bool false)), none⟩] [6])
  (.ret)) (.skip))))))
  (.reg [⟨some 20, .bin .add (.t 11) (.c (.int .i64 1)), none⟩,
    ⟨some 11, .mv (.t 20), none⟩] [0, 1, 2, 9, 10, 11]))))))))
  (.seq (.reg [⟨some 6, .asg (.c (.bool true)), none⟩] [6])
  (.ret)))
theorem con_spec_l1All {v0 : (List Int)} {v1 : Int} {v2 : Int} {r : Bool} (h : sh_spec_l1All v0 v1 v2 = some r) : Con Tryd.prog 50 [(cLs cI rfl).enc v0, cI.enc v1, cI.enc v2] [] (rs_spec_l1All r) := by
  delta sh_spec_l1All at h
  refine top (out := none) (f := Tryd.f50) (m := m50) (rs := [.t 6]) (by kernel_rfl) rfl (by kernel_rfl) (by kernel_rfl) (by kernel_rfl) (by kernel_rfl) (by kernel_rfl) ?_
  exact
   ini [(0, .d ((cLs cI rfl).enc v0)), (1, .d (cI.enc v1)), (2, .d (cI.enc v2))] rfl <| wpC_seq <| reg_s <| x_asg (sc cB false rfl) <| seqN [(0, .d ((cLs cI rfl).enc v0)), (1, .d (cI.enc v1)), (2, .d (cI.enc v2))] (by kernel_rfl) <|
    xn <| wpC_seq <| wpC_kp <| wpC_seq <| reg_s <| st rfl <| mvd rfl rfl <| stw rfl <| lens rfl fun l32 => st rfl <| mvc cI (0 : Int) rfl <| seqN [(0, .d ((cLs cI rfl).enc v0)), (1, .d (cI.enc v1)), (2, .d (cI.enc v2)), (9, .d ((cLs cI rfl).enc v0)), (10, .d (cI.enc (v0.length : Int))), (11, .d (cI.enc (0 : Int)))] (by kernel_rfl) <|
    xn <| wpC_blk <| lpR (fun (k34 : Nat) (s33 : Unit) => [(0, .d ((cLs cI rfl).enc v0)), (1, .d (cI.enc v1)), (2, .d (cI.enc v2)), (9, .d ((cLs cI rfl).enc v0)), (10, .d (cI.enc (v0.length : Int))), (11, .d (cI.enc (k34 : Int)))]) () rfl h
    (fun G50 s33 h => wpC_seq <| reg_s <| st rfl <| b_lss (k := .i64) rfl rfl <| seqN [(0, .d ((cLs cI rfl).enc v0)), (1, .d (cI.enc v1)), (2, .d (cI.enc v2)), (9, .d ((cLs cI rfl).enc v0)), (10, .d (cI.enc (v0.length : Int))), (11, .d (cI.enc (v0.length : Int))), (12, .d (cB.enc (decide ((v0.length : Int) < (v0.length : Int)))))] (by kernel_rfl) <|
    xn <| wpC_seq <| wpC_kp <| cnd0 rfl (dlf _) <| wpC_exit <| xt <| xt <| xt <| xb <| kpN [] (by kernel_rfl) <| xn <| wpC_seq <| reg_s <| x_asg (sc cB true rfl) <| seqN [(6, .d (cB.enc true))] (by kernel_rfl) <|
    xn <| wpC_ret <| re <| fin h (r1 (ss rfl rfl) <| r0) rfl)
    (fun G50 nx48 k34 s33 x35 hk36 hx37 hn49 h => wpC_seq <| reg_s <| st rfl <| b_lss (k := .i64) rfl rfl <| seqN [(0, .d ((cLs cI rfl).enc v0)), (1, .d (cI.enc v1)), (2, .d (cI.enc v2)), (9, .d ((cLs cI rfl).enc v0)), (10, .d (cI.enc (v0.length : Int))), (11, .d (cI.enc (k34 : Int))), (12, .d (cB.enc (decide ((k34 : Int) < (v0.length : Int)))))] (by kernel_rfl) <|
    xn <| wpC_seq <| wpC_kp <| cnd1 rfl (dlt hk36) <| wpC_skip <| kpN [(0, .d ((cLs cI rfl).enc v0)), (1, .d (cI.enc v1)), (2, .d (cI.enc v2)), (9, .d ((cLs cI rfl).enc v0)), (10, .d (cI.enc (v0.length : Int))), (11, .d (cI.enc (k34 : Int)))] (by kernel_rfl) <| xn <| wpC_seq <| wpC_kp <| wpC_blk <| wpC_seq <| reg_s <| st rfl <| ias rfl rfl (Int.natCast_nonneg _) hx37 rfl <| st rfl <| ldi rfl rfl rfl rfl <| x_asg (ss rfl rfl) <| seqN [(0, .d ((cLs cI rfl).enc v0)), (1, .d (cI.enc v1)), (2, .d (cI.enc v2)), (8, .d (cI.enc x35)), (9, .d ((cLs cI rfl).enc v0)), (10, .d (cI.enc (v0.length : Int))), (11, .d (cI.enc (k34 : Int)))] (by kernel_rfl) <|
    xn <| wpC_seq <| reg_s <| st rfl <| mvd rfl rfl <| st rfl <| mvd rfl rfl <| st rfl <| mvd rfl rfl <| bnd h fun x58 e59 h => st rfl <| o_call (a1 (c := cI) tK rfl (a1 (c := cI) tK rfl (a1 (c := cI) tK rfl a0))) (con_spec_l1In e59) (.inl (so1 sB so0)) <| st rfl <| o_nt rfl <| seqN [(0, .d ((cLs cI rfl).enc v0)), (1, .d (cI.enc v1)), (2, .d (cI.enc v2)), (9, .d ((cLs cI rfl).enc v0)), (10, .d (cI.enc (v0.length : Int))), (11, .d (cI.enc (k34 : Int))), (19, .d (cB.enc (!x58)))] (by kernel_rfl) <|
    xn <| cnd rfl h (fun b60 h => wpC_seq <| reg_s <| x_asg (sc cB false rfl) <| seqN [(6, .d (cB.enc false))] (by kernel_rfl) <|
    xn <| wpC_ret <| rb <| rt <| rt <| rt <| rb <| rt <| rt <| re <| fin h (r1 (ss rfl rfl) <| r0) rfl)
    (fun b60 h => wpC_skip <| xbb <| kpN [(0, .d ((cLs cI rfl).enc v0)), (1, .d (cI.enc v1)), (2, .d (cI.enc v2)), (9, .d ((cLs cI rfl).enc v0)), (10, .d (cI.enc (v0.length : Int))), (11, .d (cI.enc (k34 : Int)))] (by kernel_rfl) <| xn <| reg_s <| st rfl <| b_inc rfl rfl l32 hk36 <| st rfl <| mvd rfl rfl <| seqN [(0, .d ((cLs cI rfl).enc v0)), (1, .d (cI.enc v1)), (2, .d (cI.enc v2)), (9, .d ((cLs cI rfl).enc v0)), (10, .d (cI.enc (v0.length : Int))), (11, .d (cI.enc ((k34 + 1 : Nat) : Int)))] (by kernel_rfl) <|
    xn <| hn49 () h))

def rs_spec_nCells (r : Bool) : List D := [cB.enc r]
def m26 : MC := .seq (.reg [⟨some 4, .box (.t 0), none⟩,
    ⟨some 6, .box (.t 2), none⟩,
    ⟨some 8, .asg (.c (.bool false)), none⟩] [1, 3, 4, 6])
  (.seq (.reg [⟨some 9, .ld 4 1 true, none⟩,
    ⟨some 10, .mv (.t 1), none⟩,
    ⟨some 11, .ld 6 4 true, none⟩,
    ⟨some 12, .call 48 [(.t 9), (.t 10), (.t 11)], none⟩,
    ⟨some 13, .mv (.t 12), none⟩,
    ⟨some 14, .mv (.t 3), some (13, true)⟩,
    ⟨some 15, .len false (.t 14), some (13, true)⟩,
    ⟨some 16, .ld 4 1 true, some (13, true)⟩,
    ⟨some 17, .mv (.t 1), some (13, true)⟩,
    ⟨some 18, .ld 6 4 true, some (13, true)⟩,
    ⟨some 19, .call 49 [(.t 16), (.t 17), (.t 18)], some (13, true)⟩,
    ⟨some 20, .bin .eql (.t 15) (.t 19), some (13, true)⟩,
    ⟨some 21, .pick (.t 13) (.t 20) (.c (.bool false)), none⟩,
    ⟨some 22, .mv (.t 21), none⟩,
    ⟨some 23, .mv (.t 3), some (22, true)⟩,
    ⟨some 24, .call 50 [(.t 23), (.c (.int .i64 (-1000000))), (.c (.int .i64 1000000))], some (22, true)⟩,
    ⟨some 25, .pick (.t 22) (.t 24) (.c (.bool false)), none⟩,
    ⟨some 8, .asg (.t 25), none⟩] [8])
  (.ret))
theorem con_spec_nCells {v0 : XGeo} {v1 : (List XVariable)} {v2 : XTable} {v3 : (List Int)} {r : Bool} (h : sh_spec_nCells v0 v1 v2 v3 = some r) : Con Tryd.prog 26 [(cXGeo (cLs cI rfl)).enc v0, (cLs (cXVariable cS cI) rfl).enc v1, (cXTable cI (cLs cI rfl) (cLs cI rfl) cI).enc v2, (cLs cI rfl).enc v3] [] (rs_spec_nCells r) := by
  delta sh_spec_nCells at h
  refine top (out := none) (f := Tryd.f26) (m := m26) (rs := [.t 8]) (by kernel_rfl) rfl (by kernel_rfl) (by kernel_rfl) (by kernel_rfl) (by kernel_rfl) (by kernel_rfl) ?_
  exact
   ini [(0, .d ((cXGeo (cLs cI rfl)).enc v0)), (1, .d ((cLs (cXVariable cS cI) rfl).enc v1)), (2, .d ((cXTable cI (cLs cI rfl) (cLs cI rfl) cI).enc v2)), (3, .d ((cLs cI rfl).enc v3))] rfl <| wpC_seq <| reg_s <| x_box (ss rfl rfl) <| x_box (ss rfl rfl) <| x_asg (sc cB false rfl) <| seqN [(1, .d ((cLs (cXVariable cS cI) rfl).enc v1)), (3, .d ((cLs cI rfl).enc v3)), (4, .box ((cXGeo (cLs cI rfl)).enc v0)), (6, .box ((cXTable cI (cLs cI rfl) (cLs cI rfl) cI).enc v2))] (by kernel_rfl) <|
    xn <| wpC_seq <| reg_s <| st rfl <| ldb rfl rfl rfl rfl <| st rfl <| mvd rfl rfl <| st rfl <| ldb rfl rfl rfl rfl <| bnd h fun x10 e11 h => st rfl <| o_call (a1 (c := (cXGeo (cLs cI rfl))) (tXGeo (tLs tK)) rfl (a1 (c := (cLs (cXVariable cS cI) rfl)) (tLs (tXVariable tS tK)) rfl (a1 (c := (cXTable cI (cLs cI rfl) (cLs cI rfl) cI)) (tXTable tK (tLs tK) (tLs tK) tK) rfl a0))) (con_spec_uGood e11) (.inl (so1 sB so0)) <| st rfl <| mvd rfl rfl <| ite_k h (fun b12 h => gt' rfl b12 <| st rfl <| mvd rfl rfl <| gt' rfl b12 <| stw rfl <| lens rfl fun l13 => gt' rfl b12 <| st rfl <| ldb rfl rfl rfl rfl <| gt' rfl b12 <| st rfl <| mvd rfl rfl <| gt' rfl b12 <| st rfl <| ldb rfl rfl rfl rfl <| gt' rfl b12 <| bnd h fun x14 e15 h => st rfl <| o_call (a1 (c := (cXGeo (cLs cI rfl))) (tXGeo (tLs tK)) rfl (a1 (c := (cLs (cXVariable cS cI) rfl)) (tLs (tXVariable tS tK)) rfl (a1 (c := (cXTable cI (cLs cI rfl) (cLs cI rfl) cI)) (tXTable tK (tLs tK) (tLs tK) tK) rfl a0))) (con_spec_uCount e15) (.inl (so1 sK so0)) <| gt' rfl b12 <| st rfl <| b_eql (k := .i64) rfl rfl <| st rfl <| pick1 rfl b12 (cd := cB) (v := (decide ((v3.length : Int) = x14))) rfl rfl <| st rfl <| mvd rfl rfl <| ite_k h (fun b16 h => gt' rfl b16 <| st rfl <| mvd rfl rfl <| gt' rfl b16 <| bnd h fun x17 e18 h => st rfl <| o_call (a1 (c := (cLs cI rfl)) (tLs tK) rfl (a1 (c := cI) tK rfl (a1 (c := cI) tK rfl a0))) (con_spec_l1All e18) (.inl (so1 sB so0)) <| st rfl <| pick1 rfl b16 (cd := cB) (v := x17) rfl rfl <| x_asg (ss rfl rfl) <| seqN [(8, .d (cB.enc x17))] (by kernel_rfl) <|
    xn <| wpC_ret <| re <| fin h (r1 (ss rfl rfl) <| r0) rfl)
    (fun b16 h => gf rfl b16 <| gf rfl b16 <| st rfl <| pick0 rfl b16 (cd := cB) (v := false) rfl rfl <| x_asg (ss rfl rfl) <| seqN [(8, .d (cB.enc false))] (by kernel_rfl) <|
    xn <| wpC_ret <| re <| fin h (r1 (ss rfl rfl) <| r0) rfl))
    (fun b12 h => gf rfl b12 <| gf rfl b12 <| gf rfl b12 <| gf rfl b12 <| gf rfl b12 <| gf rfl b12 <| gf rfl b12 <| st rfl <| pick0 rfl b12 (cd := cB) (v := false) rfl rfl <| st rfl <| mvd rfl rfl <| gf rfl rfl <| gf rfl rfl <| st rfl <| pick0 rfl rfl (cd := cB) (v := false) rfl rfl <| x_asg (ss rfl rfl) <| seqN [(8, .d (cB.enc false))] (by kernel_rfl) <|
    xn <| wpC_ret <| re <| fin h (r1 (ss rfl rfl) <| r0) rfl)

def rs_spec_sAt (r : (List Int)) : List D := [(cLo cI).enc r]
def m95 : MC := .seq (.reg [⟨some 4, .asg (.c (.slice true [])), none⟩] [0, 1])
  (.seq (.reg [⟨some 7, .mv (.t 0), none⟩,
    ⟨some 8, .len false (.t 7), none⟩,
    ⟨some 9, .mk (.int .i64 0) (.t 8), none⟩,
    ⟨some 5, .asg (.t 9), none⟩] [0, 1, 5])
  (.seq (.kp [5] (.seq (.reg [⟨some 10, .mv (.t 0), none⟩,
    ⟨some 11, .len false (.t 10), none⟩,
    ⟨some 12, .bin .sub (.t 11) (.c (.int .i64 1)), none⟩,
    ⟨some 6, .asg (.t 12), none⟩] [0, 1, 5, 6])
  (.blk 0 (.loop (.seq (.kp [0, 1, 5, 6] (.seq (.reg [⟨some 13, .mv (.t 6), none⟩,
    ⟨some 14, .bin .geq (.t 13) (.c (.int .i64 0)), none⟩] [0, 1, 5, 6, 14])
  (.cond (.t 14) (.skip) (.exit 0))))
  (.seq (.kp [0, 1, 5, 6] (.blk 1 (.seq (.reg [⟨some 17, .mv (.t 5), none⟩,
    ⟨some 18, .mv (.t 6), none⟩,
    ⟨some 19, .mv (.t 1), none⟩,
    ⟨some 20, .mv (.t 0), none⟩,
    ⟨some 21, .mv (.t 6), none⟩,
    ⟨some 22, .ia 20 (.t 21) 2, none⟩,
    ⟨some 23, .fa 22 1 1, none⟩,
    ⟨some 24, .ld 23 1 false, none⟩,
    ⟨some 25, .bin .rem (.t 19) (.t 24), none⟩,
    ⟨some 26, .ia 17 (.t 18) 1, none⟩,
    ⟨none, .st 26 (.t 25) 1, none⟩] [0, 1, 5, 6])
  (.reg [⟨some 27, .mv (.t 1), none⟩,
    ⟨some 28, .mv (.t 0), none⟩,
    ⟨some 29, .mv (.t 6), none⟩,
    ⟨some 30, .ia 28 (.t 29) 2, none⟩,
    ⟨some 31, .fa 30 1 1, none⟩,
    ⟨some 32, .ld 31 1 false, none⟩,
    ⟨some 33, .bin .quo (.t 27) (.t 32), none⟩,
    ⟨some 1, .asg (.t 33), none⟩] [0, 1, 5, 6]))))
  (.reg [⟨some 15, .mv (.t 6), none⟩,
    ⟨some 16, .bin .sub (.t 15) (.c (.int .i64 1)), none⟩,
    ⟨some 6, .asg (.t 16), none⟩] [0, 1, 5, 6])))))))
  (.seq (.reg [⟨some 34, .mv (.t 5), none⟩,
    ⟨some 4, .asg (.t 34), none⟩] [4])
  (.ret))))
theorem con_spec_sAt {v0 : (List XVariable)} {v1 : Int} {r : (List Int)} (h : sh_spec_sAt v0 v1 = some r) : Con Tryd.prog 95 [(cLs (cXVariable cS cI) rfl).enc v0, cI.enc v1] [] (rs_spec_sAt r) := by
  delta sh_spec_sAt at h
  refine top (out := none) (f := Tryd.f95) (m := m95) (rs := [.t 4]) (by kernel_rfl) rfl (by kernel_rfl) (by kernel_rfl) (by kernel_rfl) (by kernel_rfl) (by kernel_rfl) ?_
  exact
   ini [(0, .d ((cLs (cXVariable cS cI) rfl).enc v0)), (1, .d (cI.enc v1))] rfl <| wpC_seq <| reg_s <| x_asg (sc (cLo cI) ([] : List Int) rfl) <| seqN [(0, .d ((cLs (cXVariable cS cI) rfl).enc v0)), (1, .d (cI.enc v1))] (by kernel_rfl) <|
    xn <| wpC_seq <| reg_s <| st rfl <| mvd rfl rfl <| stw rfl <| lens rfl fun l4 => mkO_k h fun i5 l6 h => st rfl <| o_mk (c := cI) (a0 := (0 : Int)) rfl (k := .i64) rfl i5 l6 <| x_asg (so rfl rfl) <| seqN [(0, .d ((cLs (cXVariable cS cI) rfl).enc v0)), (1, .d (cI.enc v1)), (5, .d ((cLo cI).enc (List.replicate ((v0.length : Int)).toNat (0 : Int))))] (by kernel_rfl) <|
    xn <| wpC_seq <| wpC_kp <| wpC_seq <| reg_s <| st rfl <| mvd rfl rfl <| stw rfl <| lens rfl fun l126 => ckI_k h fun i127 h => st rfl <| b_sub (k := .i64) rfl rfl i127 <| x_asg (ss rfl rfl) <| seqN [(0, .d ((cLs (cXVariable cS cI) rfl).enc v0)), (1, .d (cI.enc v1)), (5, .d ((cLo cI).enc (List.replicate ((v0.length : Int)).toNat (0 : Int)))), (6, .d (cI.enc ((v0.length : Int) - (1 : Int))))] (by kernel_rfl) <|
    xn <| wpC_blk <| lpF (fun (s128 : (Int × (List Int) × Int)) => [(0, .d ((cLs (cXVariable cS cI) rfl).enc v0)), (1, .d (cI.enc s128.1)), (5, .d ((cLo cI).enc s128.2.1)), (6, .d (cI.enc s128.2.2))]) (v1, (List.replicate ((v0.length : Int)).toNat (0 : Int)), ((v0.length : Int) - (1 : Int))) rfl h
    fun G205 nx203 s128 hn204 h => wpC_seq <| wpC_kp <| wpC_seq <| reg_s <| st rfl <| mvd rfl rfl <| st rfl <| b_geq (k := .i64) rfl rfl <| seqN [(0, .d ((cLs (cXVariable cS cI) rfl).enc v0)), (1, .d (cI.enc s128.1)), (5, .d ((cLo cI).enc s128.2.1)), (6, .d (cI.enc s128.2.2)), (14, .d (cB.enc (decide ((0 : Int) ≤ s128.2.2))))] (by kernel_rfl) <|
    xn <| cnd rfl h (fun b207 h => wpC_skip <| kpN [(0, .d ((cLs (cXVariable cS cI) rfl).enc v0)), (1, .d (cI.enc s128.1)), (5, .d ((cLo cI).enc s128.2.1)), (6, .d (cI.enc s128.2.2))] (by kernel_rfl) <| xn <| wpC_seq <| wpC_kp <| wpC_blk <| wpC_seq <| reg_s <| st rfl <| mvo rfl rfl <| st rfl <| mvd rfl rfl <| st rfl <| mvd rfl rfl <| st rfl <| mvd rfl rfl <| st rfl <| mvd rfl rfl <| getO_k h fun x231 i232 g233 h => st rfl <| ias rfl rfl i232 g233 rfl <| st rfl <| fai rfl rfl rfl rfl <| st rfl <| ldi rfl rfl rfl rfl <| ck_k h fun i234 h => st rfl <| b_rem (k := .i64) rfl rfl i234 <| getO_k h fun x235 i236 g237 h => st rfl <| iar rfl rfl rfl rfl i236 g237 rfl <| x_sta ((cLo cI).enc (s128.2.1.set (s128.2.2).toNat (s128.1.tmod x231.Levels))) (ss rfl rfl) rfl rfl (Ln.idx g237 Ln.nil) (Cd.h_sz cI _) rfl <| seqN [(0, .d ((cLs (cXVariable cS cI) rfl).enc v0)), (1, .d (cI.enc s128.1)), (5, .d ((cLo cI).enc (s128.2.1.set (s128.2.2).toNat (s128.1.tmod x231.Levels)))), (6, .d (cI.enc s128.2.2))] (by kernel_rfl) <|
    xn <| reg_s <| st rfl <| mvd rfl rfl <| st rfl <| mvd rfl rfl <| st rfl <| mvd rfl rfl <| st rfl <| ias rfl rfl i232 g233 rfl <| st rfl <| fai rfl rfl rfl rfl <| st rfl <| ldi rfl rfl rfl rfl <| ck_k h fun i238 h => ckI_k h fun i239 h => st rfl <| b_quo (k := .i64) rfl rfl i238 i239 <| x_asg (ss rfl rfl) <| seqN [(0, .d ((cLs (cXVariable cS cI) rfl).enc v0)), (1, .d (cI.enc (s128.1.tdiv x231.Levels))), (5, .d ((cLo cI).enc (s128.2.1.set (s128.2.2).toNat (s128.1.tmod x231.Levels)))), (6, .d (cI.enc s128.2.2))] (by kernel_rfl) <|
    xbb <| kpN [(0, .d ((cLs (cXVariable cS cI) rfl).enc v0)), (1, .d (cI.enc (s128.1.tdiv x231.Levels))), (5, .d ((cLo cI).enc (s128.2.1.set (s128.2.2).toNat (s128.1.tmod x231.Levels)))), (6, .d (cI.enc s128.2.2))] (by kernel_rfl) <| xn <| reg_s <| st rfl <| mvd rfl rfl <| ckI_k h fun i240 h => st rfl <| b_sub (k := .i64) rfl rfl i240 <| x_asg (ss rfl rfl) <| seqN [(0, .d ((cLs (cXVariable cS cI) rfl).enc v0)), (1, .d (cI.enc (s128.1.tdiv x231.Levels))), (5, .d ((cLo cI).enc (s128.2.1.set (s128.2.2).toNat (s128.1.tmod x231.Levels)))), (6, .d (cI.enc (s128.2.2 - (1 : Int))))] (by kernel_rfl) <|
    xn <| hn204 ((s128.1.tdiv x231.Levels), (s128.2.1.set (s128.2.2).toNat (s128.1.tmod x231.Levels)), (s128.2.2 - (1 : Int))) h)
    (fun b207 h => wpC_exit <| xt <| xt <| xt <| xb <| kpN [(5, .d ((cLo cI).enc s128.2.1))] (by kernel_rfl) <| xn <| wpC_seq <| reg_s <| st rfl <| mvo rfl rfl <| x_asg (sr rfl rfl) <| seqN [(4, .d ((cLo cI).enc s128.2.1))] (by kernel_rfl) <|
    xn <| wpC_ret <| re <| fin h (r1 (so rfl rfl) <| r0) rfl)
end AS.W
