/- The program computes the plain functions. No condition. -/
import Derived.Test.YtnjjldjgknkijaaSac
import Derived.Test.YtnjjldjgknkijaaProg
import Derived.Test.YtnjjldjgknkijaaLaa
import Derived.Test.YtnjjldjgknkijaaLab
set_option maxRecDepth 100000
set_option linter.unusedVariables false
set_option linter.unusedSimpArgs false
namespace AS.W
open Go Go.Proofs
def rs_spec_cbParts (r : (List Int)) : List D := [(cLo cI).enc r]
def m61 : MC := .seq (.reg [⟨some 6, .asg (.c (.slice true [])), none⟩] [0, 1, 2])
  (.seq (.reg [⟨some 10, .mv (.t 0), none⟩,
    ⟨some 11, .mv (.t 1), none⟩,
    ⟨some 12, .call 60 [(.t 10), (.t 11)], none⟩,
    ⟨some 7, .asg (.t 12), none⟩] [0, 2, 7])
  (.seq (.reg [⟨some 8, .asg (.c (.slice true [])), none⟩] [0, 2, 7, 8])
  (.seq (.kp [8] (.seq (.reg [⟨some 9, .asg (.c (.int .i64 0)), none⟩] [0, 2, 7, 8, 9])
  (.blk 0 (.loop (.seq (.kp [0, 2, 7, 8, 9] (.seq (.reg [⟨some 13, .mv (.t 9), none⟩,
    ⟨some 14, .mv (.t 0), none⟩,
    ⟨some 15, .mv (.t 2), none⟩,
    ⟨some 16, .ia 14 (.t 15) 1, none⟩,
    ⟨some 17, .ld 16 1 false, none⟩,
    ⟨some 18, .bin .lss (.t 13) (.t 17), none⟩] [0, 2, 7, 8, 9, 18])
  (.cond (.t 18) (.skip) (.exit 0))))
  (.seq (.kp [0, 2, 7, 8, 9] (.blk 1 (.seq (.reg [⟨some 21, .mv (.t 7), none⟩,
    ⟨some 22, .mv (.t 2), none⟩,
    ⟨some 23, .mv (.t 9), none⟩,
    ⟨some 24, .ia 21 (.t 22) 1, none⟩,
    ⟨none, .st 24 (.t 23) 1, none⟩] [0, 2, 7, 8, 9])
  (.reg [⟨some 25, .mv (.t 8), none⟩,
    ⟨some 26, .mv (.t 0), none⟩,
    ⟨some 27, .mv (.t 7), none⟩,
    ⟨some 28, .call 82 [(.t 26), (.t 27)], none⟩,
    ⟨some 29, .bsl [(.t 28)] 1, none⟩,
    ⟨some 30, .app (.t 25) (.t 29) 1, none⟩,
    ⟨some 8, .asg (.t 30), none⟩] [0, 2, 7, 8, 9]))))
  (.reg [⟨some 19, .mv (.t 9), none⟩,
    ⟨some 20, .bin .add (.t 19) (.c (.int .i64 1)), none⟩,
    ⟨some 9, .asg (.t 20), none⟩] [0, 2, 7, 8, 9])))))))
  (.seq (.reg [⟨some 31, .mv (.t 8), none⟩,
    ⟨some 6, .asg (.t 31), none⟩] [6])
  (.ret)))))
theorem con_spec_cbParts {v0 : (List Int)} {v1 : Int} {v2 : Int} {r : (List Int)} (h : sh_spec_cbParts v0 v1 v2 = some r) : Con Try.prog 61 [(cLs cI rfl).enc v0, cI.enc v1, cI.enc v2] [] (rs_spec_cbParts r) := by
  delta sh_spec_cbParts at h
  refine top (out := none) (f := Try.f61) (m := m61) (rs := [.t 6]) (by kernel_rfl) rfl (by kernel_rfl) (by kernel_rfl) (by kernel_rfl) (by kernel_rfl) (by kernel_rfl) ?_
  exact
   ini [(0, .d ((cLs cI rfl).enc v0)), (1, .d (cI.enc v1)), (2, .d (cI.enc v2))] rfl <| wpC_seq <| reg_s <| x_asg (sc (cLo cI) ([] : List Int) rfl) <| seqN [(0, .d ((cLs cI rfl).enc v0)), (1, .d (cI.enc v1)), (2, .d (cI.enc v2))] (by kernel_rfl) <|
    xn <| wpC_seq <| reg_s <| st rfl <| mvd rfl rfl <| st rfl <| mvd rfl rfl <| bnd h fun x3 e4 h => st rfl <| o_call (a1 (c := (cLs cI rfl)) (tLs tK) rfl (a1 (c := cI) tK rfl a0)) (con_spec_cbIndices e4) (.inl (so1 (sLo sK) so0)) <| x_asg (so rfl rfl) <| seqN [(0, .d ((cLs cI rfl).enc v0)), (2, .d (cI.enc v2)), (7, .d ((cLo cI).enc x3))] (by kernel_rfl) <|
    xn <| wpC_seq <| reg_s <| x_asg (sc (cLo cI) ([] : List Int) rfl) <| seqN [(0, .d ((cLs cI rfl).enc v0)), (2, .d (cI.enc v2)), (7, .d ((cLo cI).enc x3)), (8, .d ((cLo cI).enc ([] : List Int)))] (by kernel_rfl) <|
    xn <| wpC_seq <| wpC_kp <| wpC_seq <| reg_s <| x_asg (sc cI (0 : Int) rfl) <| seqN [(0, .d ((cLs cI rfl).enc v0)), (2, .d (cI.enc v2)), (7, .d ((cLo cI).enc x3)), (8, .d ((cLo cI).enc ([] : List Int))), (9, .d (cI.enc (0 : Int)))] (by kernel_rfl) <|
    xn <| wpC_blk <| lpF (fun (s112 : ((List Int) × (List Int) × Int)) => [(0, .d ((cLs cI rfl).enc v0)), (2, .d (cI.enc v2)), (7, .d ((cLo cI).enc s112.1)), (8, .d ((cLo cI).enc s112.2.1)), (9, .d (cI.enc s112.2.2))]) (x3, ([] : List Int), (0 : Int)) rfl h
    fun G185 nx183 s112 hn184 h => wpC_seq <| wpC_kp <| wpC_seq <| reg_s <| st rfl <| mvd rfl rfl <| st rfl <| mvd rfl rfl <| st rfl <| mvd rfl rfl <| getO_k h fun x196 i197 g198 h => st rfl <| ias rfl rfl i197 g198 rfl <| st rfl <| ldi rfl rfl rfl rfl <| st rfl <| b_lss (k := .i64) rfl rfl <| seqN [(0, .d ((cLs cI rfl).enc v0)), (2, .d (cI.enc v2)), (7, .d ((cLo cI).enc s112.1)), (8, .d ((cLo cI).enc s112.2.1)), (9, .d (cI.enc s112.2.2)), (18, .d (cB.enc (decide (s112.2.2 < x196))))] (by kernel_rfl) <|
    xn <| cnd rfl h (fun b199 h => wpC_skip <| kpN [(0, .d ((cLs cI rfl).enc v0)), (2, .d (cI.enc v2)), (7, .d ((cLo cI).enc s112.1)), (8, .d ((cLo cI).enc s112.2.1)), (9, .d (cI.enc s112.2.2))] (by kernel_rfl) <| xn <| wpC_seq <| wpC_kp <| wpC_blk <| wpC_seq <| reg_s <| st rfl <| mvo rfl rfl <| st rfl <| mvd rfl rfl <| st rfl <| mvd rfl rfl <| getO_k h fun x212 i213 g214 h => st rfl <| iar rfl rfl rfl rfl i213 g214 rfl <| x_sta ((cLo cI).enc (s112.1.set (v2).toNat s112.2.2)) (ss rfl rfl) rfl rfl (Ln.idx g214 Ln.nil) (Cd.h_sz cI _) rfl <| seqN [(0, .d ((cLs cI rfl).enc v0)), (2, .d (cI.enc v2)), (7, .d ((cLo cI).enc (s112.1.set (v2).toNat s112.2.2))), (8, .d ((cLo cI).enc s112.2.1)), (9, .d (cI.enc s112.2.2))] (by kernel_rfl) <|
    xn <| reg_s <| st rfl <| mvo rfl rfl <| st rfl <| mvd rfl rfl <| st rfl <| mvo rfl rfl <| bnd h fun x215 e216 h => st rfl <| o_call (a1 (c := (cLs cI rfl)) (tLs tK) rfl (a1 (c := (cLo cI)) (tLo tK) rfl a0)) (con_spec_cbAt e216) (.inl (so1 sK so0)) <| x_bsl cI [x215] (t1 (ss rfl rfl) rfl t0) rfl rfl <| lnO_k h fun l217 h => x_app (sr rfl rfl) (to rfl rfl) l217 rfl <| x_asg (so rfl rfl) <| seqN [(0, .d ((cLs cI rfl).enc v0)), (2, .d (cI.enc v2)), (7, .d ((cLo cI).enc (s112.1.set (v2).toNat s112.2.2))), (8, .d ((cLo cI).enc (s112.2.1 ++ [x215]))), (9, .d (cI.enc s112.2.2))] (by kernel_rfl) <|
    xbb <| kpN [(0, .d ((cLs cI rfl).enc v0)), (2, .d (cI.enc v2)), (7, .d ((cLo cI).enc (s112.1.set (v2).toNat s112.2.2))), (8, .d ((cLo cI).enc (s112.2.1 ++ [x215]))), (9, .d (cI.enc s112.2.2))] (by kernel_rfl) <| xn <| reg_s <| st rfl <| mvd rfl rfl <| ckI_k h fun i218 h => st rfl <| b_add (k := .i64) rfl rfl i218 <| x_asg (ss rfl rfl) <| seqN [(0, .d ((cLs cI rfl).enc v0)), (2, .d (cI.enc v2)), (7, .d ((cLo cI).enc (s112.1.set (v2).toNat s112.2.2))), (8, .d ((cLo cI).enc (s112.2.1 ++ [x215]))), (9, .d (cI.enc (s112.2.2 + (1 : Int))))] (by kernel_rfl) <|
    xn <| hn184 ((s112.1.set (v2).toNat s112.2.2), (s112.2.1 ++ [x215]), (s112.2.2 + (1 : Int))) h)
    (fun b199 h => wpC_exit <| xt <| xt <| xt <| xb <| kpN [(8, .d ((cLo cI).enc s112.2.1))] (by kernel_rfl) <| xn <| wpC_seq <| reg_s <| st rfl <| mvo rfl rfl <| x_asg (sr rfl rfl) <| seqN [(6, .d ((cLo cI).enc s112.2.1))] (by kernel_rfl) <|
    xn <| wpC_ret <| re <| fin h (r1 (so rfl rfl) <| r0) rfl)

def rs_spec_PartsOf (r : ((List (List Int)) × Bool)) : List D := [(cLo (cLo cI)).enc r.1, cB.enc r.2]
def m21 : MC := .seq (.reg [⟨some 4, .asg (.c (.slice true [])), none⟩,
    ⟨some 5, .asg (.c (.bool false)), none⟩] [0, 1])
  (.seq (.kp [0, 1] (.seq (.reg [⟨some 9, .mv (.t 1), none⟩,
    ⟨some 10, .mv (.t 0), none⟩,
    ⟨some 11, .call 59 [(.t 10)], none⟩,
    ⟨some 12, .bin .sub (.t 11) (.c (.int .i64 1)), none⟩,
    ⟨some 13, .call 58 [(.t 9), (.c (.int .i64 0)), (.t 12)], none⟩,
    ⟨some 14, .nt (.t 13), none⟩] [0, 1, 14])
  (.cond (.t 14) (.seq (.reg [⟨some 4, .asg (.c (.slice true [])), none⟩,
    ⟨some 5, .asg (.c (.bool false)), none⟩] [4, 5])
  (.ret)) (.skip))))
  (.seq (.reg [⟨some 6, .asg (.c (.slice true [])), none⟩] [0, 1, 6])
  (.seq (.kp [6] (.seq (.reg [⟨some 15, .mv (.t 0), none⟩,
    ⟨some 16, .mv (.t 1), none⟩,
    ⟨some 17, .call 60 [(.t 15), (.t 16)], none⟩,
    ⟨some 18, .len false (.t 17), none⟩,
    ⟨some 19, .mv (.c (.int .i64 0)), none⟩] [0, 1, 6, 17, 18, 19])
  (.blk 0 (.loop (.seq (.reg [⟨some 20, .bin .lss (.t 19) (.t 18), none⟩] [0, 1, 6, 17, 18, 19, 20])
  (.seq (.kp [0, 1, 6, 17, 18, 19] (.cond (.t 20) (.skip) (.exit 0)))
  (.seq (.kp [0, 1, 6, 17, 18, 19] (.blk 1 (.seq (.reg [⟨some 21, .mv (.t 19), none⟩,
    ⟨some 22, .ia 17 (.t 19) 1, none⟩,
    ⟨some 23, .ld 22 1 false, none⟩,
    ⟨some 7, .asg (.t 21), none⟩,
    ⟨some 8, .asg (.t 23), none⟩] [0, 1, 6, 7, 8, 17, 18, 19])
  (.seq (.reg [⟨some 24, .mv (.t 8), none⟩,
    ⟨some 25, .mv (.t 0), none⟩,
    ⟨some 26, .mv (.t 7), none⟩,
    ⟨some 27, .ia 25 (.t 26) 1, none⟩,
    ⟨some 28, .ld 27 1 false, none⟩,
    ⟨some 29, .bin .eql (.t 24) (.t 28), none⟩] [0, 1, 6, 7, 17, 18, 19, 29])
  (.cond (.t 29) (.reg [⟨some 30, .mv (.t 6), none⟩,
    ⟨some 31, .mv (.t 0), none⟩,
    ⟨some 32, .mv (.t 1), none⟩,
    ⟨some 33, .mv (.t 7), none⟩,
    ⟨some 34, .call 61 [(.t 31), (.t 32), (.t 33)], none⟩,
    ⟨some 35, .bsl [(.t 34)] 1, none⟩,
    ⟨some 36, .app (.t 30) (.t 35) 1, none⟩,
    ⟨some 6, .asg (.t 36), none⟩] [0, 1, 6, 17, 18, 19]) (.skip))))))
  (.reg [⟨some 37, .bin .add (.t 19) (.c (.int .i64 1)), none⟩,
    ⟨some 19, .mv (.t 37), none⟩] [0, 1, 6, 17, 18, 19]))))))))
  (.seq (.reg [⟨some 38, .mv (.t 6), none⟩,
    ⟨some 4, .asg (.t 38), none⟩,
    ⟨some 5, .asg (.c (.bool true)), none⟩] [4, 5])
  (.ret)))))
theorem con_spec_PartsOf {v0 : (List Int)} {v1 : Int} {r : ((List (List Int)) × Bool)} (h : sh_spec_PartsOf v0 v1 = some r) : Con Try.prog 21 [(cLs cI rfl).enc v0, cI.enc v1] [] (rs_spec_PartsOf r) := by
  delta sh_spec_PartsOf at h
  refine top (out := none) (f := Try.f21) (m := m21) (rs := [.t 4, .t 5]) (by kernel_rfl) rfl (by kernel_rfl) (by kernel_rfl) (by kernel_rfl) (by kernel_rfl) (by kernel_rfl) ?_
  exact
   ini [(0, .d ((cLs cI rfl).enc v0)), (1, .d (cI.enc v1))] rfl <| wpC_seq <| reg_s <| x_asg (sc (cLo (cLo cI)) ([] : List (List Int)) rfl) <| x_asg (sc cB false rfl) <| seqN [(0, .d ((cLs cI rfl).enc v0)), (1, .d (cI.enc v1))] (by kernel_rfl) <|
    xn <| wpC_seq <| wpC_kp <| wpC_seq <| reg_s <| st rfl <| mvd rfl rfl <| st rfl <| mvd rfl rfl <| bnd h fun x17 e18 h => st rfl <| o_call (a1 (c := (cLs cI rfl)) (tLs tK) rfl a0) (con_spec_cbCount e18) (.inl (so1 sK so0)) <| ckI_k h fun i19 h => st rfl <| b_sub (k := .i64) rfl rfl i19 <| bnd h fun x20 e21 h => st rfl <| o_call (a1 (c := cI) tK rfl (a1 (c := cI) tK rfl (a1 (c := cI) tK rfl a0))) (con_spec_l1In e21) (.inl (so1 sB so0)) <| st rfl <| o_nt rfl <| seqN [(0, .d ((cLs cI rfl).enc v0)), (1, .d (cI.enc v1)), (14, .d (cB.enc (!x20)))] (by kernel_rfl) <|
    xn <| cnd rfl h (fun b22 h => wpC_seq <| reg_s <| x_asg (sc (cLo (cLo cI)) ([] : List (List Int)) rfl) <| x_asg (sc cB false rfl) <| seqN [(4, .d ((cLo (cLo cI)).enc ([] : List (List Int)))), (5, .d (cB.enc false))] (by kernel_rfl) <|
    xn <| wpC_ret <| rt <| rt <| re <| fin h (r1 (so rfl rfl) <| r1 (ss rfl rfl) <| r0) rfl)
    (fun b22 h => wpC_skip <| kpN [(0, .d ((cLs cI rfl).enc v0)), (1, .d (cI.enc v1))] (by kernel_rfl) <| xn <| wpC_seq <| reg_s <| x_asg (sc (cLo (cLo cI)) ([] : List (List Int)) rfl) <| seqN [(0, .d ((cLs cI rfl).enc v0)), (1, .d (cI.enc v1)), (6, .d ((cLo (cLo cI)).enc ([] : List (List Int))))] (by kernel_rfl) <|
    xn <| wpC_seq <| wpC_kp <| wpC_seq <| reg_s <| st rfl <| mvd rfl rfl <| st rfl <| mvd rfl rfl <| bnd h fun x100 e101 h => st rfl <| o_call (a1 (c := (cLs cI rfl)) (tLs tK) rfl (a1 (c := cI) tK rfl a0)) (con_spec_cbIndices e101) (.inl (so1 (sLo sK) so0)) <| stw rfl <| leno rfl fun l102 => st rfl <| mvc cI (0 : Int) rfl <| seqN [(0, .d ((cLs cI rfl).enc v0)), (1, .d (cI.enc v1)), (6, .d ((cLo (cLo cI)).enc ([] : List (List Int)))), (17, .d ((cLo cI).enc x100)), (18, .d (cI.enc (x100.length : Int))), (19, .d (cI.enc (0 : Int)))] (by kernel_rfl) <|
    xn <| wpC_blk <| lpR (fun (k104 : Nat) (s103 : (List (List Int))) => [(0, .d ((cLs cI rfl).enc v0)), (1, .d (cI.enc v1)), (6, .d ((cLo (cLo cI)).enc s103)), (17, .d ((cLo cI).enc x100)), (18, .d (cI.enc (x100.length : Int))), (19, .d (cI.enc (k104 : Int)))]) ([] : List (List Int)) rfl h
    (fun G150 s103 h => wpC_seq <| reg_s <| st rfl <| b_lss (k := .i64) rfl rfl <| seqN [(0, .d ((cLs cI rfl).enc v0)), (1, .d (cI.enc v1)), (6, .d ((cLo (cLo cI)).enc s103)), (17, .d ((cLo cI).enc x100)), (18, .d (cI.enc (x100.length : Int))), (19, .d (cI.enc (x100.length : Int))), (20, .d (cB.enc (decide ((x100.length : Int) < (x100.length : Int)))))] (by kernel_rfl) <|
    xn <| wpC_seq <| wpC_kp <| cnd0 rfl (dlf _) <| wpC_exit <| xt <| xt <| xt <| xb <| kpN [(6, .d ((cLo (cLo cI)).enc s103))] (by kernel_rfl) <| xn <| wpC_seq <| reg_s <| st rfl <| mvo rfl rfl <| x_asg (sr rfl rfl) <| x_asg (sc cB true rfl) <| seqN [(4, .d ((cLo (cLo cI)).enc s103)), (5, .d (cB.enc true))] (by kernel_rfl) <|
    xn <| wpC_ret <| re <| fin h (r1 (so rfl rfl) <| r1 (ss rfl rfl) <| r0) rfl)
    (fun G150 nx148 k104 s103 x105 hk106 hx107 hn149 h => wpC_seq <| reg_s <| st rfl <| b_lss (k := .i64) rfl rfl <| seqN [(0, .d ((cLs cI rfl).enc v0)), (1, .d (cI.enc v1)), (6, .d ((cLo (cLo cI)).enc s103)), (17, .d ((cLo cI).enc x100)), (18, .d (cI.enc (x100.length : Int))), (19, .d (cI.enc (k104 : Int))), (20, .d (cB.enc (decide ((k104 : Int) < (x100.length : Int)))))] (by kernel_rfl) <|
    xn <| wpC_seq <| wpC_kp <| cnd1 rfl (dlt hk106) <| wpC_skip <| kpN [(0, .d ((cLs cI rfl).enc v0)), (1, .d (cI.enc v1)), (6, .d ((cLo (cLo cI)).enc s103)), (17, .d ((cLo cI).enc x100)), (18, .d (cI.enc (x100.length : Int))), (19, .d (cI.enc (k104 : Int)))] (by kernel_rfl) <| xn <| wpC_seq <| wpC_kp <| wpC_blk <| wpC_seq <| reg_s <| st rfl <| mvd rfl rfl <| st rfl <| iao rfl rfl (Int.natCast_nonneg _) hx107 rfl <| st rfl <| lda rfl rfl (Gt.idx hx107 Gt.nil) rfl rfl rfl <| x_asg (ss rfl rfl) <| x_asg (ss rfl rfl) <| seqN [(0, .d ((cLs cI rfl).enc v0)), (1, .d (cI.enc v1)), (6, .d ((cLo (cLo cI)).enc s103)), (7, .d (cI.enc (k104 : Int))), (8, .d (cI.enc x105)), (17, .d ((cLo cI).enc x100)), (18, .d (cI.enc (x100.length : Int))), (19, .d (cI.enc (k104 : Int)))] (by kernel_rfl) <|
    xn <| wpC_seq <| reg_s <| st rfl <| mvd rfl rfl <| st rfl <| mvd rfl rfl <| st rfl <| mvd rfl rfl <| getO_k h fun x164 i165 g166 h => st rfl <| ias rfl rfl i165 g166 rfl <| st rfl <| ldi rfl rfl rfl rfl <| st rfl <| b_eql (k := .i64) rfl rfl <| seqN [(0, .d ((cLs cI rfl).enc v0)), (1, .d (cI.enc v1)), (6, .d ((cLo (cLo cI)).enc s103)), (7, .d (cI.enc (k104 : Int))), (17, .d ((cLo cI).enc x100)), (18, .d (cI.enc (x100.length : Int))), (19, .d (cI.enc (k104 : Int))), (29, .d (cB.enc (decide (x105 = x164))))] (by kernel_rfl) <|
    xn <| cnd rfl h (fun b167 h => reg_s <| st rfl <| mvo rfl rfl <| st rfl <| mvd rfl rfl <| st rfl <| mvd rfl rfl <| st rfl <| mvd rfl rfl <| bnd h fun x168 e169 h => st rfl <| o_call (a1 (c := (cLs cI rfl)) (tLs tK) rfl (a1 (c := cI) tK rfl (a1 (c := cI) tK rfl a0))) (con_spec_cbParts e169) (.inl (so1 (sLo sK) so0)) <| x_bsl (cLo cI) [x168] (t1 (so rfl rfl) rfl t0) rfl rfl <| lnO_k h fun l170 h => x_app (sr rfl rfl) (to1 rfl rfl) l170 rfl <| x_asg (so rfl rfl) <| seqN [(0, .d ((cLs cI rfl).enc v0)), (1, .d (cI.enc v1)), (6, .d ((cLo (cLo cI)).enc (s103 ++ [x168]))), (17, .d ((cLo cI).enc x100)), (18, .d (cI.enc (x100.length : Int))), (19, .d (cI.enc (k104 : Int)))] (by kernel_rfl) <|
    xbb <| kpN [(0, .d ((cLs cI rfl).enc v0)), (1, .d (cI.enc v1)), (6, .d ((cLo (cLo cI)).enc (s103 ++ [x168]))), (17, .d ((cLo cI).enc x100)), (18, .d (cI.enc (x100.length : Int))), (19, .d (cI.enc (k104 : Int)))] (by kernel_rfl) <| xn <| reg_s <| st rfl <| b_inc rfl rfl l102 hk106 <| st rfl <| mvd rfl rfl <| seqN [(0, .d ((cLs cI rfl).enc v0)), (1, .d (cI.enc v1)), (6, .d ((cLo (cLo cI)).enc (s103 ++ [x168]))), (17, .d ((cLo cI).enc x100)), (18, .d (cI.enc (x100.length : Int))), (19, .d (cI.enc ((k104 + 1 : Nat) : Int)))] (by kernel_rfl) <|
    xn <| hn149 (s103 ++ [x168]) h)
    (fun b167 h => wpC_skip <| xbb <| kpN [(0, .d ((cLs cI rfl).enc v0)), (1, .d (cI.enc v1)), (6, .d ((cLo (cLo cI)).enc s103)), (17, .d ((cLo cI).enc x100)), (18, .d (cI.enc (x100.length : Int))), (19, .d (cI.enc (k104 : Int)))] (by kernel_rfl) <| xn <| reg_s <| st rfl <| b_inc rfl rfl l102 hk106 <| st rfl <| mvd rfl rfl <| seqN [(0, .d ((cLs cI rfl).enc v0)), (1, .d (cI.enc v1)), (6, .d ((cLo (cLo cI)).enc s103)), (17, .d ((cLo cI).enc x100)), (18, .d (cI.enc (x100.length : Int))), (19, .d (cI.enc ((k104 + 1 : Nat) : Int)))] (by kernel_rfl) <|
    xn <| hn149 s103 h)))

def rs_impl_PartsOf (r : ((List (List Int)) × Bool)) : List D := [(cLo (cLo cI)).enc r.1, cB.enc r.2]
def m22 : MC := .seq (.reg [⟨some 4, .asg (.c (.slice true [])), none⟩,
    ⟨some 5, .asg (.c (.bool false)), none⟩] [0, 1])
  (.seq (.kp [0, 1] (.seq (.reg [⟨some 12, .mv (.t 1), none⟩,
    ⟨some 13, .bin .lss (.t 12) (.c (.int .i64 0)), none⟩,
    ⟨some 14, .mv (.t 13), none⟩,
    ⟨some 15, .mv (.t 1), some (14, false)⟩,
    ⟨some 16, .mv (.t 0), some (14, false)⟩,
    ⟨some 17, .call 62 [(.t 16)], some (14, false)⟩,
    ⟨some 18, .bin .geq (.t 15) (.t 17), some (14, false)⟩,
    ⟨some 19, .pick (.t 14) (.c (.bool true)) (.t 18), none⟩] [0, 1, 19])
  (.cond (.t 19) (.seq (.reg [⟨some 4, .asg (.c (.slice true [])), none⟩,
    ⟨some 5, .asg (.c (.bool false)), none⟩] [4, 5])
  (.ret)) (.skip))))
  (.seq (.reg [⟨some 6, .asg (.c (.slice true [])), none⟩] [0, 1, 6])
  (.seq (.reg [⟨some 20, .mv (.t 0), none⟩,
    ⟨some 21, .call 63 [(.t 20)], none⟩,
    ⟨some 7, .asg (.t 21), none⟩] [0, 1, 6, 7])
  (.seq (.kp [6] (.seq (.reg [⟨some 22, .mv (.t 0), none⟩,
    ⟨some 23, .mv (.t 1), none⟩,
    ⟨some 24, .call 64 [(.t 22), (.t 23)], none⟩,
    ⟨some 25, .len false (.t 24), none⟩,
    ⟨some 26, .mv (.c (.int .i64 0)), none⟩] [0, 1, 6, 7, 24, 25, 26])
  (.blk 0 (.loop (.seq (.reg [⟨some 27, .bin .lss (.t 26) (.t 25), none⟩] [0, 1, 6, 7, 24, 25, 26, 27])
  (.seq (.kp [0, 1, 6, 7, 24, 25, 26] (.cond (.t 27) (.skip) (.exit 0)))
  (.seq (.kp [0, 1, 6, 7, 24, 25, 26] (.blk 1 (.seq (.reg [⟨some 28, .mv (.t 26), none⟩,
    ⟨some 29, .ia 24 (.t 26) 1, none⟩,
    ⟨some 30, .ld 29 1 false, none⟩,
    ⟨some 8, .asg (.t 28), none⟩,
    ⟨some 9, .asg (.t 30), none⟩] [0, 1, 6, 7, 8, 9, 24, 25, 26])
  (.seq (.kp [0, 1, 6, 7, 8, 9, 24, 25, 26] (.seq (.reg [⟨some 31, .mv (.t 9), none⟩,
    ⟨some 32, .mv (.t 0), none⟩,
    ⟨some 33, .mv (.t 8), none⟩,
    ⟨some 34, .ia 32 (.t 33) 1, none⟩,
    ⟨some 35, .ld 34 1 false, none⟩,
    ⟨some 36, .bin .neq (.t 31) (.t 35), none⟩] [0, 1, 6, 7, 8, 9, 24, 25, 26, 36])
  (.cond (.t 36) (.exit 1) (.skip))))
  (.seq (.reg [⟨some 10, .asg (.c (.slice true [])), none⟩] [0, 1, 6, 7, 8, 9, 10, 24, 25, 26])
  (.seq (.kp [0, 1, 6, 7, 10, 24, 25, 26] (.seq (.reg [⟨some 37, .mv (.t 9), none⟩,
    ⟨some 11, .asg (.t 37), none⟩] [0, 1, 6, 7, 8, 10, 11, 24, 25, 26])
  (.blk 2 (.loop (.seq (.kp [0, 1, 6, 7, 8, 10, 11, 24, 25, 26] (.seq (.reg [⟨some 38, .mv (.t 11), none⟩,
    ⟨some 39, .bin .gtr (.t 38) (.c (.int .i64 0)), none⟩] [0, 1, 6, 7, 8, 10, 11, 24, 25, 26, 39])
  (.cond (.t 39) (.skip) (.exit 2))))
  (.seq (.kp [0, 1, 6, 7, 8, 10, 11, 24, 25, 26] (.blk 3 (.reg [⟨some 42, .mv (.t 10), none⟩,
    ⟨some 43, .mv (.t 1), none⟩,
    ⟨some 44, .mv (.t 11), none⟩,
    ⟨some 45, .mv (.t 7), none⟩,
    ⟨some 46, .mv (.t 8), none⟩,
    ⟨some 47, .ia 45 (.t 46) 1, none⟩,
    ⟨some 48, .ld 47 1 false, none⟩,
    ⟨some 49, .bin .mul (.t 44) (.t 48), none⟩,
    ⟨some 50, .bin .sub (.t 43) (.t 49), none⟩,
    ⟨some 51, .bsl [(.t 50)] 1, none⟩,
    ⟨some 52, .app (.t 42) (.t 51) 1, none⟩,
    ⟨some 10, .asg (.t 52), none⟩] [0, 1, 6, 7, 8, 10, 11, 24, 25, 26])))
  (.reg [⟨some 40, .mv (.t 11), none⟩,
    ⟨some 41, .bin .sub (.t 40) (.c (.int .i64 1)), none⟩,
    ⟨some 11, .asg (.t 41), none⟩] [0, 1, 6, 7, 8, 10, 11, 24, 25, 26])))))))
  (.reg [⟨some 53, .mv (.t 6), none⟩,
    ⟨some 54, .mv (.t 10), none⟩,
    ⟨some 55, .bsl [(.t 54)] 1, none⟩,
    ⟨some 56, .app (.t 53) (.t 55) 1, none⟩,
    ⟨some 6, .asg (.t 56), none⟩] [0, 1, 6, 7, 24, 25, 26])))))))
  (.reg [⟨some 57, .bin .add (.t 26) (.c (.int .i64 1)), none⟩,
    ⟨some 26, .mv (.t 57), none⟩] [0, 1, 6, 7, 24, 25, 26]))))))))
  (.seq (.reg [⟨some 58, .mv (.t 6), none⟩,
    ⟨some 4, .asg (.t 58), none⟩,
    ⟨some 5, .asg (.c (.bool true)), none⟩] [4, 5])
  (.ret))))))
theorem con_impl_PartsOf {v0 : (List Int)} {v1 : Int} {r : ((List (List Int)) × Bool)} (h : sh_impl_PartsOf v0 v1 = some r) : Con Try.prog 22 [(cLs cI rfl).enc v0, cI.enc v1] [] (rs_impl_PartsOf r) := by
  delta sh_impl_PartsOf at h
  refine top (out := none) (f := Try.f22) (m := m22) (rs := [.t 4, .t 5]) (by kernel_rfl) rfl (by kernel_rfl) (by kernel_rfl) (by kernel_rfl) (by kernel_rfl) (by kernel_rfl) ?_
  exact
   ini [(0, .d ((cLs cI rfl).enc v0)), (1, .d (cI.enc v1))] rfl <| wpC_seq <| reg_s <| x_asg (sc (cLo (cLo cI)) ([] : List (List Int)) rfl) <| x_asg (sc cB false rfl) <| seqN [(0, .d ((cLs cI rfl).enc v0)), (1, .d (cI.enc v1))] (by kernel_rfl) <|
    xn <| wpC_seq <| wpC_kp <| wpC_seq <| reg_s <| st rfl <| mvd rfl rfl <| st rfl <| b_lss (k := .i64) rfl rfl <| st rfl <| mvd rfl rfl <| ite_k h (fun b11 h => gf rfl b11 <| gf rfl b11 <| gf rfl b11 <| gf rfl b11 <| st rfl <| pick1 rfl b11 (cd := cB) (v := true) rfl rfl <| seqN [(0, .d ((cLs cI rfl).enc v0)), (1, .d (cI.enc v1)), (19, .d (cB.enc true))] (by kernel_rfl) <|
    xn <| cnd1 rfl rfl <| wpC_seq <| reg_s <| x_asg (sc (cLo (cLo cI)) ([] : List (List Int)) rfl) <| x_asg (sc cB false rfl) <| seqN [(4, .d ((cLo (cLo cI)).enc ([] : List (List Int)))), (5, .d (cB.enc false))] (by kernel_rfl) <|
    xn <| wpC_ret <| rt <| rt <| re <| fin h (r1 (so rfl rfl) <| r1 (ss rfl rfl) <| r0) rfl)
    (fun b11 h => gt' rfl b11 <| st rfl <| mvd rfl rfl <| gt' rfl b11 <| st rfl <| mvd rfl rfl <| gt' rfl b11 <| bnd h fun x12 e13 h => st rfl <| o_call (a1 (c := (cLs cI rfl)) (tLs tK) rfl a0) (con_impl_cubeCells e13) (.inl (so1 sK so0)) <| gt' rfl b11 <| st rfl <| b_geq (k := .i64) rfl rfl <| st rfl <| pick0 rfl b11 (cd := cB) (v := (decide (x12 ≤ v1))) rfl rfl <| seqN [(0, .d ((cLs cI rfl).enc v0)), (1, .d (cI.enc v1)), (19, .d (cB.enc (decide (x12 ≤ v1))))] (by kernel_rfl) <|
    xn <| cnd rfl h (fun b14 h => wpC_seq <| reg_s <| x_asg (sc (cLo (cLo cI)) ([] : List (List Int)) rfl) <| x_asg (sc cB false rfl) <| seqN [(4, .d ((cLo (cLo cI)).enc ([] : List (List Int)))), (5, .d (cB.enc false))] (by kernel_rfl) <|
    xn <| wpC_ret <| rt <| rt <| re <| fin h (r1 (so rfl rfl) <| r1 (ss rfl rfl) <| r0) rfl)
    (fun b14 h => wpC_skip <| kpN [(0, .d ((cLs cI rfl).enc v0)), (1, .d (cI.enc v1))] (by kernel_rfl) <| xn <| wpC_seq <| reg_s <| x_asg (sc (cLo (cLo cI)) ([] : List (List Int)) rfl) <| seqN [(0, .d ((cLs cI rfl).enc v0)), (1, .d (cI.enc v1)), (6, .d ((cLo (cLo cI)).enc ([] : List (List Int))))] (by kernel_rfl) <|
    xn <| wpC_seq <| reg_s <| st rfl <| mvd rfl rfl <| bnd h fun x17 e18 h => st rfl <| o_call (a1 (c := (cLs cI rfl)) (tLs tK) rfl a0) (con_impl_strides e18) (.inl (so1 (sLo sK) so0)) <| x_asg (so rfl rfl) <| seqN [(0, .d ((cLs cI rfl).enc v0)), (1, .d (cI.enc v1)), (6, .d ((cLo (cLo cI)).enc ([] : List (List Int)))), (7, .d ((cLo cI).enc x17))] (by kernel_rfl) <|
    xn <| wpC_seq <| wpC_kp <| wpC_seq <| reg_s <| st rfl <| mvd rfl rfl <| st rfl <| mvd rfl rfl <| bnd h fun x762 e763 h => st rfl <| o_call (a1 (c := (cLs cI rfl)) (tLs tK) rfl (a1 (c := cI) tK rfl a0)) (con_impl_indexOf e763) (.inl (so1 (sLo sK) so0)) <| stw rfl <| leno rfl fun l764 => st rfl <| mvc cI (0 : Int) rfl <| seqN [(0, .d ((cLs cI rfl).enc v0)), (1, .d (cI.enc v1)), (6, .d ((cLo (cLo cI)).enc ([] : List (List Int)))), (7, .d ((cLo cI).enc x17)), (24, .d ((cLo cI).enc x762)), (25, .d (cI.enc (x762.length : Int))), (26, .d (cI.enc (0 : Int)))] (by kernel_rfl) <|
    xn <| wpC_blk <| lpR (fun (k766 : Nat) (s765 : (List (List Int))) => [(0, .d ((cLs cI rfl).enc v0)), (1, .d (cI.enc v1)), (6, .d ((cLo (cLo cI)).enc s765)), (7, .d ((cLo cI).enc x17)), (24, .d ((cLo cI).enc x762)), (25, .d (cI.enc (x762.length : Int))), (26, .d (cI.enc (k766 : Int)))]) ([] : List (List Int)) rfl h
    (fun G1256 s765 h => wpC_seq <| reg_s <| st rfl <| b_lss (k := .i64) rfl rfl <| seqN [(0, .d ((cLs cI rfl).enc v0)), (1, .d (cI.enc v1)), (6, .d ((cLo (cLo cI)).enc s765)), (7, .d ((cLo cI).enc x17)), (24, .d ((cLo cI).enc x762)), (25, .d (cI.enc (x762.length : Int))), (26, .d (cI.enc (x762.length : Int))), (27, .d (cB.enc (decide ((x762.length : Int) < (x762.length : Int)))))] (by kernel_rfl) <|
    xn <| wpC_seq <| wpC_kp <| cnd0 rfl (dlf _) <| wpC_exit <| xt <| xt <| xt <| xb <| kpN [(6, .d ((cLo (cLo cI)).enc s765))] (by kernel_rfl) <| xn <| wpC_seq <| reg_s <| st rfl <| mvo rfl rfl <| x_asg (sr rfl rfl) <| x_asg (sc cB true rfl) <| seqN [(4, .d ((cLo (cLo cI)).enc s765)), (5, .d (cB.enc true))] (by kernel_rfl) <|
    xn <| wpC_ret <| re <| fin h (r1 (so rfl rfl) <| r1 (ss rfl rfl) <| r0) rfl)
    (fun G1256 nx1254 k766 s765 x767 hk768 hx769 hn1255 h => wpC_seq <| reg_s <| st rfl <| b_lss (k := .i64) rfl rfl <| seqN [(0, .d ((cLs cI rfl).enc v0)), (1, .d (cI.enc v1)), (6, .d ((cLo (cLo cI)).enc s765)), (7, .d ((cLo cI).enc x17)), (24, .d ((cLo cI).enc x762)), (25, .d (cI.enc (x762.length : Int))), (26, .d (cI.enc (k766 : Int))), (27, .d (cB.enc (decide ((k766 : Int) < (x762.length : Int)))))] (by kernel_rfl) <|
    xn <| wpC_seq <| wpC_kp <| cnd1 rfl (dlt hk768) <| wpC_skip <| kpN [(0, .d ((cLs cI rfl).enc v0)), (1, .d (cI.enc v1)), (6, .d ((cLo (cLo cI)).enc s765)), (7, .d ((cLo cI).enc x17)), (24, .d ((cLo cI).enc x762)), (25, .d (cI.enc (x762.length : Int))), (26, .d (cI.enc (k766 : Int)))] (by kernel_rfl) <| xn <| wpC_seq <| wpC_kp <| wpC_blk <| wpC_seq <| reg_s <| st rfl <| mvd rfl rfl <| st rfl <| iao rfl rfl (Int.natCast_nonneg _) hx769 rfl <| st rfl <| lda rfl rfl (Gt.idx hx769 Gt.nil) rfl rfl rfl <| x_asg (ss rfl rfl) <| x_asg (ss rfl rfl) <| seqN [(0, .d ((cLs cI rfl).enc v0)), (1, .d (cI.enc v1)), (6, .d ((cLo (cLo cI)).enc s765)), (7, .d ((cLo cI).enc x17)), (8, .d (cI.enc (k766 : Int))), (9, .d (cI.enc x767)), (24, .d ((cLo cI).enc x762)), (25, .d (cI.enc (x762.length : Int))), (26, .d (cI.enc (k766 : Int)))] (by kernel_rfl) <|
    xn <| wpC_seq <| wpC_kp <| wpC_seq <| reg_s <| st rfl <| mvd rfl rfl <| st rfl <| mvd rfl rfl <| st rfl <| mvd rfl rfl <| getO_k h fun x1388 i1389 g1390 h => st rfl <| ias rfl rfl i1389 g1390 rfl <| st rfl <| ldi rfl rfl rfl rfl <| st rfl <| b_neq (k := .i64) rfl rfl <| seqN [(0, .d ((cLs cI rfl).enc v0)), (1, .d (cI.enc v1)), (6, .d ((cLo (cLo cI)).enc s765)), (7, .d ((cLo cI).enc x17)), (8, .d (cI.enc (k766 : Int))), (9, .d (cI.enc x767)), (24, .d ((cLo cI).enc x762)), (25, .d (cI.enc (x762.length : Int))), (26, .d (cI.enc (k766 : Int))), (36, .d (cB.enc (decide (x767 ≠ x1388))))] (by kernel_rfl) <|
    xn <| cnd rfl h (fun b1391 h => wpC_exit <| xt <| xt <| xb <| kpN [(0, .d ((cLs cI rfl).enc v0)), (1, .d (cI.enc v1)), (6, .d ((cLo (cLo cI)).enc s765)), (7, .d ((cLo cI).enc x17)), (24, .d ((cLo cI).enc x762)), (25, .d (cI.enc (x762.length : Int))), (26, .d (cI.enc (k766 : Int)))] (by kernel_rfl) <| xn <| reg_s <| st rfl <| b_inc rfl rfl l764 hk768 <| st rfl <| mvd rfl rfl <| seqN [(0, .d ((cLs cI rfl).enc v0)), (1, .d (cI.enc v1)), (6, .d ((cLo (cLo cI)).enc s765)), (7, .d ((cLo cI).enc x17)), (24, .d ((cLo cI).enc x762)), (25, .d (cI.enc (x762.length : Int))), (26, .d (cI.enc ((k766 + 1 : Nat) : Int)))] (by kernel_rfl) <|
    xn <| hn1255 s765 h)
    (fun b1391 h => wpC_skip <| kpN [(0, .d ((cLs cI rfl).enc v0)), (1, .d (cI.enc v1)), (6, .d ((cLo (cLo cI)).enc s765)), (7, .d ((cLo cI).enc x17)), (8, .d (cI.enc (k766 : Int))), (9, .d (cI.enc x767)), (24, .d ((cLo cI).enc x762)), (25, .d (cI.enc (x762.length : Int))), (26, .d (cI.enc (k766 : Int)))] (by kernel_rfl) <| xn <| wpC_seq <| reg_s <| x_asg (sc (cLo cI) ([] : List Int) rfl) <| seqN [(0, .d ((cLs cI rfl).enc v0)), (1, .d (cI.enc v1)), (6, .d ((cLo (cLo cI)).enc s765)), (7, .d ((cLo cI).enc x17)), (8, .d (cI.enc (k766 : Int))), (9, .d (cI.enc x767)), (10, .d ((cLo cI).enc ([] : List Int))), (24, .d ((cLo cI).enc x762)), (25, .d (cI.enc (x762.length : Int))), (26, .d (cI.enc (k766 : Int)))] (by kernel_rfl) <|
    xn <| wpC_seq <| wpC_kp <| wpC_seq <| reg_s <| st rfl <| mvd rfl rfl <| x_asg (ss rfl rfl) <| seqN [(0, .d ((cLs cI rfl).enc v0)), (1, .d (cI.enc v1)), (6, .d ((cLo (cLo cI)).enc s765)), (7, .d ((cLo cI).enc x17)), (8, .d (cI.enc (k766 : Int))), (10, .d ((cLo cI).enc ([] : List Int))), (11, .d (cI.enc x767)), (24, .d ((cLo cI).enc x762)), (25, .d (cI.enc (x762.length : Int))), (26, .d (cI.enc (k766 : Int)))] (by kernel_rfl) <|
    xn <| wpC_blk <| lpF (fun (s1445 : ((List Int) × Int)) => [(0, .d ((cLs cI rfl).enc v0)), (1, .d (cI.enc v1)), (6, .d ((cLo (cLo cI)).enc s765)), (7, .d ((cLo cI).enc x17)), (8, .d (cI.enc (k766 : Int))), (10, .d ((cLo cI).enc s1445.1)), (11, .d (cI.enc s1445.2)), (24, .d ((cLo cI).enc x762)), (25, .d (cI.enc (x762.length : Int))), (26, .d (cI.enc (k766 : Int)))]) (([] : List Int), x767) rfl h
    fun G1482 nx1480 s1445 hn1481 h => wpC_seq <| wpC_kp <| wpC_seq <| reg_s <| st rfl <| mvd rfl rfl <| st rfl <| b_gtr (k := .i64) rfl rfl <| seqN [(0, .d ((cLs cI rfl).enc v0)), (1, .d (cI.enc v1)), (6, .d ((cLo (cLo cI)).enc s765)), (7, .d ((cLo cI).enc x17)), (8, .d (cI.enc (k766 : Int))), (10, .d ((cLo cI).enc s1445.1)), (11, .d (cI.enc s1445.2)), (24, .d ((cLo cI).enc x762)), (25, .d (cI.enc (x762.length : Int))), (26, .d (cI.enc (k766 : Int))), (39, .d (cB.enc (decide ((0 : Int) < s1445.2))))] (by kernel_rfl) <|
    xn <| cnd rfl h (fun b1484 h => wpC_skip <| kpN [(0, .d ((cLs cI rfl).enc v0)), (1, .d (cI.enc v1)), (6, .d ((cLo (cLo cI)).enc s765)), (7, .d ((cLo cI).enc x17)), (8, .d (cI.enc (k766 : Int))), (10, .d ((cLo cI).enc s1445.1)), (11, .d (cI.enc s1445.2)), (24, .d ((cLo cI).enc x762)), (25, .d (cI.enc (x762.length : Int))), (26, .d (cI.enc (k766 : Int)))] (by kernel_rfl) <| xn <| wpC_seq <| wpC_kp <| wpC_blk <| reg_s <| st rfl <| mvo rfl rfl <| st rfl <| mvd rfl rfl <| st rfl <| mvd rfl rfl <| st rfl <| mvo rfl rfl <| st rfl <| mvd rfl rfl <| getO_k h fun x1491 i1492 g1493 h => st rfl <| iar rfl rfl rfl rfl i1492 g1493 rfl <| st rfl <| lda rfl rfl (Gt.idx g1493 Gt.nil) rfl rfl rfl <| ckI_k h fun i1494 h => st rfl <| b_mul (k := .i64) rfl rfl i1494 <| ckI_k h fun i1495 h => st rfl <| b_sub (k := .i64) rfl rfl i1495 <| x_bsl cI [(v1 - (s1445.2 * x1491))] (t1 (ss rfl rfl) rfl t0) rfl rfl <| lnO_k h fun l1496 h => x_app (sr rfl rfl) (to rfl rfl) l1496 rfl <| x_asg (so rfl rfl) <| seqN [(0, .d ((cLs cI rfl).enc v0)), (1, .d (cI.enc v1)), (6, .d ((cLo (cLo cI)).enc s765)), (7, .d ((cLo cI).enc x17)), (8, .d (cI.enc (k766 : Int))), (10, .d ((cLo cI).enc (s1445.1 ++ [(v1 - (s1445.2 * x1491))]))), (11, .d (cI.enc s1445.2)), (24, .d ((cLo cI).enc x762)), (25, .d (cI.enc (x762.length : Int))), (26, .d (cI.enc (k766 : Int)))] (by kernel_rfl) <|
    xbb <| kpN [(0, .d ((cLs cI rfl).enc v0)), (1, .d (cI.enc v1)), (6, .d ((cLo (cLo cI)).enc s765)), (7, .d ((cLo cI).enc x17)), (8, .d (cI.enc (k766 : Int))), (10, .d ((cLo cI).enc (s1445.1 ++ [(v1 - (s1445.2 * x1491))]))), (11, .d (cI.enc s1445.2)), (24, .d ((cLo cI).enc x762)), (25, .d (cI.enc (x762.length : Int))), (26, .d (cI.enc (k766 : Int)))] (by kernel_rfl) <| xn <| reg_s <| st rfl <| mvd rfl rfl <| ckI_k h fun i1497 h => st rfl <| b_sub (k := .i64) rfl rfl i1497 <| x_asg (ss rfl rfl) <| seqN [(0, .d ((cLs cI rfl).enc v0)), (1, .d (cI.enc v1)), (6, .d ((cLo (cLo cI)).enc s765)), (7, .d ((cLo cI).enc x17)), (8, .d (cI.enc (k766 : Int))), (10, .d ((cLo cI).enc (s1445.1 ++ [(v1 - (s1445.2 * x1491))]))), (11, .d (cI.enc (s1445.2 - (1 : Int)))), (24, .d ((cLo cI).enc x762)), (25, .d (cI.enc (x762.length : Int))), (26, .d (cI.enc (k766 : Int)))] (by kernel_rfl) <|
    xn <| hn1481 ((s1445.1 ++ [(v1 - (s1445.2 * x1491))]), (s1445.2 - (1 : Int))) h)
    (fun b1484 h => wpC_exit <| xt <| xt <| xt <| xb <| kpN [(0, .d ((cLs cI rfl).enc v0)), (1, .d (cI.enc v1)), (6, .d ((cLo (cLo cI)).enc s765)), (7, .d ((cLo cI).enc x17)), (10, .d ((cLo cI).enc s1445.1)), (24, .d ((cLo cI).enc x762)), (25, .d (cI.enc (x762.length : Int))), (26, .d (cI.enc (k766 : Int)))] (by kernel_rfl) <| xn <| reg_s <| st rfl <| mvo rfl rfl <| st rfl <| mvo rfl rfl <| x_bsl (cLo cI) [s1445.1] (t1 (sr rfl rfl) rfl t0) rfl rfl <| lnO_k h fun l1498 h => x_app (sr rfl rfl) (to1 rfl rfl) l1498 rfl <| x_asg (so rfl rfl) <| seqN [(0, .d ((cLs cI rfl).enc v0)), (1, .d (cI.enc v1)), (6, .d ((cLo (cLo cI)).enc (s765 ++ [s1445.1]))), (7, .d ((cLo cI).enc x17)), (24, .d ((cLo cI).enc x762)), (25, .d (cI.enc (x762.length : Int))), (26, .d (cI.enc (k766 : Int)))] (by kernel_rfl) <|
    xbb <| kpN [(0, .d ((cLs cI rfl).enc v0)), (1, .d (cI.enc v1)), (6, .d ((cLo (cLo cI)).enc (s765 ++ [s1445.1]))), (7, .d ((cLo cI).enc x17)), (24, .d ((cLo cI).enc x762)), (25, .d (cI.enc (x762.length : Int))), (26, .d (cI.enc (k766 : Int)))] (by kernel_rfl) <| xn <| reg_s <| st rfl <| b_inc rfl rfl l764 hk768 <| st rfl <| mvd rfl rfl <| seqN [(0, .d ((cLs cI rfl).enc v0)), (1, .d (cI.enc v1)), (6, .d ((cLo (cLo cI)).enc (s765 ++ [s1445.1]))), (7, .d ((cLo cI).enc x17)), (24, .d ((cLo cI).enc x762)), (25, .d (cI.enc (x762.length : Int))), (26, .d (cI.enc ((k766 + 1 : Nat) : Int)))] (by kernel_rfl) <|
    xn <| hn1255 (s765 ++ [s1445.1]) h)))))

def rs_laws_FnExactPartsOf (r : Bool) : List D := [cB.enc r]
def m4 : MC := .seq (.reg [⟨some 4, .asg (.c (.bool false)), none⟩] [0, 1])
  (.seq (.kp [0, 1] (.seq (.reg [⟨some 15, .mv (.t 0), none⟩,
    ⟨some 16, .len false (.t 15), none⟩,
    ⟨some 17, .bin .gtr (.t 16) (.c (.int .i64 1048576)), none⟩] [0, 1, 17])
  (.cond (.t 17) (.seq (.reg [⟨some 4, .asg (.c (.bool true)), none⟩] [4])
  (.ret)) (.skip))))
  (.seq (.reg [⟨some 19, .mv (.t 0), none⟩,
    ⟨some 20, .call 16 [(.t 19)], none⟩,
    ⟨some 21, .mv (.t 1), none⟩,
    ⟨some 22, .call 21 [(.t 20), (.t 21)], none⟩,
    ⟨some 18, .mvt 22, none⟩,
    ⟨some 23, .ext 18 0, none⟩,
    ⟨some 24, .ext 18 1, none⟩,
    ⟨some 5, .asg (.t 23), none⟩,
    ⟨some 6, .asg (.t 24), none⟩] [0, 1, 5, 6])
  (.seq (.reg [⟨some 25, .mv (.t 0), none⟩,
    ⟨some 26, .call 16 [(.t 25)], none⟩,
    ⟨some 7, .asg (.t 26), none⟩] [0, 1, 5, 6, 7])
  (.seq (.reg [⟨some 28, .mv (.t 7), none⟩,
    ⟨some 29, .mv (.t 1), none⟩,
    ⟨some 30, .call 22 [(.t 28), (.t 29)], none⟩,
    ⟨some 27, .mvt 30, none⟩,
    ⟨some 31, .ext 27 0, none⟩,
    ⟨some 32, .ext 27 1, none⟩,
    ⟨some 8, .asg (.t 31), none⟩,
    ⟨some 9, .asg (.t 32), none⟩] [0, 1, 5, 6, 7, 8, 9])
  (.seq (.kp [0, 1, 5, 6, 7, 8, 9] (.seq (.reg [⟨some 33, .mv (.t 8), none⟩,
    ⟨some 34, .mv (.t 5), none⟩,
    ⟨some 35, .call 23 [(.t 33), (.t 34)], none⟩,
    ⟨some 36, .nt (.t 35), none⟩,
    ⟨some 37, .mv (.t 36), none⟩,
    ⟨some 38, .mv (.t 9), some (37, false)⟩,
    ⟨some 39, .mv (.t 6), some (37, false)⟩,
    ⟨some 40, .eqb true (.t 38) (.t 39), some (37, false)⟩,
    ⟨some 41, .pick (.t 37) (.c (.bool true)) (.t 40), none⟩] [0, 1, 5, 6, 7, 8, 9, 41])
  (.cond (.t 41) (.seq (.reg [⟨some 4, .asg (.c (.bool false)), none⟩] [4])
  (.ret)) (.skip))))
  (.seq (.kp [0, 1, 5, 6, 7, 8, 9] (.seq (.reg [⟨some 42, .mv (.t 7), none⟩,
    ⟨some 43, .mv (.t 0), none⟩,
    ⟨some 44, .call 16 [(.t 43)], none⟩,
    ⟨some 45, .call 18 [(.t 42), (.t 44)], none⟩,
    ⟨some 46, .nt (.t 45), none⟩] [0, 1, 5, 6, 7, 8, 9, 46])
  (.cond (.t 46) (.seq (.reg [⟨some 4, .asg (.c (.bool false)), none⟩] [4])
  (.ret)) (.skip))))
  (.seq (.reg [⟨some 10, .asg (.c (.int .i64 1)), none⟩] [0, 1, 5, 6, 7, 8, 9, 10])
  (.seq (.reg [⟨some 47, .mv (.t 7), none⟩,
    ⟨some 48, .mv (.t 10), none⟩,
    ⟨some 49, .callO 19 [(.t 47), (.t 48)], none⟩,
    ⟨some 10, .asg (.t 49), none⟩] [0, 1, 5, 6, 8, 9, 10])
  (.seq (.kp [0, 1, 5, 6, 8] (.seq (.reg [⟨some 50, .mv (.t 10), none⟩,
    ⟨some 51, .bin .lss (.t 50) (.c (.int .i64 0)), none⟩,
    ⟨some 52, .mv (.t 51), none⟩,
    ⟨some 53, .mv (.t 8), some (52, false)⟩,
    ⟨some 54, .mv (.t 5), some (52, false)⟩,
    ⟨some 55, .call 23 [(.t 53), (.t 54)], some (52, false)⟩,
    ⟨some 56, .nt (.t 55), some (52, false)⟩,
    ⟨some 57, .pick (.t 52) (.c (.bool true)) (.t 56), none⟩,
    ⟨some 58, .mv (.t 57), none⟩,
    ⟨some 59, .mv (.t 9), some (58, false)⟩,
    ⟨some 60, .mv (.t 6), some (58, false)⟩,
    ⟨some 61, .eqb true (.t 59) (.t 60), some (58, false)⟩,
    ⟨some 62, .pick (.t 58) (.c (.bool true)) (.t 61), none⟩] [0, 1, 5, 6, 8, 62])
  (.cond (.t 62) (.seq (.reg [⟨some 4, .asg (.c (.bool false)), none⟩] [4])
  (.ret)) (.skip))))
  (.seq (.reg [⟨some 11, .asg (.c (.int .i64 1)), none⟩] [0, 1, 5, 6, 8, 11])
  (.seq (.reg [⟨some 63, .mv (.t 8), none⟩,
    ⟨some 64, .mv (.t 11), none⟩,
    ⟨some 65, .callO 24 [(.t 63), (.t 64)], none⟩,
    ⟨some 11, .asg (.t 65), none⟩] [0, 1, 5, 6, 8, 11])
  (.seq (.reg [⟨some 12, .asg (.c (.int .i64 1)), none⟩] [0, 1, 5, 6, 8, 11, 12])
  (.seq (.reg [⟨some 66, .mv (.t 8), none⟩,
    ⟨some 67, .mv (.t 12), none⟩,
    ⟨some 68, .call 25 [(.t 66), (.t 67)], none⟩,
    ⟨some 12, .asg (.t 68), none⟩] [0, 1, 5, 6, 8, 11, 12])
  (.seq (.kp [0, 1, 5, 6, 8, 11, 12] (.seq (.reg [⟨some 69, .mv (.t 12), none⟩,
    ⟨some 70, .bin .lss (.t 69) (.c (.int .i64 0)), none⟩] [0, 1, 5, 6, 8, 11, 12, 70])
  (.cond (.t 70) (.seq (.reg [⟨some 4, .asg (.c (.bool false)), none⟩] [4])
  (.ret)) (.skip))))
  (.seq (.kp [0, 1, 5, 6, 8, 11] (.seq (.reg [⟨some 71, .mv (.t 12), none⟩,
    ⟨some 72, .mv (.t 11), none⟩,
    ⟨some 73, .bin .neq (.t 71) (.t 72), none⟩] [0, 1, 5, 6, 8, 11, 73])
  (.cond (.t 73) (.seq (.reg [⟨some 4, .asg (.c (.bool false)), none⟩] [4])
  (.ret)) (.skip))))
  (.seq (.reg [⟨some 75, .mv (.t 0), none⟩,
    ⟨some 76, .call 16 [(.t 75)], none⟩,
    ⟨some 77, .mv (.t 1), none⟩,
    ⟨some 78, .call 22 [(.t 76), (.t 77)], none⟩,
    ⟨some 74, .mvt 78, none⟩,
    ⟨some 79, .ext 74 0, none⟩,
    ⟨some 80, .ext 74 1, none⟩,
    ⟨some 13, .asg (.t 79), none⟩,
    ⟨some 14, .asg (.t 80), none⟩] [5, 6, 8, 11, 13, 14])
  (.seq (.kp [8, 11] (.seq (.reg [⟨some 81, .mv (.t 13), none⟩,
    ⟨some 82, .mv (.t 5), none⟩,
    ⟨some 83, .call 23 [(.t 81), (.t 82)], none⟩,
    ⟨some 84, .nt (.t 83), none⟩,
    ⟨some 85, .mv (.t 84), none⟩,
    ⟨some 86, .mv (.t 14), some (85, false)⟩,
    ⟨some 87, .mv (.t 6), some (85, false)⟩,
    ⟨some 88, .eqb true (.t 86) (.t 87), some (85, false)⟩,
    ⟨some 89, .pick (.t 85) (.c (.bool true)) (.t 88), none⟩] [8, 11, 89])
  (.cond (.t 89) (.seq (.reg [⟨some 4, .asg (.c (.bool false)), none⟩] [4])
  (.ret)) (.skip))))
  (.seq (.reg [⟨some 12, .asg (.c (.int .i64 1)), none⟩] [8, 11, 12])
  (.seq (.reg [⟨some 90, .mv (.t 8), none⟩,
    ⟨some 91, .mv (.t 12), none⟩,
    ⟨some 92, .call 25 [(.t 90), (.t 91)], none⟩,
    ⟨some 12, .asg (.t 92), none⟩] [11, 12])
  (.seq (.kp [11, 12] (.seq (.reg [⟨some 93, .mv (.t 12), none⟩,
    ⟨some 94, .bin .lss (.t 93) (.c (.int .i64 0)), none⟩] [11, 12, 94])
  (.cond (.t 94) (.seq (.reg [⟨some 4, .asg (.c (.bool false)), none⟩] [4])
  (.ret)) (.skip))))
  (.seq (.kp [] (.seq (.reg [⟨some 95, .mv (.t 12), none⟩,
    ⟨some 96, .mv (.t 11), none⟩,
    ⟨some 97, .bin .neq (.t 95) (.t 96), none⟩] [97])
  (.cond (.t 97) (.seq (.reg [⟨some 4, .asg (.c (.bool false)), none⟩] [4])
  (.ret)) (.skip))))
  (.seq (.reg [⟨some 4, .asg (.c (.bool true)), none⟩] [4])
  (.ret)))))))))))))))))))))))
theorem con_laws_FnExactPartsOf {v0 : (List Int)} {v1 : Int} {r : Bool} (h : sh_laws_FnExactPartsOf v0 v1 = some r) : Con Try.prog 4 [(cLs cI rfl).enc v0, cI.enc v1] [] (rs_laws_FnExactPartsOf r) := by
  delta sh_laws_FnExactPartsOf at h
  refine top (out := none) (f := Try.f4) (m := m4) (rs := [.t 4]) (by kernel_rfl) rfl (by kernel_rfl) (by kernel_rfl) (by kernel_rfl) (by kernel_rfl) (by kernel_rfl) ?_
  exact
   ini [(0, .d ((cLs cI rfl).enc v0)), (1, .d (cI.enc v1))] rfl <| wpC_seq <| reg_s <| x_asg (sc cB false rfl) <| seqN [(0, .d ((cLs cI rfl).enc v0)), (1, .d (cI.enc v1))] (by kernel_rfl) <|
    xn <| wpC_seq <| wpC_kp <| wpC_seq <| reg_s <| st rfl <| mvd rfl rfl <| stw rfl <| lens rfl fun l5 => st rfl <| b_gtr (k := .i64) rfl rfl <| seqN [(0, .d ((cLs cI rfl).enc v0)), (1, .d (cI.enc v1)), (17, .d (cB.enc (decide ((1048576 : Int) < (v0.length : Int)))))] (by kernel_rfl) <|
    xn <| cnd rfl h (fun b6 h => wpC_seq <| reg_s <| x_asg (sc cB true rfl) <| seqN [(4, .d (cB.enc true))] (by kernel_rfl) <|
    xn <| wpC_ret <| rt <| rt <| re <| fin h (r1 (ss rfl rfl) <| r0) rfl)
    (fun b6 h => wpC_skip <| kpN [(0, .d ((cLs cI rfl).enc v0)), (1, .d (cI.enc v1))] (by kernel_rfl) <| xn <| wpC_seq <| reg_s <| st rfl <| mvd rfl rfl <| bnd h fun x11 e12 h => st rfl <| o_call (a1 (c := (cLs cI rfl)) (tLs tK) rfl a0) (con_laws_toIntS e12) (.inl (so1 (sLo sK) so0)) <| st rfl <| mvd rfl rfl <| bnd h fun x13 e14 h => st rfl <| o_call (a1 (c := (cLo cI)) (tLo tK) rfl (a1 (c := cI) tK rfl a0)) (con_spec_PartsOf e14) (.inl (so1 (sLo (sLo sK)) (so1 sB so0))) <| x_mvt rfl <| x_ext rfl rfl <| x_ext rfl rfl <| x_asg (so rfl rfl) <| x_asg (ss rfl rfl) <| seqN [(0, .d ((cLs cI rfl).enc v0)), (1, .d (cI.enc v1)), (5, .d ((cLo (cLo cI)).enc x13.1)), (6, .d (cB.enc x13.2))] (by kernel_rfl) <|
    xn <| wpC_seq <| reg_s <| st rfl <| mvd rfl rfl <| bnd h fun x17 e18 h => st rfl <| o_call (a1 (c := (cLs cI rfl)) (tLs tK) rfl a0) (con_laws_toIntS e18) (.inl (so1 (sLo sK) so0)) <| x_asg (so rfl rfl) <| seqN [(0, .d ((cLs cI rfl).enc v0)), (1, .d (cI.enc v1)), (5, .d ((cLo (cLo cI)).enc x13.1)), (6, .d (cB.enc x13.2)), (7, .d ((cLo cI).enc x17))] (by kernel_rfl) <|
    xn <| wpC_seq <| reg_s <| st rfl <| mvo rfl rfl <| st rfl <| mvd rfl rfl <| bnd h fun x21 e22 h => st rfl <| o_call (a1 (c := (cLo cI)) (tLo tK) rfl (a1 (c := cI) tK rfl a0)) (con_impl_PartsOf e22) (.inl (so1 (sLo (sLo sK)) (so1 sB so0))) <| x_mvt rfl <| x_ext rfl rfl <| x_ext rfl rfl <| x_asg (so rfl rfl) <| x_asg (ss rfl rfl) <| seqN [(0, .d ((cLs cI rfl).enc v0)), (1, .d (cI.enc v1)), (5, .d ((cLo (cLo cI)).enc x13.1)), (6, .d (cB.enc x13.2)), (7, .d ((cLo cI).enc x17)), (8, .d ((cLo (cLo cI)).enc x21.1)), (9, .d (cB.enc x21.2))] (by kernel_rfl) <|
    xn <| wpC_seq <| wpC_kp <| wpC_seq <| reg_s <| st rfl <| mvo rfl rfl <| st rfl <| mvo rfl rfl <| bnd h fun x33 e34 h => st rfl <| o_call (a1 (c := (cLo (cLo cI))) (tLo (tLo tK)) rfl (a1 (c := (cLo (cLo cI))) (tLo (tLo tK)) rfl a0)) (con_laws_eqIntSS e34) (.inl (so1 sB so0)) <| st rfl <| o_nt rfl <| st rfl <| mvd rfl rfl <| ite_k h (fun b35 h => gf rfl b35 <| gf rfl b35 <| gf rfl b35 <| st rfl <| pick1 rfl b35 (cd := cB) (v := true) rfl rfl <| seqN [(0, .d ((cLs cI rfl).enc v0)), (1, .d (cI.enc v1)), (5, .d ((cLo (cLo cI)).enc x13.1)), (6, .d (cB.enc x13.2)), (7, .d ((cLo cI).enc x17)), (8, .d ((cLo (cLo cI)).enc x21.1)), (9, .d (cB.enc x21.2)), (41, .d (cB.enc true))] (by kernel_rfl) <|
    xn <| cnd1 rfl rfl <| wpC_seq <| reg_s <| x_asg (sc cB false rfl) <| seqN [(4, .d (cB.enc false))] (by kernel_rfl) <|
    xn <| wpC_ret <| rt <| rt <| re <| fin h (r1 (ss rfl rfl) <| r0) rfl)
    (fun b35 h => gt' rfl b35 <| st rfl <| mvd rfl rfl <| gt' rfl b35 <| st rfl <| mvd rfl rfl <| gt' rfl b35 <| st rfl <| eqb1 rfl rfl <| st rfl <| pick0 rfl b35 (cd := cB) (v := (x21.2 != x13.2)) rfl rfl <| seqN [(0, .d ((cLs cI rfl).enc v0)), (1, .d (cI.enc v1)), (5, .d ((cLo (cLo cI)).enc x13.1)), (6, .d (cB.enc x13.2)), (7, .d ((cLo cI).enc x17)), (8, .d ((cLo (cLo cI)).enc x21.1)), (9, .d (cB.enc x21.2)), (41, .d (cB.enc (x21.2 != x13.2)))] (by kernel_rfl) <|
    xn <| cnd rfl h (fun b36 h => wpC_seq <| reg_s <| x_asg (sc cB false rfl) <| seqN [(4, .d (cB.enc false))] (by kernel_rfl) <|
    xn <| wpC_ret <| rt <| rt <| re <| fin h (r1 (ss rfl rfl) <| r0) rfl)
    (fun b36 h => wpC_skip <| kpN [(0, .d ((cLs cI rfl).enc v0)), (1, .d (cI.enc v1)), (5, .d ((cLo (cLo cI)).enc x13.1)), (6, .d (cB.enc x13.2)), (7, .d ((cLo cI).enc x17)), (8, .d ((cLo (cLo cI)).enc x21.1)), (9, .d (cB.enc x21.2))] (by kernel_rfl) <| xn <| wpC_seq <| wpC_kp <| wpC_seq <| reg_s <| st rfl <| mvo rfl rfl <| st rfl <| mvd rfl rfl <| bnd h fun x50 e51 h => st rfl <| o_call (a1 (c := (cLs cI rfl)) (tLs tK) rfl a0) (con_laws_toIntS e51) (.inl (so1 (sLo sK) so0)) <| bnd h fun x52 e53 h => st rfl <| o_call (a1 (c := (cLo cI)) (tLo tK) rfl (a1 (c := (cLo cI)) (tLo tK) rfl a0)) (con_laws_eqIntS e53) (.inl (so1 sB so0)) <| st rfl <| o_nt rfl <| seqN [(0, .d ((cLs cI rfl).enc v0)), (1, .d (cI.enc v1)), (5, .d ((cLo (cLo cI)).enc x13.1)), (6, .d (cB.enc x13.2)), (7, .d ((cLo cI).enc x17)), (8, .d ((cLo (cLo cI)).enc x21.1)), (9, .d (cB.enc x21.2)), (46, .d (cB.enc (!x52)))] (by kernel_rfl) <|
    xn <| cnd rfl h (fun b54 h => wpC_seq <| reg_s <| x_asg (sc cB false rfl) <| seqN [(4, .d (cB.enc false))] (by kernel_rfl) <|
    xn <| wpC_ret <| rt <| rt <| re <| fin h (r1 (ss rfl rfl) <| r0) rfl)
    (fun b54 h => wpC_skip <| kpN [(0, .d ((cLs cI rfl).enc v0)), (1, .d (cI.enc v1)), (5, .d ((cLo (cLo cI)).enc x13.1)), (6, .d (cB.enc x13.2)), (7, .d ((cLo cI).enc x17)), (8, .d ((cLo (cLo cI)).enc x21.1)), (9, .d (cB.enc x21.2))] (by kernel_rfl) <| xn <| wpC_seq <| reg_s <| x_asg (sc cI (1 : Int) rfl) <| seqN [(0, .d ((cLs cI rfl).enc v0)), (1, .d (cI.enc v1)), (5, .d ((cLo (cLo cI)).enc x13.1)), (6, .d (cB.enc x13.2)), (7, .d ((cLo cI).enc x17)), (8, .d ((cLo (cLo cI)).enc x21.1)), (9, .d (cB.enc x21.2)), (10, .d (cI.enc (1 : Int)))] (by kernel_rfl) <|
    xn <| wpC_seq <| reg_s <| st rfl <| mvo rfl rfl <| st rfl <| mvd rfl rfl <| bnd h fun x57 e58 h => x_clr (c := (cLo cI)) (c' := (cLo cI)) ((cLo cI).enc x57.1) (sLo sK) rfl (a1 (c := cI) tK rfl a0) rfl Ln.nil (con_laws_markIntS e58) rfl rfl (so1 sK so0) <| x_asg (ss rfl rfl) <| seqN [(0, .d ((cLs cI rfl).enc v0)), (1, .d (cI.enc v1)), (5, .d ((cLo (cLo cI)).enc x13.1)), (6, .d (cB.enc x13.2)), (8, .d ((cLo (cLo cI)).enc x21.1)), (9, .d (cB.enc x21.2)), (10, .d (cI.enc x57.2))] (by kernel_rfl) <|
    xn <| wpC_seq <| wpC_kp <| wpC_seq <| reg_s <| st rfl <| mvd rfl rfl <| st rfl <| b_lss (k := .i64) rfl rfl <| st rfl <| mvd rfl rfl <| ite_k h (fun b71 h => gf rfl b71 <| gf rfl b71 <| gf rfl b71 <| gf rfl b71 <| st rfl <| pick1 rfl b71 (cd := cB) (v := true) rfl rfl <| st rfl <| mvd rfl rfl <| gf rfl rfl <| gf rfl rfl <| gf rfl rfl <| st rfl <| pick1 rfl rfl (cd := cB) (v := true) rfl rfl <| seqN [(0, .d ((cLs cI rfl).enc v0)), (1, .d (cI.enc v1)), (5, .d ((cLo (cLo cI)).enc x13.1)), (6, .d (cB.enc x13.2)), (8, .d ((cLo (cLo cI)).enc x21.1)), (62, .d (cB.enc true))] (by kernel_rfl) <|
    xn <| cnd1 rfl rfl <| wpC_seq <| reg_s <| x_asg (sc cB false rfl) <| seqN [(4, .d (cB.enc false))] (by kernel_rfl) <|
    xn <| wpC_ret <| rt <| rt <| re <| fin h (r1 (ss rfl rfl) <| r0) rfl)
    (fun b71 h => gt' rfl b71 <| st rfl <| mvo rfl rfl <| gt' rfl b71 <| st rfl <| mvo rfl rfl <| gt' rfl b71 <| bnd h fun x72 e73 h => st rfl <| o_call (a1 (c := (cLo (cLo cI))) (tLo (tLo tK)) rfl (a1 (c := (cLo (cLo cI))) (tLo (tLo tK)) rfl a0)) (con_laws_eqIntSS e73) (.inl (so1 sB so0)) <| gt' rfl b71 <| st rfl <| o_nt rfl <| st rfl <| pick0 rfl b71 (cd := cB) (v := (!x72)) rfl rfl <| st rfl <| mvd rfl rfl <| ite_k h (fun b74 h => gf rfl b74 <| gf rfl b74 <| gf rfl b74 <| st rfl <| pick1 rfl b74 (cd := cB) (v := true) rfl rfl <| seqN [(0, .d ((cLs cI rfl).enc v0)), (1, .d (cI.enc v1)), (5, .d ((cLo (cLo cI)).enc x13.1)), (6, .d (cB.enc x13.2)), (8, .d ((cLo (cLo cI)).enc x21.1)), (62, .d (cB.enc true))] (by kernel_rfl) <|
    xn <| cnd1 rfl rfl <| wpC_seq <| reg_s <| x_asg (sc cB false rfl) <| seqN [(4, .d (cB.enc false))] (by kernel_rfl) <|
    xn <| wpC_ret <| rt <| rt <| re <| fin h (r1 (ss rfl rfl) <| r0) rfl)
    (fun b74 h => gt' rfl b74 <| st rfl <| mvd rfl rfl <| gt' rfl b74 <| st rfl <| mvd rfl rfl <| gt' rfl b74 <| st rfl <| eqb1 rfl rfl <| st rfl <| pick0 rfl b74 (cd := cB) (v := (x21.2 != x13.2)) rfl rfl <| seqN [(0, .d ((cLs cI rfl).enc v0)), (1, .d (cI.enc v1)), (5, .d ((cLo (cLo cI)).enc x13.1)), (6, .d (cB.enc x13.2)), (8, .d ((cLo (cLo cI)).enc x21.1)), (62, .d (cB.enc (x21.2 != x13.2)))] (by kernel_rfl) <|
    xn <| cnd0 rfl b36 <| wpC_skip <| kpN [(0, .d ((cLs cI rfl).enc v0)), (1, .d (cI.enc v1)), (5, .d ((cLo (cLo cI)).enc x13.1)), (6, .d (cB.enc x13.2)), (8, .d ((cLo (cLo cI)).enc x21.1))] (by kernel_rfl) <| xn <| wpC_seq <| reg_s <| x_asg (sc cI (1 : Int) rfl) <| seqN [(0, .d ((cLs cI rfl).enc v0)), (1, .d (cI.enc v1)), (5, .d ((cLo (cLo cI)).enc x13.1)), (6, .d (cB.enc x13.2)), (8, .d ((cLo (cLo cI)).enc x21.1)), (11, .d (cI.enc (1 : Int)))] (by kernel_rfl) <|
    xn <| wpC_seq <| reg_s <| st rfl <| mvo rfl rfl <| st rfl <| mvd rfl rfl <| bnd h fun x77 e78 h => x_clr (c := (cLo (cLo cI))) (c' := (cLo (cLo cI))) ((cLo (cLo cI)).enc x77.1) (sLo (sLo sK)) rfl (a1 (c := cI) tK rfl a0) rfl Ln.nil (con_laws_markIntSS e78) rfl rfl (so1 sK so0) <| x_asg (ss rfl rfl) <| seqN [(0, .d ((cLs cI rfl).enc v0)), (1, .d (cI.enc v1)), (5, .d ((cLo (cLo cI)).enc x13.1)), (6, .d (cB.enc x13.2)), (8, .d ((cLo (cLo cI)).enc x77.1)), (11, .d (cI.enc x77.2))] (by kernel_rfl) <|
    xn <| wpC_seq <| reg_s <| x_asg (sc cI (1 : Int) rfl) <| seqN [(0, .d ((cLs cI rfl).enc v0)), (1, .d (cI.enc v1)), (5, .d ((cLo (cLo cI)).enc x13.1)), (6, .d (cB.enc x13.2)), (8, .d ((cLo (cLo cI)).enc x77.1)), (11, .d (cI.enc x77.2)), (12, .d (cI.enc (1 : Int)))] (by kernel_rfl) <|
    xn <| wpC_seq <| reg_s <| st rfl <| mvo rfl rfl <| st rfl <| mvd rfl rfl <| bnd h fun x81 e82 h => st rfl <| o_call (a1 (c := (cLo (cLo cI))) (tLo (tLo tK)) rfl (a1 (c := cI) tK rfl a0)) (con_laws_heldIntSS e82) (.inl (so1 sK so0)) <| x_asg (ss rfl rfl) <| seqN [(0, .d ((cLs cI rfl).enc v0)), (1, .d (cI.enc v1)), (5, .d ((cLo (cLo cI)).enc x13.1)), (6, .d (cB.enc x13.2)), (8, .d ((cLo (cLo cI)).enc x77.1)), (11, .d (cI.enc x77.2)), (12, .d (cI.enc x81))] (by kernel_rfl) <|
    xn <| wpC_seq <| wpC_kp <| wpC_seq <| reg_s <| st rfl <| mvd rfl rfl <| st rfl <| b_lss (k := .i64) rfl rfl <| seqN [(0, .d ((cLs cI rfl).enc v0)), (1, .d (cI.enc v1)), (5, .d ((cLo (cLo cI)).enc x13.1)), (6, .d (cB.enc x13.2)), (8, .d ((cLo (cLo cI)).enc x77.1)), (11, .d (cI.enc x77.2)), (12, .d (cI.enc x81)), (70, .d (cB.enc (decide (x81 < (0 : Int)))))] (by kernel_rfl) <|
    xn <| cnd rfl h (fun b84 h => wpC_seq <| reg_s <| x_asg (sc cB false rfl) <| seqN [(4, .d (cB.enc false))] (by kernel_rfl) <|
    xn <| wpC_ret <| rt <| rt <| re <| fin h (r1 (ss rfl rfl) <| r0) rfl)
    (fun b84 h => wpC_skip <| kpN [(0, .d ((cLs cI rfl).enc v0)), (1, .d (cI.enc v1)), (5, .d ((cLo (cLo cI)).enc x13.1)), (6, .d (cB.enc x13.2)), (8, .d ((cLo (cLo cI)).enc x77.1)), (11, .d (cI.enc x77.2)), (12, .d (cI.enc x81))] (by kernel_rfl) <| xn <| wpC_seq <| wpC_kp <| wpC_seq <| reg_s <| st rfl <| mvd rfl rfl <| st rfl <| mvd rfl rfl <| st rfl <| b_neq (k := .i64) rfl rfl <| seqN [(0, .d ((cLs cI rfl).enc v0)), (1, .d (cI.enc v1)), (5, .d ((cLo (cLo cI)).enc x13.1)), (6, .d (cB.enc x13.2)), (8, .d ((cLo (cLo cI)).enc x77.1)), (11, .d (cI.enc x77.2)), (73, .d (cB.enc (decide (x81 ≠ x77.2))))] (by kernel_rfl) <|
    xn <| cnd rfl h (fun b86 h => wpC_seq <| reg_s <| x_asg (sc cB false rfl) <| seqN [(4, .d (cB.enc false))] (by kernel_rfl) <|
    xn <| wpC_ret <| rt <| rt <| re <| fin h (r1 (ss rfl rfl) <| r0) rfl)
    (fun b86 h => wpC_skip <| kpN [(0, .d ((cLs cI rfl).enc v0)), (1, .d (cI.enc v1)), (5, .d ((cLo (cLo cI)).enc x13.1)), (6, .d (cB.enc x13.2)), (8, .d ((cLo (cLo cI)).enc x77.1)), (11, .d (cI.enc x77.2))] (by kernel_rfl) <| xn <| wpC_seq <| reg_s <| st rfl <| mvd rfl rfl <| bnd h fun x91 e92 h => st rfl <| o_call (a1 (c := (cLs cI rfl)) (tLs tK) rfl a0) (con_laws_toIntS e92) (.inl (so1 (sLo sK) so0)) <| st rfl <| mvd rfl rfl <| bnd h fun x93 e94 h => st rfl <| o_call (a1 (c := (cLo cI)) (tLo tK) rfl (a1 (c := cI) tK rfl a0)) (con_impl_PartsOf e94) (.inl (so1 (sLo (sLo sK)) (so1 sB so0))) <| x_mvt rfl <| x_ext rfl rfl <| x_ext rfl rfl <| x_asg (so rfl rfl) <| x_asg (ss rfl rfl) <| seqN [(5, .d ((cLo (cLo cI)).enc x13.1)), (6, .d (cB.enc x13.2)), (8, .d ((cLo (cLo cI)).enc x77.1)), (11, .d (cI.enc x77.2)), (13, .d ((cLo (cLo cI)).enc x93.1)), (14, .d (cB.enc x93.2))] (by kernel_rfl) <|
    xn <| wpC_seq <| wpC_kp <| wpC_seq <| reg_s <| st rfl <| mvo rfl rfl <| st rfl <| mvo rfl rfl <| bnd h fun x105 e106 h => st rfl <| o_call (a1 (c := (cLo (cLo cI))) (tLo (tLo tK)) rfl (a1 (c := (cLo (cLo cI))) (tLo (tLo tK)) rfl a0)) (con_laws_eqIntSS e106) (.inl (so1 sB so0)) <| st rfl <| o_nt rfl <| st rfl <| mvd rfl rfl <| ite_k h (fun b107 h => gf rfl b107 <| gf rfl b107 <| gf rfl b107 <| st rfl <| pick1 rfl b107 (cd := cB) (v := true) rfl rfl <| seqN [(8, .d ((cLo (cLo cI)).enc x77.1)), (11, .d (cI.enc x77.2)), (89, .d (cB.enc true))] (by kernel_rfl) <|
    xn <| cnd1 rfl rfl <| wpC_seq <| reg_s <| x_asg (sc cB false rfl) <| seqN [(4, .d (cB.enc false))] (by kernel_rfl) <|
    xn <| wpC_ret <| rt <| rt <| re <| fin h (r1 (ss rfl rfl) <| r0) rfl)
    (fun b107 h => gt' rfl b107 <| st rfl <| mvd rfl rfl <| gt' rfl b107 <| st rfl <| mvd rfl rfl <| gt' rfl b107 <| st rfl <| eqb1 rfl rfl <| st rfl <| pick0 rfl b107 (cd := cB) (v := (x93.2 != x13.2)) rfl rfl <| seqN [(8, .d ((cLo (cLo cI)).enc x77.1)), (11, .d (cI.enc x77.2)), (89, .d (cB.enc (x93.2 != x13.2)))] (by kernel_rfl) <|
    xn <| cnd rfl h (fun b108 h => wpC_seq <| reg_s <| x_asg (sc cB false rfl) <| seqN [(4, .d (cB.enc false))] (by kernel_rfl) <|
    xn <| wpC_ret <| rt <| rt <| re <| fin h (r1 (ss rfl rfl) <| r0) rfl)
    (fun b108 h => wpC_skip <| kpN [(8, .d ((cLo (cLo cI)).enc x77.1)), (11, .d (cI.enc x77.2))] (by kernel_rfl) <| xn <| wpC_seq <| reg_s <| x_asg (sc cI (1 : Int) rfl) <| seqN [(8, .d ((cLo (cLo cI)).enc x77.1)), (11, .d (cI.enc x77.2)), (12, .d (cI.enc (1 : Int)))] (by kernel_rfl) <|
    xn <| wpC_seq <| reg_s <| st rfl <| mvo rfl rfl <| st rfl <| mvd rfl rfl <| bnd h fun x111 e112 h => st rfl <| o_call (a1 (c := (cLo (cLo cI))) (tLo (tLo tK)) rfl (a1 (c := cI) tK rfl a0)) (con_laws_heldIntSS e112) (.inl (so1 sK so0)) <| x_asg (ss rfl rfl) <| seqN [(11, .d (cI.enc x77.2)), (12, .d (cI.enc x111))] (by kernel_rfl) <|
    xn <| wpC_seq <| wpC_kp <| wpC_seq <| reg_s <| st rfl <| mvd rfl rfl <| st rfl <| b_lss (k := .i64) rfl rfl <| seqN [(11, .d (cI.enc x77.2)), (12, .d (cI.enc x111)), (94, .d (cB.enc (decide (x111 < (0 : Int)))))] (by kernel_rfl) <|
    xn <| cnd rfl h (fun b114 h => wpC_seq <| reg_s <| x_asg (sc cB false rfl) <| seqN [(4, .d (cB.enc false))] (by kernel_rfl) <|
    xn <| wpC_ret <| rt <| rt <| re <| fin h (r1 (ss rfl rfl) <| r0) rfl)
    (fun b114 h => wpC_skip <| kpN [(11, .d (cI.enc x77.2)), (12, .d (cI.enc x111))] (by kernel_rfl) <| xn <| wpC_seq <| wpC_kp <| wpC_seq <| reg_s <| st rfl <| mvd rfl rfl <| st rfl <| mvd rfl rfl <| st rfl <| b_neq (k := .i64) rfl rfl <| seqN [(97, .d (cB.enc (decide (x111 ≠ x77.2))))] (by kernel_rfl) <|
    xn <| cnd rfl h (fun b116 h => wpC_seq <| reg_s <| x_asg (sc cB false rfl) <| seqN [(4, .d (cB.enc false))] (by kernel_rfl) <|
    xn <| wpC_ret <| rt <| rt <| re <| fin h (r1 (ss rfl rfl) <| r0) rfl)
    (fun b116 h => wpC_skip <| kpN [] (by kernel_rfl) <| xn <| wpC_seq <| reg_s <| x_asg (sc cB true rfl) <| seqN [(4, .d (cB.enc true))] (by kernel_rfl) <|
    xn <| wpC_ret <| re <| fin h (r1 (ss rfl rfl) <| r0) rfl))))))))))))
end AS.W
