/- The program computes the plain functions. No condition. -/
import Derived.Test.YtliinmppiocmcaaDoorQParseReportS
import Derived.Test.YtliinmppiocmcaaDoorProg
import Derived.Test.YtliinmppiocmcaaDoorQParseReportX
import Derived.Test.YtliinmppiocmcaaDoorQParseReportL1
set_option maxRecDepth 100000
set_option linter.unusedVariables false
set_option linter.unusedSimpArgs false
namespace AS.W
open Go Go.Proofs
def rs_spec_nCell (r : (List UInt8)) : List D := [cS.enc r]
def m53 : MC := .seq (.reg [⟨some 4, .box (.t 0), none⟩,
    ⟨some 6, .box (.t 2), none⟩,
    ⟨some 8, .asg (.c (.str [])), none⟩] [1, 3, 4, 6])
  (.seq (.reg [⟨some 16, .ld 4 1 true, none⟩,
    ⟨some 17, .mv (.t 1), none⟩,
    ⟨some 18, .ld 6 4 true, none⟩,
    ⟨some 19, .mv (.t 3), none⟩,
    ⟨some 20, .call 91 [(.t 16), (.t 17), (.t 18), (.t 19)], none⟩,
    ⟨some 15, .mvt 20, none⟩,
    ⟨some 21, .ext 15 0, none⟩,
    ⟨some 22, .ext 15 1, none⟩,
    ⟨some 23, .ext 15 2, none⟩,
    ⟨some 9, .asg (.t 21), none⟩,
    ⟨some 10, .asg (.t 22), none⟩,
    ⟨some 11, .asg (.t 23), none⟩] [1, 6, 9, 10])
  (.seq (.reg [⟨some 24, .mv (.t 9), none⟩,
    ⟨some 25, .call 82 [(.t 24)], none⟩,
    ⟨some 26, .bin .add (.c (.str [97, 114, 101, 97, 32])) (.t 25), none⟩,
    ⟨some 12, .asg (.t 26), none⟩] [1, 6, 10, 12])
  (.seq (.kp [12] (.seq (.reg [⟨some 27, .fa 6 1 1, none⟩,
    ⟨some 28, .ld 27 1 false, none⟩,
    ⟨some 29, .len false (.t 28), none⟩,
    ⟨some 30, .mv (.c (.int .i64 0)), none⟩] [1, 6, 10, 12, 27, 28, 29, 30])
  (.blk 0 (.loop (.seq (.reg [⟨some 31, .bin .lss (.t 30) (.t 29), none⟩] [1, 6, 10, 12, 27, 28, 29, 30, 31])
  (.seq (.kp [1, 6, 10, 12, 27, 28, 29, 30] (.cond (.t 31) (.skip) (.exit 0)))
  (.seq (.kp [1, 6, 10, 12, 27, 28, 29, 30] (.blk 1 (.seq (.reg [⟨some 32, .mv (.t 30), none⟩,
    ⟨some 33, .ia 28 (.t 30) 1, none⟩,
    ⟨some 34, .ld 33 1 false, none⟩,
    ⟨some 13, .asg (.t 32), none⟩,
    ⟨some 14, .asg (.t 34), none⟩] [1, 6, 10, 12, 13, 14, 27, 28, 29, 30])
  (.drw [⟨0, ⟨some 35, .mv (.t 12), none⟩, [36, 37, 38, 39, 40, 41, 42, 43, 44, 45, 46, 47, 48, 49]⟩,
    ⟨1, ⟨some 36, .mv (.t 1), none⟩, [35, 37, 38, 39, 40, 41, 42, 43, 44, 45, 46, 47, 48, 49]⟩,
    ⟨2, ⟨some 37, .mv (.t 14), none⟩, [35, 36, 38, 39, 40, 41, 42, 43, 44, 45, 46, 47, 48, 49]⟩,
    ⟨3, ⟨some 38, .ia 36 (.t 37) 2, none⟩, [35, 39, 40, 41, 42, 43, 44, 45, 46, 47, 48, 49]⟩,
    ⟨4, ⟨some 39, .fa 38 0 0, none⟩, [35, 40, 41, 42, 43, 44, 45, 46, 47, 48, 49]⟩,
    ⟨5, ⟨some 40, .ld 39 1 false, none⟩, [35, 41, 42, 43, 44, 45, 46, 47, 48, 49]⟩,
    ⟨6, ⟨some 41, .bin .add (.c (.str [32])) (.t 40), none⟩, [35, 42, 43, 44, 45, 46, 47, 48, 49]⟩,
    ⟨7, ⟨some 42, .bin .add (.t 41) (.c (.str [61])), none⟩, [35, 43, 44, 45, 46, 47, 48, 49]⟩,
    ⟨8, ⟨some 43, .mv (.t 10), none⟩, [35, 36, 37, 38, 39, 40, 41, 42, 44, 45, 46, 47, 48, 49]⟩,
    ⟨9, ⟨some 44, .mv (.t 13), none⟩, [35, 36, 37, 38, 39, 40, 41, 42, 43, 45, 46, 47, 48, 49]⟩,
    ⟨10, ⟨some 45, .ia 43 (.t 44) 1, none⟩, [35, 36, 37, 38, 39, 40, 41, 42, 46, 47, 48, 49]⟩,
    ⟨11, ⟨some 46, .ld 45 1 false, none⟩, [35, 36, 37, 38, 39, 40, 41, 42, 47, 48, 49]⟩,
    ⟨12, ⟨some 47, .call 82 [(.t 46)], none⟩, [35, 36, 37, 38, 39, 40, 41, 42, 48, 49]⟩,
    ⟨13, ⟨some 48, .bin .add (.t 42) (.t 47), none⟩, [35, 49]⟩,
    ⟨14, ⟨some 49, .bin .add (.t 35) (.t 48), none⟩, []⟩]
    [(15, ⟨some 12, .asg (.t 49), none⟩)] [1, 6, 10, 12, 27, 28, 29, 30]))))
  (.reg [⟨some 50, .bin .add (.t 30) (.c (.int .i64 1)), none⟩,
    ⟨some 30, .mv (.t 50), none⟩] [1, 6, 10, 12, 27, 28, 29, 30]))))))))
  (.seq (.reg [⟨some 51, .mv (.t 12), none⟩,
    ⟨some 8, .asg (.t 51), none⟩] [8])
  (.ret)))))
theorem con_spec_nCell {v0 : XGeo} {v1 : (List XVariable)} {v2 : XTable} {v3 : Int} {r : (List UInt8)} (h : sh_spec_nCell v0 v1 v2 v3 = some r) : Con Tryd.prog 53 [(cXGeo (cLs cI rfl)).enc v0, (cLs (cXVariable cS cI) rfl).enc v1, (cXTable cI (cLs cI rfl) (cLs cI rfl) cI).enc v2, cI.enc v3] [] (rs_spec_nCell r) := by
  delta sh_spec_nCell at h
  refine top (out := none) (f := Tryd.f53) (m := m53) (rs := [.t 8]) (by kernel_rfl) rfl (by kernel_rfl) (by kernel_rfl) (by kernel_rfl) (by kernel_rfl) (by kernel_rfl) ?_
  exact
   ini [(0, .d ((cXGeo (cLs cI rfl)).enc v0)), (1, .d ((cLs (cXVariable cS cI) rfl).enc v1)), (2, .d ((cXTable cI (cLs cI rfl) (cLs cI rfl) cI).enc v2)), (3, .d (cI.enc v3))] rfl <| wpC_seq <| reg_s <| x_box (ss rfl rfl) <| x_box (ss rfl rfl) <| x_asg (sc cS ([] : List UInt8) rfl) <| seqN [(1, .d ((cLs (cXVariable cS cI) rfl).enc v1)), (3, .d (cI.enc v3)), (4, .box ((cXGeo (cLs cI rfl)).enc v0)), (6, .box ((cXTable cI (cLs cI rfl) (cLs cI rfl) cI).enc v2))] (by kernel_rfl) <|
    xn <| wpC_seq <| reg_s <| st rfl <| ldb rfl rfl rfl rfl <| st rfl <| mvd rfl rfl <| st rfl <| ldb rfl rfl rfl rfl <| st rfl <| mvd rfl rfl <| bnd h fun x3 e4 h => st rfl <| o_call (a1 (c := (cXGeo (cLs cI rfl))) (tXGeo (tLs tK)) rfl (a1 (c := (cLs (cXVariable cS cI) rfl)) (tLs (tXVariable tS tK)) rfl (a1 (c := (cXTable cI (cLs cI rfl) (cLs cI rfl) cI)) (tXTable tK (tLs tK) (tLs tK) tK) rfl (a1 (c := cI) tK rfl a0)))) (con_spec_CellAt e4) (.inl (so1 sK (so1 (sLo sK) (so1 sB so0)))) <| x_mvt rfl <| x_ext rfl rfl <| x_ext rfl rfl <| x_ext rfl rfl <| x_asg (ss rfl rfl) <| x_asg (so rfl rfl) <| x_asg (ss rfl rfl) <| seqN [(1, .d ((cLs (cXVariable cS cI) rfl).enc v1)), (6, .box ((cXTable cI (cLs cI rfl) (cLs cI rfl) cI).enc v2)), (9, .d (cI.enc x3.1)), (10, .d ((cLo cI).enc x3.2.1))] (by kernel_rfl) <|
    xn <| wpC_seq <| reg_s <| st rfl <| mvd rfl rfl <| bnd h fun x8 e9 h => st rfl <| o_call (a1 (c := cI) tK rfl a0) (con_spec_l1Num e9) (.inl (so1 sS so0)) <| lnO_k h fun l10 h => st rfl <| b_cat rfl rfl l10 <| x_asg (ss rfl rfl) <| seqN [(1, .d ((cLs (cXVariable cS cI) rfl).enc v1)), (6, .box ((cXTable cI (cLs cI rfl) (cLs cI rfl) cI).enc v2)), (10, .d ((cLo cI).enc x3.2.1)), (12, .d (cS.enc (([97, 114, 101, 97, 32] : List UInt8) ++ x8)))] (by kernel_rfl) <|
    xn <| wpC_seq <| wpC_kp <| wpC_seq <| reg_s <| st rfl <| fab rfl rfl rfl rfl <| st rfl <| lda rfl rfl rfl rfl rfl rfl <| stw rfl <| lens rfl fun l94 => st rfl <| mvc cI (0 : Int) rfl <| seqN [(1, .d ((cLs (cXVariable cS cI) rfl).enc v1)), (6, .box ((cXTable cI (cLs cI rfl) (cLs cI rfl) cI).enc v2)), (10, .d ((cLo cI).enc x3.2.1)), (12, .d (cS.enc (([97, 114, 101, 97, 32] : List UInt8) ++ x8))), (27, .adr 6 [.fld 1]), (28, .d ((cLs cI rfl).enc v2.Vars)), (29, .d (cI.enc (v2.Vars.length : Int))), (30, .d (cI.enc (0 : Int)))] (by kernel_rfl) <|
    xn <| wpC_blk <| lpR (fun (k96 : Nat) (s95 : (List UInt8)) => [(1, .d ((cLs (cXVariable cS cI) rfl).enc v1)), (6, .box ((cXTable cI (cLs cI rfl) (cLs cI rfl) cI).enc v2)), (10, .d ((cLo cI).enc x3.2.1)), (12, .d (cS.enc s95)), (27, .adr 6 [.fld 1]), (28, .d ((cLs cI rfl).enc v2.Vars)), (29, .d (cI.enc (v2.Vars.length : Int))), (30, .d (cI.enc (k96 : Int)))]) (([97, 114, 101, 97, 32] : List UInt8) ++ x8) rfl h
    (fun G150 s95 h => wpC_seq <| reg_s <| st rfl <| b_lss (k := .i64) rfl rfl <| seqN [(1, .d ((cLs (cXVariable cS cI) rfl).enc v1)), (6, .box ((cXTable cI (cLs cI rfl) (cLs cI rfl) cI).enc v2)), (10, .d ((cLo cI).enc x3.2.1)), (12, .d (cS.enc s95)), (27, .adr 6 [.fld 1]), (28, .d ((cLs cI rfl).enc v2.Vars)), (29, .d (cI.enc (v2.Vars.length : Int))), (30, .d (cI.enc (v2.Vars.length : Int))), (31, .d (cB.enc (decide ((v2.Vars.length : Int) < (v2.Vars.length : Int)))))] (by kernel_rfl) <|
    xn <| wpC_seq <| wpC_kp <| cnd0 rfl (dlf _) <| wpC_exit <| xt <| xt <| xt <| xb <| kpN [(12, .d (cS.enc s95))] (by kernel_rfl) <| xn <| wpC_seq <| reg_s <| st rfl <| mvd rfl rfl <| x_asg (ss rfl rfl) <| seqN [(8, .d (cS.enc s95))] (by kernel_rfl) <|
    xn <| wpC_ret <| re <| fin h (r1 (ss rfl rfl) <| r0) rfl)
    (fun G150 nx148 k96 s95 x97 hk98 hx99 hn149 h => wpC_seq <| reg_s <| st rfl <| b_lss (k := .i64) rfl rfl <| seqN [(1, .d ((cLs (cXVariable cS cI) rfl).enc v1)), (6, .box ((cXTable cI (cLs cI rfl) (cLs cI rfl) cI).enc v2)), (10, .d ((cLo cI).enc x3.2.1)), (12, .d (cS.enc s95)), (27, .adr 6 [.fld 1]), (28, .d ((cLs cI rfl).enc v2.Vars)), (29, .d (cI.enc (v2.Vars.length : Int))), (30, .d (cI.enc (k96 : Int))), (31, .d (cB.enc (decide ((k96 : Int) < (v2.Vars.length : Int)))))] (by kernel_rfl) <|
    xn <| wpC_seq <| wpC_kp <| cnd1 rfl (dlt hk98) <| wpC_skip <| kpN [(1, .d ((cLs (cXVariable cS cI) rfl).enc v1)), (6, .box ((cXTable cI (cLs cI rfl) (cLs cI rfl) cI).enc v2)), (10, .d ((cLo cI).enc x3.2.1)), (12, .d (cS.enc s95)), (27, .adr 6 [.fld 1]), (28, .d ((cLs cI rfl).enc v2.Vars)), (29, .d (cI.enc (v2.Vars.length : Int))), (30, .d (cI.enc (k96 : Int)))] (by kernel_rfl) <| xn <| wpC_seq <| wpC_kp <| wpC_blk <| wpC_seq <| reg_s <| st rfl <| mvd rfl rfl <| st rfl <| ias rfl rfl (Int.natCast_nonneg _) hx99 rfl <| st rfl <| ldi rfl rfl rfl rfl <| x_asg (ss rfl rfl) <| x_asg (ss rfl rfl) <| seqN [(1, .d ((cLs (cXVariable cS cI) rfl).enc v1)), (6, .box ((cXTable cI (cLs cI rfl) (cLs cI rfl) cI).enc v2)), (10, .d ((cLo cI).enc x3.2.1)), (12, .d (cS.enc s95)), (13, .d (cI.enc (k96 : Int))), (14, .d (cI.enc x97)), (27, .adr 6 [.fld 1]), (28, .d ((cLs cI rfl).enc v2.Vars)), (29, .d (cI.enc (v2.Vars.length : Int))), (30, .d (cI.enc (k96 : Int)))] (by kernel_rfl) <|
    xn <| drw_s <| pst rfl <| mvd rfl rfl ⟨rfl, pst rfl <| mvd rfl rfl ⟨rfl, pst rfl <| mvd rfl rfl ⟨rfl, getO_kp h fun x163 i164 g165 h => pst rfl <| ias rfl rfl i164 g165 rfl ⟨rfl, pst rfl <| fai rfl rfl rfl rfl ⟨rfl, pst rfl <| ldi rfl rfl rfl rfl ⟨rfl, lnO_kp h fun l166 h => pst rfl <| b_cat rfl rfl l166 ⟨rfl, lnO_kp h fun l167 h => pst rfl <| b_cat rfl rfl l167 ⟨rfl, pst rfl <| mvo rfl rfl ⟨rfl, pst rfl <| mvd rfl rfl ⟨rfl, getO_kp h fun x168 i169 g170 h => pst rfl <| iar rfl rfl rfl rfl i169 g170 rfl ⟨rfl, pst rfl <| lda rfl rfl (Gt.idx g170 Gt.nil) rfl rfl rfl ⟨rfl, bndp h fun x171 e172 h => pst rfl <| o_call (a1 (c := cI) tK rfl a0) (con_spec_l1Num e172) (.inl (so1 sS so0)) ⟨rfl, lnO_kp h fun l173 h => pst rfl <| b_cat rfl rfl l173 ⟨rfl, lnO_kp h fun l174 h => pst rfl <| b_cat rfl rfl l174 ⟨rfl, preN <| x_asg (ss rfl rfl) <| seqN [(1, .d ((cLs (cXVariable cS cI) rfl).enc v1)), (6, .box ((cXTable cI (cLs cI rfl) (cLs cI rfl) cI).enc v2)), (10, .d ((cLo cI).enc x3.2.1)), (12, .d (cS.enc (s95 ++ (((([32] : List UInt8) ++ x163.Name) ++ ([61] : List UInt8)) ++ x171)))), (27, .adr 6 [.fld 1]), (28, .d ((cLs cI rfl).enc v2.Vars)), (29, .d (cI.enc (v2.Vars.length : Int))), (30, .d (cI.enc (k96 : Int)))] (by kernel_rfl) <|
    xbb <| kpN [(1, .d ((cLs (cXVariable cS cI) rfl).enc v1)), (6, .box ((cXTable cI (cLs cI rfl) (cLs cI rfl) cI).enc v2)), (10, .d ((cLo cI).enc x3.2.1)), (12, .d (cS.enc (s95 ++ (((([32] : List UInt8) ++ x163.Name) ++ ([61] : List UInt8)) ++ x171)))), (27, .adr 6 [.fld 1]), (28, .d ((cLs cI rfl).enc v2.Vars)), (29, .d (cI.enc (v2.Vars.length : Int))), (30, .d (cI.enc (k96 : Int)))] (by kernel_rfl) <| xn <| reg_s <| st rfl <| b_inc rfl rfl l94 hk98 <| st rfl <| mvd rfl rfl <| seqN [(1, .d ((cLs (cXVariable cS cI) rfl).enc v1)), (6, .box ((cXTable cI (cLs cI rfl) (cLs cI rfl) cI).enc v2)), (10, .d ((cLo cI).enc x3.2.1)), (12, .d (cS.enc (s95 ++ (((([32] : List UInt8) ++ x163.Name) ++ ([61] : List UInt8)) ++ x171)))), (27, .adr 6 [.fld 1]), (28, .d ((cLs cI rfl).enc v2.Vars)), (29, .d (cI.enc (v2.Vars.length : Int))), (30, .d (cI.enc ((k96 + 1 : Nat) : Int)))] (by kernel_rfl) <|
    xn <| hn149 (s95 ++ (((([32] : List UInt8) ++ x163.Name) ++ ([61] : List UInt8)) ++ x171)) h⟩⟩⟩⟩⟩⟩⟩⟩⟩⟩⟩⟩⟩⟩⟩)

def rs_impl_valuesAt (r : (List Int)) : List D := [(cLo cI).enc r]
def m120 : MC := .seq (.reg [⟨some 4, .asg (.c (.slice true [])), none⟩] [0, 1])
  (.seq (.reg [⟨some 7, .mv (.t 0), none⟩,
    ⟨some 8, .len false (.t 7), none⟩,
    ⟨some 9, .mk (.int .i64 0) (.t 8), none⟩,
    ⟨some 5, .asg (.t 9), none⟩] [0, 1, 5])
  (.seq (.kp [5] (.seq (.reg [⟨some 10, .mv (.t 0), none⟩,
    ⟨some 11, .len false (.t 10), none⟩,
    ⟨some 12, .bin .sub (.t 11) (.c (.int .i64 1)), none⟩,
    ⟨some 6, .asg (.t 12), none⟩] [0, 1, 5, 6])
  (.blk 0 (.loop (.seq (.kp [0, 1, 5, 6] (.seq (.reg [⟨some 13, .mv (.t 6), none⟩,
    ⟨some 14, .bin .geq (.t 13) (.c (.int .i64 0)), none⟩] [0, 1, 5, 6, 14])
  (.cond (.t 14) (.skip) (.exit 0))))
  (.seq (.kp [0, 1, 5, 6] (.blk 1 (.seq (.reg [⟨some 17, .mv (.t 5), none⟩,
    ⟨some 18, .mv (.t 6), none⟩,
    ⟨some 19, .mv (.t 1), none⟩,
    ⟨some 20, .mv (.t 0), none⟩,
    ⟨some 21, .mv (.t 6), none⟩,
    ⟨some 22, .ia 20 (.t 21) 2, none⟩,
    ⟨some 23, .fa 22 1 1, none⟩,
    ⟨some 24, .ld 23 1 false, none⟩,
    ⟨some 25, .bin .rem (.t 19) (.t 24), none⟩,
    ⟨some 26, .ia 17 (.t 18) 1, none⟩,
    ⟨none, .st 26 (.t 25) 1, none⟩] [0, 1, 5, 6])
  (.reg [⟨some 27, .mv (.t 1), none⟩,
    ⟨some 28, .mv (.t 0), none⟩,
    ⟨some 29, .mv (.t 6), none⟩,
    ⟨some 30, .ia 28 (.t 29) 2, none⟩,
    ⟨some 31, .fa 30 1 1, none⟩,
    ⟨some 32, .ld 31 1 false, none⟩,
    ⟨some 33, .bin .quo (.t 27) (.t 32), none⟩,
    ⟨some 1, .asg (.t 33), none⟩] [0, 1, 5, 6]))))
  (.reg [⟨some 15, .mv (.t 6), none⟩,
    ⟨some 16, .bin .sub (.t 15) (.c (.int .i64 1)), none⟩,
    ⟨some 6, .asg (.t 16), none⟩] [0, 1, 5, 6])))))))
  (.seq (.reg [⟨some 34, .mv (.t 5), none⟩,
    ⟨some 4, .asg (.t 34), none⟩] [4])
  (.ret))))
theorem con_impl_valuesAt {v0 : (List XVariable)} {v1 : Int} {r : (List Int)} (h : sh_impl_valuesAt v0 v1 = some r) : Con Tryd.prog 120 [(cLs (cXVariable cS cI) rfl).enc v0, cI.enc v1] [] (rs_impl_valuesAt r) := by
  delta sh_impl_valuesAt at h
  refine top (out := none) (f := Tryd.f120) (m := m120) (rs := [.t 4]) (by kernel_rfl) rfl (by kernel_rfl) (by kernel_rfl) (by kernel_rfl) (by kernel_rfl) (by kernel_rfl) ?_
  exact
   ini [(0, .d ((cLs (cXVariable cS cI) rfl).enc v0)), (1, .d (cI.enc v1))] rfl <| wpC_seq <| reg_s <| x_asg (sc (cLo cI) ([] : List Int) rfl) <| seqN [(0, .d ((cLs (cXVariable cS cI) rfl).enc v0)), (1, .d (cI.enc v1))] (by kernel_rfl) <|
    xn <| wpC_seq <| reg_s <| st rfl <| mvd rfl rfl <| stw rfl <| lens rfl fun l4 => mkO_k h fun i5 l6 h => st rfl <| o_mk (c := cI) (a0 := (0 : Int)) rfl (k := .i64) rfl i5 l6 <| x_asg (so rfl rfl) <| seqN [(0, .d ((cLs (cXVariable cS cI) rfl).enc v0)), (1, .d (cI.enc v1)), (5, .d ((cLo cI).enc (List.replicate ((v0.length : Int)).toNat (0 : Int))))] (by kernel_rfl) <|
    xn <| wpC_seq <| wpC_kp <| wpC_seq <| reg_s <| st rfl <| mvd rfl rfl <| stw rfl <| lens rfl fun l126 => ckI_k h fun i127 h => st rfl <| b_sub (k := .i64) rfl rfl i127 <| x_asg (ss rfl rfl) <| seqN [(0, .d ((cLs (cXVariable cS cI) rfl).enc v0)), (1, .d (cI.enc v1)), (5, .d ((cLo cI).enc (List.replicate ((v0.length : Int)).toNat (0 : Int)))), (6, .d (cI.enc ((v0.length : Int) - (1 : Int))))] (by kernel_rfl) <|
    xn <| wpC_blk <| lpF (fun (s128 : (Int × (List Int) × Int)) => [(0, .d ((cLs (cXVariable cS cI) rfl).enc v0)), (1, .d (cI.enc s128.1)), (5, .d ((cLo cI).enc s128.2.1)), (6, .d (cI.enc s128.2.2))]) (v1, (List.replicate ((v0.length : Int)).toNat (0 : Int)), ((v0.length : Int) - (1 : Int))) rfl h
    fun G205 nx203 s128 hn204 h => wpC_seq <| wpC_kp <| wpC_seq <| reg_s <| st rfl <| mvd rfl rfl <| st rfl <| b_geq (k := .i64) rfl rfl <| seqN [(0, .d ((cLs (cXVariable cS cI) rfl).enc v0)), (1, .d (cI.enc s128.1)), (5, .d ((cLo cI).enc s128.2.1)), (6, .d (cI.enc s128.2.2)), (14, .d (cB.enc (decide ((0 : Int) ≤ s128.2.2))))] (by kernel_rfl) <|
    xn <| cnd rfl h (fun b207 h => wpC_skip <| kpN [(0, .d ((cLs (cXVariable cS cI) rfl).enc v0)), (1, .d (cI.enc s128.1)), (5, .d ((cLo cI).enc s128.2.1)), (6, .d (cI.enc s128.2.2))] (by kernel_rfl) <| xn <| wpC_seq <| wpC_kp <| wpC_blk <| wpC_seq <| reg_s <| st rfl <| mvo rfl rfl <| st rfl <| mvd rfl rfl <| st rfl <| mvd rfl rfl <| st rfl <| mvd rfl rfl <| st rfl <| mvd rfl rfl <| getO_k h fun x231 i232 g233 h => st rfl <| ias rfl rfl i232 g233 rfl <| st rfl <| fai rfl rfl rfl rfl <| st rfl <| ldi rfl rfl rfl rfl <| ck_k h fun i234 h => st rfl <| b_rem (k := .i64) rfl rfl i234 <| getO_k h fun x235 i236 g237 h => st rfl <| iar rfl rfl rfl rfl i236 g237 rfl <| x_sta ((cLo cI).enc (s128.2.1.set (s128.2.2).toNat (s128.1.tmod x231.Levels))) (ss rfl rfl) rfl rfl (Ln.idx g237 Ln.nil) (Cd.h_sz cI _) rfl <| seqN [(0, .d ((cLs (cXVariable cS cI) rfl).enc v0)), (1, .d (cI.enc s128.1)), (5, .d ((cLo cI).enc (s128.2.1.set (s128.2.2).toNat (s128.1.tmod x231.Levels)))), (6, .d (cI.enc s128.2.2))] (by kernel_rfl) <|
    xn <| reg_s <| st rfl <| mvd rfl rfl <| st rfl <| mvd rfl rfl <| st rfl <| mvd rfl rfl <| st rfl <| ias rfl rfl i232 g233 rfl <| st rfl <| fai rfl rfl rfl rfl <| st rfl <| ldi rfl rfl rfl rfl <| ck_k h fun i238 h => ckI_k h fun i239 h => st rfl <| b_quo (k := .i64) rfl rfl i238 i239 <| x_asg (ss rfl rfl) <| seqN [(0, .d ((cLs (cXVariable cS cI) rfl).enc v0)), (1, .d (cI.enc (s128.1.tdiv x231.Levels))), (5, .d ((cLo cI).enc (s128.2.1.set (s128.2.2).toNat (s128.1.tmod x231.Levels)))), (6, .d (cI.enc s128.2.2))] (by kernel_rfl) <|
    xbb <| kpN [(0, .d ((cLs (cXVariable cS cI) rfl).enc v0)), (1, .d (cI.enc (s128.1.tdiv x231.Levels))), (5, .d ((cLo cI).enc (s128.2.1.set (s128.2.2).toNat (s128.1.tmod x231.Levels)))), (6, .d (cI.enc s128.2.2))] (by kernel_rfl) <| xn <| reg_s <| st rfl <| mvd rfl rfl <| ckI_k h fun i240 h => st rfl <| b_sub (k := .i64) rfl rfl i240 <| x_asg (ss rfl rfl) <| seqN [(0, .d ((cLs (cXVariable cS cI) rfl).enc v0)), (1, .d (cI.enc (s128.1.tdiv x231.Levels))), (5, .d ((cLo cI).enc (s128.2.1.set (s128.2.2).toNat (s128.1.tmod x231.Levels)))), (6, .d (cI.enc (s128.2.2 - (1 : Int))))] (by kernel_rfl) <|
    xn <| hn204 ((s128.1.tdiv x231.Levels), (s128.2.1.set (s128.2.2).toNat (s128.1.tmod x231.Levels)), (s128.2.2 - (1 : Int))) h)
    (fun b207 h => wpC_exit <| xt <| xt <| xt <| xb <| kpN [(5, .d ((cLo cI).enc s128.2.1))] (by kernel_rfl) <| xn <| wpC_seq <| reg_s <| st rfl <| mvo rfl rfl <| x_asg (sr rfl rfl) <| seqN [(4, .d ((cLo cI).enc s128.2.1))] (by kernel_rfl) <|
    xn <| wpC_ret <| re <| fin h (r1 (so rfl rfl) <| r0) rfl)

def rs_impl_cellAt (r : (Int × (List Int))) : List D := [cI.enc r.1, (cLo cI).enc r.2]
def m95 : MC := .seq (.reg [⟨some 4, .box (.t 0), none⟩,
    ⟨some 6, .box (.t 2), none⟩,
    ⟨some 8, .asg (.c (.int .i64 0)), none⟩,
    ⟨some 9, .asg (.c (.slice true [])), none⟩] [1, 3, 4, 6])
  (.seq (.reg [⟨some 12, .mv (.t 1), none⟩,
    ⟨some 13, .ld 6 4 true, none⟩,
    ⟨some 14, .call 94 [(.t 12), (.t 13)], none⟩,
    ⟨some 10, .asg (.t 14), none⟩] [3, 4, 6, 10])
  (.seq (.reg [⟨some 15, .mv (.t 10), none⟩,
    ⟨some 16, .call 93 [(.t 15)], none⟩,
    ⟨some 11, .asg (.t 16), none⟩] [3, 4, 6, 10, 11])
  (.seq (.drw [⟨0, ⟨some 17, .ld 4 1 true, none⟩, [18, 19, 20, 21, 22, 23, 24, 25, 26, 27, 28, 29, 30]⟩,
    ⟨1, ⟨some 18, .fa 6 0 0, none⟩, [17, 19, 20, 21, 22, 23, 24, 25, 26, 27, 28, 29, 30]⟩,
    ⟨2, ⟨some 19, .ld 18 1 false, none⟩, [17, 20, 21, 22, 23, 24, 25, 26, 27, 28, 29, 30]⟩,
    ⟨3, ⟨some 20, .call 92 [(.t 17), (.t 19)], none⟩, [21, 22, 23, 24, 25, 26, 27, 28, 29, 30]⟩,
    ⟨4, ⟨some 21, .mv (.t 3), none⟩, [17, 18, 19, 20, 22, 23, 24, 25, 26, 27, 28, 29, 30]⟩,
    ⟨5, ⟨some 22, .mv (.t 11), none⟩, [17, 18, 19, 20, 21, 23, 24, 25, 26, 27, 28, 29, 30]⟩,
    ⟨6, ⟨some 23, .bin .quo (.t 21) (.t 22), none⟩, [17, 18, 19, 20, 24, 25, 26, 27, 28, 29, 30]⟩,
    ⟨7, ⟨some 24, .ia 20 (.t 23) 1, none⟩, [25, 26, 27, 28, 29, 30]⟩,
    ⟨8, ⟨some 25, .ld 24 1 false, none⟩, [26, 27, 28, 29, 30]⟩,
    ⟨9, ⟨some 26, .mv (.t 10), none⟩, [17, 18, 19, 20, 21, 22, 23, 24, 25, 27, 28, 29, 30]⟩,
    ⟨10, ⟨some 27, .mv (.t 3), none⟩, [17, 18, 19, 20, 21, 22, 23, 24, 25, 26, 28, 29, 30]⟩,
    ⟨11, ⟨some 28, .mv (.t 11), none⟩, [17, 18, 19, 20, 21, 22, 23, 24, 25, 26, 27, 29, 30]⟩,
    ⟨12, ⟨some 29, .bin .rem (.t 27) (.t 28), none⟩, [17, 18, 19, 20, 21, 22, 23, 24, 25, 26, 30]⟩,
    ⟨13, ⟨some 30, .call 120 [(.t 26), (.t 29)], none⟩, [21, 22, 23, 24, 25]⟩]
    [(14, ⟨some 8, .asg (.t 25), none⟩),
    (15, ⟨some 9, .asg (.t 30), none⟩)] [8, 9])
  (.ret))))
theorem con_impl_cellAt {v0 : XGeo} {v1 : (List XVariable)} {v2 : XTable} {v3 : Int} {r : (Int × (List Int))} (h : sh_impl_cellAt v0 v1 v2 v3 = some r) : Con Tryd.prog 95 [(cXGeo (cLs cI rfl)).enc v0, (cLs (cXVariable cS cI) rfl).enc v1, (cXTable cI (cLs cI rfl) (cLs cI rfl) cI).enc v2, cI.enc v3] [] (rs_impl_cellAt r) := by
  delta sh_impl_cellAt at h
  refine top (out := none) (f := Tryd.f95) (m := m95) (rs := [.t 8, .t 9]) (by kernel_rfl) rfl (by kernel_rfl) (by kernel_rfl) (by kernel_rfl) (by kernel_rfl) (by kernel_rfl) ?_
  exact
   ini [(0, .d ((cXGeo (cLs cI rfl)).enc v0)), (1, .d ((cLs (cXVariable cS cI) rfl).enc v1)), (2, .d ((cXTable cI (cLs cI rfl) (cLs cI rfl) cI).enc v2)), (3, .d (cI.enc v3))] rfl <| wpC_seq <| reg_s <| x_box (ss rfl rfl) <| x_box (ss rfl rfl) <| x_asg (sc cI (0 : Int) rfl) <| x_asg (sc (cLo cI) ([] : List Int) rfl) <| seqN [(1, .d ((cLs (cXVariable cS cI) rfl).enc v1)), (3, .d (cI.enc v3)), (4, .box ((cXGeo (cLs cI rfl)).enc v0)), (6, .box ((cXTable cI (cLs cI rfl) (cLs cI rfl) cI).enc v2))] (by kernel_rfl) <|
    xn <| wpC_seq <| reg_s <| st rfl <| mvd rfl rfl <| st rfl <| ldb rfl rfl rfl rfl <| bnd h fun x3 e4 h => st rfl <| o_call (a1 (c := (cLs (cXVariable cS cI) rfl)) (tLs (tXVariable tS tK)) rfl (a1 (c := (cXTable cI (cLs cI rfl) (cLs cI rfl) cI)) (tXTable tK (tLs tK) (tLs tK) tK) rfl a0)) (con_impl_crossed e4) (.inl (so1 (sLo (sXVariable sS sK)) so0)) <| x_asg (so rfl rfl) <| seqN [(3, .d (cI.enc v3)), (4, .box ((cXGeo (cLs cI rfl)).enc v0)), (6, .box ((cXTable cI (cLs cI rfl) (cLs cI rfl) cI).enc v2)), (10, .d ((cLo (cXVariable cS cI)).enc x3))] (by kernel_rfl) <|
    xn <| wpC_seq <| reg_s <| st rfl <| mvo rfl rfl <| bnd h fun x7 e8 h => st rfl <| o_call (a1 (c := (cLo (cXVariable cS cI))) (tLo (tXVariable tS tK)) rfl a0) (con_impl_combinations e8) (.inl (so1 sK so0)) <| x_asg (ss rfl rfl) <| seqN [(3, .d (cI.enc v3)), (4, .box ((cXGeo (cLs cI rfl)).enc v0)), (6, .box ((cXTable cI (cLs cI rfl) (cLs cI rfl) cI).enc v2)), (10, .d ((cLo (cXVariable cS cI)).enc x3)), (11, .d (cI.enc x7))] (by kernel_rfl) <|
    xn <| wpC_seq <| drw_s <| pst rfl <| ldb rfl rfl rfl rfl ⟨rfl, pst rfl <| fab rfl rfl rfl rfl ⟨rfl, pst rfl <| lda rfl rfl rfl rfl rfl rfl ⟨rfl, bndp h fun x19 e20 h => pst rfl <| o_call (a1 (c := (cXGeo (cLs cI rfl))) (tXGeo (tLs tK)) rfl (a1 (c := cI) tK rfl a0)) (con_impl_areasAt e20) (.inl (so1 (sLo sK) so0)) ⟨rfl, pst rfl <| mvd rfl rfl ⟨rfl, pst rfl <| mvd rfl rfl ⟨rfl, ck_kp h fun i21 h => ckI_kp h fun i22 h => pst rfl <| b_quo (k := .i64) rfl rfl i21 i22 ⟨rfl, getO_kp h fun x23 i24 g25 h => pst rfl <| iao rfl rfl i24 g25 rfl ⟨rfl, pst rfl <| lda rfl rfl (Gt.idx g25 Gt.nil) rfl rfl rfl ⟨rfl, pst rfl <| mvo rfl rfl ⟨rfl, pst rfl <| mvd rfl rfl ⟨rfl, pst rfl <| mvd rfl rfl ⟨rfl, ck_kp h fun i26 h => pst rfl <| b_rem (k := .i64) rfl rfl i26 ⟨rfl, bndp h fun x27 e28 h => pst rfl <| o_call (a1 (c := (cLo (cXVariable cS cI))) (tLo (tXVariable tS tK)) rfl (a1 (c := cI) tK rfl a0)) (con_impl_valuesAt e28) (.inl (so1 (sLo sK) so0)) ⟨rfl, preN <| x_asg (ss rfl rfl) <| x_asg (so rfl rfl) <| seqN [(8, .d (cI.enc x23)), (9, .d ((cLo cI).enc x27))] (by kernel_rfl) <|
    xn <| wpC_ret <| re <| fin h (r1 (ss rfl rfl) <| r1 (so rfl rfl) <| r0) rfl⟩⟩⟩⟩⟩⟩⟩⟩⟩⟩⟩⟩⟩⟩

def rs_impl_cellText (r : (List UInt8)) : List D := [cS.enc r]
def m55 : MC := .seq (.reg [⟨some 4, .box (.t 0), none⟩,
    ⟨some 6, .box (.t 2), none⟩,
    ⟨some 8, .asg (.c (.str [])), none⟩] [1, 3, 4, 6])
  (.seq (.reg [⟨some 15, .ld 4 1 true, none⟩,
    ⟨some 16, .mv (.t 1), none⟩,
    ⟨some 17, .ld 6 4 true, none⟩,
    ⟨some 18, .mv (.t 3), none⟩,
    ⟨some 19, .call 95 [(.t 15), (.t 16), (.t 17), (.t 18)], none⟩,
    ⟨some 14, .mvt 19, none⟩,
    ⟨some 20, .ext 14 0, none⟩,
    ⟨some 21, .ext 14 1, none⟩,
    ⟨some 9, .asg (.t 20), none⟩,
    ⟨some 10, .asg (.t 21), none⟩] [1, 6, 9, 10])
  (.seq (.reg [⟨some 22, .mv (.t 9), none⟩,
    ⟨some 23, .call 63 [(.t 22)], none⟩,
    ⟨some 24, .bin .add (.c (.str [97, 114, 101, 97, 32])) (.t 23), none⟩,
    ⟨some 11, .asg (.t 24), none⟩] [1, 6, 10, 11])
  (.seq (.kp [11] (.seq (.reg [⟨some 25, .fa 6 1 1, none⟩,
    ⟨some 26, .ld 25 1 false, none⟩,
    ⟨some 27, .len false (.t 26), none⟩,
    ⟨some 28, .mv (.c (.int .i64 0)), none⟩] [1, 6, 10, 11, 25, 26, 27, 28])
  (.blk 0 (.loop (.seq (.reg [⟨some 29, .bin .lss (.t 28) (.t 27), none⟩] [1, 6, 10, 11, 25, 26, 27, 28, 29])
  (.seq (.kp [1, 6, 10, 11, 25, 26, 27, 28] (.cond (.t 29) (.skip) (.exit 0)))
  (.seq (.kp [1, 6, 10, 11, 25, 26, 27, 28] (.blk 1 (.seq (.reg [⟨some 30, .mv (.t 28), none⟩,
    ⟨some 31, .ia 26 (.t 28) 1, none⟩,
    ⟨some 32, .ld 31 1 false, none⟩,
    ⟨some 12, .asg (.t 30), none⟩,
    ⟨some 13, .asg (.t 32), none⟩] [1, 6, 10, 11, 12, 13, 25, 26, 27, 28])
  (.drw [⟨0, ⟨some 33, .mv (.t 11), none⟩, [34, 35, 36, 37, 38, 39, 40, 41, 42, 43, 44, 45, 46, 47]⟩,
    ⟨1, ⟨some 34, .mv (.t 1), none⟩, [33, 35, 36, 37, 38, 39, 40, 41, 42, 43, 44, 45, 46, 47]⟩,
    ⟨2, ⟨some 35, .mv (.t 13), none⟩, [33, 34, 36, 37, 38, 39, 40, 41, 42, 43, 44, 45, 46, 47]⟩,
    ⟨3, ⟨some 36, .ia 34 (.t 35) 2, none⟩, [33, 37, 38, 39, 40, 41, 42, 43, 44, 45, 46, 47]⟩,
    ⟨4, ⟨some 37, .fa 36 0 0, none⟩, [33, 38, 39, 40, 41, 42, 43, 44, 45, 46, 47]⟩,
    ⟨5, ⟨some 38, .ld 37 1 false, none⟩, [33, 39, 40, 41, 42, 43, 44, 45, 46, 47]⟩,
    ⟨6, ⟨some 39, .bin .add (.c (.str [32])) (.t 38), none⟩, [33, 40, 41, 42, 43, 44, 45, 46, 47]⟩,
    ⟨7, ⟨some 40, .bin .add (.t 39) (.c (.str [61])), none⟩, [33, 41, 42, 43, 44, 45, 46, 47]⟩,
    ⟨8, ⟨some 41, .mv (.t 10), none⟩, [33, 34, 35, 36, 37, 38, 39, 40, 42, 43, 44, 45, 46, 47]⟩,
    ⟨9, ⟨some 42, .mv (.t 12), none⟩, [33, 34, 35, 36, 37, 38, 39, 40, 41, 43, 44, 45, 46, 47]⟩,
    ⟨10, ⟨some 43, .ia 41 (.t 42) 1, none⟩, [33, 34, 35, 36, 37, 38, 39, 40, 44, 45, 46, 47]⟩,
    ⟨11, ⟨some 44, .ld 43 1 false, none⟩, [33, 34, 35, 36, 37, 38, 39, 40, 45, 46, 47]⟩,
    ⟨12, ⟨some 45, .call 63 [(.t 44)], none⟩, [33, 34, 35, 36, 37, 38, 39, 40, 46, 47]⟩,
    ⟨13, ⟨some 46, .bin .add (.t 40) (.t 45), none⟩, [33, 47]⟩,
    ⟨14, ⟨some 47, .bin .add (.t 33) (.t 46), none⟩, []⟩]
    [(15, ⟨some 11, .asg (.t 47), none⟩)] [1, 6, 10, 11, 25, 26, 27, 28]))))
  (.reg [⟨some 48, .bin .add (.t 28) (.c (.int .i64 1)), none⟩,
    ⟨some 28, .mv (.t 48), none⟩] [1, 6, 10, 11, 25, 26, 27, 28]))))))))
  (.seq (.reg [⟨some 49, .mv (.t 11), none⟩,
    ⟨some 8, .asg (.t 49), none⟩] [8])
  (.ret)))))
theorem con_impl_cellText {v0 : XGeo} {v1 : (List XVariable)} {v2 : XTable} {v3 : Int} {r : (List UInt8)} (h : sh_impl_cellText v0 v1 v2 v3 = some r) : Con Tryd.prog 55 [(cXGeo (cLs cI rfl)).enc v0, (cLs (cXVariable cS cI) rfl).enc v1, (cXTable cI (cLs cI rfl) (cLs cI rfl) cI).enc v2, cI.enc v3] [] (rs_impl_cellText r) := by
  delta sh_impl_cellText at h
  refine top (out := none) (f := Tryd.f55) (m := m55) (rs := [.t 8]) (by kernel_rfl) rfl (by kernel_rfl) (by kernel_rfl) (by kernel_rfl) (by kernel_rfl) (by kernel_rfl) ?_
  exact
   ini [(0, .d ((cXGeo (cLs cI rfl)).enc v0)), (1, .d ((cLs (cXVariable cS cI) rfl).enc v1)), (2, .d ((cXTable cI (cLs cI rfl) (cLs cI rfl) cI).enc v2)), (3, .d (cI.enc v3))] rfl <| wpC_seq <| reg_s <| x_box (ss rfl rfl) <| x_box (ss rfl rfl) <| x_asg (sc cS ([] : List UInt8) rfl) <| seqN [(1, .d ((cLs (cXVariable cS cI) rfl).enc v1)), (3, .d (cI.enc v3)), (4, .box ((cXGeo (cLs cI rfl)).enc v0)), (6, .box ((cXTable cI (cLs cI rfl) (cLs cI rfl) cI).enc v2))] (by kernel_rfl) <|
    xn <| wpC_seq <| reg_s <| st rfl <| ldb rfl rfl rfl rfl <| st rfl <| mvd rfl rfl <| st rfl <| ldb rfl rfl rfl rfl <| st rfl <| mvd rfl rfl <| bnd h fun x3 e4 h => st rfl <| o_call (a1 (c := (cXGeo (cLs cI rfl))) (tXGeo (tLs tK)) rfl (a1 (c := (cLs (cXVariable cS cI) rfl)) (tLs (tXVariable tS tK)) rfl (a1 (c := (cXTable cI (cLs cI rfl) (cLs cI rfl) cI)) (tXTable tK (tLs tK) (tLs tK) tK) rfl (a1 (c := cI) tK rfl a0)))) (con_impl_cellAt e4) (.inl (so1 sK (so1 (sLo sK) so0))) <| x_mvt rfl <| x_ext rfl rfl <| x_ext rfl rfl <| x_asg (ss rfl rfl) <| x_asg (so rfl rfl) <| seqN [(1, .d ((cLs (cXVariable cS cI) rfl).enc v1)), (6, .box ((cXTable cI (cLs cI rfl) (cLs cI rfl) cI).enc v2)), (9, .d (cI.enc x3.1)), (10, .d ((cLo cI).enc x3.2))] (by kernel_rfl) <|
    xn <| wpC_seq <| reg_s <| st rfl <| mvd rfl rfl <| bnd h fun x8 e9 h => st rfl <| o_call (a1 (c := cI) tK rfl a0) (con_strconv_Itoa e9) (.inl (so1 sS so0)) <| lnO_k h fun l10 h => st rfl <| b_cat rfl rfl l10 <| x_asg (ss rfl rfl) <| seqN [(1, .d ((cLs (cXVariable cS cI) rfl).enc v1)), (6, .box ((cXTable cI (cLs cI rfl) (cLs cI rfl) cI).enc v2)), (10, .d ((cLo cI).enc x3.2)), (11, .d (cS.enc (([97, 114, 101, 97, 32] : List UInt8) ++ x8)))] (by kernel_rfl) <|
    xn <| wpC_seq <| wpC_kp <| wpC_seq <| reg_s <| st rfl <| fab rfl rfl rfl rfl <| st rfl <| lda rfl rfl rfl rfl rfl rfl <| stw rfl <| lens rfl fun l94 => st rfl <| mvc cI (0 : Int) rfl <| seqN [(1, .d ((cLs (cXVariable cS cI) rfl).enc v1)), (6, .box ((cXTable cI (cLs cI rfl) (cLs cI rfl) cI).enc v2)), (10, .d ((cLo cI).enc x3.2)), (11, .d (cS.enc (([97, 114, 101, 97, 32] : List UInt8) ++ x8))), (25, .adr 6 [.fld 1]), (26, .d ((cLs cI rfl).enc v2.Vars)), (27, .d (cI.enc (v2.Vars.length : Int))), (28, .d (cI.enc (0 : Int)))] (by kernel_rfl) <|
    xn <| wpC_blk <| lpR (fun (k96 : Nat) (s95 : (List UInt8)) => [(1, .d ((cLs (cXVariable cS cI) rfl).enc v1)), (6, .box ((cXTable cI (cLs cI rfl) (cLs cI rfl) cI).enc v2)), (10, .d ((cLo cI).enc x3.2)), (11, .d (cS.enc s95)), (25, .adr 6 [.fld 1]), (26, .d ((cLs cI rfl).enc v2.Vars)), (27, .d (cI.enc (v2.Vars.length : Int))), (28, .d (cI.enc (k96 : Int)))]) (([97, 114, 101, 97, 32] : List UInt8) ++ x8) rfl h
    (fun G150 s95 h => wpC_seq <| reg_s <| st rfl <| b_lss (k := .i64) rfl rfl <| seqN [(1, .d ((cLs (cXVariable cS cI) rfl).enc v1)), (6, .box ((cXTable cI (cLs cI rfl) (cLs cI rfl) cI).enc v2)), (10, .d ((cLo cI).enc x3.2)), (11, .d (cS.enc s95)), (25, .adr 6 [.fld 1]), (26, .d ((cLs cI rfl).enc v2.Vars)), (27, .d (cI.enc (v2.Vars.length : Int))), (28, .d (cI.enc (v2.Vars.length : Int))), (29, .d (cB.enc (decide ((v2.Vars.length : Int) < (v2.Vars.length : Int)))))] (by kernel_rfl) <|
    xn <| wpC_seq <| wpC_kp <| cnd0 rfl (dlf _) <| wpC_exit <| xt <| xt <| xt <| xb <| kpN [(11, .d (cS.enc s95))] (by kernel_rfl) <| xn <| wpC_seq <| reg_s <| st rfl <| mvd rfl rfl <| x_asg (ss rfl rfl) <| seqN [(8, .d (cS.enc s95))] (by kernel_rfl) <|
    xn <| wpC_ret <| re <| fin h (r1 (ss rfl rfl) <| r0) rfl)
    (fun G150 nx148 k96 s95 x97 hk98 hx99 hn149 h => wpC_seq <| reg_s <| st rfl <| b_lss (k := .i64) rfl rfl <| seqN [(1, .d ((cLs (cXVariable cS cI) rfl).enc v1)), (6, .box ((cXTable cI (cLs cI rfl) (cLs cI rfl) cI).enc v2)), (10, .d ((cLo cI).enc x3.2)), (11, .d (cS.enc s95)), (25, .adr 6 [.fld 1]), (26, .d ((cLs cI rfl).enc v2.Vars)), (27, .d (cI.enc (v2.Vars.length : Int))), (28, .d (cI.enc (k96 : Int))), (29, .d (cB.enc (decide ((k96 : Int) < (v2.Vars.length : Int)))))] (by kernel_rfl) <|
    xn <| wpC_seq <| wpC_kp <| cnd1 rfl (dlt hk98) <| wpC_skip <| kpN [(1, .d ((cLs (cXVariable cS cI) rfl).enc v1)), (6, .box ((cXTable cI (cLs cI rfl) (cLs cI rfl) cI).enc v2)), (10, .d ((cLo cI).enc x3.2)), (11, .d (cS.enc s95)), (25, .adr 6 [.fld 1]), (26, .d ((cLs cI rfl).enc v2.Vars)), (27, .d (cI.enc (v2.Vars.length : Int))), (28, .d (cI.enc (k96 : Int)))] (by kernel_rfl) <| xn <| wpC_seq <| wpC_kp <| wpC_blk <| wpC_seq <| reg_s <| st rfl <| mvd rfl rfl <| st rfl <| ias rfl rfl (Int.natCast_nonneg _) hx99 rfl <| st rfl <| ldi rfl rfl rfl rfl <| x_asg (ss rfl rfl) <| x_asg (ss rfl rfl) <| seqN [(1, .d ((cLs (cXVariable cS cI) rfl).enc v1)), (6, .box ((cXTable cI (cLs cI rfl) (cLs cI rfl) cI).enc v2)), (10, .d ((cLo cI).enc x3.2)), (11, .d (cS.enc s95)), (12, .d (cI.enc (k96 : Int))), (13, .d (cI.enc x97)), (25, .adr 6 [.fld 1]), (26, .d ((cLs cI rfl).enc v2.Vars)), (27, .d (cI.enc (v2.Vars.length : Int))), (28, .d (cI.enc (k96 : Int)))] (by kernel_rfl) <|
    xn <| drw_s <| pst rfl <| mvd rfl rfl ⟨rfl, pst rfl <| mvd rfl rfl ⟨rfl, pst rfl <| mvd rfl rfl ⟨rfl, getO_kp h fun x163 i164 g165 h => pst rfl <| ias rfl rfl i164 g165 rfl ⟨rfl, pst rfl <| fai rfl rfl rfl rfl ⟨rfl, pst rfl <| ldi rfl rfl rfl rfl ⟨rfl, lnO_kp h fun l166 h => pst rfl <| b_cat rfl rfl l166 ⟨rfl, lnO_kp h fun l167 h => pst rfl <| b_cat rfl rfl l167 ⟨rfl, pst rfl <| mvo rfl rfl ⟨rfl, pst rfl <| mvd rfl rfl ⟨rfl, getO_kp h fun x168 i169 g170 h => pst rfl <| iar rfl rfl rfl rfl i169 g170 rfl ⟨rfl, pst rfl <| lda rfl rfl (Gt.idx g170 Gt.nil) rfl rfl rfl ⟨rfl, bndp h fun x171 e172 h => pst rfl <| o_call (a1 (c := cI) tK rfl a0) (con_strconv_Itoa e172) (.inl (so1 sS so0)) ⟨rfl, lnO_kp h fun l173 h => pst rfl <| b_cat rfl rfl l173 ⟨rfl, lnO_kp h fun l174 h => pst rfl <| b_cat rfl rfl l174 ⟨rfl, preN <| x_asg (ss rfl rfl) <| seqN [(1, .d ((cLs (cXVariable cS cI) rfl).enc v1)), (6, .box ((cXTable cI (cLs cI rfl) (cLs cI rfl) cI).enc v2)), (10, .d ((cLo cI).enc x3.2)), (11, .d (cS.enc (s95 ++ (((([32] : List UInt8) ++ x163.Name) ++ ([61] : List UInt8)) ++ x171)))), (25, .adr 6 [.fld 1]), (26, .d ((cLs cI rfl).enc v2.Vars)), (27, .d (cI.enc (v2.Vars.length : Int))), (28, .d (cI.enc (k96 : Int)))] (by kernel_rfl) <|
    xbb <| kpN [(1, .d ((cLs (cXVariable cS cI) rfl).enc v1)), (6, .box ((cXTable cI (cLs cI rfl) (cLs cI rfl) cI).enc v2)), (10, .d ((cLo cI).enc x3.2)), (11, .d (cS.enc (s95 ++ (((([32] : List UInt8) ++ x163.Name) ++ ([61] : List UInt8)) ++ x171)))), (25, .adr 6 [.fld 1]), (26, .d ((cLs cI rfl).enc v2.Vars)), (27, .d (cI.enc (v2.Vars.length : Int))), (28, .d (cI.enc (k96 : Int)))] (by kernel_rfl) <| xn <| reg_s <| st rfl <| b_inc rfl rfl l94 hk98 <| st rfl <| mvd rfl rfl <| seqN [(1, .d ((cLs (cXVariable cS cI) rfl).enc v1)), (6, .box ((cXTable cI (cLs cI rfl) (cLs cI rfl) cI).enc v2)), (10, .d ((cLo cI).enc x3.2)), (11, .d (cS.enc (s95 ++ (((([32] : List UInt8) ++ x163.Name) ++ ([61] : List UInt8)) ++ x171)))), (25, .adr 6 [.fld 1]), (26, .d ((cLs cI rfl).enc v2.Vars)), (27, .d (cI.enc (v2.Vars.length : Int))), (28, .d (cI.enc ((k96 + 1 : Nat) : Int)))] (by kernel_rfl) <|
    xn <| hn149 (s95 ++ (((([32] : List UInt8) ++ x163.Name) ++ ([61] : List UInt8)) ++ x171)) h⟩⟩⟩⟩⟩⟩⟩⟩⟩⟩⟩⟩⟩⟩⟩)

def rs_spec_l1All (r : Bool) : List D := [cB.enc r]
def m97 : MC := .seq (.reg [⟨some 6, .asg (.c (.bool false)), none⟩] [0, 1, 2])
  (.seq (.kp [] (.seq (.reg [⟨some 9, .mv (.t 0), none⟩,
    ⟨some 10, .len false (.t 9), none⟩,
    ⟨some 11, .mv (.c (.int .i64 0)), none⟩] [0, 1, 2, 9, 10, 11])
  (.blk 0 (.loop (.seq (.reg [⟨some 12, .bin .lss (.t 11) (.t 10), none⟩] [0, 1, 2, 9, 10, 11, 12])
  (.seq (.kp [0, 1, 2, 9, 10, 11] (.cond (.t 12) (.skip) (.exit 0)))
  (.seq (.kp [0, 1, 2, 9, 10, 11] (.blk 1 (.seq (.reg [⟨some 13, .ia 9 (.t 11) 1, none⟩,
    ⟨some 14, .ld 13 1 false, none⟩,
    ⟨some 8, .asg (.t 14), none⟩] [0, 1, 2, 8, 9, 10, 11])
  (.seq (.reg [⟨some 15, .mv (.t 8), none⟩,
    ⟨some 16, .mv (.t 1), none⟩,
    ⟨some 17, .mv (.t 2), none⟩,
    ⟨some 18, .call 51 [(.t 15), (.t 16), (.t 17)], none⟩,
    ⟨some 19, .nt (.t 18), none⟩] [0, 1, 2, 9, 10, 11, 19])
  (.cond (.t 19) (.seq (.reg [⟨some 6, .asg (.c (.bool false)), none⟩] [6])
  (.ret)) (.skip))))))
  (.reg [⟨some 20, .bin .add (.t 11) (.c (.int .i64 1)), none⟩,
    ⟨some 11, .mv (.t 20), none⟩] [0, 1, 2, 9, 10, 11]))))))))
  (.seq (.reg [⟨some 6, .asg (.c (.bool true)), none⟩] [6])
  (.ret)))
theorem con_spec_l1All {v0 : (List Int)} {v1 : Int} {v2 : Int} {r : Bool} (h : sh_spec_l1All v0 v1 v2 = some r) : Con Tryd.prog 97 [(cLs cI rfl).enc v0, cI.enc v1, cI.enc v2] [] (rs_spec_l1All r) := by
  delta sh_spec_l1All at h
  refine top (out := none) (f := Tryd.f97) (m := m97) (rs := [.t 6]) (by kernel_rfl) rfl (by kernel_rfl) (by kernel_rfl) (by kernel_rfl) (by kernel_rfl) (by kernel_rfl) ?_
  exact
   ini [(0, .d ((cLs cI rfl).enc v0)), (1, .d (cI.enc v1)), (2, .d (cI.enc v2))] rfl <| wpC_seq <| reg_s <| x_asg (sc cB false rfl) <| seqN [(0, .d ((cLs cI rfl).enc v0)), (1, .d (cI.enc v1)), (2, .d (cI.enc v2))] (by kernel_rfl) <|
    xn <| wpC_seq <| wpC_kp <| wpC_seq <| reg_s <| st rfl <| mvd rfl rfl <| stw rfl <| lens rfl fun l32 => st rfl <| mvc cI (0 : Int) rfl <| seqN [(0, .d ((cLs cI rfl).enc v0)), (1, .d (cI.enc v1)), (2, .d (cI.enc v2)), (9, .d ((cLs cI rfl).enc v0)), (10, .d (cI.enc (v0.length : Int))), (11, .d (cI.enc (0 : Int)))] (by kernel_rfl) <|
    xn <| wpC_blk <| lpR (fun (k34 : Nat) (s33 : Unit) => [(0, .d ((cLs cI rfl).enc v0)), (1, .d (cI.enc v1)), (2, .d (cI.enc v2)), (9, .d ((cLs cI rfl).enc v0)), (10, .d (cI.enc (v0.length : Int))), (11, .d (cI.enc (k34 : Int)))]) () rfl h
    (fun G50 s33 h => wpC_seq <| reg_s <| st rfl <| b_lss (k := .i64) rfl rfl <| seqN [(0, .d ((cLs cI rfl).enc v0)), (1, .d (cI.enc v1)), (2, .d (cI.enc v2)), (9, .d ((cLs cI rfl).enc v0)), (10, .d (cI.enc (v0.length : Int))), (11, .d (cI.enc (v0.length : Int))), (12, .d (cB.enc (decide ((v0.length : Int) < (v0.length : Int)))))] (by kernel_rfl) <|
    xn <| wpC_seq <| wpC_kp <| cnd0 rfl (dlf _) <| wpC_exit <| xt <| xt <| xt <| xb <| kpN [] (by kernel_rfl) <| xn <| wpC_seq <| reg_s <| x_asg (sc cB true rfl) <| seqN [(6, .d (cB.enc true))] (by kernel_rfl) <|
    xn <| wpC_ret <| re <| fin h (r1 (ss rfl rfl) <| r0) rfl)
    (fun G50 nx48 k34 s33 x35 hk36 hx37 hn49 h => wpC_seq <| reg_s <| st rfl <| b_lss (k := .i64) rfl rfl <| seqN [(0, .d ((cLs cI rfl).enc v0)), (1, .d (cI.enc v1)), (2, .d (cI.enc v2)), (9, .d ((cLs cI rfl).enc v0)), (10, .d (cI.enc (v0.length : Int))), (11, .d (cI.enc (k34 : Int))), (12, .d (cB.enc (decide ((k34 : Int) < (v0.length : Int)))))] (by kernel_rfl) <|
    xn <| wpC_seq <| wpC_kp <| cnd1 rfl (dlt hk36) <| wpC_skip <| kpN [(0, .d ((cLs cI rfl).enc v0)), (1, .d (cI.enc v1)), (2, .d (cI.enc v2)), (9, .d ((cLs cI rfl).enc v0)), (10, .d (cI.enc (v0.length : Int))), (11, .d (cI.enc (k34 : Int)))] (by kernel_rfl) <| xn <| wpC_seq <| wpC_kp <| wpC_blk <| wpC_seq <| reg_s <| st rfl <| ias rfl rfl (Int.natCast_nonneg _) hx37 rfl <| st rfl <| ldi rfl rfl rfl rfl <| x_asg (ss rfl rfl) <| seqN [(0, .d ((cLs cI rfl).enc v0)), (1, .d (cI.enc v1)), (2, .d (cI.enc v2)), (8, .d (cI.enc x35)), (9, .d ((cLs cI rfl).enc v0)), (10, .d (cI.enc (v0.length : Int))), (11, .d (cI.enc (k34 : Int)))] (by kernel_rfl) <|
    xn <| wpC_seq <| reg_s <| st rfl <| mvd rfl rfl <| st rfl <| mvd rfl rfl <| st rfl <| mvd rfl rfl <| bnd h fun x58 e59 h => st rfl <| o_call (a1 (c := cI) tK rfl (a1 (c := cI) tK rfl (a1 (c := cI) tK rfl a0))) (con_spec_l1In e59) (.inl (so1 sB so0)) <| st rfl <| o_nt rfl <| seqN [(0, .d ((cLs cI rfl).enc v0)), (1, .d (cI.enc v1)), (2, .d (cI.enc v2)), (9, .d ((cLs cI rfl).enc v0)), (10, .d (cI.enc (v0.length : Int))), (11, .d (cI.enc (k34 : Int))), (19, .d (cB.enc (!x58)))] (by kernel_rfl) <|
    xn <| cnd rfl h (fun b60 h => wpC_seq <| reg_s <| x_asg (sc cB false rfl) <| seqN [(6, .d (cB.enc false))] (by kernel_rfl) <|
    xn <| wpC_ret <| rb <| rt <| rt <| rt <| rb <| rt <| rt <| re <| fin h (r1 (ss rfl rfl) <| r0) rfl)
    (fun b60 h => wpC_skip <| xbb <| kpN [(0, .d ((cLs cI rfl).enc v0)), (1, .d (cI.enc v1)), (2, .d (cI.enc v2)), (9, .d ((cLs cI rfl).enc v0)), (10, .d (cI.enc (v0.length : Int))), (11, .d (cI.enc (k34 : Int)))] (by kernel_rfl) <| xn <| reg_s <| st rfl <| b_inc rfl rfl l32 hk36 <| st rfl <| mvd rfl rfl <| seqN [(0, .d ((cLs cI rfl).enc v0)), (1, .d (cI.enc v1)), (2, .d (cI.enc v2)), (9, .d ((cLs cI rfl).enc v0)), (10, .d (cI.enc (v0.length : Int))), (11, .d (cI.enc ((k34 + 1 : Nat) : Int)))] (by kernel_rfl) <|
    xn <| hn49 () h))

def rs_spec_nCells (r : Bool) : List D := [cB.enc r]
def m59 : MC := .seq (.reg [⟨some 4, .box (.t 0), none⟩,
    ⟨some 6, .box (.t 2), none⟩,
    ⟨some 8, .asg (.c (.bool false)), none⟩] [1, 3, 4, 6])
  (.seq (.reg [⟨some 9, .ld 4 1 true, none⟩,
    ⟨some 10, .mv (.t 1), none⟩,
    ⟨some 11, .ld 6 4 true, none⟩,
    ⟨some 12, .call 45 [(.t 9), (.t 10), (.t 11)], none⟩,
    ⟨some 13, .mv (.t 12), none⟩,
    ⟨some 14, .mv (.t 3), some (13, true)⟩,
    ⟨some 15, .len false (.t 14), some (13, true)⟩,
    ⟨some 16, .ld 4 1 true, some (13, true)⟩,
    ⟨some 17, .mv (.t 1), some (13, true)⟩,
    ⟨some 18, .ld 6 4 true, some (13, true)⟩,
    ⟨some 19, .call 52 [(.t 16), (.t 17), (.t 18)], some (13, true)⟩,
    ⟨some 20, .bin .eql (.t 15) (.t 19), some (13, true)⟩,
    ⟨some 21, .pick (.t 13) (.t 20) (.c (.bool false)), none⟩,
    ⟨some 22, .mv (.t 21), none⟩,
    ⟨some 23, .mv (.t 3), some (22, true)⟩,
    ⟨some 24, .call 97 [(.t 23), (.c (.int .i64 (-1000000))), (.c (.int .i64 1000000))], some (22, true)⟩,
    ⟨some 25, .pick (.t 22) (.t 24) (.c (.bool false)), none⟩,
    ⟨some 8, .asg (.t 25), none⟩] [8])
  (.ret))
theorem con_spec_nCells {v0 : XGeo} {v1 : (List XVariable)} {v2 : XTable} {v3 : (List Int)} {r : Bool} (h : sh_spec_nCells v0 v1 v2 v3 = some r) : Con Tryd.prog 59 [(cXGeo (cLs cI rfl)).enc v0, (cLs (cXVariable cS cI) rfl).enc v1, (cXTable cI (cLs cI rfl) (cLs cI rfl) cI).enc v2, (cLs cI rfl).enc v3] [] (rs_spec_nCells r) := by
  delta sh_spec_nCells at h
  refine top (out := none) (f := Tryd.f59) (m := m59) (rs := [.t 8]) (by kernel_rfl) rfl (by kernel_rfl) (by kernel_rfl) (by kernel_rfl) (by kernel_rfl) (by kernel_rfl) ?_
  exact
   ini [(0, .d ((cXGeo (cLs cI rfl)).enc v0)), (1, .d ((cLs (cXVariable cS cI) rfl).enc v1)), (2, .d ((cXTable cI (cLs cI rfl) (cLs cI rfl) cI).enc v2)), (3, .d ((cLs cI rfl).enc v3))] rfl <| wpC_seq <| reg_s <| x_box (ss rfl rfl) <| x_box (ss rfl rfl) <| x_asg (sc cB false rfl) <| seqN [(1, .d ((cLs (cXVariable cS cI) rfl).enc v1)), (3, .d ((cLs cI rfl).enc v3)), (4, .box ((cXGeo (cLs cI rfl)).enc v0)), (6, .box ((cXTable cI (cLs cI rfl) (cLs cI rfl) cI).enc v2))] (by kernel_rfl) <|
    xn <| wpC_seq <| reg_s <| st rfl <| ldb rfl rfl rfl rfl <| st rfl <| mvd rfl rfl <| st rfl <| ldb rfl rfl rfl rfl <| bnd h fun x10 e11 h => st rfl <| o_call (a1 (c := (cXGeo (cLs cI rfl))) (tXGeo (tLs tK)) rfl (a1 (c := (cLs (cXVariable cS cI) rfl)) (tLs (tXVariable tS tK)) rfl (a1 (c := (cXTable cI (cLs cI rfl) (cLs cI rfl) cI)) (tXTable tK (tLs tK) (tLs tK) tK) rfl a0))) (con_spec_uGood e11) (.inl (so1 sB so0)) <| st rfl <| mvd rfl rfl <| ite_k h (fun b12 h => gt' rfl b12 <| st rfl <| mvd rfl rfl <| gt' rfl b12 <| stw rfl <| lens rfl fun l13 => gt' rfl b12 <| st rfl <| ldb rfl rfl rfl rfl <| gt' rfl b12 <| st rfl <| mvd rfl rfl <| gt' rfl b12 <| st rfl <| ldb rfl rfl rfl rfl <| gt' rfl b12 <| bnd h fun x14 e15 h => st rfl <| o_call (a1 (c := (cXGeo (cLs cI rfl))) (tXGeo (tLs tK)) rfl (a1 (c := (cLs (cXVariable cS cI) rfl)) (tLs (tXVariable tS tK)) rfl (a1 (c := (cXTable cI (cLs cI rfl) (cLs cI rfl) cI)) (tXTable tK (tLs tK) (tLs tK) tK) rfl a0))) (con_spec_uCount e15) (.inl (so1 sK so0)) <| gt' rfl b12 <| st rfl <| b_eql (k := .i64) rfl rfl <| st rfl <| pick1 rfl b12 (cd := cB) (v := (decide ((v3.length : Int) = x14))) rfl rfl <| st rfl <| mvd rfl rfl <| ite_k h (fun b16 h => gt' rfl b16 <| st rfl <| mvd rfl rfl <| gt' rfl b16 <| bnd h fun x17 e18 h => st rfl <| o_call (a1 (c := (cLs cI rfl)) (tLs tK) rfl (a1 (c := cI) tK rfl (a1 (c := cI) tK rfl a0))) (con_spec_l1All e18) (.inl (so1 sB so0)) <| st rfl <| pick1 rfl b16 (cd := cB) (v := x17) rfl rfl <| x_asg (ss rfl rfl) <| seqN [(8, .d (cB.enc x17))] (by kernel_rfl) <|
    xn <| wpC_ret <| re <| fin h (r1 (ss rfl rfl) <| r0) rfl)
    (fun b16 h => gf rfl b16 <| gf rfl b16 <| st rfl <| pick0 rfl b16 (cd := cB) (v := false) rfl rfl <| x_asg (ss rfl rfl) <| seqN [(8, .d (cB.enc false))] (by kernel_rfl) <|
    xn <| wpC_ret <| re <| fin h (r1 (ss rfl rfl) <| r0) rfl))
    (fun b12 h => gf rfl b12 <| gf rfl b12 <| gf rfl b12 <| gf rfl b12 <| gf rfl b12 <| gf rfl b12 <| gf rfl b12 <| st rfl <| pick0 rfl b12 (cd := cB) (v := false) rfl rfl <| st rfl <| mvd rfl rfl <| gf rfl rfl <| gf rfl rfl <| st rfl <| pick0 rfl rfl (cd := cB) (v := false) rfl rfl <| x_asg (ss rfl rfl) <| seqN [(8, .d (cB.enc false))] (by kernel_rfl) <|
    xn <| wpC_ret <| re <| fin h (r1 (ss rfl rfl) <| r0) rfl)

def rs_spec_nSigned (r : (List UInt8)) : List D := [cS.enc r]
def m98 : MC := .seq (.reg [⟨some 2, .asg (.c (.str [])), none⟩] [0])
  (.seq (.kp [0] (.seq (.reg [⟨some 3, .mv (.t 0), none⟩,
    ⟨some 4, .bin .lss (.t 3) (.c (.int .i64 0)), none⟩] [0, 4])
  (.cond (.t 4) (.seq (.reg [⟨some 5, .mv (.t 0), none⟩,
    ⟨some 6, .neg (.t 5), none⟩,
    ⟨some 7, .call 82 [(.t 6)], none⟩,
    ⟨some 8, .bin .add (.c (.str [45])) (.t 7), none⟩,
    ⟨some 2, .asg (.t 8), none⟩] [2])
  (.ret)) (.skip))))
  (.seq (.reg [⟨some 9, .mv (.t 0), none⟩,
    ⟨some 10, .call 82 [(.t 9)], none⟩,
    ⟨some 2, .asg (.t 10), none⟩] [2])
  (.ret)))
theorem con_spec_nSigned {v0 : Int} {r : (List UInt8)} (h : sh_spec_nSigned v0 = some r) : Con Tryd.prog 98 [cI.enc v0] [] (rs_spec_nSigned r) := by
  delta sh_spec_nSigned at h
  refine top (out := none) (f := Tryd.f98) (m := m98) (rs := [.t 2]) (by kernel_rfl) rfl (by kernel_rfl) (by kernel_rfl) (by kernel_rfl) (by kernel_rfl) (by kernel_rfl) ?_
  exact
   ini [(0, .d (cI.enc v0))] rfl <| wpC_seq <| reg_s <| x_asg (sc cS ([] : List UInt8) rfl) <| seqN [(0, .d (cI.enc v0))] (by kernel_rfl) <|
    xn <| wpC_seq <| wpC_kp <| wpC_seq <| reg_s <| st rfl <| mvd rfl rfl <| st rfl <| b_lss (k := .i64) rfl rfl <| seqN [(0, .d (cI.enc v0)), (4, .d (cB.enc (decide (v0 < (0 : Int)))))] (by kernel_rfl) <|
    xn <| cnd rfl h (fun b10 h => wpC_seq <| reg_s <| st rfl <| mvd rfl rfl <| ckI_k h fun i15 h => st rfl <| o_neg (k := .i64) rfl i15 <| bnd h fun x16 e17 h => st rfl <| o_call (a1 (c := cI) tK rfl a0) (con_spec_l1Num e17) (.inl (so1 sS so0)) <| lnO_k h fun l18 h => st rfl <| b_cat rfl rfl l18 <| x_asg (ss rfl rfl) <| seqN [(2, .d (cS.enc (([45] : List UInt8) ++ x16)))] (by kernel_rfl) <|
    xn <| wpC_ret <| rt <| rt <| re <| fin h (r1 (ss rfl rfl) <| r0) rfl)
    (fun b10 h => wpC_skip <| kpN [(0, .d (cI.enc v0))] (by kernel_rfl) <| xn <| wpC_seq <| reg_s <| st rfl <| mvd rfl rfl <| bnd h fun x21 e22 h => st rfl <| o_call (a1 (c := cI) tK rfl a0) (con_spec_l1Num e22) (.inl (so1 sS so0)) <| x_asg (ss rfl rfl) <| seqN [(2, .d (cS.enc x21))] (by kernel_rfl) <|
    xn <| wpC_ret <| re <| fin h (r1 (ss rfl rfl) <| r0) rfl)

def rs_spec_nReport (r : (List UInt8)) : List D := [cS.enc r]
def m60 : MC := .seq (.reg [⟨some 4, .box (.t 0), none⟩,
    ⟨some 6, .box (.t 2), none⟩,
    ⟨some 8, .asg (.c (.str [])), none⟩] [1, 3, 4, 6])
  (.seq (.reg [⟨some 9, .asg (.c (.str [])), none⟩] [1, 3, 4, 6, 9])
  (.seq (.kp [9] (.seq (.reg [⟨some 12, .mv (.t 3), none⟩,
    ⟨some 13, .len false (.t 12), none⟩,
    ⟨some 14, .mv (.c (.int .i64 0)), none⟩] [1, 3, 4, 6, 9, 12, 13, 14])
  (.blk 0 (.loop (.seq (.reg [⟨some 15, .bin .lss (.t 14) (.t 13), none⟩] [1, 3, 4, 6, 9, 12, 13, 14, 15])
  (.seq (.kp [1, 3, 4, 6, 9, 12, 13, 14] (.cond (.t 15) (.skip) (.exit 0)))
  (.seq (.kp [1, 3, 4, 6, 9, 12, 13, 14] (.blk 1 (.seq (.reg [⟨some 16, .mv (.t 14), none⟩,
    ⟨some 17, .ia 12 (.t 14) 1, none⟩,
    ⟨some 18, .ld 17 1 false, none⟩,
    ⟨some 10, .asg (.t 16), none⟩,
    ⟨some 11, .asg (.t 18), none⟩] [1, 3, 4, 6, 9, 10, 11, 12, 13, 14])
  (.reg [⟨some 19, .mv (.t 9), none⟩,
    ⟨some 20, .ld 4 1 true, none⟩,
    ⟨some 21, .mv (.t 1), none⟩,
    ⟨some 22, .ld 6 4 true, none⟩,
    ⟨some 23, .mv (.t 10), none⟩,
    ⟨some 24, .call 53 [(.t 20), (.t 21), (.t 22), (.t 23)], none⟩,
    ⟨some 25, .bin .add (.t 24) (.c (.str [58, 32])), none⟩,
    ⟨some 26, .mv (.t 11), none⟩,
    ⟨some 27, .call 98 [(.t 26)], none⟩,
    ⟨some 28, .bin .add (.t 25) (.t 27), none⟩,
    ⟨some 29, .bin .add (.t 28) (.c (.str [10])), none⟩,
    ⟨some 30, .bin .add (.t 19) (.t 29), none⟩,
    ⟨some 9, .asg (.t 30), none⟩] [1, 3, 4, 6, 9, 12, 13, 14]))))
  (.reg [⟨some 31, .bin .add (.t 14) (.c (.int .i64 1)), none⟩,
    ⟨some 14, .mv (.t 31), none⟩] [1, 3, 4, 6, 9, 12, 13, 14]))))))))
  (.seq (.reg [⟨some 32, .mv (.t 9), none⟩,
    ⟨some 8, .asg (.t 32), none⟩] [8])
  (.ret))))
theorem con_spec_nReport {v0 : XGeo} {v1 : (List XVariable)} {v2 : XTable} {v3 : (List Int)} {r : (List UInt8)} (h : sh_spec_nReport v0 v1 v2 v3 = some r) : Con Tryd.prog 60 [(cXGeo (cLs cI rfl)).enc v0, (cLs (cXVariable cS cI) rfl).enc v1, (cXTable cI (cLs cI rfl) (cLs cI rfl) cI).enc v2, (cLs cI rfl).enc v3] [] (rs_spec_nReport r) := by
  delta sh_spec_nReport at h
  refine top (out := none) (f := Tryd.f60) (m := m60) (rs := [.t 8]) (by kernel_rfl) rfl (by kernel_rfl) (by kernel_rfl) (by kernel_rfl) (by kernel_rfl) (by kernel_rfl) ?_
  exact
   ini [(0, .d ((cXGeo (cLs cI rfl)).enc v0)), (1, .d ((cLs (cXVariable cS cI) rfl).enc v1)), (2, .d ((cXTable cI (cLs cI rfl) (cLs cI rfl) cI).enc v2)), (3, .d ((cLs cI rfl).enc v3))] rfl <| wpC_seq <| reg_s <| x_box (ss rfl rfl) <| x_box (ss rfl rfl) <| x_asg (sc cS ([] : List UInt8) rfl) <| seqN [(1, .d ((cLs (cXVariable cS cI) rfl).enc v1)), (3, .d ((cLs cI rfl).enc v3)), (4, .box ((cXGeo (cLs cI rfl)).enc v0)), (6, .box ((cXTable cI (cLs cI rfl) (cLs cI rfl) cI).enc v2))] (by kernel_rfl) <|
    xn <| wpC_seq <| reg_s <| x_asg (sc cS ([] : List UInt8) rfl) <| seqN [(1, .d ((cLs (cXVariable cS cI) rfl).enc v1)), (3, .d ((cLs cI rfl).enc v3)), (4, .box ((cXGeo (cLs cI rfl)).enc v0)), (6, .box ((cXTable cI (cLs cI rfl) (cLs cI rfl) cI).enc v2)), (9, .d (cS.enc ([] : List UInt8)))] (by kernel_rfl) <|
    xn <| wpC_seq <| wpC_kp <| wpC_seq <| reg_s <| st rfl <| mvd rfl rfl <| stw rfl <| lens rfl fun l60 => st rfl <| mvc cI (0 : Int) rfl <| seqN [(1, .d ((cLs (cXVariable cS cI) rfl).enc v1)), (3, .d ((cLs cI rfl).enc v3)), (4, .box ((cXGeo (cLs cI rfl)).enc v0)), (6, .box ((cXTable cI (cLs cI rfl) (cLs cI rfl) cI).enc v2)), (9, .d (cS.enc ([] : List UInt8))), (12, .d ((cLs cI rfl).enc v3)), (13, .d (cI.enc (v3.length : Int))), (14, .d (cI.enc (0 : Int)))] (by kernel_rfl) <|
    xn <| wpC_blk <| lpR (fun (k62 : Nat) (s61 : (List UInt8)) => [(1, .d ((cLs (cXVariable cS cI) rfl).enc v1)), (3, .d ((cLs cI rfl).enc v3)), (4, .box ((cXGeo (cLs cI rfl)).enc v0)), (6, .box ((cXTable cI (cLs cI rfl) (cLs cI rfl) cI).enc v2)), (9, .d (cS.enc s61)), (12, .d ((cLs cI rfl).enc v3)), (13, .d (cI.enc (v3.length : Int))), (14, .d (cI.enc (k62 : Int)))]) ([] : List UInt8) rfl h
    (fun G100 s61 h => wpC_seq <| reg_s <| st rfl <| b_lss (k := .i64) rfl rfl <| seqN [(1, .d ((cLs (cXVariable cS cI) rfl).enc v1)), (3, .d ((cLs cI rfl).enc v3)), (4, .box ((cXGeo (cLs cI rfl)).enc v0)), (6, .box ((cXTable cI (cLs cI rfl) (cLs cI rfl) cI).enc v2)), (9, .d (cS.enc s61)), (12, .d ((cLs cI rfl).enc v3)), (13, .d (cI.enc (v3.length : Int))), (14, .d (cI.enc (v3.length : Int))), (15, .d (cB.enc (decide ((v3.length : Int) < (v3.length : Int)))))] (by kernel_rfl) <|
    xn <| wpC_seq <| wpC_kp <| cnd0 rfl (dlf _) <| wpC_exit <| xt <| xt <| xt <| xb <| kpN [(9, .d (cS.enc s61))] (by kernel_rfl) <| xn <| wpC_seq <| reg_s <| st rfl <| mvd rfl rfl <| x_asg (ss rfl rfl) <| seqN [(8, .d (cS.enc s61))] (by kernel_rfl) <|
    xn <| wpC_ret <| re <| fin h (r1 (ss rfl rfl) <| r0) rfl)
    (fun G100 nx98 k62 s61 x63 hk64 hx65 hn99 h => wpC_seq <| reg_s <| st rfl <| b_lss (k := .i64) rfl rfl <| seqN [(1, .d ((cLs (cXVariable cS cI) rfl).enc v1)), (3, .d ((cLs cI rfl).enc v3)), (4, .box ((cXGeo (cLs cI rfl)).enc v0)), (6, .box ((cXTable cI (cLs cI rfl) (cLs cI rfl) cI).enc v2)), (9, .d (cS.enc s61)), (12, .d ((cLs cI rfl).enc v3)), (13, .d (cI.enc (v3.length : Int))), (14, .d (cI.enc (k62 : Int))), (15, .d (cB.enc (decide ((k62 : Int) < (v3.length : Int)))))] (by kernel_rfl) <|
    xn <| wpC_seq <| wpC_kp <| cnd1 rfl (dlt hk64) <| wpC_skip <| kpN [(1, .d ((cLs (cXVariable cS cI) rfl).enc v1)), (3, .d ((cLs cI rfl).enc v3)), (4, .box ((cXGeo (cLs cI rfl)).enc v0)), (6, .box ((cXTable cI (cLs cI rfl) (cLs cI rfl) cI).enc v2)), (9, .d (cS.enc s61)), (12, .d ((cLs cI rfl).enc v3)), (13, .d (cI.enc (v3.length : Int))), (14, .d (cI.enc (k62 : Int)))] (by kernel_rfl) <| xn <| wpC_seq <| wpC_kp <| wpC_blk <| wpC_seq <| reg_s <| st rfl <| mvd rfl rfl <| st rfl <| ias rfl rfl (Int.natCast_nonneg _) hx65 rfl <| st rfl <| ldi rfl rfl rfl rfl <| x_asg (ss rfl rfl) <| x_asg (ss rfl rfl) <| seqN [(1, .d ((cLs (cXVariable cS cI) rfl).enc v1)), (3, .d ((cLs cI rfl).enc v3)), (4, .box ((cXGeo (cLs cI rfl)).enc v0)), (6, .box ((cXTable cI (cLs cI rfl) (cLs cI rfl) cI).enc v2)), (9, .d (cS.enc s61)), (10, .d (cI.enc (k62 : Int))), (11, .d (cI.enc x63)), (12, .d ((cLs cI rfl).enc v3)), (13, .d (cI.enc (v3.length : Int))), (14, .d (cI.enc (k62 : Int)))] (by kernel_rfl) <|
    xn <| reg_s <| st rfl <| mvd rfl rfl <| st rfl <| ldb rfl rfl rfl rfl <| st rfl <| mvd rfl rfl <| st rfl <| ldb rfl rfl rfl rfl <| st rfl <| mvd rfl rfl <| bnd h fun x109 e110 h => st rfl <| o_call (a1 (c := (cXGeo (cLs cI rfl))) (tXGeo (tLs tK)) rfl (a1 (c := (cLs (cXVariable cS cI) rfl)) (tLs (tXVariable tS tK)) rfl (a1 (c := (cXTable cI (cLs cI rfl) (cLs cI rfl) cI)) (tXTable tK (tLs tK) (tLs tK) tK) rfl (a1 (c := cI) tK rfl a0)))) (con_spec_nCell e110) (.inl (so1 sS so0)) <| lnO_k h fun l111 h => st rfl <| b_cat rfl rfl l111 <| st rfl <| mvd rfl rfl <| bnd h fun x112 e113 h => st rfl <| o_call (a1 (c := cI) tK rfl a0) (con_spec_nSigned e113) (.inl (so1 sS so0)) <| lnO_k h fun l114 h => st rfl <| b_cat rfl rfl l114 <| lnO_k h fun l115 h => st rfl <| b_cat rfl rfl l115 <| lnO_k h fun l116 h => st rfl <| b_cat rfl rfl l116 <| x_asg (ss rfl rfl) <| seqN [(1, .d ((cLs (cXVariable cS cI) rfl).enc v1)), (3, .d ((cLs cI rfl).enc v3)), (4, .box ((cXGeo (cLs cI rfl)).enc v0)), (6, .box ((cXTable cI (cLs cI rfl) (cLs cI rfl) cI).enc v2)), (9, .d (cS.enc (s61 ++ (((x109 ++ ([58, 32] : List UInt8)) ++ x112) ++ ([10] : List UInt8))))), (12, .d ((cLs cI rfl).enc v3)), (13, .d (cI.enc (v3.length : Int))), (14, .d (cI.enc (k62 : Int)))] (by kernel_rfl) <|
    xbb <| kpN [(1, .d ((cLs (cXVariable cS cI) rfl).enc v1)), (3, .d ((cLs cI rfl).enc v3)), (4, .box ((cXGeo (cLs cI rfl)).enc v0)), (6, .box ((cXTable cI (cLs cI rfl) (cLs cI rfl) cI).enc v2)), (9, .d (cS.enc (s61 ++ (((x109 ++ ([58, 32] : List UInt8)) ++ x112) ++ ([10] : List UInt8))))), (12, .d ((cLs cI rfl).enc v3)), (13, .d (cI.enc (v3.length : Int))), (14, .d (cI.enc (k62 : Int)))] (by kernel_rfl) <| xn <| reg_s <| st rfl <| b_inc rfl rfl l60 hk64 <| st rfl <| mvd rfl rfl <| seqN [(1, .d ((cLs (cXVariable cS cI) rfl).enc v1)), (3, .d ((cLs cI rfl).enc v3)), (4, .box ((cXGeo (cLs cI rfl)).enc v0)), (6, .box ((cXTable cI (cLs cI rfl) (cLs cI rfl) cI).enc v2)), (9, .d (cS.enc (s61 ++ (((x109 ++ ([58, 32] : List UInt8)) ++ x112) ++ ([10] : List UInt8))))), (12, .d ((cLs cI rfl).enc v3)), (13, .d (cI.enc (v3.length : Int))), (14, .d (cI.enc ((k62 + 1 : Nat) : Int)))] (by kernel_rfl) <|
    xn <| hn99 (s61 ++ (((x109 ++ ([58, 32] : List UInt8)) ++ x112) ++ ([10] : List UInt8))) h)

def rs_spec_nDigits (r : Int) : List D := [cI.enc r]
def m66 : MC := .seq (.reg [⟨some 2, .asg (.c (.int .i64 0)), none⟩] [0])
  (.seq (.reg [⟨some 3, .asg (.c (.int .i64 1)), none⟩,
    ⟨some 4, .asg (.c (.int .i64 0)), none⟩] [0, 3, 4])
  (.seq (.kp [3, 4] (.seq (.reg [⟨some 5, .asg (.c (.int .i64 0)), none⟩] [0, 3, 4, 5])
  (.blk 0 (.loop (.seq (.kp [0, 3, 4, 5] (.seq (.reg [⟨some 6, .mv (.t 5), none⟩,
    ⟨some 7, .mv (.t 0), none⟩,
    ⟨some 8, .len true (.t 7), none⟩,
    ⟨some 9, .bin .lss (.t 6) (.t 8), none⟩,
    ⟨some 10, .mv (.t 9), none⟩,
    ⟨some 11, .mv (.t 5), some (10, true)⟩,
    ⟨some 12, .bin .lss (.t 11) (.c (.int .i64 9)), some (10, true)⟩,
    ⟨some 13, .pick (.t 10) (.t 12) (.c (.bool false)), none⟩] [0, 3, 4, 5, 13])
  (.cond (.t 13) (.skip) (.exit 0))))
  (.seq (.kp [0, 3, 4, 5] (.blk 1 (.seq (.reg [⟨some 16, .mv (.t 0), none⟩,
    ⟨some 17, .mv (.t 5), none⟩,
    ⟨some 18, .ix (.t 16) (.t 17), none⟩,
    ⟨some 19, .bin .eql (.t 18) (.c (.int .u8 45)), none⟩] [0, 3, 4, 5, 19])
  (.cond (.t 19) (.reg [⟨some 3, .asg (.c (.int .i64 (-1))), none⟩] [0, 3, 4, 5]) (.reg [⟨some 20, .mv (.t 4), none⟩,
    ⟨some 21, .bin .mul (.c (.int .i64 10)) (.t 20), none⟩,
    ⟨some 22, .mv (.t 0), none⟩,
    ⟨some 23, .mv (.t 5), none⟩,
    ⟨some 24, .ix (.t 22) (.t 23), none⟩,
    ⟨some 25, .cvi .i64 (.t 24), none⟩,
    ⟨some 26, .bin .add (.t 21) (.t 25), none⟩,
    ⟨some 27, .bin .sub (.t 26) (.c (.int .i64 48)), none⟩,
    ⟨some 4, .asg (.t 27), none⟩] [0, 3, 4, 5])))))
  (.reg [⟨some 14, .mv (.t 5), none⟩,
    ⟨some 15, .bin .add (.t 14) (.c (.int .i64 1)), none⟩,
    ⟨some 5, .asg (.t 15), none⟩] [0, 3, 4, 5])))))))
  (.seq (.reg [⟨some 28, .mv (.t 3), none⟩,
    ⟨some 29, .mv (.t 4), none⟩,
    ⟨some 30, .bin .mul (.t 28) (.t 29), none⟩,
    ⟨some 2, .asg (.t 30), none⟩] [2])
  (.ret))))
theorem con_spec_nDigits {v0 : (List UInt8)} {r : Int} (h : sh_spec_nDigits v0 = some r) : Con Tryd.prog 66 [cS.enc v0] [] (rs_spec_nDigits r) := by
  delta sh_spec_nDigits at h
  refine top (out := none) (f := Tryd.f66) (m := m66) (rs := [.t 2]) (by kernel_rfl) rfl (by kernel_rfl) (by kernel_rfl) (by kernel_rfl) (by kernel_rfl) (by kernel_rfl) ?_
  exact
   ini [(0, .d (cS.enc v0))] rfl <| wpC_seq <| reg_s <| x_asg (sc cI (0 : Int) rfl) <| seqN [(0, .d (cS.enc v0))] (by kernel_rfl) <|
    xn <| wpC_seq <| reg_s <| x_asg (sc cI (1 : Int) rfl) <| x_asg (sc cI (0 : Int) rfl) <| seqN [(0, .d (cS.enc v0)), (3, .d (cI.enc (1 : Int))), (4, .d (cI.enc (0 : Int)))] (by kernel_rfl) <|
    xn <| wpC_seq <| wpC_kp <| wpC_seq <| reg_s <| x_asg (sc cI (0 : Int) rfl) <| seqN [(0, .d (cS.enc v0)), (3, .d (cI.enc (1 : Int))), (4, .d (cI.enc (0 : Int))), (5, .d (cI.enc (0 : Int)))] (by kernel_rfl) <|
    xn <| wpC_blk <| lpF (fun (s111 : (Int × Int × Int)) => [(0, .d (cS.enc v0)), (3, .d (cI.enc s111.1)), (4, .d (cI.enc s111.2.1)), (5, .d (cI.enc s111.2.2))]) ((1 : Int), (0 : Int), (0 : Int)) rfl h
    fun G186 nx184 s111 hn185 h => wpC_seq <| wpC_kp <| wpC_seq <| reg_s <| st rfl <| mvd rfl rfl <| st rfl <| mvd rfl rfl <| stw rfl <| lent rfl fun l194 => st rfl <| b_lss (k := .i64) rfl rfl <| st rfl <| mvd rfl rfl <| ite_k h (fun b195 h => gt' rfl b195 <| st rfl <| mvd rfl rfl <| gt' rfl b195 <| st rfl <| b_lss (k := .i64) rfl rfl <| st rfl <| pick1 rfl b195 (cd := cB) (v := (decide (s111.2.2 < (9 : Int)))) rfl rfl <| seqN [(0, .d (cS.enc v0)), (3, .d (cI.enc s111.1)), (4, .d (cI.enc s111.2.1)), (5, .d (cI.enc s111.2.2)), (13, .d (cB.enc (decide (s111.2.2 < (9 : Int)))))] (by kernel_rfl) <|
    xn <| cnd rfl h (fun b196 h => wpC_skip <| kpN [(0, .d (cS.enc v0)), (3, .d (cI.enc s111.1)), (4, .d (cI.enc s111.2.1)), (5, .d (cI.enc s111.2.2))] (by kernel_rfl) <| xn <| wpC_seq <| wpC_kp <| wpC_blk <| wpC_seq <| reg_s <| st rfl <| mvd rfl rfl <| st rfl <| mvd rfl rfl <| getO_k h fun x211 i212 g213 h => st rfl <| o_ix (k := .i64) rfl rfl i212 g213 <| st rfl <| b_eql (k := .u8) rfl rfl <| seqN [(0, .d (cS.enc v0)), (3, .d (cI.enc s111.1)), (4, .d (cI.enc s111.2.1)), (5, .d (cI.enc s111.2.2)), (19, .d (cB.enc (decide ((x211.toNat : Int) = (45 : Int)))))] (by kernel_rfl) <|
    xn <| cnd rfl h (fun b214 h => reg_s <| x_asg (sc cI (-1 : Int) rfl) <| seqN [(0, .d (cS.enc v0)), (3, .d (cI.enc (-1 : Int))), (4, .d (cI.enc s111.2.1)), (5, .d (cI.enc s111.2.2))] (by kernel_rfl) <|
    xbb <| kpN [(0, .d (cS.enc v0)), (3, .d (cI.enc (-1 : Int))), (4, .d (cI.enc s111.2.1)), (5, .d (cI.enc s111.2.2))] (by kernel_rfl) <| xn <| reg_s <| st rfl <| mvd rfl rfl <| ckI_k h fun i215 h => st rfl <| b_add (k := .i64) rfl rfl i215 <| x_asg (ss rfl rfl) <| seqN [(0, .d (cS.enc v0)), (3, .d (cI.enc (-1 : Int))), (4, .d (cI.enc s111.2.1)), (5, .d (cI.enc (s111.2.2 + (1 : Int))))] (by kernel_rfl) <|
    xn <| hn185 ((-1 : Int), s111.2.1, (s111.2.2 + (1 : Int))) h)
    (fun b214 h => reg_s <| st rfl <| mvd rfl rfl <| ckI_k h fun i216 h => st rfl <| b_mul (k := .i64) rfl rfl i216 <| st rfl <| mvd rfl rfl <| st rfl <| mvd rfl rfl <| st rfl <| o_ix (k := .i64) rfl rfl i212 g213 <| ckI_k h fun i217 h => st rfl <| o_cvi (k := .u8) (k' := .i64) rfl i217 <| ckI_k h fun i218 h => st rfl <| b_add (k := .i64) rfl rfl i218 <| ckI_k h fun i219 h => st rfl <| b_sub (k := .i64) rfl rfl i219 <| x_asg (ss rfl rfl) <| seqN [(0, .d (cS.enc v0)), (3, .d (cI.enc s111.1)), (4, .d (cI.enc ((((10 : Int) * s111.2.1) + (x211.toNat : Int)) - (48 : Int)))), (5, .d (cI.enc s111.2.2))] (by kernel_rfl) <|
    xbb <| kpN [(0, .d (cS.enc v0)), (3, .d (cI.enc s111.1)), (4, .d (cI.enc ((((10 : Int) * s111.2.1) + (x211.toNat : Int)) - (48 : Int)))), (5, .d (cI.enc s111.2.2))] (by kernel_rfl) <| xn <| reg_s <| st rfl <| mvd rfl rfl <| ckI_k h fun i220 h => st rfl <| b_add (k := .i64) rfl rfl i220 <| x_asg (ss rfl rfl) <| seqN [(0, .d (cS.enc v0)), (3, .d (cI.enc s111.1)), (4, .d (cI.enc ((((10 : Int) * s111.2.1) + (x211.toNat : Int)) - (48 : Int)))), (5, .d (cI.enc (s111.2.2 + (1 : Int))))] (by kernel_rfl) <|
    xn <| hn185 (s111.1, ((((10 : Int) * s111.2.1) + (x211.toNat : Int)) - (48 : Int)), (s111.2.2 + (1 : Int))) h))
    (fun b196 h => wpC_exit <| xt <| xt <| xt <| xb <| kpN [(3, .d (cI.enc s111.1)), (4, .d (cI.enc s111.2.1))] (by kernel_rfl) <| xn <| wpC_seq <| reg_s <| st rfl <| mvd rfl rfl <| st rfl <| mvd rfl rfl <| ckI_k h fun i222 h => st rfl <| b_mul (k := .i64) rfl rfl i222 <| x_asg (ss rfl rfl) <| seqN [(2, .d (cI.enc (s111.1 * s111.2.1)))] (by kernel_rfl) <|
    xn <| wpC_ret <| re <| fin h (r1 (ss rfl rfl) <| r0) rfl))
    (fun b195 h => gf rfl b195 <| gf rfl b195 <| st rfl <| pick0 rfl b195 (cd := cB) (v := false) rfl rfl <| seqN [(0, .d (cS.enc v0)), (3, .d (cI.enc s111.1)), (4, .d (cI.enc s111.2.1)), (5, .d (cI.enc s111.2.2)), (13, .d (cB.enc false))] (by kernel_rfl) <|
    xn <| cnd0 rfl rfl <| wpC_exit <| xt <| xt <| xt <| xb <| kpN [(3, .d (cI.enc s111.1)), (4, .d (cI.enc s111.2.1))] (by kernel_rfl) <| xn <| wpC_seq <| reg_s <| st rfl <| mvd rfl rfl <| st rfl <| mvd rfl rfl <| ckI_k h fun i224 h => st rfl <| b_mul (k := .i64) rfl rfl i224 <| x_asg (ss rfl rfl) <| seqN [(2, .d (cI.enc (s111.1 * s111.2.1)))] (by kernel_rfl) <|
    xn <| wpC_ret <| re <| fin h (r1 (ss rfl rfl) <| r0) rfl)

def rs_spec_ParseReport (r : ((List Int) × Bool)) : List D := [(cLs cI rfl).enc r.1, cB.enc r.2]
def m31 : MC := .seq (.reg [⟨some 4, .box (.t 0), none⟩,
    ⟨some 6, .box (.t 2), none⟩,
    ⟨some 8, .asg (.c (.slice false [])), none⟩,
    ⟨some 9, .asg (.c (.bool false)), none⟩] [1, 3, 4, 6])
  (.seq (.kp [1, 3, 4, 6] (.seq (.reg [⟨some 14, .ld 4 1 true, none⟩,
    ⟨some 15, .mv (.t 1), none⟩,
    ⟨some 16, .ld 6 4 true, none⟩,
    ⟨some 17, .call 45 [(.t 14), (.t 15), (.t 16)], none⟩,
    ⟨some 18, .nt (.t 17), none⟩] [1, 3, 4, 6, 18])
  (.cond (.t 18) (.seq (.reg [⟨some 8, .asg (.c (.slice false [])), none⟩,
    ⟨some 9, .asg (.c (.bool false)), none⟩] [8, 9])
  (.ret)) (.skip))))
  (.seq (.reg [⟨some 10, .asg (.c (.slice true [])), none⟩] [1, 3, 4, 6, 10])
  (.seq (.kp [1, 3, 4, 6, 10] (.seq (.reg [⟨some 19, .mv (.t 3), none⟩,
    ⟨some 20, .call 65 [(.t 19), (.c (.int .u8 10))], none⟩,
    ⟨some 21, .len false (.t 20), none⟩,
    ⟨some 22, .mv (.c (.int .i64 0)), none⟩] [1, 3, 4, 6, 10, 20, 21, 22])
  (.blk 0 (.loop (.seq (.reg [⟨some 23, .bin .lss (.t 22) (.t 21), none⟩] [1, 3, 4, 6, 10, 20, 21, 22, 23])
  (.seq (.kp [1, 3, 4, 6, 10, 20, 21, 22] (.cond (.t 23) (.skip) (.exit 0)))
  (.seq (.kp [1, 3, 4, 6, 10, 20, 21, 22] (.blk 1 (.seq (.reg [⟨some 24, .ia 20 (.t 22) 1, none⟩,
    ⟨some 25, .ld 24 1 false, none⟩,
    ⟨some 12, .asg (.t 25), none⟩] [1, 3, 4, 6, 10, 12, 20, 21, 22])
  (.seq (.reg [⟨some 26, .mv (.t 12), none⟩,
    ⟨some 27, .call 65 [(.t 26), (.c (.int .u8 32))], none⟩,
    ⟨some 13, .asg (.t 27), none⟩] [1, 3, 4, 6, 10, 13, 20, 21, 22])
  (.reg [⟨some 28, .mv (.t 10), none⟩,
    ⟨some 29, .mv (.t 13), none⟩,
    ⟨some 30, .mv (.t 13), none⟩,
    ⟨some 31, .len false (.t 30), none⟩,
    ⟨some 32, .bin .sub (.t 31) (.c (.int .i64 1)), none⟩,
    ⟨some 33, .ia 29 (.t 32) 1, none⟩,
    ⟨some 34, .ld 33 1 false, none⟩,
    ⟨some 35, .call 66 [(.t 34)], none⟩,
    ⟨some 36, .bsl [(.t 35)] 1, none⟩,
    ⟨some 37, .app (.t 28) (.t 36) 1, none⟩,
    ⟨some 10, .asg (.t 37), none⟩] [1, 3, 4, 6, 10, 20, 21, 22])))))
  (.reg [⟨some 38, .bin .add (.t 22) (.c (.int .i64 1)), none⟩,
    ⟨some 22, .mv (.t 38), none⟩] [1, 3, 4, 6, 10, 20, 21, 22]))))))))
  (.fz 10 (.seq (.reg [⟨some 39, .mv (.t 10), none⟩,
    ⟨some 40, .mv (.t 10), none⟩,
    ⟨some 41, .len false (.t 40), none⟩,
    ⟨some 42, .bin .sub (.t 41) (.c (.int .i64 1)), none⟩,
    ⟨some 43, .sl (.t 39) none (some (.t 42)) 1, none⟩,
    ⟨some 10, .asg (.t 43), none⟩] [1, 3, 4, 6, 10])
  (.seq (.kp [10] (.seq (.reg [⟨some 44, .ld 4 1 true, none⟩,
    ⟨some 45, .mv (.t 1), none⟩,
    ⟨some 46, .ld 6 4 true, none⟩,
    ⟨some 47, .mv (.t 10), none⟩,
    ⟨some 48, .call 59 [(.t 44), (.t 45), (.t 46), (.t 47)], none⟩,
    ⟨some 49, .nt (.t 48), none⟩,
    ⟨some 50, .mv (.t 49), none⟩,
    ⟨some 51, .ld 4 1 true, some (50, false)⟩,
    ⟨some 52, .mv (.t 1), some (50, false)⟩,
    ⟨some 53, .ld 6 4 true, some (50, false)⟩,
    ⟨some 54, .mv (.t 10), some (50, false)⟩,
    ⟨some 55, .call 60 [(.t 51), (.t 52), (.t 53), (.t 54)], some (50, false)⟩,
    ⟨some 56, .mv (.t 3), some (50, false)⟩,
    ⟨some 57, .bin .neq (.t 55) (.t 56), some (50, false)⟩,
    ⟨some 58, .pick (.t 50) (.c (.bool true)) (.t 57), none⟩] [10, 58])
  (.cond (.t 58) (.seq (.reg [⟨some 8, .asg (.c (.slice false [])), none⟩,
    ⟨some 9, .asg (.c (.bool false)), none⟩] [8, 9])
  (.ret)) (.skip))))
  (.seq (.reg [⟨some 59, .mv (.t 10), none⟩,
    ⟨some 8, .asg (.t 59), none⟩,
    ⟨some 9, .asg (.c (.bool true)), none⟩] [8, 9])
  (.ret))))))))
theorem con_spec_ParseReport {v0 : XGeo} {v1 : (List XVariable)} {v2 : XTable} {v3 : (List UInt8)} {r : ((List Int) × Bool)} (h : sh_spec_ParseReport v0 v1 v2 v3 = some r) : Con Tryd.prog 31 [(cXGeo (cLs cI rfl)).enc v0, (cLs (cXVariable cS cI) rfl).enc v1, (cXTable cI (cLs cI rfl) (cLs cI rfl) cI).enc v2, cS.enc v3] [] (rs_spec_ParseReport r) := by
  delta sh_spec_ParseReport at h
  refine top (out := none) (f := Tryd.f31) (m := m31) (rs := [.t 8, .t 9]) (by kernel_rfl) rfl (by kernel_rfl) (by kernel_rfl) (by kernel_rfl) (by kernel_rfl) (by kernel_rfl) ?_
  exact
   ini [(0, .d ((cXGeo (cLs cI rfl)).enc v0)), (1, .d ((cLs (cXVariable cS cI) rfl).enc v1)), (2, .d ((cXTable cI (cLs cI rfl) (cLs cI rfl) cI).enc v2)), (3, .d (cS.enc v3))] rfl <| wpC_seq <| reg_s <| x_box (ss rfl rfl) <| x_box (ss rfl rfl) <| x_asg (sc (cLs cI rfl) ([] : List Int) rfl) <| x_asg (sc cB false rfl) <| seqN [(1, .d ((cLs (cXVariable cS cI) rfl).enc v1)), (3, .d (cS.enc v3)), (4, .box ((cXGeo (cLs cI rfl)).enc v0)), (6, .box ((cXTable cI (cLs cI rfl) (cLs cI rfl) cI).enc v2))] (by kernel_rfl) <|
    xn <| wpC_seq <| wpC_kp <| wpC_seq <| reg_s <| st rfl <| ldb rfl rfl rfl rfl <| st rfl <| mvd rfl rfl <| st rfl <| ldb rfl rfl rfl rfl <| bnd h fun x8 e9 h => st rfl <| o_call (a1 (c := (cXGeo (cLs cI rfl))) (tXGeo (tLs tK)) rfl (a1 (c := (cLs (cXVariable cS cI) rfl)) (tLs (tXVariable tS tK)) rfl (a1 (c := (cXTable cI (cLs cI rfl) (cLs cI rfl) cI)) (tXTable tK (tLs tK) (tLs tK) tK) rfl a0))) (con_spec_uGood e9) (.inl (so1 sB so0)) <| st rfl <| o_nt rfl <| seqN [(1, .d ((cLs (cXVariable cS cI) rfl).enc v1)), (3, .d (cS.enc v3)), (4, .box ((cXGeo (cLs cI rfl)).enc v0)), (6, .box ((cXTable cI (cLs cI rfl) (cLs cI rfl) cI).enc v2)), (18, .d (cB.enc (!x8)))] (by kernel_rfl) <|
    xn <| cnd rfl h (fun b10 h => wpC_seq <| reg_s <| x_asg (sc (cLs cI rfl) ([] : List Int) rfl) <| x_asg (sc cB false rfl) <| seqN [(8, .d ((cLs cI rfl).enc ([] : List Int))), (9, .d (cB.enc false))] (by kernel_rfl) <|
    xn <| wpC_ret <| rt <| rt <| re <| fin h (r1 (ss rfl rfl) <| r1 (ss rfl rfl) <| r0) rfl)
    (fun b10 h => wpC_skip <| kpN [(1, .d ((cLs (cXVariable cS cI) rfl).enc v1)), (3, .d (cS.enc v3)), (4, .box ((cXGeo (cLs cI rfl)).enc v0)), (6, .box ((cXTable cI (cLs cI rfl) (cLs cI rfl) cI).enc v2))] (by kernel_rfl) <| xn <| wpC_seq <| reg_s <| x_asg (sc (cLo cI) ([] : List Int) rfl) <| seqN [(1, .d ((cLs (cXVariable cS cI) rfl).enc v1)), (3, .d (cS.enc v3)), (4, .box ((cXGeo (cLs cI rfl)).enc v0)), (6, .box ((cXTable cI (cLs cI rfl) (cLs cI rfl) cI).enc v2)), (10, .d ((cLo cI).enc ([] : List Int)))] (by kernel_rfl) <|
    xn <| wpC_seq <| wpC_kp <| wpC_seq <| reg_s <| st rfl <| mvd rfl rfl <| bnd h fun x100 e101 h => st rfl <| o_call (a1 (c := cS) tS rfl (a1 (c := cU) tK rfl a0)) (con_spec_l1Split e101) (.inl (so1 (sLo sS) so0)) <| stw rfl <| leno rfl fun l102 => st rfl <| mvc cI (0 : Int) rfl <| seqN [(1, .d ((cLs (cXVariable cS cI) rfl).enc v1)), (3, .d (cS.enc v3)), (4, .box ((cXGeo (cLs cI rfl)).enc v0)), (6, .box ((cXTable cI (cLs cI rfl) (cLs cI rfl) cI).enc v2)), (10, .d ((cLo cI).enc ([] : List Int))), (20, .d ((cLo cS).enc x100)), (21, .d (cI.enc (x100.length : Int))), (22, .d (cI.enc (0 : Int)))] (by kernel_rfl) <|
    xn <| wpC_blk <| lpR (fun (k104 : Nat) (s103 : (List Int)) => [(1, .d ((cLs (cXVariable cS cI) rfl).enc v1)), (3, .d (cS.enc v3)), (4, .box ((cXGeo (cLs cI rfl)).enc v0)), (6, .box ((cXTable cI (cLs cI rfl) (cLs cI rfl) cI).enc v2)), (10, .d ((cLo cI).enc s103)), (20, .d ((cLo cS).enc x100)), (21, .d (cI.enc (x100.length : Int))), (22, .d (cI.enc (k104 : Int)))]) ([] : List Int) rfl h
    (fun G158 s103 h => wpC_seq <| reg_s <| st rfl <| b_lss (k := .i64) rfl rfl <| seqN [(1, .d ((cLs (cXVariable cS cI) rfl).enc v1)), (3, .d (cS.enc v3)), (4, .box ((cXGeo (cLs cI rfl)).enc v0)), (6, .box ((cXTable cI (cLs cI rfl) (cLs cI rfl) cI).enc v2)), (10, .d ((cLo cI).enc s103)), (20, .d ((cLo cS).enc x100)), (21, .d (cI.enc (x100.length : Int))), (22, .d (cI.enc (x100.length : Int))), (23, .d (cB.enc (decide ((x100.length : Int) < (x100.length : Int)))))] (by kernel_rfl) <|
    xn <| wpC_seq <| wpC_kp <| cnd0 rfl (dlf _) <| wpC_exit <| xt <| xt <| xt <| xb <| kpN [(1, .d ((cLs (cXVariable cS cI) rfl).enc v1)), (3, .d (cS.enc v3)), (4, .box ((cXGeo (cLs cI rfl)).enc v0)), (6, .box ((cXTable cI (cLs cI rfl) (cLs cI rfl) cI).enc v2)), (10, .d ((cLo cI).enc s103))] (by kernel_rfl) <| xn <| fz_s (tLo tK) rfl <| wpC_seq <| reg_s <| st rfl <| mvd rfl rfl <| st rfl <| mvd rfl rfl <| stw rfl <| lens rfl fun l162 => ckI_k h fun i163 h => st rfl <| b_sub (k := .i64) rfl rfl i163 <| ck_k h fun i164 h => st rfl <| o_sl rfl rfl lo0 (hi1 (k := .i64) rfl i164.1) i164.2 <| x_asg (ss rfl rfl) <| seqN [(1, .d ((cLs (cXVariable cS cI) rfl).enc v1)), (3, .d (cS.enc v3)), (4, .box ((cXGeo (cLs cI rfl)).enc v0)), (6, .box ((cXTable cI (cLs cI rfl) (cLs cI rfl) cI).enc v2)), (10, .d ((cLs cI rfl).enc ((s103.take (((s103.length : Int) - (1 : Int))).toNat).drop 0)))] (by kernel_rfl) <|
    xn <| wpC_seq <| wpC_kp <| wpC_seq <| reg_s <| st rfl <| ldb rfl rfl rfl rfl <| st rfl <| mvd rfl rfl <| st rfl <| ldb rfl rfl rfl rfl <| st rfl <| mvd rfl rfl <| bnd h fun x181 e182 h => st rfl <| o_call (a1 (c := (cXGeo (cLs cI rfl))) (tXGeo (tLs tK)) rfl (a1 (c := (cLs (cXVariable cS cI) rfl)) (tLs (tXVariable tS tK)) rfl (a1 (c := (cXTable cI (cLs cI rfl) (cLs cI rfl) cI)) (tXTable tK (tLs tK) (tLs tK) tK) rfl (a1 (c := (cLs cI rfl)) (tLs tK) rfl a0)))) (con_spec_nCells e182) (.inl (so1 sB so0)) <| st rfl <| o_nt rfl <| st rfl <| mvd rfl rfl <| ite_k h (fun b183 h => gf rfl b183 <| gf rfl b183 <| gf rfl b183 <| gf rfl b183 <| gf rfl b183 <| gf rfl b183 <| gf rfl b183 <| st rfl <| pick1 rfl b183 (cd := cB) (v := true) rfl rfl <| seqN [(10, .d ((cLs cI rfl).enc ((s103.take (((s103.length : Int) - (1 : Int))).toNat).drop 0))), (58, .d (cB.enc true))] (by kernel_rfl) <|
    xn <| cnd1 rfl rfl <| wpC_seq <| reg_s <| x_asg (sc (cLs cI rfl) ([] : List Int) rfl) <| x_asg (sc cB false rfl) <| seqN [(8, .d ((cLs cI rfl).enc ([] : List Int))), (9, .d (cB.enc false))] (by kernel_rfl) <|
    xn <| wpC_ret <| rt <| rt <| re <| fin h (r1 (ss rfl rfl) <| r1 (ss rfl rfl) <| r0) rfl)
    (fun b183 h => gt' rfl b183 <| st rfl <| ldb rfl rfl rfl rfl <| gt' rfl b183 <| st rfl <| mvd rfl rfl <| gt' rfl b183 <| st rfl <| ldb rfl rfl rfl rfl <| gt' rfl b183 <| st rfl <| mvd rfl rfl <| gt' rfl b183 <| bnd h fun x184 e185 h => st rfl <| o_call (a1 (c := (cXGeo (cLs cI rfl))) (tXGeo (tLs tK)) rfl (a1 (c := (cLs (cXVariable cS cI) rfl)) (tLs (tXVariable tS tK)) rfl (a1 (c := (cXTable cI (cLs cI rfl) (cLs cI rfl) cI)) (tXTable tK (tLs tK) (tLs tK) tK) rfl (a1 (c := (cLs cI rfl)) (tLs tK) rfl a0)))) (con_spec_nReport e185) (.inl (so1 sS so0)) <| gt' rfl b183 <| st rfl <| mvd rfl rfl <| gt' rfl b183 <| st rfl <| b_sne rfl rfl <| st rfl <| pick0 rfl b183 (cd := cB) (v := (decide (x184 ≠ v3))) rfl rfl <| seqN [(10, .d ((cLs cI rfl).enc ((s103.take (((s103.length : Int) - (1 : Int))).toNat).drop 0))), (58, .d (cB.enc (decide (x184 ≠ v3))))] (by kernel_rfl) <|
    xn <| cnd rfl h (fun b186 h => wpC_seq <| reg_s <| x_asg (sc (cLs cI rfl) ([] : List Int) rfl) <| x_asg (sc cB false rfl) <| seqN [(8, .d ((cLs cI rfl).enc ([] : List Int))), (9, .d (cB.enc false))] (by kernel_rfl) <|
    xn <| wpC_ret <| rt <| rt <| re <| fin h (r1 (ss rfl rfl) <| r1 (ss rfl rfl) <| r0) rfl)
    (fun b186 h => wpC_skip <| kpN [(10, .d ((cLs cI rfl).enc ((s103.take (((s103.length : Int) - (1 : Int))).toNat).drop 0)))] (by kernel_rfl) <| xn <| wpC_seq <| reg_s <| st rfl <| mvd rfl rfl <| x_asg (ss rfl rfl) <| x_asg (sc cB true rfl) <| seqN [(8, .d ((cLs cI rfl).enc ((s103.take (((s103.length : Int) - (1 : Int))).toNat).drop 0))), (9, .d (cB.enc true))] (by kernel_rfl) <|
    xn <| wpC_ret <| re <| fin h (r1 (ss rfl rfl) <| r1 (ss rfl rfl) <| r0) rfl)))
    (fun G158 nx156 k104 s103 x105 hk106 hx107 hn157 h => wpC_seq <| reg_s <| st rfl <| b_lss (k := .i64) rfl rfl <| seqN [(1, .d ((cLs (cXVariable cS cI) rfl).enc v1)), (3, .d (cS.enc v3)), (4, .box ((cXGeo (cLs cI rfl)).enc v0)), (6, .box ((cXTable cI (cLs cI rfl) (cLs cI rfl) cI).enc v2)), (10, .d ((cLo cI).enc s103)), (20, .d ((cLo cS).enc x100)), (21, .d (cI.enc (x100.length : Int))), (22, .d (cI.enc (k104 : Int))), (23, .d (cB.enc (decide ((k104 : Int) < (x100.length : Int)))))] (by kernel_rfl) <|
    xn <| wpC_seq <| wpC_kp <| cnd1 rfl (dlt hk106) <| wpC_skip <| kpN [(1, .d ((cLs (cXVariable cS cI) rfl).enc v1)), (3, .d (cS.enc v3)), (4, .box ((cXGeo (cLs cI rfl)).enc v0)), (6, .box ((cXTable cI (cLs cI rfl) (cLs cI rfl) cI).enc v2)), (10, .d ((cLo cI).enc s103)), (20, .d ((cLo cS).enc x100)), (21, .d (cI.enc (x100.length : Int))), (22, .d (cI.enc (k104 : Int)))] (by kernel_rfl) <| xn <| wpC_seq <| wpC_kp <| wpC_blk <| wpC_seq <| reg_s <| st rfl <| iao rfl rfl (Int.natCast_nonneg _) hx107 rfl <| st rfl <| lda rfl rfl (Gt.idx hx107 Gt.nil) rfl rfl rfl <| x_asg (ss rfl rfl) <| seqN [(1, .d ((cLs (cXVariable cS cI) rfl).enc v1)), (3, .d (cS.enc v3)), (4, .box ((cXGeo (cLs cI rfl)).enc v0)), (6, .box ((cXTable cI (cLs cI rfl) (cLs cI rfl) cI).enc v2)), (10, .d ((cLo cI).enc s103)), (12, .d (cS.enc x105)), (20, .d ((cLo cS).enc x100)), (21, .d (cI.enc (x100.length : Int))), (22, .d (cI.enc (k104 : Int)))] (by kernel_rfl) <|
    xn <| wpC_seq <| reg_s <| st rfl <| mvd rfl rfl <| bnd h fun x201 e202 h => st rfl <| o_call (a1 (c := cS) tS rfl (a1 (c := cU) tK rfl a0)) (con_spec_l1Split e202) (.inl (so1 (sLo sS) so0)) <| x_asg (so rfl rfl) <| seqN [(1, .d ((cLs (cXVariable cS cI) rfl).enc v1)), (3, .d (cS.enc v3)), (4, .box ((cXGeo (cLs cI rfl)).enc v0)), (6, .box ((cXTable cI (cLs cI rfl) (cLs cI rfl) cI).enc v2)), (10, .d ((cLo cI).enc s103)), (13, .d ((cLo cS).enc x201)), (20, .d ((cLo cS).enc x100)), (21, .d (cI.enc (x100.length : Int))), (22, .d (cI.enc (k104 : Int)))] (by kernel_rfl) <|
    xn <| reg_s <| st rfl <| mvo rfl rfl <| st rfl <| mvo rfl rfl <| st rfl <| mvo rfl rfl <| stw rfl <| leno rfl fun l203 => ckI_k h fun i204 h => st rfl <| b_sub (k := .i64) rfl rfl i204 <| getO_k h fun x205 i206 g207 h => st rfl <| iar rfl rfl rfl rfl i206 g207 rfl <| st rfl <| lda rfl rfl (Gt.idx g207 Gt.nil) rfl rfl rfl <| bnd h fun x208 e209 h => st rfl <| o_call (a1 (c := cS) tS rfl a0) (con_spec_nDigits e209) (.inl (so1 sK so0)) <| x_bsl cI [x208] (t1 (ss rfl rfl) rfl t0) rfl rfl <| lnO_k h fun l210 h => x_app (sr rfl rfl) (to rfl rfl) l210 rfl <| x_asg (so rfl rfl) <| seqN [(1, .d ((cLs (cXVariable cS cI) rfl).enc v1)), (3, .d (cS.enc v3)), (4, .box ((cXGeo (cLs cI rfl)).enc v0)), (6, .box ((cXTable cI (cLs cI rfl) (cLs cI rfl) cI).enc v2)), (10, .d ((cLo cI).enc (s103 ++ [x208]))), (20, .d ((cLo cS).enc x100)), (21, .d (cI.enc (x100.length : Int))), (22, .d (cI.enc (k104 : Int)))] (by kernel_rfl) <|
    xbb <| kpN [(1, .d ((cLs (cXVariable cS cI) rfl).enc v1)), (3, .d (cS.enc v3)), (4, .box ((cXGeo (cLs cI rfl)).enc v0)), (6, .box ((cXTable cI (cLs cI rfl) (cLs cI rfl) cI).enc v2)), (10, .d ((cLo cI).enc (s103 ++ [x208]))), (20, .d ((cLo cS).enc x100)), (21, .d (cI.enc (x100.length : Int))), (22, .d (cI.enc (k104 : Int)))] (by kernel_rfl) <| xn <| reg_s <| st rfl <| b_inc rfl rfl l102 hk106 <| st rfl <| mvd rfl rfl <| seqN [(1, .d ((cLs (cXVariable cS cI) rfl).enc v1)), (3, .d (cS.enc v3)), (4, .box ((cXGeo (cLs cI rfl)).enc v0)), (6, .box ((cXTable cI (cLs cI rfl) (cLs cI rfl) cI).enc v2)), (10, .d ((cLo cI).enc (s103 ++ [x208]))), (20, .d ((cLo cS).enc x100)), (21, .d (cI.enc (x100.length : Int))), (22, .d (cI.enc ((k104 + 1 : Nat) : Int)))] (by kernel_rfl) <|
    xn <| hn157 (s103 ++ [x208]) h))

def rs_stringslite_HasPrefix (r : Bool) : List D := [cB.enc r]
def m123 : MC := .seq (.reg [⟨some 4, .asg (.c (.bool false)), none⟩] [0, 1])
  (.seq (.reg [⟨some 5, .mv (.t 0), none⟩,
    ⟨some 6, .len true (.t 5), none⟩,
    ⟨some 7, .mv (.t 1), none⟩,
    ⟨some 8, .len true (.t 7), none⟩,
    ⟨some 9, .bin .geq (.t 6) (.t 8), none⟩,
    ⟨some 10, .mv (.t 9), none⟩,
    ⟨some 11, .mv (.t 0), some (10, true)⟩,
    ⟨some 12, .mv (.t 1), some (10, true)⟩,
    ⟨some 13, .len true (.t 12), some (10, true)⟩,
    ⟨some 14, .sls (.t 11) none (some (.t 13)), some (10, true)⟩,
    ⟨some 15, .mv (.t 1), some (10, true)⟩,
    ⟨some 16, .bin .eql (.t 14) (.t 15), some (10, true)⟩,
    ⟨some 17, .pick (.t 10) (.t 16) (.c (.bool false)), none⟩,
    ⟨some 4, .asg (.t 17), none⟩] [4])
  (.ret))
theorem con_stringslite_HasPrefix {v0 : (List UInt8)} {v1 : (List UInt8)} {r : Bool} (h : sh_stringslite_HasPrefix v0 v1 = some r) : Con Tryd.prog 123 [cS.enc v0, cS.enc v1] [] (rs_stringslite_HasPrefix r) := by
  delta sh_stringslite_HasPrefix at h
  refine top (out := none) (f := Tryd.f123) (m := m123) (rs := [.t 4]) (by kernel_rfl) rfl (by kernel_rfl) (by kernel_rfl) (by kernel_rfl) (by kernel_rfl) (by kernel_rfl) ?_
  exact
   ini [(0, .d (cS.enc v0)), (1, .d (cS.enc v1))] rfl <| wpC_seq <| reg_s <| x_asg (sc cB false rfl) <| seqN [(0, .d (cS.enc v0)), (1, .d (cS.enc v1))] (by kernel_rfl) <|
    xn <| wpC_seq <| reg_s <| st rfl <| mvd rfl rfl <| stw rfl <| lent rfl fun l6 => st rfl <| mvd rfl rfl <| stw rfl <| lent rfl fun l7 => st rfl <| b_geq (k := .i64) rfl rfl <| st rfl <| mvd rfl rfl <| ite_k h (fun b8 h => gt' rfl b8 <| st rfl <| mvd rfl rfl <| gt' rfl b8 <| st rfl <| mvd rfl rfl <| gt' rfl b8 <| stw rfl <| lent rfl fun l9 => gt' rfl b8 <| ck_k h fun i10 h => st rfl <| o_sls rfl lo0 (hi1 (k := .i64) rfl i10.1) i10.2 <| gt' rfl b8 <| st rfl <| mvd rfl rfl <| gt' rfl b8 <| st rfl <| b_seq rfl rfl <| st rfl <| pick1 rfl b8 (cd := cB) (v := (decide (((v0.take ((v1.length : Int)).toNat).drop 0) = v1))) rfl rfl <| x_asg (ss rfl rfl) <| seqN [(4, .d (cB.enc (decide (((v0.take ((v1.length : Int)).toNat).drop 0) = v1))))] (by kernel_rfl) <|
    xn <| wpC_ret <| re <| fin h (r1 (ss rfl rfl) <| r0) rfl)
    (fun b8 h => gf rfl b8 <| gf rfl b8 <| gf rfl b8 <| gf rfl b8 <| gf rfl b8 <| gf rfl b8 <| st rfl <| pick0 rfl b8 (cd := cB) (v := false) rfl rfl <| x_asg (ss rfl rfl) <| seqN [(4, .d (cB.enc false))] (by kernel_rfl) <|
    xn <| wpC_ret <| re <| fin h (r1 (ss rfl rfl) <| r0) rfl)

def rs_stringslite_CutPrefix (r : ((List UInt8) × Bool)) : List D := [cS.enc r.1, cB.enc r.2]
def m101 : MC := .seq (.reg [⟨some 4, .asg (.c (.str [])), none⟩,
    ⟨some 5, .asg (.c (.bool false)), none⟩] [0, 1])
  (.seq (.kp [0, 1] (.seq (.reg [⟨some 6, .mv (.t 0), none⟩,
    ⟨some 7, .mv (.t 1), none⟩,
    ⟨some 8, .call 123 [(.t 6), (.t 7)], none⟩,
    ⟨some 9, .nt (.t 8), none⟩] [0, 1, 9])
  (.cond (.t 9) (.seq (.reg [⟨some 10, .mv (.t 0), none⟩,
    ⟨some 4, .asg (.t 10), none⟩,
    ⟨some 5, .asg (.c (.bool false)), none⟩] [4, 5])
  (.ret)) (.skip))))
  (.seq (.reg [⟨some 11, .mv (.t 0), none⟩,
    ⟨some 12, .mv (.t 1), none⟩,
    ⟨some 13, .len true (.t 12), none⟩,
    ⟨some 14, .sls (.t 11) (some (.t 13)) none, none⟩,
    ⟨some 4, .asg (.t 14), none⟩,
    ⟨some 5, .asg (.c (.bool true)), none⟩] [4, 5])
  (.ret)))
theorem con_stringslite_CutPrefix {v0 : (List UInt8)} {v1 : (List UInt8)} {r : ((List UInt8) × Bool)} (h : sh_stringslite_CutPrefix v0 v1 = some r) : Con Tryd.prog 101 [cS.enc v0, cS.enc v1] [] (rs_stringslite_CutPrefix r) := by
  delta sh_stringslite_CutPrefix at h
  refine top (out := none) (f := Tryd.f101) (m := m101) (rs := [.t 4, .t 5]) (by kernel_rfl) rfl (by kernel_rfl) (by kernel_rfl) (by kernel_rfl) (by kernel_rfl) (by kernel_rfl) ?_
  exact
   ini [(0, .d (cS.enc v0)), (1, .d (cS.enc v1))] rfl <| wpC_seq <| reg_s <| x_asg (sc cS ([] : List UInt8) rfl) <| x_asg (sc cB false rfl) <| seqN [(0, .d (cS.enc v0)), (1, .d (cS.enc v1))] (by kernel_rfl) <|
    xn <| wpC_seq <| wpC_kp <| wpC_seq <| reg_s <| st rfl <| mvd rfl rfl <| st rfl <| mvd rfl rfl <| bnd h fun x8 e9 h => st rfl <| o_call (a1 (c := cS) tS rfl (a1 (c := cS) tS rfl a0)) (con_stringslite_HasPrefix e9) (.inl (so1 sB so0)) <| st rfl <| o_nt rfl <| seqN [(0, .d (cS.enc v0)), (1, .d (cS.enc v1)), (9, .d (cB.enc (!x8)))] (by kernel_rfl) <|
    xn <| cnd rfl h (fun b10 h => wpC_seq <| reg_s <| st rfl <| mvd rfl rfl <| x_asg (ss rfl rfl) <| x_asg (sc cB false rfl) <| seqN [(4, .d (cS.enc v0)), (5, .d (cB.enc false))] (by kernel_rfl) <|
    xn <| wpC_ret <| rt <| rt <| re <| fin h (r1 (ss rfl rfl) <| r1 (ss rfl rfl) <| r0) rfl)
    (fun b10 h => wpC_skip <| kpN [(0, .d (cS.enc v0)), (1, .d (cS.enc v1))] (by kernel_rfl) <| xn <| wpC_seq <| reg_s <| st rfl <| mvd rfl rfl <| st rfl <| mvd rfl rfl <| stw rfl <| lent rfl fun l13 => ck_k h fun i14 h => st rfl <| o_sls rfl (lo1 (k := .i64) rfl i14.1) hi0 i14.2 <| x_asg (ss rfl rfl) <| x_asg (sc cB true rfl) <| seqN [(4, .d (cS.enc ((v0.take v0.length).drop ((v1.length : Int)).toNat))), (5, .d (cB.enc true))] (by kernel_rfl) <|
    xn <| wpC_ret <| re <| fin h (r1 (ss rfl rfl) <| r1 (ss rfl rfl) <| r0) rfl)

def rs_strings_CutPrefix (r : ((List UInt8) × Bool)) : List D := [cS.enc r.1, cB.enc r.2]
def m67 : MC := .seq (.reg [⟨some 4, .asg (.c (.str [])), none⟩,
    ⟨some 5, .asg (.c (.bool false)), none⟩] [0, 1])
  (.seq (.reg [⟨some 6, .mv (.t 0), none⟩,
    ⟨some 7, .mv (.t 1), none⟩,
    ⟨some 8, .call 101 [(.t 6), (.t 7)], none⟩,
    ⟨some 9, .ext 8 0, none⟩,
    ⟨some 10, .ext 8 1, none⟩,
    ⟨some 4, .asg (.t 9), none⟩,
    ⟨some 5, .asg (.t 10), none⟩] [4, 5])
  (.ret))
theorem con_strings_CutPrefix {v0 : (List UInt8)} {v1 : (List UInt8)} {r : ((List UInt8) × Bool)} (h : sh_strings_CutPrefix v0 v1 = some r) : Con Tryd.prog 67 [cS.enc v0, cS.enc v1] [] (rs_strings_CutPrefix r) := by
  delta sh_strings_CutPrefix at h
  refine top (out := none) (f := Tryd.f67) (m := m67) (rs := [.t 4, .t 5]) (by kernel_rfl) rfl (by kernel_rfl) (by kernel_rfl) (by kernel_rfl) (by kernel_rfl) (by kernel_rfl) ?_
  exact
   ini [(0, .d (cS.enc v0)), (1, .d (cS.enc v1))] rfl <| wpC_seq <| reg_s <| x_asg (sc cS ([] : List UInt8) rfl) <| x_asg (sc cB false rfl) <| seqN [(0, .d (cS.enc v0)), (1, .d (cS.enc v1))] (by kernel_rfl) <|
    xn <| wpC_seq <| reg_s <| st rfl <| mvd rfl rfl <| st rfl <| mvd rfl rfl <| bnd h fun x3 e4 h => st rfl <| o_call (a1 (c := cS) tS rfl (a1 (c := cS) tS rfl a0)) (con_stringslite_CutPrefix e4) (.inl (so1 sS (so1 sB so0))) <| x_ext rfl rfl <| x_ext rfl rfl <| x_asg (ss rfl rfl) <| x_asg (ss rfl rfl) <| seqN [(4, .d (cS.enc x3.1)), (5, .d (cB.enc x3.2))] (by kernel_rfl) <|
    xn <| wpC_ret <| re <| fin h (r1 (ss rfl rfl) <| r1 (ss rfl rfl) <| r0) rfl

def rs_impl_readNatural (r : (Int × (List UInt8) × Bool)) : List D := [cI.enc r.1, cS.enc r.2.1, cB.enc r.2.2]
def m102 : MC := .seq (.reg [⟨some 4, .asg (.c (.int .i64 0)), none⟩,
    ⟨some 5, .asg (.c (.str [])), none⟩,
    ⟨some 6, .asg (.c (.bool false)), none⟩] [0, 1])
  (.seq (.reg [⟨some 7, .asg (.c (.int .i64 0)), none⟩,
    ⟨some 8, .asg (.c (.int .i64 0)), none⟩] [0, 1, 7, 8])
  (.seq (.kp [0, 7, 8] (.blk 0 (.loop (.kp [0, 1, 7, 8] (.seq (.kp [0, 1, 7, 8] (.seq (.reg [⟨some 9, .mv (.t 8), none⟩,
    ⟨some 10, .mv (.t 0), none⟩,
    ⟨some 11, .len true (.t 10), none⟩,
    ⟨some 12, .bin .lss (.t 9) (.t 11), none⟩,
    ⟨some 13, .mv (.t 12), none⟩,
    ⟨some 14, .mv (.t 0), some (13, true)⟩,
    ⟨some 15, .mv (.t 8), some (13, true)⟩,
    ⟨some 16, .ix (.t 14) (.t 15), some (13, true)⟩,
    ⟨some 17, .bin .geq (.t 16) (.c (.int .u8 48)), some (13, true)⟩,
    ⟨some 18, .pick (.t 13) (.t 17) (.c (.bool false)), none⟩,
    ⟨some 19, .mv (.t 18), none⟩,
    ⟨some 20, .mv (.t 0), some (19, true)⟩,
    ⟨some 21, .mv (.t 8), some (19, true)⟩,
    ⟨some 22, .ix (.t 20) (.t 21), some (19, true)⟩,
    ⟨some 23, .bin .leq (.t 22) (.c (.int .u8 57)), some (19, true)⟩,
    ⟨some 24, .pick (.t 19) (.t 23) (.c (.bool false)), none⟩] [0, 1, 7, 8, 24])
  (.cond (.t 24) (.skip) (.exit 0))))
  (.blk 1 (.seq (.kp [0, 1, 7, 8] (.seq (.reg [⟨some 25, .mv (.t 8), none⟩,
    ⟨some 26, .bin .gtr (.t 25) (.c (.int .i64 0)), none⟩,
    ⟨some 27, .mv (.t 26), none⟩,
    ⟨some 28, .mv (.t 7), some (27, true)⟩,
    ⟨some 29, .bin .eql (.t 28) (.c (.int .i64 0)), some (27, true)⟩,
    ⟨some 30, .pick (.t 27) (.t 29) (.c (.bool false)), none⟩] [0, 1, 7, 8, 30])
  (.cond (.t 30) (.seq (.reg [⟨some 4, .asg (.c (.int .i64 0)), none⟩,
    ⟨some 5, .asg (.c (.str [])), none⟩,
    ⟨some 6, .asg (.c (.bool false)), none⟩] [4, 5, 6])
  (.ret)) (.skip))))
  (.seq (.reg [⟨some 31, .mv (.t 7), none⟩,
    ⟨some 32, .bin .mul (.t 31) (.c (.int .i64 10)), none⟩,
    ⟨some 33, .mv (.t 0), none⟩,
    ⟨some 34, .mv (.t 8), none⟩,
    ⟨some 35, .ix (.t 33) (.t 34), none⟩,
    ⟨some 36, .bin .sub (.t 35) (.c (.int .u8 48)), none⟩,
    ⟨some 37, .cvi .i64 (.t 36), none⟩,
    ⟨some 38, .bin .add (.t 32) (.t 37), none⟩,
    ⟨some 7, .asg (.t 38), none⟩] [0, 1, 7, 8])
  (.seq (.kp [0, 1, 7, 8] (.seq (.reg [⟨some 39, .mv (.t 7), none⟩,
    ⟨some 40, .mv (.t 1), none⟩,
    ⟨some 41, .bin .gtr (.t 39) (.t 40), none⟩] [0, 1, 7, 8, 41])
  (.cond (.t 41) (.seq (.reg [⟨some 4, .asg (.c (.int .i64 0)), none⟩,
    ⟨some 5, .asg (.c (.str [])), none⟩,
    ⟨some 6, .asg (.c (.bool false)), none⟩] [4, 5, 6])
  (.ret)) (.skip))))
  (.reg [⟨some 42, .mv (.t 8), none⟩,
    ⟨some 43, .bin .add (.t 42) (.c (.int .i64 1)), none⟩,
    ⟨some 8, .asg (.t 43), none⟩] [0, 1, 7, 8]))))))))))
  (.seq (.kp [0, 7, 8] (.seq (.reg [⟨some 44, .mv (.t 8), none⟩,
    ⟨some 45, .bin .eql (.t 44) (.c (.int .i64 0)), none⟩] [0, 7, 8, 45])
  (.cond (.t 45) (.seq (.reg [⟨some 4, .asg (.c (.int .i64 0)), none⟩,
    ⟨some 5, .asg (.c (.str [])), none⟩,
    ⟨some 6, .asg (.c (.bool false)), none⟩] [4, 5, 6])
  (.ret)) (.skip))))
  (.seq (.drw [⟨0, ⟨some 46, .mv (.t 7), none⟩, [4, 5, 6, 47, 48, 49]⟩,
    ⟨1, ⟨some 47, .mv (.t 0), none⟩, [4, 5, 6, 46, 48, 49]⟩,
    ⟨2, ⟨some 48, .mv (.t 8), none⟩, [4, 5, 6, 46, 47, 49]⟩,
    ⟨3, ⟨some 49, .sls (.t 47) (some (.t 48)) none, none⟩, [4, 5, 6, 46]⟩,
    ⟨4, ⟨some 4, .mv (.t 46), none⟩, [5, 6, 47, 48, 49]⟩,
    ⟨5, ⟨some 5, .mv (.t 49), none⟩, [6]⟩,
    ⟨6, ⟨some 6, .mv (.c (.bool true)), none⟩, []⟩]
    [] [4, 5, 6])
  (.ret)))))
theorem con_impl_readNatural {v0 : (List UInt8)} {v1 : Int} {r : (Int × (List UInt8) × Bool)} (h : sh_impl_readNatural v0 v1 = some r) : Con Tryd.prog 102 [cS.enc v0, cI.enc v1] [] (rs_impl_readNatural r) := by
  delta sh_impl_readNatural at h
  refine top (out := none) (f := Tryd.f102) (m := m102) (rs := [.t 4, .t 5, .t 6]) (by kernel_rfl) rfl (by kernel_rfl) (by kernel_rfl) (by kernel_rfl) (by kernel_rfl) (by kernel_rfl) ?_
  exact
   ini [(0, .d (cS.enc v0)), (1, .d (cI.enc v1))] rfl <| wpC_seq <| reg_s <| x_asg (sc cI (0 : Int) rfl) <| x_asg (sc cS ([] : List UInt8) rfl) <| x_asg (sc cB false rfl) <| seqN [(0, .d (cS.enc v0)), (1, .d (cI.enc v1))] (by kernel_rfl) <|
    xn <| wpC_seq <| reg_s <| x_asg (sc cI (0 : Int) rfl) <| x_asg (sc cI (0 : Int) rfl) <| seqN [(0, .d (cS.enc v0)), (1, .d (cI.enc v1)), (7, .d (cI.enc (0 : Int))), (8, .d (cI.enc (0 : Int)))] (by kernel_rfl) <|
    xn <| sqj (fun (s147 : (Int × Int)) => [(0, .d (cS.enc v0)), (7, .d (cI.enc s147.1)), (8, .d (cI.enc s147.2))]) h (fun s147 h => wpC_seq <| wpC_kp <| wpC_seq <| reg_s <| st rfl <| mvd rfl rfl <| st rfl <| b_eql (k := .i64) rfl rfl <| seqN [(0, .d (cS.enc v0)), (7, .d (cI.enc s147.1)), (8, .d (cI.enc s147.2)), (45, .d (cB.enc (decide (s147.2 = (0 : Int)))))] (by kernel_rfl) <|
    xn <| cnd rfl h (fun b151 h => wpC_seq <| reg_s <| x_asg (sc cI (0 : Int) rfl) <| x_asg (sc cS ([] : List UInt8) rfl) <| x_asg (sc cB false rfl) <| seqN [(4, .d (cI.enc (0 : Int))), (5, .d (cS.enc ([] : List UInt8))), (6, .d (cB.enc false))] (by kernel_rfl) <|
    xn <| wpC_ret <| rt <| rt <| re <| fin h (r1 (ss rfl rfl) <| r1 (ss rfl rfl) <| r1 (ss rfl rfl) <| r0) rfl)
    (fun b151 h => wpC_skip <| kpN [(0, .d (cS.enc v0)), (7, .d (cI.enc s147.1)), (8, .d (cI.enc s147.2))] (by kernel_rfl) <| xn <| wpC_seq <| drw_s <| pst rfl <| mvd rfl rfl ⟨rfl, pst rfl <| mvd rfl rfl ⟨rfl, pst rfl <| mvd rfl rfl ⟨rfl, ck_kp h fun i153 h => pst rfl <| o_sls rfl (lo1 (k := .i64) rfl i153.1) hi0 i153.2 ⟨rfl, pst rfl <| mvd rfl rfl ⟨rfl, pst rfl <| mvd rfl rfl ⟨rfl, pst rfl <| mvc cB true rfl ⟨rfl, preN <| seqN [(4, .d (cI.enc s147.1)), (5, .d (cS.enc ((v0.take v0.length).drop (s147.2).toNat))), (6, .d (cB.enc true))] (by kernel_rfl) <|
    xn <| wpC_ret <| re <| fin h (r1 (ss rfl rfl) <| r1 (ss rfl rfl) <| r1 (ss rfl rfl) <| r0) rfl⟩⟩⟩⟩⟩⟩⟩))
    fun m149 h => wpC_kp <| wpC_blk <| lpF (fun (s154 : (Int × Int)) => [(0, .d (cS.enc v0)), (1, .d (cI.enc v1)), (7, .d (cI.enc s154.1)), (8, .d (cI.enc s154.2))]) ((0 : Int), (0 : Int)) rfl h
    fun G253 nx251 s154 hn252 h => wpC_kp <| wpC_seq <| wpC_kp <| wpC_seq <| reg_s <| st rfl <| mvd rfl rfl <| st rfl <| mvd rfl rfl <| stw rfl <| lent rfl fun l273 => st rfl <| b_lss (k := .i64) rfl rfl <| st rfl <| mvd rfl rfl <| ite_k h (fun b274 h => gt' rfl b274 <| st rfl <| mvd rfl rfl <| gt' rfl b274 <| st rfl <| mvd rfl rfl <| gt' rfl b274 <| getO_k h fun x275 i276 g277 h => st rfl <| o_ix (k := .i64) rfl rfl i276 g277 <| gt' rfl b274 <| st rfl <| b_geq (k := .u8) rfl rfl <| st rfl <| pick1 rfl b274 (cd := cB) (v := (decide ((48 : Int) ≤ (x275.toNat : Int)))) rfl rfl <| st rfl <| mvd rfl rfl <| ite_k h (fun b278 h => gt' rfl b278 <| st rfl <| mvd rfl rfl <| gt' rfl b278 <| st rfl <| mvd rfl rfl <| gt' rfl b278 <| st rfl <| o_ix (k := .i64) rfl rfl i276 g277 <| gt' rfl b278 <| st rfl <| b_leq (k := .u8) rfl rfl <| st rfl <| pick1 rfl b278 (cd := cB) (v := (decide ((x275.toNat : Int) ≤ (57 : Int)))) rfl rfl <| seqN [(0, .d (cS.enc v0)), (1, .d (cI.enc v1)), (7, .d (cI.enc s154.1)), (8, .d (cI.enc s154.2)), (24, .d (cB.enc (decide ((x275.toNat : Int) ≤ (57 : Int)))))] (by kernel_rfl) <|
    xn <| cnd rfl h (fun b279 h => wpC_skip <| kpN [(0, .d (cS.enc v0)), (1, .d (cI.enc v1)), (7, .d (cI.enc s154.1)), (8, .d (cI.enc s154.2))] (by kernel_rfl) <| xn <| wpC_blk <| sqj (fun (s283 : Unit) => [(0, .d (cS.enc v0)), (1, .d (cI.enc v1)), (7, .d (cI.enc s154.1)), (8, .d (cI.enc s154.2))]) h (fun s283 h => wpC_seq <| reg_s <| st rfl <| mvd rfl rfl <| ckI_k h fun i290 h => st rfl <| b_mul (k := .i64) rfl rfl i290 <| st rfl <| mvd rfl rfl <| st rfl <| mvd rfl rfl <| st rfl <| o_ix (k := .i64) rfl rfl i276 g277 <| ckU_k h fun i291 h => st rfl <| b_sub (k := .u8) rfl rfl i291 <| ckI_k h fun i292 h => st rfl <| o_cvi (k := .u8) (k' := .i64) rfl i292 <| ckI_k h fun i293 h => st rfl <| b_add (k := .i64) rfl rfl i293 <| x_asg (ss rfl rfl) <| seqN [(0, .d (cS.enc v0)), (1, .d (cI.enc v1)), (7, .d (cI.enc ((s154.1 * (10 : Int)) + ((x275.toNat : Int) - (48 : Int))))), (8, .d (cI.enc s154.2))] (by kernel_rfl) <|
    xn <| wpC_seq <| wpC_kp <| wpC_seq <| reg_s <| st rfl <| mvd rfl rfl <| st rfl <| mvd rfl rfl <| st rfl <| b_gtr (k := .i64) rfl rfl <| seqN [(0, .d (cS.enc v0)), (1, .d (cI.enc v1)), (7, .d (cI.enc ((s154.1 * (10 : Int)) + ((x275.toNat : Int) - (48 : Int))))), (8, .d (cI.enc s154.2)), (41, .d (cB.enc (decide (v1 < ((s154.1 * (10 : Int)) + ((x275.toNat : Int) - (48 : Int)))))))] (by kernel_rfl) <|
    xn <| cnd rfl h (fun b295 h => wpC_seq <| reg_s <| x_asg (sc cI (0 : Int) rfl) <| x_asg (sc cS ([] : List UInt8) rfl) <| x_asg (sc cB false rfl) <| seqN [(4, .d (cI.enc (0 : Int))), (5, .d (cS.enc ([] : List UInt8))), (6, .d (cB.enc false))] (by kernel_rfl) <|
    xn <| wpC_ret <| rt <| rt <| rb <| rt <| rt <| rb <| rt <| rt <| re <| fin h (r1 (ss rfl rfl) <| r1 (ss rfl rfl) <| r1 (ss rfl rfl) <| r0) rfl)
    (fun b295 h => wpC_skip <| kpN [(0, .d (cS.enc v0)), (1, .d (cI.enc v1)), (7, .d (cI.enc ((s154.1 * (10 : Int)) + ((x275.toNat : Int) - (48 : Int))))), (8, .d (cI.enc s154.2))] (by kernel_rfl) <| xn <| reg_s <| st rfl <| mvd rfl rfl <| ckI_k h fun i296 h => st rfl <| b_add (k := .i64) rfl rfl i296 <| x_asg (ss rfl rfl) <| seqN [(0, .d (cS.enc v0)), (1, .d (cI.enc v1)), (7, .d (cI.enc ((s154.1 * (10 : Int)) + ((x275.toNat : Int) - (48 : Int))))), (8, .d (cI.enc (s154.2 + (1 : Int))))] (by kernel_rfl) <|
    xbb <| kpN [(0, .d (cS.enc v0)), (1, .d (cI.enc v1)), (7, .d (cI.enc ((s154.1 * (10 : Int)) + ((x275.toNat : Int) - (48 : Int))))), (8, .d (cI.enc (s154.2 + (1 : Int))))] (by kernel_rfl) <| xn <| hn252 (((s154.1 * (10 : Int)) + ((x275.toNat : Int) - (48 : Int))), (s154.2 + (1 : Int))) h))
    fun m285 h => wpC_kp <| wpC_seq <| reg_s <| st rfl <| mvd rfl rfl <| st rfl <| b_gtr (k := .i64) rfl rfl <| st rfl <| mvd rfl rfl <| ite_k h (fun b298 h => gt' rfl b298 <| st rfl <| mvd rfl rfl <| gt' rfl b298 <| st rfl <| b_eql (k := .i64) rfl rfl <| st rfl <| pick1 rfl b298 (cd := cB) (v := (decide (s154.1 = (0 : Int)))) rfl rfl <| seqN [(0, .d (cS.enc v0)), (1, .d (cI.enc v1)), (7, .d (cI.enc s154.1)), (8, .d (cI.enc s154.2)), (30, .d (cB.enc (decide (s154.1 = (0 : Int)))))] (by kernel_rfl) <|
    xn <| cnd rfl h (fun b299 h => wpC_seq <| reg_s <| x_asg (sc cI (0 : Int) rfl) <| x_asg (sc cS ([] : List UInt8) rfl) <| x_asg (sc cB false rfl) <| seqN [(4, .d (cI.enc (0 : Int))), (5, .d (cS.enc ([] : List UInt8))), (6, .d (cB.enc false))] (by kernel_rfl) <|
    xn <| wpC_ret <| rt <| rt <| rb <| rt <| rt <| rb <| rt <| rt <| re <| fin h (r1 (ss rfl rfl) <| r1 (ss rfl rfl) <| r1 (ss rfl rfl) <| r0) rfl)
    (fun b299 h => wpC_skip <| kpN [(0, .d (cS.enc v0)), (1, .d (cI.enc v1)), (7, .d (cI.enc s154.1)), (8, .d (cI.enc s154.2))] (by kernel_rfl) <| m285 () h))
    (fun b298 h => gf rfl b298 <| gf rfl b298 <| st rfl <| pick0 rfl b298 (cd := cB) (v := false) rfl rfl <| seqN [(0, .d (cS.enc v0)), (1, .d (cI.enc v1)), (7, .d (cI.enc s154.1)), (8, .d (cI.enc s154.2)), (30, .d (cB.enc false))] (by kernel_rfl) <|
    xn <| cnd0 rfl rfl <| wpC_skip <| kpN [(0, .d (cS.enc v0)), (1, .d (cI.enc v1)), (7, .d (cI.enc s154.1)), (8, .d (cI.enc s154.2))] (by kernel_rfl) <| m285 () h))
    (fun b279 h => wpC_exit <| xt <| xt <| xt <| xt <| xb <| kpN [(0, .d (cS.enc v0)), (7, .d (cI.enc s154.1)), (8, .d (cI.enc s154.2))] (by kernel_rfl) <| m149 (s154.1, s154.2) h))
    (fun b278 h => gf rfl b278 <| gf rfl b278 <| gf rfl b278 <| gf rfl b278 <| st rfl <| pick0 rfl b278 (cd := cB) (v := false) rfl rfl <| seqN [(0, .d (cS.enc v0)), (1, .d (cI.enc v1)), (7, .d (cI.enc s154.1)), (8, .d (cI.enc s154.2)), (24, .d (cB.enc false))] (by kernel_rfl) <|
    xn <| cnd0 rfl rfl <| wpC_exit <| xt <| xt <| xt <| xt <| xb <| kpN [(0, .d (cS.enc v0)), (7, .d (cI.enc s154.1)), (8, .d (cI.enc s154.2))] (by kernel_rfl) <| m149 (s154.1, s154.2) h))
    (fun b274 h => gf rfl b274 <| gf rfl b274 <| gf rfl b274 <| gf rfl b274 <| st rfl <| pick0 rfl b274 (cd := cB) (v := false) rfl rfl <| st rfl <| mvd rfl rfl <| gf rfl rfl <| gf rfl rfl <| gf rfl rfl <| gf rfl rfl <| st rfl <| pick0 rfl rfl (cd := cB) (v := false) rfl rfl <| seqN [(0, .d (cS.enc v0)), (1, .d (cI.enc v1)), (7, .d (cI.enc s154.1)), (8, .d (cI.enc s154.2)), (24, .d (cB.enc false))] (by kernel_rfl) <|
    xn <| cnd0 rfl rfl <| wpC_exit <| xt <| xt <| xt <| xt <| xb <| kpN [(0, .d (cS.enc v0)), (7, .d (cI.enc s154.1)), (8, .d (cI.enc s154.2))] (by kernel_rfl) <| m149 (s154.1, s154.2) h)

def rs_impl_readInteger (r : (Int × (List UInt8) × Bool)) : List D := [cI.enc r.1, cS.enc r.2.1, cB.enc r.2.2]
def m68 : MC := .seq (.reg [⟨some 4, .asg (.c (.int .i64 0)), none⟩,
    ⟨some 5, .asg (.c (.str [])), none⟩,
    ⟨some 6, .asg (.c (.bool false)), none⟩] [0, 1])
  (.seq (.reg [⟨some 11, .mv (.t 0), none⟩,
    ⟨some 12, .len true (.t 11), none⟩,
    ⟨some 13, .bin .gtr (.t 12) (.c (.int .i64 0)), none⟩,
    ⟨some 14, .mv (.t 13), none⟩,
    ⟨some 15, .mv (.t 0), some (14, true)⟩,
    ⟨some 16, .ix (.t 15) (.c (.int .i64 0)), some (14, true)⟩,
    ⟨some 17, .bin .eql (.t 16) (.c (.int .u8 45)), some (14, true)⟩,
    ⟨some 18, .pick (.t 14) (.t 17) (.c (.bool false)), none⟩,
    ⟨some 7, .asg (.t 18), none⟩] [0, 1, 7])
  (.seq (.kp [0, 1, 7] (.seq (.reg [⟨some 19, .mv (.t 7), none⟩] [0, 1, 7, 19])
  (.cond (.t 19) (.reg [⟨some 20, .mv (.t 0), none⟩,
    ⟨some 21, .sls (.t 20) (some (.c (.int .i64 1))) none, none⟩,
    ⟨some 0, .asg (.t 21), none⟩] [0, 1, 7]) (.skip))))
  (.seq (.reg [⟨some 23, .mv (.t 0), none⟩,
    ⟨some 24, .mv (.t 1), none⟩,
    ⟨some 25, .call 102 [(.t 23), (.t 24)], none⟩,
    ⟨some 22, .mvt 25, none⟩,
    ⟨some 26, .ext 22 0, none⟩,
    ⟨some 27, .ext 22 1, none⟩,
    ⟨some 28, .ext 22 2, none⟩,
    ⟨some 8, .asg (.t 26), none⟩,
    ⟨some 9, .asg (.t 27), none⟩,
    ⟨some 10, .asg (.t 28), none⟩] [7, 8, 9, 10])
  (.seq (.kp [7, 8, 9] (.seq (.reg [⟨some 29, .mv (.t 10), none⟩,
    ⟨some 30, .nt (.t 29), none⟩,
    ⟨some 31, .mv (.t 30), none⟩,
    ⟨some 32, .mv (.t 7), some (31, false)⟩,
    ⟨some 33, .mv (.t 32), some (31, false)⟩,
    ⟨some 34, .mv (.t 8), some (33, true)⟩,
    ⟨some 35, .bin .eql (.t 34) (.c (.int .i64 0)), some (33, true)⟩,
    ⟨some 36, .pick (.t 33) (.t 35) (.c (.bool false)), some (31, false)⟩,
    ⟨some 37, .pick (.t 31) (.c (.bool true)) (.t 36), none⟩] [7, 8, 9, 37])
  (.cond (.t 37) (.seq (.reg [⟨some 4, .asg (.c (.int .i64 0)), none⟩,
    ⟨some 5, .asg (.c (.str [])), none⟩,
    ⟨some 6, .asg (.c (.bool false)), none⟩] [4, 5, 6])
  (.ret)) (.skip))))
  (.seq (.kp [8, 9] (.seq (.reg [⟨some 38, .mv (.t 7), none⟩] [8, 9, 38])
  (.cond (.t 38) (.reg [⟨some 39, .mv (.t 8), none⟩,
    ⟨some 40, .neg (.t 39), none⟩,
    ⟨some 8, .asg (.t 40), none⟩] [8, 9]) (.skip))))
  (.seq (.reg [⟨some 41, .mv (.t 8), none⟩,
    ⟨some 42, .mv (.t 9), none⟩,
    ⟨some 4, .asg (.t 41), none⟩,
    ⟨some 5, .asg (.t 42), none⟩,
    ⟨some 6, .asg (.c (.bool true)), none⟩] [4, 5, 6])
  (.ret)))))))
theorem con_impl_readInteger {v0 : (List UInt8)} {v1 : Int} {r : (Int × (List UInt8) × Bool)} (h : sh_impl_readInteger v0 v1 = some r) : Con Tryd.prog 68 [cS.enc v0, cI.enc v1] [] (rs_impl_readInteger r) := by
  delta sh_impl_readInteger at h
  refine top (out := none) (f := Tryd.f68) (m := m68) (rs := [.t 4, .t 5, .t 6]) (by kernel_rfl) rfl (by kernel_rfl) (by kernel_rfl) (by kernel_rfl) (by kernel_rfl) (by kernel_rfl) ?_
  exact
   ini [(0, .d (cS.enc v0)), (1, .d (cI.enc v1))] rfl <| wpC_seq <| reg_s <| x_asg (sc cI (0 : Int) rfl) <| x_asg (sc cS ([] : List UInt8) rfl) <| x_asg (sc cB false rfl) <| seqN [(0, .d (cS.enc v0)), (1, .d (cI.enc v1))] (by kernel_rfl) <|
    xn <| wpC_seq <| jw (fun (s6 : Bool) => [(0, .d (cS.enc v0)), (1, .d (cI.enc v1)), (7, .d (cB.enc s6))]) h (fun s6 h => xn <| wpC_seq <| jw (fun (s10 : (List UInt8)) => [(0, .d (cS.enc s10)), (1, .d (cI.enc v1)), (7, .d (cB.enc s6))]) h (fun s10 h => xn <| wpC_seq <| reg_s <| st rfl <| mvd rfl rfl <| st rfl <| mvd rfl rfl <| bnd h fun x14 e15 h => st rfl <| o_call (a1 (c := cS) tS rfl (a1 (c := cI) tK rfl a0)) (con_impl_readNatural e15) (.inl (so1 sK (so1 sS (so1 sB so0)))) <| x_mvt rfl <| x_ext rfl rfl <| x_ext rfl rfl <| x_ext rfl rfl <| x_asg (ss rfl rfl) <| x_asg (ss rfl rfl) <| x_asg (ss rfl rfl) <| seqN [(7, .d (cB.enc s6)), (8, .d (cI.enc x14.1)), (9, .d (cS.enc x14.2.1)), (10, .d (cB.enc x14.2.2))] (by kernel_rfl) <|
    xn <| sqj (fun (s21 : Unit) => [(7, .d (cB.enc s6)), (8, .d (cI.enc x14.1)), (9, .d (cS.enc x14.2.1))]) h (fun s21 h => wpC_seq <| jw (fun (s26 : Int) => [(8, .d (cI.enc s26)), (9, .d (cS.enc x14.2.1))]) h (fun s26 h => xn <| wpC_seq <| reg_s <| st rfl <| mvd rfl rfl <| st rfl <| mvd rfl rfl <| x_asg (ss rfl rfl) <| x_asg (ss rfl rfl) <| x_asg (sc cB true rfl) <| seqN [(4, .d (cI.enc s26)), (5, .d (cS.enc x14.2.1)), (6, .d (cB.enc true))] (by kernel_rfl) <|
    xn <| wpC_ret <| re <| fin h (r1 (ss rfl rfl) <| r1 (ss rfl rfl) <| r1 (ss rfl rfl) <| r0) rfl)
    fun s26' q27 h => wpC_kp <| wpC_seq <| reg_s <| st rfl <| mvd rfl rfl <| seqN [(8, .d (cI.enc x14.1)), (9, .d (cS.enc x14.2.1)), (38, .d (cB.enc s6))] (by kernel_rfl) <|
    xn <| cnd rfl h (fun b28 h => reg_s <| st rfl <| mvd rfl rfl <| ckI_k h fun i29 h => st rfl <| o_neg (k := .i64) rfl i29 <| x_asg (ss rfl rfl) <| seqN [(8, .d (cI.enc (-x14.1))), (9, .d (cS.enc x14.2.1))] (by kernel_rfl) <|
    kpN [(8, .d (cI.enc (-x14.1))), (9, .d (cS.enc x14.2.1))] (by kernel_rfl) <| lfn (S := (fun (s26 : Int) => [(8, .d (cI.enc s26)), (9, .d (cS.enc x14.2.1))])) h q27 rfl)
    (fun b28 h => wpC_skip <| kpN [(8, .d (cI.enc x14.1)), (9, .d (cS.enc x14.2.1))] (by kernel_rfl) <| lfn (S := (fun (s26 : Int) => [(8, .d (cI.enc s26)), (9, .d (cS.enc x14.2.1))])) h q27 rfl))
    fun m23 h => wpC_kp <| wpC_seq <| reg_s <| st rfl <| mvd rfl rfl <| st rfl <| o_nt rfl <| st rfl <| mvd rfl rfl <| ite_k h (fun b32 h => gf rfl b32 <| gf rfl b32 <| gu rfl <| gu rfl <| gf rfl b32 <| st rfl <| pick1 rfl b32 (cd := cB) (v := true) rfl rfl <| seqN [(7, .d (cB.enc s6)), (8, .d (cI.enc x14.1)), (9, .d (cS.enc x14.2.1)), (37, .d (cB.enc true))] (by kernel_rfl) <|
    xn <| cnd1 rfl rfl <| wpC_seq <| reg_s <| x_asg (sc cI (0 : Int) rfl) <| x_asg (sc cS ([] : List UInt8) rfl) <| x_asg (sc cB false rfl) <| seqN [(4, .d (cI.enc (0 : Int))), (5, .d (cS.enc ([] : List UInt8))), (6, .d (cB.enc false))] (by kernel_rfl) <|
    xn <| wpC_ret <| rt <| rt <| re <| fin h (r1 (ss rfl rfl) <| r1 (ss rfl rfl) <| r1 (ss rfl rfl) <| r0) rfl)
    (fun b32 h => gt' rfl b32 <| st rfl <| mvd rfl rfl <| gt' rfl b32 <| st rfl <| mvd rfl rfl <| ite_k h (fun b33 h => gt' rfl b33 <| st rfl <| mvd rfl rfl <| gt' rfl b33 <| st rfl <| b_eql (k := .i64) rfl rfl <| gt' rfl b32 <| st rfl <| pick1 rfl b33 (cd := cB) (v := (decide (x14.1 = (0 : Int)))) rfl rfl <| st rfl <| pick0 rfl b32 (cd := cB) (v := (decide (x14.1 = (0 : Int)))) rfl rfl <| seqN [(7, .d (cB.enc s6)), (8, .d (cI.enc x14.1)), (9, .d (cS.enc x14.2.1)), (37, .d (cB.enc (decide (x14.1 = (0 : Int)))))] (by kernel_rfl) <|
    xn <| cnd rfl h (fun b34 h => wpC_seq <| reg_s <| x_asg (sc cI (0 : Int) rfl) <| x_asg (sc cS ([] : List UInt8) rfl) <| x_asg (sc cB false rfl) <| seqN [(4, .d (cI.enc (0 : Int))), (5, .d (cS.enc ([] : List UInt8))), (6, .d (cB.enc false))] (by kernel_rfl) <|
    xn <| wpC_ret <| rt <| rt <| re <| fin h (r1 (ss rfl rfl) <| r1 (ss rfl rfl) <| r1 (ss rfl rfl) <| r0) rfl)
    (fun b34 h => wpC_skip <| kpN [(7, .d (cB.enc s6)), (8, .d (cI.enc x14.1)), (9, .d (cS.enc x14.2.1))] (by kernel_rfl) <| m23 () h))
    (fun b33 h => gf rfl b33 <| gf rfl b33 <| gt' rfl b32 <| st rfl <| pick0 rfl b33 (cd := cB) (v := false) rfl rfl <| st rfl <| pick0 rfl b32 (cd := cB) (v := false) rfl rfl <| seqN [(7, .d (cB.enc s6)), (8, .d (cI.enc x14.1)), (9, .d (cS.enc x14.2.1)), (37, .d (cB.enc false))] (by kernel_rfl) <|
    xn <| cnd0 rfl rfl <| wpC_skip <| kpN [(7, .d (cB.enc s6)), (8, .d (cI.enc x14.1)), (9, .d (cS.enc x14.2.1))] (by kernel_rfl) <| m23 () h)))
    fun s10' q11 h => wpC_kp <| wpC_seq <| reg_s <| st rfl <| mvd rfl rfl <| seqN [(0, .d (cS.enc v0)), (1, .d (cI.enc v1)), (7, .d (cB.enc s6)), (19, .d (cB.enc s6))] (by kernel_rfl) <|
    xn <| cnd rfl h (fun b35 h => reg_s <| st rfl <| mvd rfl rfl <| ck_k h fun i36 h => st rfl <| o_sls rfl (lo1 (k := .i64) rfl i36.1) hi0 i36.2 <| x_asg (ss rfl rfl) <| seqN [(0, .d (cS.enc ((v0.take v0.length).drop ((1 : Int)).toNat))), (1, .d (cI.enc v1)), (7, .d (cB.enc s6))] (by kernel_rfl) <|
    kpN [(0, .d (cS.enc ((v0.take v0.length).drop ((1 : Int)).toNat))), (1, .d (cI.enc v1)), (7, .d (cB.enc s6))] (by kernel_rfl) <| lfn (S := (fun (s10 : (List UInt8)) => [(0, .d (cS.enc s10)), (1, .d (cI.enc v1)), (7, .d (cB.enc s6))])) h q11 rfl)
    (fun b35 h => wpC_skip <| kpN [(0, .d (cS.enc v0)), (1, .d (cI.enc v1)), (7, .d (cB.enc s6))] (by kernel_rfl) <| lfn (S := (fun (s10 : (List UInt8)) => [(0, .d (cS.enc s10)), (1, .d (cI.enc v1)), (7, .d (cB.enc s6))])) h q11 rfl))
    fun s6' q7 h => reg_s <| st rfl <| mvd rfl rfl <| stw rfl <| lent rfl fun l37 => st rfl <| b_gtr (k := .i64) rfl rfl <| st rfl <| mvd rfl rfl <| ite_k h (fun b38 h => gt' rfl b38 <| st rfl <| mvd rfl rfl <| gt' rfl b38 <| getO_k h fun x39 i40 g41 h => st rfl <| o_ix (k := .i64) rfl rfl i40 g41 <| gt' rfl b38 <| st rfl <| b_eql (k := .u8) rfl rfl <| st rfl <| pick1 rfl b38 (cd := cB) (v := (decide ((x39.toNat : Int) = (45 : Int)))) rfl rfl <| x_asg (ss rfl rfl) <| seqN [(0, .d (cS.enc v0)), (1, .d (cI.enc v1)), (7, .d (cB.enc (decide ((x39.toNat : Int) = (45 : Int)))))] (by kernel_rfl) <|
    lfn (S := (fun (s6 : Bool) => [(0, .d (cS.enc v0)), (1, .d (cI.enc v1)), (7, .d (cB.enc s6))])) h q7 rfl)
    (fun b38 h => gf rfl b38 <| gf rfl b38 <| gf rfl b38 <| st rfl <| pick0 rfl b38 (cd := cB) (v := false) rfl rfl <| x_asg (ss rfl rfl) <| seqN [(0, .d (cS.enc v0)), (1, .d (cI.enc v1)), (7, .d (cB.enc false))] (by kernel_rfl) <|
    lfn (S := (fun (s6 : Bool) => [(0, .d (cS.enc v0)), (1, .d (cI.enc v1)), (7, .d (cB.enc s6))])) h q7 rfl)

def rs_impl_ParseReport (r : ((List Int) × Bool)) : List D := [(cLo cI).enc r.1, cB.enc r.2]
def m32 : MC := .seq (.reg [⟨some 4, .box (.t 0), none⟩,
    ⟨some 6, .box (.t 2), none⟩,
    ⟨some 8, .asg (.c (.slice true [])), none⟩,
    ⟨some 9, .asg (.c (.bool false)), none⟩] [1, 3, 4, 6])
  (.seq (.kp [1, 3, 4, 6] (.seq (.reg [⟨some 14, .ld 4 1 true, none⟩,
    ⟨some 15, .mv (.t 1), none⟩,
    ⟨some 16, .ld 6 4 true, none⟩,
    ⟨some 17, .call 48 [(.t 14), (.t 15), (.t 16)], none⟩,
    ⟨some 18, .nt (.t 17), none⟩] [1, 3, 4, 6, 18])
  (.cond (.t 18) (.seq (.reg [⟨some 8, .asg (.c (.slice true [])), none⟩,
    ⟨some 9, .asg (.c (.bool false)), none⟩] [8, 9])
  (.ret)) (.skip))))
  (.seq (.reg [⟨some 19, .ld 4 1 true, none⟩,
    ⟨some 20, .mv (.t 1), none⟩,
    ⟨some 21, .ld 6 4 true, none⟩,
    ⟨some 22, .call 54 [(.t 19), (.t 20), (.t 21)], none⟩,
    ⟨some 23, .mk (.int .i64 0) (.t 22), none⟩,
    ⟨some 10, .asg (.t 23), none⟩] [1, 3, 4, 6, 10])
  (.seq (.kp [3, 10] (.seq (.reg [⟨some 24, .mv (.t 10), none⟩,
    ⟨some 25, .len false (.t 24), none⟩,
    ⟨some 26, .mv (.c (.int .i64 0)), none⟩] [1, 3, 4, 6, 10, 25, 26])
  (.blk 0 (.loop (.seq (.reg [⟨some 27, .bin .lss (.t 26) (.t 25), none⟩] [1, 3, 4, 6, 10, 25, 26, 27])
  (.seq (.kp [1, 3, 4, 6, 10, 25, 26] (.cond (.t 27) (.skip) (.exit 0)))
  (.seq (.kp [1, 3, 4, 6, 10, 25, 26] (.blk 1 (.seq (.reg [⟨some 28, .mv (.t 26), none⟩,
    ⟨some 11, .asg (.t 28), none⟩] [1, 3, 4, 6, 10, 11, 25, 26])
  (.seq (.reg [⟨some 30, .mv (.t 3), none⟩,
    ⟨some 31, .ld 4 1 true, none⟩,
    ⟨some 32, .mv (.t 1), none⟩,
    ⟨some 33, .ld 6 4 true, none⟩,
    ⟨some 34, .mv (.t 11), none⟩,
    ⟨some 35, .call 55 [(.t 31), (.t 32), (.t 33), (.t 34)], none⟩,
    ⟨some 36, .bin .add (.t 35) (.c (.str [58, 32])), none⟩,
    ⟨some 37, .call 67 [(.t 30), (.t 36)], none⟩,
    ⟨some 29, .mvt 37, none⟩,
    ⟨some 38, .ext 29 0, none⟩,
    ⟨some 39, .ext 29 1, none⟩,
    ⟨some 12, .asg (.t 38), none⟩,
    ⟨some 13, .asg (.t 39), none⟩] [1, 4, 6, 10, 11, 12, 13, 25, 26])
  (.seq (.kp [1, 4, 6, 10, 11, 12, 25, 26] (.seq (.reg [⟨some 40, .mv (.t 13), none⟩,
    ⟨some 41, .nt (.t 40), none⟩] [1, 4, 6, 10, 11, 12, 25, 26, 41])
  (.cond (.t 41) (.seq (.reg [⟨some 8, .asg (.c (.slice true [])), none⟩,
    ⟨some 9, .asg (.c (.bool false)), none⟩] [8, 9])
  (.ret)) (.skip))))
  (.seq (.reg [⟨some 43, .mv (.t 10), none⟩,
    ⟨some 44, .mv (.t 11), none⟩,
    ⟨some 45, .mv (.t 12), none⟩,
    ⟨some 46, .call 68 [(.t 45), (.c (.int .i64 1000000))], none⟩,
    ⟨some 42, .mvt 46, none⟩,
    ⟨some 47, .ext 42 0, none⟩,
    ⟨some 48, .ext 42 1, none⟩,
    ⟨some 49, .ext 42 2, none⟩,
    ⟨some 50, .ia 43 (.t 44) 1, none⟩,
    ⟨none, .st 50 (.t 47) 1, none⟩,
    ⟨some 12, .asg (.t 48), none⟩,
    ⟨some 13, .asg (.t 49), none⟩] [1, 4, 6, 10, 12, 13, 25, 26])
  (.seq (.kp [1, 4, 6, 10, 12, 25, 26] (.seq (.reg [⟨some 51, .mv (.t 13), none⟩,
    ⟨some 52, .nt (.t 51), none⟩,
    ⟨some 53, .mv (.t 52), none⟩,
    ⟨some 54, .mv (.t 12), some (53, false)⟩,
    ⟨some 55, .bin .eql (.t 54) (.c (.str [])), some (53, false)⟩,
    ⟨some 56, .pick (.t 53) (.c (.bool true)) (.t 55), none⟩,
    ⟨some 57, .mv (.t 56), none⟩,
    ⟨some 58, .mv (.t 12), some (57, false)⟩,
    ⟨some 59, .ix (.t 58) (.c (.int .i64 0)), some (57, false)⟩,
    ⟨some 60, .bin .neq (.t 59) (.c (.int .u8 10)), some (57, false)⟩,
    ⟨some 61, .pick (.t 57) (.c (.bool true)) (.t 60), none⟩] [1, 4, 6, 10, 12, 25, 26, 61])
  (.cond (.t 61) (.seq (.reg [⟨some 8, .asg (.c (.slice true [])), none⟩,
    ⟨some 9, .asg (.c (.bool false)), none⟩] [8, 9])
  (.ret)) (.skip))))
  (.reg [⟨some 62, .mv (.t 12), none⟩,
    ⟨some 63, .sls (.t 62) (some (.c (.int .i64 1))) none, none⟩,
    ⟨some 3, .asg (.t 63), none⟩] [1, 3, 4, 6, 10, 25, 26]))))))))
  (.reg [⟨some 64, .bin .add (.t 26) (.c (.int .i64 1)), none⟩,
    ⟨some 26, .mv (.t 64), none⟩] [1, 3, 4, 6, 10, 25, 26]))))))))
  (.seq (.kp [10] (.seq (.reg [⟨some 65, .mv (.t 3), none⟩,
    ⟨some 66, .bin .neq (.t 65) (.c (.str [])), none⟩] [10, 66])
  (.cond (.t 66) (.seq (.reg [⟨some 8, .asg (.c (.slice true [])), none⟩,
    ⟨some 9, .asg (.c (.bool false)), none⟩] [8, 9])
  (.ret)) (.skip))))
  (.seq (.reg [⟨some 67, .mv (.t 10), none⟩,
    ⟨some 8, .asg (.t 67), none⟩,
    ⟨some 9, .asg (.c (.bool true)), none⟩] [8, 9])
  (.ret))))))
theorem con_impl_ParseReport {v0 : XGeo} {v1 : (List XVariable)} {v2 : XTable} {v3 : (List UInt8)} {r : ((List Int) × Bool)} (h : sh_impl_ParseReport v0 v1 v2 v3 = some r) : Con Tryd.prog 32 [(cXGeo (cLs cI rfl)).enc v0, (cLs (cXVariable cS cI) rfl).enc v1, (cXTable cI (cLs cI rfl) (cLs cI rfl) cI).enc v2, cS.enc v3] [] (rs_impl_ParseReport r) := by
  delta sh_impl_ParseReport at h
  refine top (out := none) (f := Tryd.f32) (m := m32) (rs := [.t 8, .t 9]) (by kernel_rfl) rfl (by kernel_rfl) (by kernel_rfl) (by kernel_rfl) (by kernel_rfl) (by kernel_rfl) ?_
  exact
   ini [(0, .d ((cXGeo (cLs cI rfl)).enc v0)), (1, .d ((cLs (cXVariable cS cI) rfl).enc v1)), (2, .d ((cXTable cI (cLs cI rfl) (cLs cI rfl) cI).enc v2)), (3, .d (cS.enc v3))] rfl <| wpC_seq <| reg_s <| x_box (ss rfl rfl) <| x_box (ss rfl rfl) <| x_asg (sc (cLo cI) ([] : List Int) rfl) <| x_asg (sc cB false rfl) <| seqN [(1, .d ((cLs (cXVariable cS cI) rfl).enc v1)), (3, .d (cS.enc v3)), (4, .box ((cXGeo (cLs cI rfl)).enc v0)), (6, .box ((cXTable cI (cLs cI rfl) (cLs cI rfl) cI).enc v2))] (by kernel_rfl) <|
    xn <| wpC_seq <| wpC_kp <| wpC_seq <| reg_s <| st rfl <| ldb rfl rfl rfl rfl <| st rfl <| mvd rfl rfl <| st rfl <| ldb rfl rfl rfl rfl <| bnd h fun x8 e9 h => st rfl <| o_call (a1 (c := (cXGeo (cLs cI rfl))) (tXGeo (tLs tK)) rfl (a1 (c := (cLs (cXVariable cS cI) rfl)) (tLs (tXVariable tS tK)) rfl (a1 (c := (cXTable cI (cLs cI rfl) (cLs cI rfl) cI)) (tXTable tK (tLs tK) (tLs tK) tK) rfl a0))) (con_impl_areTabled e9) (.inl (so1 sB so0)) <| st rfl <| o_nt rfl <| seqN [(1, .d ((cLs (cXVariable cS cI) rfl).enc v1)), (3, .d (cS.enc v3)), (4, .box ((cXGeo (cLs cI rfl)).enc v0)), (6, .box ((cXTable cI (cLs cI rfl) (cLs cI rfl) cI).enc v2)), (18, .d (cB.enc (!x8)))] (by kernel_rfl) <|
    xn <| cnd rfl h (fun b10 h => wpC_seq <| reg_s <| x_asg (sc (cLo cI) ([] : List Int) rfl) <| x_asg (sc cB false rfl) <| seqN [(8, .d ((cLo cI).enc ([] : List Int))), (9, .d (cB.enc false))] (by kernel_rfl) <|
    xn <| wpC_ret <| rt <| rt <| re <| fin h (r1 (so rfl rfl) <| r1 (ss rfl rfl) <| r0) rfl)
    (fun b10 h => wpC_skip <| kpN [(1, .d ((cLs (cXVariable cS cI) rfl).enc v1)), (3, .d (cS.enc v3)), (4, .box ((cXGeo (cLs cI rfl)).enc v0)), (6, .box ((cXTable cI (cLs cI rfl) (cLs cI rfl) cI).enc v2))] (by kernel_rfl) <| xn <| wpC_seq <| reg_s <| st rfl <| ldb rfl rfl rfl rfl <| st rfl <| mvd rfl rfl <| st rfl <| ldb rfl rfl rfl rfl <| bnd h fun x15 e16 h => st rfl <| o_call (a1 (c := (cXGeo (cLs cI rfl))) (tXGeo (tLs tK)) rfl (a1 (c := (cLs (cXVariable cS cI) rfl)) (tLs (tXVariable tS tK)) rfl (a1 (c := (cXTable cI (cLs cI rfl) (cLs cI rfl) cI)) (tXTable tK (tLs tK) (tLs tK) tK) rfl a0))) (con_impl_cellCount e16) (.inl (so1 sK so0)) <| mkO_k h fun i17 l18 h => st rfl <| o_mk (c := cI) (a0 := (0 : Int)) rfl (k := .i64) rfl i17 l18 <| x_asg (so rfl rfl) <| seqN [(1, .d ((cLs (cXVariable cS cI) rfl).enc v1)), (3, .d (cS.enc v3)), (4, .box ((cXGeo (cLs cI rfl)).enc v0)), (6, .box ((cXTable cI (cLs cI rfl) (cLs cI rfl) cI).enc v2)), (10, .d ((cLo cI).enc (List.replicate (x15).toNat (0 : Int))))] (by kernel_rfl) <|
    xn <| wpC_seq <| wpC_kp <| wpC_seq <| reg_s <| st rfl <| mvo rfl rfl <| stw rfl <| leno rfl fun l288 => st rfl <| mvc cI (0 : Int) rfl <| seqN [(1, .d ((cLs (cXVariable cS cI) rfl).enc v1)), (3, .d (cS.enc v3)), (4, .box ((cXGeo (cLs cI rfl)).enc v0)), (6, .box ((cXTable cI (cLs cI rfl) (cLs cI rfl) cI).enc v2)), (10, .d ((cLo cI).enc (List.replicate (x15).toNat (0 : Int)))), (25, .d (cI.enc ((List.replicate (x15).toNat (0 : Int)).length : Int))), (26, .d (cI.enc (0 : Int)))] (by kernel_rfl) <|
    xn <| wpC_blk <| lpR (fun (k290 : Nat) (s289 : ((List UInt8) × (List Int))) => [(1, .d ((cLs (cXVariable cS cI) rfl).enc v1)), (3, .d (cS.enc s289.1)), (4, .box ((cXGeo (cLs cI rfl)).enc v0)), (6, .box ((cXTable cI (cLs cI rfl) (cLs cI rfl) cI).enc v2)), (10, .d ((cLo cI).enc s289.2)), (25, .d (cI.enc ((List.replicate (x15).toNat (0 : Int)).length : Int))), (26, .d (cI.enc (k290 : Int)))]) (v3, (List.replicate (x15).toNat (0 : Int))) rfl h
    (fun G464 s289 h => wpC_seq <| reg_s <| st rfl <| b_lss (k := .i64) rfl rfl <| seqN [(1, .d ((cLs (cXVariable cS cI) rfl).enc v1)), (3, .d (cS.enc s289.1)), (4, .box ((cXGeo (cLs cI rfl)).enc v0)), (6, .box ((cXTable cI (cLs cI rfl) (cLs cI rfl) cI).enc v2)), (10, .d ((cLo cI).enc s289.2)), (25, .d (cI.enc ((List.replicate (x15).toNat (0 : Int)).length : Int))), (26, .d (cI.enc ((List.replicate (x15).toNat (0 : Int)).length : Int))), (27, .d (cB.enc (decide (((List.replicate (x15).toNat (0 : Int)).length : Int) < ((List.replicate (x15).toNat (0 : Int)).length : Int)))))] (by kernel_rfl) <|
    xn <| wpC_seq <| wpC_kp <| cnd0 rfl (dlf _) <| wpC_exit <| xt <| xt <| xt <| xb <| kpN [(3, .d (cS.enc s289.1)), (10, .d ((cLo cI).enc s289.2))] (by kernel_rfl) <| xn <| wpC_seq <| wpC_kp <| wpC_seq <| reg_s <| st rfl <| mvd rfl rfl <| st rfl <| b_sne rfl rfl <| seqN [(10, .d ((cLo cI).enc s289.2)), (66, .d (cB.enc (decide (s289.1 ≠ ([] : List UInt8)))))] (by kernel_rfl) <|
    xn <| cnd rfl h (fun b466 h => wpC_seq <| reg_s <| x_asg (sc (cLo cI) ([] : List Int) rfl) <| x_asg (sc cB false rfl) <| seqN [(8, .d ((cLo cI).enc ([] : List Int))), (9, .d (cB.enc false))] (by kernel_rfl) <|
    xn <| wpC_ret <| rt <| rt <| re <| fin h (r1 (so rfl rfl) <| r1 (ss rfl rfl) <| r0) rfl)
    (fun b466 h => wpC_skip <| kpN [(10, .d ((cLo cI).enc s289.2))] (by kernel_rfl) <| xn <| wpC_seq <| reg_s <| st rfl <| mvo rfl rfl <| x_asg (sr rfl rfl) <| x_asg (sc cB true rfl) <| seqN [(8, .d ((cLo cI).enc s289.2)), (9, .d (cB.enc true))] (by kernel_rfl) <|
    xn <| wpC_ret <| re <| fin h (r1 (so rfl rfl) <| r1 (ss rfl rfl) <| r0) rfl))
    (fun G464 nx462 k290 s289 x291 hk292 hx293 hn463 h => wpC_seq <| reg_s <| st rfl <| b_lss (k := .i64) rfl rfl <| seqN [(1, .d ((cLs (cXVariable cS cI) rfl).enc v1)), (3, .d (cS.enc s289.1)), (4, .box ((cXGeo (cLs cI rfl)).enc v0)), (6, .box ((cXTable cI (cLs cI rfl) (cLs cI rfl) cI).enc v2)), (10, .d ((cLo cI).enc s289.2)), (25, .d (cI.enc ((List.replicate (x15).toNat (0 : Int)).length : Int))), (26, .d (cI.enc (k290 : Int))), (27, .d (cB.enc (decide ((k290 : Int) < ((List.replicate (x15).toNat (0 : Int)).length : Int)))))] (by kernel_rfl) <|
    xn <| wpC_seq <| wpC_kp <| cnd1 rfl (dlt hk292) <| wpC_skip <| kpN [(1, .d ((cLs (cXVariable cS cI) rfl).enc v1)), (3, .d (cS.enc s289.1)), (4, .box ((cXGeo (cLs cI rfl)).enc v0)), (6, .box ((cXTable cI (cLs cI rfl) (cLs cI rfl) cI).enc v2)), (10, .d ((cLo cI).enc s289.2)), (25, .d (cI.enc ((List.replicate (x15).toNat (0 : Int)).length : Int))), (26, .d (cI.enc (k290 : Int)))] (by kernel_rfl) <| xn <| wpC_seq <| wpC_kp <| wpC_blk <| wpC_seq <| reg_s <| st rfl <| mvd rfl rfl <| x_asg (ss rfl rfl) <| seqN [(1, .d ((cLs (cXVariable cS cI) rfl).enc v1)), (3, .d (cS.enc s289.1)), (4, .box ((cXGeo (cLs cI rfl)).enc v0)), (6, .box ((cXTable cI (cLs cI rfl) (cLs cI rfl) cI).enc v2)), (10, .d ((cLo cI).enc s289.2)), (11, .d (cI.enc (k290 : Int))), (25, .d (cI.enc ((List.replicate (x15).toNat (0 : Int)).length : Int))), (26, .d (cI.enc (k290 : Int)))] (by kernel_rfl) <|
    xn <| wpC_seq <| reg_s <| st rfl <| mvd rfl rfl <| st rfl <| ldb rfl rfl rfl rfl <| st rfl <| mvd rfl rfl <| st rfl <| ldb rfl rfl rfl rfl <| st rfl <| mvd rfl rfl <| bnd h fun x517 e518 h => st rfl <| o_call (a1 (c := (cXGeo (cLs cI rfl))) (tXGeo (tLs tK)) rfl (a1 (c := (cLs (cXVariable cS cI) rfl)) (tLs (tXVariable tS tK)) rfl (a1 (c := (cXTable cI (cLs cI rfl) (cLs cI rfl) cI)) (tXTable tK (tLs tK) (tLs tK) tK) rfl (a1 (c := cI) tK rfl a0)))) (con_impl_cellText e518) (.inl (so1 sS so0)) <| lnO_k h fun l519 h => st rfl <| b_cat rfl rfl l519 <| bnd h fun x520 e521 h => st rfl <| o_call (a1 (c := cS) tS rfl (a1 (c := cS) tS rfl a0)) (con_strings_CutPrefix e521) (.inl (so1 sS (so1 sB so0))) <| x_mvt rfl <| x_ext rfl rfl <| x_ext rfl rfl <| x_asg (ss rfl rfl) <| x_asg (ss rfl rfl) <| seqN [(1, .d ((cLs (cXVariable cS cI) rfl).enc v1)), (4, .box ((cXGeo (cLs cI rfl)).enc v0)), (6, .box ((cXTable cI (cLs cI rfl) (cLs cI rfl) cI).enc v2)), (10, .d ((cLo cI).enc s289.2)), (11, .d (cI.enc (k290 : Int))), (12, .d (cS.enc x520.1)), (13, .d (cB.enc x520.2)), (25, .d (cI.enc ((List.replicate (x15).toNat (0 : Int)).length : Int))), (26, .d (cI.enc (k290 : Int)))] (by kernel_rfl) <|
    xn <| wpC_seq <| wpC_kp <| wpC_seq <| reg_s <| st rfl <| mvd rfl rfl <| st rfl <| o_nt rfl <| seqN [(1, .d ((cLs (cXVariable cS cI) rfl).enc v1)), (4, .box ((cXGeo (cLs cI rfl)).enc v0)), (6, .box ((cXTable cI (cLs cI rfl) (cLs cI rfl) cI).enc v2)), (10, .d ((cLo cI).enc s289.2)), (11, .d (cI.enc (k290 : Int))), (12, .d (cS.enc x520.1)), (25, .d (cI.enc ((List.replicate (x15).toNat (0 : Int)).length : Int))), (26, .d (cI.enc (k290 : Int))), (41, .d (cB.enc (!x520.2)))] (by kernel_rfl) <|
    xn <| cnd rfl h (fun b523 h => wpC_seq <| reg_s <| x_asg (sc (cLo cI) ([] : List Int) rfl) <| x_asg (sc cB false rfl) <| seqN [(8, .d ((cLo cI).enc ([] : List Int))), (9, .d (cB.enc false))] (by kernel_rfl) <|
    xn <| wpC_ret <| rt <| rt <| rb <| rt <| rt <| rt <| rb <| rt <| rt <| re <| fin h (r1 (so rfl rfl) <| r1 (ss rfl rfl) <| r0) rfl)
    (fun b523 h => wpC_skip <| kpN [(1, .d ((cLs (cXVariable cS cI) rfl).enc v1)), (4, .box ((cXGeo (cLs cI rfl)).enc v0)), (6, .box ((cXTable cI (cLs cI rfl) (cLs cI rfl) cI).enc v2)), (10, .d ((cLo cI).enc s289.2)), (11, .d (cI.enc (k290 : Int))), (12, .d (cS.enc x520.1)), (25, .d (cI.enc ((List.replicate (x15).toNat (0 : Int)).length : Int))), (26, .d (cI.enc (k290 : Int)))] (by kernel_rfl) <| xn <| wpC_seq <| reg_s <| st rfl <| mvo rfl rfl <| st rfl <| mvd rfl rfl <| st rfl <| mvd rfl rfl <| bnd h fun x529 e530 h => st rfl <| o_call (a1 (c := cS) tS rfl (a1 (c := cI) tK rfl a0)) (con_impl_readInteger e530) (.inl (so1 sK (so1 sS (so1 sB so0)))) <| x_mvt rfl <| x_ext rfl rfl <| x_ext rfl rfl <| x_ext rfl rfl <| getO_k h fun x531 i532 g533 h => st rfl <| iar rfl rfl rfl rfl i532 g533 rfl <| x_sta ((cLo cI).enc (s289.2.set ((k290 : Int)).toNat x529.1)) (ss rfl rfl) rfl rfl (Ln.idx g533 Ln.nil) (Cd.h_sz cI _) rfl <| x_asg (ss rfl rfl) <| x_asg (ss rfl rfl) <| seqN [(1, .d ((cLs (cXVariable cS cI) rfl).enc v1)), (4, .box ((cXGeo (cLs cI rfl)).enc v0)), (6, .box ((cXTable cI (cLs cI rfl) (cLs cI rfl) cI).enc v2)), (10, .d ((cLo cI).enc (s289.2.set ((k290 : Int)).toNat x529.1))), (12, .d (cS.enc x529.2.1)), (13, .d (cB.enc x529.2.2)), (25, .d (cI.enc ((List.replicate (x15).toNat (0 : Int)).length : Int))), (26, .d (cI.enc (k290 : Int)))] (by kernel_rfl) <|
    xn <| wpC_seq <| wpC_kp <| wpC_seq <| reg_s <| st rfl <| mvd rfl rfl <| st rfl <| o_nt rfl <| st rfl <| mvd rfl rfl <| ite_k h (fun b550 h => gf rfl b550 <| gf rfl b550 <| st rfl <| pick1 rfl b550 (cd := cB) (v := true) rfl rfl <| st rfl <| mvd rfl rfl <| gf rfl rfl <| gf rfl rfl <| gf rfl rfl <| st rfl <| pick1 rfl rfl (cd := cB) (v := true) rfl rfl <| seqN [(1, .d ((cLs (cXVariable cS cI) rfl).enc v1)), (4, .box ((cXGeo (cLs cI rfl)).enc v0)), (6, .box ((cXTable cI (cLs cI rfl) (cLs cI rfl) cI).enc v2)), (10, .d ((cLo cI).enc (s289.2.set ((k290 : Int)).toNat x529.1))), (12, .d (cS.enc x529.2.1)), (25, .d (cI.enc ((List.replicate (x15).toNat (0 : Int)).length : Int))), (26, .d (cI.enc (k290 : Int))), (61, .d (cB.enc true))] (by kernel_rfl) <|
    xn <| cnd1 rfl rfl <| wpC_seq <| reg_s <| x_asg (sc (cLo cI) ([] : List Int) rfl) <| x_asg (sc cB false rfl) <| seqN [(8, .d ((cLo cI).enc ([] : List Int))), (9, .d (cB.enc false))] (by kernel_rfl) <|
    xn <| wpC_ret <| rt <| rt <| rb <| rt <| rt <| rt <| rb <| rt <| rt <| re <| fin h (r1 (so rfl rfl) <| r1 (ss rfl rfl) <| r0) rfl)
    (fun b550 h => gt' rfl b550 <| st rfl <| mvd rfl rfl <| gt' rfl b550 <| st rfl <| b_seq rfl rfl <| st rfl <| pick0 rfl b550 (cd := cB) (v := (decide (x529.2.1 = ([] : List UInt8)))) rfl rfl <| st rfl <| mvd rfl rfl <| ite_k h (fun b551 h => gf rfl b551 <| gf rfl b551 <| gf rfl b551 <| st rfl <| pick1 rfl b551 (cd := cB) (v := true) rfl rfl <| seqN [(1, .d ((cLs (cXVariable cS cI) rfl).enc v1)), (4, .box ((cXGeo (cLs cI rfl)).enc v0)), (6, .box ((cXTable cI (cLs cI rfl) (cLs cI rfl) cI).enc v2)), (10, .d ((cLo cI).enc (s289.2.set ((k290 : Int)).toNat x529.1))), (12, .d (cS.enc x529.2.1)), (25, .d (cI.enc ((List.replicate (x15).toNat (0 : Int)).length : Int))), (26, .d (cI.enc (k290 : Int))), (61, .d (cB.enc true))] (by kernel_rfl) <|
    xn <| cnd1 rfl rfl <| wpC_seq <| reg_s <| x_asg (sc (cLo cI) ([] : List Int) rfl) <| x_asg (sc cB false rfl) <| seqN [(8, .d ((cLo cI).enc ([] : List Int))), (9, .d (cB.enc false))] (by kernel_rfl) <|
    xn <| wpC_ret <| rt <| rt <| rb <| rt <| rt <| rt <| rb <| rt <| rt <| re <| fin h (r1 (so rfl rfl) <| r1 (ss rfl rfl) <| r0) rfl)
    (fun b551 h => gt' rfl b551 <| st rfl <| mvd rfl rfl <| gt' rfl b551 <| getO_k h fun x552 i553 g554 h => st rfl <| o_ix (k := .i64) rfl rfl i553 g554 <| gt' rfl b551 <| st rfl <| b_neq (k := .u8) rfl rfl <| st rfl <| pick0 rfl b551 (cd := cB) (v := (decide ((x552.toNat : Int) ≠ (10 : Int)))) rfl rfl <| seqN [(1, .d ((cLs (cXVariable cS cI) rfl).enc v1)), (4, .box ((cXGeo (cLs cI rfl)).enc v0)), (6, .box ((cXTable cI (cLs cI rfl) (cLs cI rfl) cI).enc v2)), (10, .d ((cLo cI).enc (s289.2.set ((k290 : Int)).toNat x529.1))), (12, .d (cS.enc x529.2.1)), (25, .d (cI.enc ((List.replicate (x15).toNat (0 : Int)).length : Int))), (26, .d (cI.enc (k290 : Int))), (61, .d (cB.enc (decide ((x552.toNat : Int) ≠ (10 : Int)))))] (by kernel_rfl) <|
    xn <| cnd rfl h (fun b555 h => wpC_seq <| reg_s <| x_asg (sc (cLo cI) ([] : List Int) rfl) <| x_asg (sc cB false rfl) <| seqN [(8, .d ((cLo cI).enc ([] : List Int))), (9, .d (cB.enc false))] (by kernel_rfl) <|
    xn <| wpC_ret <| rt <| rt <| rb <| rt <| rt <| rt <| rb <| rt <| rt <| re <| fin h (r1 (so rfl rfl) <| r1 (ss rfl rfl) <| r0) rfl)
    (fun b555 h => wpC_skip <| kpN [(1, .d ((cLs (cXVariable cS cI) rfl).enc v1)), (4, .box ((cXGeo (cLs cI rfl)).enc v0)), (6, .box ((cXTable cI (cLs cI rfl) (cLs cI rfl) cI).enc v2)), (10, .d ((cLo cI).enc (s289.2.set ((k290 : Int)).toNat x529.1))), (12, .d (cS.enc x529.2.1)), (25, .d (cI.enc ((List.replicate (x15).toNat (0 : Int)).length : Int))), (26, .d (cI.enc (k290 : Int)))] (by kernel_rfl) <| xn <| reg_s <| st rfl <| mvd rfl rfl <| ck_k h fun i556 h => st rfl <| o_sls rfl (lo1 (k := .i64) rfl i556.1) hi0 i556.2 <| x_asg (ss rfl rfl) <| seqN [(1, .d ((cLs (cXVariable cS cI) rfl).enc v1)), (3, .d (cS.enc ((x529.2.1.take x529.2.1.length).drop ((1 : Int)).toNat))), (4, .box ((cXGeo (cLs cI rfl)).enc v0)), (6, .box ((cXTable cI (cLs cI rfl) (cLs cI rfl) cI).enc v2)), (10, .d ((cLo cI).enc (s289.2.set ((k290 : Int)).toNat x529.1))), (25, .d (cI.enc ((List.replicate (x15).toNat (0 : Int)).length : Int))), (26, .d (cI.enc (k290 : Int)))] (by kernel_rfl) <|
    xbb <| kpN [(1, .d ((cLs (cXVariable cS cI) rfl).enc v1)), (3, .d (cS.enc ((x529.2.1.take x529.2.1.length).drop ((1 : Int)).toNat))), (4, .box ((cXGeo (cLs cI rfl)).enc v0)), (6, .box ((cXTable cI (cLs cI rfl) (cLs cI rfl) cI).enc v2)), (10, .d ((cLo cI).enc (s289.2.set ((k290 : Int)).toNat x529.1))), (25, .d (cI.enc ((List.replicate (x15).toNat (0 : Int)).length : Int))), (26, .d (cI.enc (k290 : Int)))] (by kernel_rfl) <| xn <| reg_s <| st rfl <| b_inc rfl rfl l288 hk292 <| st rfl <| mvd rfl rfl <| seqN [(1, .d ((cLs (cXVariable cS cI) rfl).enc v1)), (3, .d (cS.enc ((x529.2.1.take x529.2.1.length).drop ((1 : Int)).toNat))), (4, .box ((cXGeo (cLs cI rfl)).enc v0)), (6, .box ((cXTable cI (cLs cI rfl) (cLs cI rfl) cI).enc v2)), (10, .d ((cLo cI).enc (s289.2.set ((k290 : Int)).toNat x529.1))), (25, .d (cI.enc ((List.replicate (x15).toNat (0 : Int)).length : Int))), (26, .d (cI.enc ((k290 + 1 : Nat) : Int)))] (by kernel_rfl) <|
    xn <| hn463 (((x529.2.1.take x529.2.1.length).drop ((1 : Int)).toNat), (s289.2.set ((k290 : Int)).toNat x529.1)) h))))))

def os_laws_markGeo (r : (XGeo × Int)) : D := (cXGeo (cLo cI)).enc r.1
def rs_laws_markGeo (r : (XGeo × Int)) : List D := [cI.enc r.2]
def m33 : MC := .seq (.reg [⟨some 2, .boxm 0, none⟩,
    ⟨some 4, .asg (.c (.int .i64 0)), none⟩] [0, 1, 2])
  (.seq (.reg [⟨some 5, .fa 2 0 0, none⟩,
    ⟨some 6, .ld 5 1 false, none⟩,
    ⟨some 7, .mv (.t 1), none⟩,
    ⟨some 8, .callO 36 [(.t 6), (.t 7)], none⟩,
    ⟨some 1, .asg (.t 8), none⟩] [0, 1])
  (.seq (.reg [⟨some 9, .mv (.t 1), none⟩,
    ⟨some 4, .asg (.t 9), none⟩] [0, 4])
  (.ret)))
theorem con_laws_markGeo {v0 : XGeo} {v1 : Int} {r : (XGeo × Int)} (h : sh_laws_markGeo v0 v1 = some r) : Con Tryd.prog 33 [(cXGeo (cLo cI)).enc v0, cI.enc v1] (outsOf (some (0, os_laws_markGeo r))) (rs_laws_markGeo r) := by
  delta sh_laws_markGeo at h
  refine top (out := some (0, os_laws_markGeo r)) (f := Tryd.f33) (m := m33) (rs := [.t 4]) (by kernel_rfl) rfl (by kernel_rfl) (by kernel_rfl) (by kernel_rfl) (by kernel_rfl) (by kernel_rfl) ?_
  exact
   ini [(0, .d ((cXGeo (cLo cI)).enc v0)), (1, .d (cI.enc v1))] rfl <| wpC_seq <| reg_s <| x_boxm rfl rfl <| x_asg (sc cI (0 : Int) rfl) <| seqN [(0, .d ((cXGeo (cLo cI)).enc v0)), (1, .d (cI.enc v1)), (2, .mad 0 [])] (by kernel_rfl) <|
    xn <| wpC_seq <| reg_s <| st rfl <| fam rfl rfl rfl rfl rfl rfl <| st rfl <| ldmo rfl rfl rfl rfl rfl rfl <| st rfl <| mvd rfl rfl <| bnd h fun x3 e4 h => x_clr (c := (cLo cI)) (c' := (cLo cI)) ((cXGeo (cLo cI)).enc (⟨x3.1⟩ : XGeo)) (sLo sK) rfl (a1 (c := cI) tK rfl a0) rfl (Ln.fld rfl rfl Ln.nil rfl) (con_laws_markIntS e4) rfl rfl (so1 sK so0) <| x_asg (ss rfl rfl) <| seqN [(0, .d ((cXGeo (cLo cI)).enc (⟨x3.1⟩ : XGeo))), (1, .d (cI.enc x3.2))] (by kernel_rfl) <|
    xn <| wpC_seq <| reg_s <| st rfl <| mvd rfl rfl <| x_asg (ss rfl rfl) <| seqN [(0, .d ((cXGeo (cLo cI)).enc (⟨x3.1⟩ : XGeo))), (4, .d (cI.enc x3.2))] (by kernel_rfl) <|
    xn <| wpC_ret <| re <| finO h (r1 (ss rfl rfl) <| r0) rfl rfl

def os_laws_markTable (r : (XTable × Int)) : D := (cXTable cI (cLo cI) (cLo cI) cI).enc r.1
def rs_laws_markTable (r : (XTable × Int)) : List D := [cI.enc r.2]
def m35 : MC := .seq (.reg [⟨some 2, .boxm 0, none⟩,
    ⟨some 4, .asg (.c (.int .i64 0)), none⟩] [0, 1, 2])
  (.seq (.reg [⟨some 5, .fa 2 1 1, none⟩,
    ⟨some 6, .ld 5 1 false, none⟩,
    ⟨some 7, .mv (.t 1), none⟩,
    ⟨some 8, .callO 36 [(.t 6), (.t 7)], none⟩,
    ⟨some 1, .asg (.t 8), none⟩] [0, 1, 2])
  (.seq (.reg [⟨some 9, .fa 2 2 2, none⟩,
    ⟨some 10, .ld 9 1 false, none⟩,
    ⟨some 11, .mv (.t 1), none⟩,
    ⟨some 12, .callO 36 [(.t 10), (.t 11)], none⟩,
    ⟨some 1, .asg (.t 12), none⟩] [0, 1])
  (.seq (.reg [⟨some 13, .mv (.t 1), none⟩,
    ⟨some 4, .asg (.t 13), none⟩] [0, 4])
  (.ret))))
theorem con_laws_markTable {v0 : XTable} {v1 : Int} {r : (XTable × Int)} (h : sh_laws_markTable v0 v1 = some r) : Con Tryd.prog 35 [(cXTable cI (cLo cI) (cLo cI) cI).enc v0, cI.enc v1] (outsOf (some (0, os_laws_markTable r))) (rs_laws_markTable r) := by
  delta sh_laws_markTable at h
  refine top (out := some (0, os_laws_markTable r)) (f := Tryd.f35) (m := m35) (rs := [.t 4]) (by kernel_rfl) rfl (by kernel_rfl) (by kernel_rfl) (by kernel_rfl) (by kernel_rfl) (by kernel_rfl) ?_
  exact
   ini [(0, .d ((cXTable cI (cLo cI) (cLo cI) cI).enc v0)), (1, .d (cI.enc v1))] rfl <| wpC_seq <| reg_s <| x_boxm rfl rfl <| x_asg (sc cI (0 : Int) rfl) <| seqN [(0, .d ((cXTable cI (cLo cI) (cLo cI) cI).enc v0)), (1, .d (cI.enc v1)), (2, .mad 0 [])] (by kernel_rfl) <|
    xn <| wpC_seq <| reg_s <| st rfl <| fam rfl rfl rfl rfl rfl rfl <| st rfl <| ldmo rfl rfl rfl rfl rfl rfl <| st rfl <| mvd rfl rfl <| bnd h fun x3 e4 h => x_clr (c := (cLo cI)) (c' := (cLo cI)) ((cXTable cI (cLo cI) (cLo cI) cI).enc (⟨v0.Level, x3.1, v0.Where, v0.Sum⟩ : XTable)) (sLo sK) rfl (a1 (c := cI) tK rfl a0) rfl (Ln.fld rfl rfl Ln.nil rfl) (con_laws_markIntS e4) rfl rfl (so1 sK so0) <| x_asg (ss rfl rfl) <| seqN [(0, .d ((cXTable cI (cLo cI) (cLo cI) cI).enc (⟨v0.Level, x3.1, v0.Where, v0.Sum⟩ : XTable))), (1, .d (cI.enc x3.2)), (2, .mad 0 [])] (by kernel_rfl) <|
    xn <| wpC_seq <| reg_s <| st rfl <| fam rfl rfl rfl rfl rfl rfl <| st rfl <| ldmo rfl rfl rfl rfl rfl rfl <| st rfl <| mvd rfl rfl <| bnd h fun x7 e8 h => x_clr (c := (cLo cI)) (c' := (cLo cI)) ((cXTable cI (cLo cI) (cLo cI) cI).enc (⟨v0.Level, x3.1, x7.1, v0.Sum⟩ : XTable)) (sLo sK) rfl (a1 (c := cI) tK rfl a0) rfl (Ln.fld rfl rfl Ln.nil rfl) (con_laws_markIntS e8) rfl rfl (so1 sK so0) <| x_asg (ss rfl rfl) <| seqN [(0, .d ((cXTable cI (cLo cI) (cLo cI) cI).enc (⟨v0.Level, x3.1, x7.1, v0.Sum⟩ : XTable))), (1, .d (cI.enc x7.2))] (by kernel_rfl) <|
    xn <| wpC_seq <| reg_s <| st rfl <| mvd rfl rfl <| x_asg (ss rfl rfl) <| seqN [(0, .d ((cXTable cI (cLo cI) (cLo cI) cI).enc (⟨v0.Level, x3.1, x7.1, v0.Sum⟩ : XTable))), (4, .d (cI.enc x7.2))] (by kernel_rfl) <|
    xn <| wpC_ret <| re <| finO h (r1 (ss rfl rfl) <| r0) rfl rfl

end AS.W
