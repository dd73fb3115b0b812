/- The program computes the plain functions. No condition. -/
import Derived.Test.YtpllepipjbiefaaDoorQReportTextS
import Derived.Test.YtpllepipjbiefaaDoorProg
import Derived.Test.YtpllepipjbiefaaDoorQReportTextX
import Derived.Test.YtpllepipjbiefaaDoorQReportTextL0
set_option maxRecDepth 100000
set_option linter.unusedVariables false
set_option linter.unusedSimpArgs false
namespace AS.W
open Go Go.Proofs
def rs_spec_CellAt (r : (Int × (List Int) × Bool)) : List D := [cI.enc r.1, (cLo cI).enc r.2.1, cB.enc r.2.2]
def m80 : MC := .seq (.reg [⟨some 4, .box (.t 0), none⟩,
    ⟨some 6, .box (.t 2), none⟩,
    ⟨some 8, .asg (.c (.int .i64 0)), none⟩,
    ⟨some 9, .asg (.c (.slice true [])), none⟩,
    ⟨some 10, .asg (.c (.bool false)), none⟩] [1, 3, 4, 6])
  (.seq (.kp [1, 3, 4, 6] (.seq (.reg [⟨some 13, .ld 4 1 true, none⟩,
    ⟨some 14, .mv (.t 1), none⟩,
    ⟨some 15, .ld 6 4 true, none⟩,
    ⟨some 16, .call 48 [(.t 13), (.t 14), (.t 15)], none⟩,
    ⟨some 17, .nt (.t 16), none⟩,
    ⟨some 18, .mv (.t 17), none⟩,
    ⟨some 19, .mv (.t 3), some (18, false)⟩,
    ⟨some 20, .ld 4 1 true, some (18, false)⟩,
    ⟨some 21, .mv (.t 1), some (18, false)⟩,
    ⟨some 22, .ld 6 4 true, some (18, false)⟩,
    ⟨some 23, .call 49 [(.t 20), (.t 21), (.t 22)], some (18, false)⟩,
    ⟨some 24, .bin .sub (.t 23) (.c (.int .i64 1)), some (18, false)⟩,
    ⟨some 25, .call 61 [(.t 19), (.c (.int .i64 0)), (.t 24)], some (18, false)⟩,
    ⟨some 26, .nt (.t 25), some (18, false)⟩,
    ⟨some 27, .pick (.t 18) (.c (.bool true)) (.t 26), none⟩] [1, 3, 4, 6, 27])
  (.cond (.t 27) (.seq (.reg [⟨some 8, .asg (.c (.int .i64 0)), none⟩,
    ⟨some 9, .asg (.c (.slice true [])), none⟩,
    ⟨some 10, .asg (.c (.bool false)), none⟩] [8, 9, 10])
  (.ret)) (.skip))))
  (.seq (.reg [⟨some 28, .mv (.t 1), none⟩,
    ⟨some 29, .fa 6 1 1, none⟩,
    ⟨some 30, .ld 29 1 false, none⟩,
    ⟨some 31, .call 79 [(.t 28), (.t 30)], none⟩,
    ⟨some 11, .asg (.t 31), none⟩] [3, 4, 6, 11])
  (.seq (.reg [⟨some 32, .mv (.t 11), none⟩,
    ⟨some 33, .call 78 [(.t 32)], none⟩,
    ⟨some 12, .asg (.t 33), none⟩] [3, 4, 6, 11, 12])
  (.seq (.drw [⟨0, ⟨some 34, .ld 4 1 true, none⟩, [35, 36, 37, 38, 39, 40, 41, 42, 43, 44, 45, 46, 47]⟩,
    ⟨1, ⟨some 35, .fa 6 0 0, none⟩, [34, 36, 37, 38, 39, 40, 41, 42, 43, 44, 45, 46, 47]⟩,
    ⟨2, ⟨some 36, .ld 35 1 false, none⟩, [34, 37, 38, 39, 40, 41, 42, 43, 44, 45, 46, 47]⟩,
    ⟨3, ⟨some 37, .call 75 [(.t 34), (.t 36)], none⟩, [38, 39, 40, 41, 42, 43, 44, 45, 46, 47]⟩,
    ⟨4, ⟨some 38, .mv (.t 3), none⟩, [34, 35, 36, 37, 39, 40, 41, 42, 43, 44, 45, 46, 47]⟩,
    ⟨5, ⟨some 39, .mv (.t 12), none⟩, [34, 35, 36, 37, 38, 40, 41, 42, 43, 44, 45, 46, 47]⟩,
    ⟨6, ⟨some 40, .bin .quo (.t 38) (.t 39), none⟩, [34, 35, 36, 37, 41, 42, 43, 44, 45, 46, 47]⟩,
    ⟨7, ⟨some 41, .ia 37 (.t 40) 1, none⟩, [42, 43, 44, 45, 46, 47]⟩,
    ⟨8, ⟨some 42, .ld 41 1 false, none⟩, [43, 44, 45, 46, 47]⟩,
    ⟨9, ⟨some 43, .mv (.t 11), none⟩, [34, 35, 36, 37, 38, 39, 40, 41, 42, 44, 45, 46, 47]⟩,
    ⟨10, ⟨some 44, .mv (.t 3), none⟩, [34, 35, 36, 37, 38, 39, 40, 41, 42, 43, 45, 46, 47]⟩,
    ⟨11, ⟨some 45, .mv (.t 12), none⟩, [34, 35, 36, 37, 38, 39, 40, 41, 42, 43, 44, 46, 47]⟩,
    ⟨12, ⟨some 46, .bin .rem (.t 44) (.t 45), none⟩, [34, 35, 36, 37, 38, 39, 40, 41, 42, 43, 47]⟩,
    ⟨13, ⟨some 47, .call 95 [(.t 43), (.t 46)], none⟩, [38, 39, 40, 41, 42]⟩]
    [(14, ⟨some 8, .asg (.t 42), none⟩),
    (15, ⟨some 9, .asg (.t 47), none⟩),
    (16, ⟨some 10, .asg (.c (.bool true)), none⟩)] [8, 9, 10])
  (.ret)))))
theorem con_spec_CellAt {v0 : XGeo} {v1 : (List XVariable)} {v2 : XTable} {v3 : Int} {r : (Int × (List Int) × Bool)} (h : sh_spec_CellAt v0 v1 v2 v3 = some r) : Con Tryd.prog 80 [(cXGeo (cLs cI rfl)).enc v0, (cLs (cXVariable cS cI) rfl).enc v1, (cXTable cI (cLs cI rfl) (cLs cI rfl) cI).enc v2, cI.enc v3] [] (rs_spec_CellAt r) := by
  delta sh_spec_CellAt at h
  refine top (out := none) (f := Tryd.f80) (m := m80) (rs := [.t 8, .t 9, .t 10]) (by kernel_rfl) rfl (by kernel_rfl) (by kernel_rfl) (by kernel_rfl) (by kernel_rfl) (by kernel_rfl) ?_
  exact
   ini [(0, .d ((cXGeo (cLs cI rfl)).enc v0)), (1, .d ((cLs (cXVariable cS cI) rfl).enc v1)), (2, .d ((cXTable cI (cLs cI rfl) (cLs cI rfl) cI).enc v2)), (3, .d (cI.enc v3))] rfl <| wpC_seq <| reg_s <| x_box (ss rfl rfl) <| x_box (ss rfl rfl) <| x_asg (sc cI (0 : Int) rfl) <| x_asg (sc (cLo cI) ([] : List Int) rfl) <| x_asg (sc cB false rfl) <| seqN [(1, .d ((cLs (cXVariable cS cI) rfl).enc v1)), (3, .d (cI.enc v3)), (4, .box ((cXGeo (cLs cI rfl)).enc v0)), (6, .box ((cXTable cI (cLs cI rfl) (cLs cI rfl) cI).enc v2))] (by kernel_rfl) <|
    xn <| wpC_seq <| wpC_kp <| wpC_seq <| reg_s <| st rfl <| ldb rfl rfl rfl rfl <| st rfl <| mvd rfl rfl <| st rfl <| ldb rfl rfl rfl rfl <| bnd h fun x26 e27 h => st rfl <| o_call (a1 (c := (cXGeo (cLs cI rfl))) (tXGeo (tLs tK)) rfl (a1 (c := (cLs (cXVariable cS cI) rfl)) (tLs (tXVariable tS tK)) rfl (a1 (c := (cXTable cI (cLs cI rfl) (cLs cI rfl) cI)) (tXTable tK (tLs tK) (tLs tK) tK) rfl a0))) (con_spec_uGood e27) (.inl (so1 sB so0)) <| st rfl <| o_nt rfl <| st rfl <| mvd rfl rfl <| ite_k h (fun b28 h => gf rfl b28 <| gf rfl b28 <| gf rfl b28 <| gf rfl b28 <| gf rfl b28 <| gf rfl b28 <| gf rfl b28 <| gf rfl b28 <| st rfl <| pick1 rfl b28 (cd := cB) (v := true) rfl rfl <| seqN [(1, .d ((cLs (cXVariable cS cI) rfl).enc v1)), (3, .d (cI.enc v3)), (4, .box ((cXGeo (cLs cI rfl)).enc v0)), (6, .box ((cXTable cI (cLs cI rfl) (cLs cI rfl) cI).enc v2)), (27, .d (cB.enc true))] (by kernel_rfl) <|
    xn <| cnd1 rfl rfl <| wpC_seq <| reg_s <| x_asg (sc cI (0 : Int) rfl) <| x_asg (sc (cLo cI) ([] : List Int) rfl) <| x_asg (sc cB false rfl) <| seqN [(8, .d (cI.enc (0 : Int))), (9, .d ((cLo cI).enc ([] : List Int))), (10, .d (cB.enc false))] (by kernel_rfl) <|
    xn <| wpC_ret <| rt <| rt <| re <| fin h (r1 (ss rfl rfl) <| r1 (so rfl rfl) <| r1 (ss rfl rfl) <| r0) rfl)
    (fun b28 h => gt' rfl b28 <| st rfl <| mvd rfl rfl <| gt' rfl b28 <| st rfl <| ldb rfl rfl rfl rfl <| gt' rfl b28 <| st rfl <| mvd rfl rfl <| gt' rfl b28 <| st rfl <| ldb rfl rfl rfl rfl <| gt' rfl b28 <| bnd h fun x29 e30 h => st rfl <| o_call (a1 (c := (cXGeo (cLs cI rfl))) (tXGeo (tLs tK)) rfl (a1 (c := (cLs (cXVariable cS cI) rfl)) (tLs (tXVariable tS tK)) rfl (a1 (c := (cXTable cI (cLs cI rfl) (cLs cI rfl) cI)) (tXTable tK (tLs tK) (tLs tK) tK) rfl a0))) (con_spec_uCount e30) (.inl (so1 sK so0)) <| gt' rfl b28 <| ckI_k h fun i31 h => st rfl <| b_sub (k := .i64) rfl rfl i31 <| gt' rfl b28 <| bnd h fun x32 e33 h => st rfl <| o_call (a1 (c := cI) tK rfl (a1 (c := cI) tK rfl (a1 (c := cI) tK rfl a0))) (con_spec_l1In e33) (.inl (so1 sB so0)) <| gt' rfl b28 <| st rfl <| o_nt rfl <| st rfl <| pick0 rfl b28 (cd := cB) (v := (!x32)) rfl rfl <| seqN [(1, .d ((cLs (cXVariable cS cI) rfl).enc v1)), (3, .d (cI.enc v3)), (4, .box ((cXGeo (cLs cI rfl)).enc v0)), (6, .box ((cXTable cI (cLs cI rfl) (cLs cI rfl) cI).enc v2)), (27, .d (cB.enc (!x32)))] (by kernel_rfl) <|
    xn <| cnd rfl h (fun b34 h => wpC_seq <| reg_s <| x_asg (sc cI (0 : Int) rfl) <| x_asg (sc (cLo cI) ([] : List Int) rfl) <| x_asg (sc cB false rfl) <| seqN [(8, .d (cI.enc (0 : Int))), (9, .d ((cLo cI).enc ([] : List Int))), (10, .d (cB.enc false))] (by kernel_rfl) <|
    xn <| wpC_ret <| rt <| rt <| re <| fin h (r1 (ss rfl rfl) <| r1 (so rfl rfl) <| r1 (ss rfl rfl) <| r0) rfl)
    (fun b34 h => wpC_skip <| kpN [(1, .d ((cLs (cXVariable cS cI) rfl).enc v1)), (3, .d (cI.enc v3)), (4, .box ((cXGeo (cLs cI rfl)).enc v0)), (6, .box ((cXTable cI (cLs cI rfl) (cLs cI rfl) cI).enc v2))] (by kernel_rfl) <| xn <| wpC_seq <| reg_s <| st rfl <| mvd rfl rfl <| st rfl <| fab rfl rfl rfl rfl <| st rfl <| lda rfl rfl rfl rfl rfl rfl <| bnd h fun x37 e38 h => st rfl <| o_call (a1 (c := (cLs (cXVariable cS cI) rfl)) (tLs (tXVariable tS tK)) rfl (a1 (c := (cLs cI rfl)) (tLs tK) rfl a0)) (con_spec_sPart e38) (.inl (so1 (sLo (sXVariable sS sK)) so0)) <| x_asg (so rfl rfl) <| seqN [(3, .d (cI.enc v3)), (4, .box ((cXGeo (cLs cI rfl)).enc v0)), (6, .box ((cXTable cI (cLs cI rfl) (cLs cI rfl) cI).enc v2)), (11, .d ((cLo (cXVariable cS cI)).enc x37))] (by kernel_rfl) <|
    xn <| wpC_seq <| reg_s <| st rfl <| mvo rfl rfl <| bnd h fun x41 e42 h => st rfl <| o_call (a1 (c := (cLo (cXVariable cS cI))) (tLo (tXVariable tS tK)) rfl a0) (con_spec_sCount e42) (.inl (so1 sK so0)) <| x_asg (ss rfl rfl) <| seqN [(3, .d (cI.enc v3)), (4, .box ((cXGeo (cLs cI rfl)).enc v0)), (6, .box ((cXTable cI (cLs cI rfl) (cLs cI rfl) cI).enc v2)), (11, .d ((cLo (cXVariable cS cI)).enc x37)), (12, .d (cI.enc x41))] (by kernel_rfl) <|
    xn <| wpC_seq <| drw_s <| pst rfl <| ldb rfl rfl rfl rfl ⟨rfl, pst rfl <| fab rfl rfl rfl rfl ⟨rfl, pst rfl <| lda rfl rfl rfl rfl rfl rfl ⟨rfl, bndp h fun x53 e54 h => pst rfl <| o_call (a1 (c := (cXGeo (cLs cI rfl))) (tXGeo (tLs tK)) rfl (a1 (c := cI) tK rfl a0)) (con_spec_gLevel e54) (.inl (so1 (sLo sK) so0)) ⟨rfl, pst rfl <| mvd rfl rfl ⟨rfl, pst rfl <| mvd rfl rfl ⟨rfl, ck_kp h fun i55 h => ckI_kp h fun i56 h => pst rfl <| b_quo (k := .i64) rfl rfl i55 i56 ⟨rfl, getO_kp h fun x57 i58 g59 h => pst rfl <| iao rfl rfl i58 g59 rfl ⟨rfl, pst rfl <| lda rfl rfl (Gt.idx g59 Gt.nil) rfl rfl rfl ⟨rfl, pst rfl <| mvo rfl rfl ⟨rfl, pst rfl <| mvd rfl rfl ⟨rfl, pst rfl <| mvd rfl rfl ⟨rfl, ck_kp h fun i60 h => pst rfl <| b_rem (k := .i64) rfl rfl i60 ⟨rfl, bndp h fun x61 e62 h => pst rfl <| o_call (a1 (c := (cLo (cXVariable cS cI))) (tLo (tXVariable tS tK)) rfl (a1 (c := cI) tK rfl a0)) (con_spec_sAt e62) (.inl (so1 (sLo sK) so0)) ⟨rfl, preN <| x_asg (ss rfl rfl) <| x_asg (so rfl rfl) <| x_asg (sc cB true rfl) <| seqN [(8, .d (cI.enc x57)), (9, .d ((cLo cI).enc x61)), (10, .d (cB.enc true))] (by kernel_rfl) <|
    xn <| wpC_ret <| re <| fin h (r1 (ss rfl rfl) <| r1 (so rfl rfl) <| r1 (ss rfl rfl) <| r0) rfl⟩⟩⟩⟩⟩⟩⟩⟩⟩⟩⟩⟩⟩⟩))

def rs_spec_l1Num (r : (List UInt8)) : List D := [cS.enc r]
def m81 : MC := .seq (.reg [⟨some 2, .asg (.c (.str [])), none⟩] [0])
  (.seq (.kp [0] (.seq (.reg [⟨some 3, .mv (.t 0), none⟩,
    ⟨some 4, .bin .lss (.t 3) (.c (.int .i64 10)), none⟩] [0, 4])
  (.cond (.t 4) (.seq (.reg [⟨some 5, .mv (.t 0), none⟩,
    ⟨some 6, .bin .add (.c (.int .i64 48)) (.t 5), none⟩,
    ⟨some 7, .cvi .u8 (.t 6), none⟩,
    ⟨some 8, .bsl [(.t 7)] 1, none⟩,
    ⟨some 9, .b2s (.t 8), none⟩,
    ⟨some 2, .asg (.t 9), none⟩] [2])
  (.ret)) (.skip))))
  (.seq (.drw [⟨0, ⟨some 10, .mv (.t 0), none⟩, [11, 12, 13, 14, 15, 16, 17, 18, 19]⟩,
    ⟨1, ⟨some 11, .bin .quo (.t 10) (.c (.int .i64 10)), none⟩, [12, 13, 14, 15, 16, 17, 18, 19]⟩,
    ⟨2, ⟨some 12, .call 81 [(.t 11)], none⟩, [13, 14, 15, 16, 17, 18, 19]⟩,
    ⟨3, ⟨some 13, .mv (.t 0), none⟩, [10, 11, 12, 14, 15, 16, 17, 18, 19]⟩,
    ⟨4, ⟨some 14, .bin .rem (.t 13) (.c (.int .i64 10)), none⟩, [10, 11, 12, 15, 16, 17, 18, 19]⟩,
    ⟨5, ⟨some 15, .bin .add (.c (.int .i64 48)) (.t 14), none⟩, [10, 11, 12, 16, 17, 18, 19]⟩,
    ⟨6, ⟨some 16, .cvi .u8 (.t 15), none⟩, [10, 11, 12, 17, 18, 19]⟩,
    ⟨7, ⟨some 17, .bsl [(.t 16)] 1, none⟩, [10, 11, 12, 18, 19]⟩,
    ⟨8, ⟨some 18, .b2s (.t 17), none⟩, [10, 11, 12, 19]⟩,
    ⟨9, ⟨some 19, .bin .add (.t 12) (.t 18), none⟩, []⟩]
    [(10, ⟨some 2, .asg (.t 19), none⟩)] [2])
  (.ret)))
theorem con_spec_l1Num_B {self : Int → Option (List UInt8)} (hself : ∀ {v : Int} {r : (List UInt8)}, self v = some r → Con Tryd.prog 81 [cI.enc v] [] (rs_spec_l1Num r)) {v0 : Int} {r : (List UInt8)} (h : sh_spec_l1Num_B self v0 = some r) : Con Tryd.prog 81 [cI.enc v0] [] (rs_spec_l1Num r) := by
  delta sh_spec_l1Num_B at h
  refine top (out := none) (f := Tryd.f81) (m := m81) (rs := [.t 2]) (by kernel_rfl) rfl (by kernel_rfl) (by kernel_rfl) (by kernel_rfl) (by kernel_rfl) (by kernel_rfl) ?_
  exact
   ini [(0, .d (cI.enc v0))] rfl <| wpC_seq <| reg_s <| x_asg (sc cS ([] : List UInt8) rfl) <| seqN [(0, .d (cI.enc v0))] (by kernel_rfl) <|
    xn <| wpC_seq <| wpC_kp <| wpC_seq <| reg_s <| st rfl <| mvd rfl rfl <| st rfl <| b_lss (k := .i64) rfl rfl <| seqN [(0, .d (cI.enc v0)), (4, .d (cB.enc (decide (v0 < (10 : Int)))))] (by kernel_rfl) <|
    xn <| cnd rfl h (fun b10 h => wpC_seq <| reg_s <| st rfl <| mvd rfl rfl <| ckI_k h fun i15 h => st rfl <| b_add (k := .i64) rfl rfl i15 <| ckU_k h fun i16 h => st rfl <| o_cvi (k := .i64) (k' := .u8) rfl i16 <| x_bsl cU [((48 : Int) + v0)] (t1 (ss rfl rfl) rfl t0) rfl rfl <| ck_k h fun i17 h => st rfl <| o_b2s rfl rfl i17 <| x_asg (ss rfl rfl) <| seqN [(2, .d (cS.enc (bytesOf [((48 : Int) + v0)])))] (by kernel_rfl) <|
    xn <| wpC_ret <| rt <| rt <| re <| fin h (r1 (ss rfl rfl) <| r0) rfl)
    (fun b10 h => wpC_skip <| kpN [(0, .d (cI.enc v0))] (by kernel_rfl) <| xn <| wpC_seq <| drw_s <| pst rfl <| mvd rfl rfl ⟨rfl, ck_kp h fun i29 h => ckI_kp h fun i30 h => pst rfl <| b_quo (k := .i64) rfl rfl i29 i30 ⟨rfl, bndp h fun x31 e32 h => pst rfl <| o_call (a1 (c := cI) tK rfl a0) (hself e32) (.inl (so1 sS so0)) ⟨rfl, pst rfl <| mvd rfl rfl ⟨rfl, ck_kp h fun i33 h => pst rfl <| b_rem (k := .i64) rfl rfl i33 ⟨rfl, ckI_kp h fun i34 h => pst rfl <| b_add (k := .i64) rfl rfl i34 ⟨rfl, ckU_kp h fun i35 h => pst rfl <| o_cvi (k := .i64) (k' := .u8) rfl i35 ⟨rfl, pst rfl <| p_bsl cU [((48 : Int) + (v0.tmod (10 : Int)))] (e1 rfl rfl rfl e0) rfl rfl ⟨rfl, ck_kp h fun i36 h => pst rfl <| o_b2s rfl rfl i36 ⟨rfl, lnO_kp h fun l38 h => pst rfl <| b_cat rfl rfl l38 ⟨rfl, preN <| x_asg (ss rfl rfl) <| seqN [(2, .d (cS.enc (x31 ++ (bytesOf [((48 : Int) + (v0.tmod (10 : Int)))]))))] (by kernel_rfl) <|
    xn <| wpC_ret <| re <| fin h (r1 (ss rfl rfl) <| r0) rfl⟩⟩⟩⟩⟩⟩⟩⟩⟩⟩)
theorem con_spec_l1Num {v0 : Int} {r : (List UInt8)} (h : sh_spec_l1Num v0 = some r) : Con Tryd.prog 81 [cI.enc v0] [] (rs_spec_l1Num r) := by
  have key : ∀ (n : Nat) {v : Int} {r : (List UInt8)}, loopF sh_spec_l1Num_B n v = some r → Con Tryd.prog 81 [cI.enc v] [] (rs_spec_l1Num r) := by
    intro n
    induction n with
    | zero => intro v r h; cases h
    | succ n ih => intro v r h; exact con_spec_l1Num_B ih h
  exact key _ h

def rs_spec_nCell (r : (List UInt8)) : List D := [cS.enc r]
def m51 : MC := .seq (.reg [⟨some 4, .box (.t 0), none⟩,
    ⟨some 6, .box (.t 2), none⟩,
    ⟨some 8, .asg (.c (.str [])), none⟩] [1, 3, 4, 6])
  (.seq (.reg [⟨some 16, .ld 4 1 true, none⟩,
    ⟨some 17, .mv (.t 1), none⟩,
    ⟨some 18, .ld 6 4 true, none⟩,
    ⟨some 19, .mv (.t 3), none⟩,
    ⟨some 20, .call 80 [(.t 16), (.t 17), (.t 18), (.t 19)], none⟩,
    ⟨some 15, .mvt 20, none⟩,
    ⟨some 21, .ext 15 0, none⟩,
    ⟨some 22, .ext 15 1, none⟩,
    ⟨some 23, .ext 15 2, none⟩,
    ⟨some 9, .asg (.t 21), none⟩,
    ⟨some 10, .asg (.t 22), none⟩,
    ⟨some 11, .asg (.t 23), none⟩] [1, 6, 9, 10])
  (.seq (.reg [⟨some 24, .mv (.t 9), none⟩,
    ⟨some 25, .call 81 [(.t 24)], none⟩,
    ⟨some 26, .bin .add (.c (.str [97, 114, 101, 97, 32])) (.t 25), none⟩,
    ⟨some 12, .asg (.t 26), none⟩] [1, 6, 10, 12])
  (.seq (.kp [12] (.seq (.reg [⟨some 27, .fa 6 1 1, none⟩,
    ⟨some 28, .ld 27 1 false, none⟩,
    ⟨some 29, .len false (.t 28), none⟩,
    ⟨some 30, .mv (.c (.int .i64 0)), none⟩] [1, 6, 10, 12, 27, 28, 29, 30])
  (.blk 0 (.loop (.seq (.reg [⟨some 31, .bin .lss (.t 30) (.t 29), none⟩] [1, 6, 10, 12, 27, 28, 29, 30, 31])
  (.seq (.kp [1, 6, 10, 12, 27, 28, 29, 30] (.cond (.t 31) (.skip) (.exit 0)))
  (.seq (.kp [1, 6, 10, 12, 27, 28, 29, 30] (.blk 1 (.seq (.reg [⟨some 32, .mv (.t 30), none⟩,
    ⟨some 33, .ia 28 (.t 30) 1, none⟩,
    ⟨some 34, .ld 33 1 false, none⟩,
    ⟨some 13, .asg (.t 32), none⟩,
    ⟨some 14, .asg (.t 34), none⟩] [1, 6, 10, 12, 13, 14, 27, 28, 29, 30])
  (.drw [⟨0, ⟨some 35, .mv (.t 12), none⟩, [36, 37, 38, 39, 40, 41, 42, 43, 44, 45, 46, 47, 48, 49]⟩,
    ⟨1, ⟨some 36, .mv (.t 1), none⟩, [35, 37, 38, 39, 40, 41, 42, 43, 44, 45, 46, 47, 48, 49]⟩,
    ⟨2, ⟨some 37, .mv (.t 14), none⟩, [35, 36, 38, 39, 40, 41, 42, 43, 44, 45, 46, 47, 48, 49]⟩,
    ⟨3, ⟨some 38, .ia 36 (.t 37) 2, none⟩, [35, 39, 40, 41, 42, 43, 44, 45, 46, 47, 48, 49]⟩,
    ⟨4, ⟨some 39, .fa 38 0 0, none⟩, [35, 40, 41, 42, 43, 44, 45, 46, 47, 48, 49]⟩,
    ⟨5, ⟨some 40, .ld 39 1 false, none⟩, [35, 41, 42, 43, 44, 45, 46, 47, 48, 49]⟩,
    ⟨6, ⟨some 41, .bin .add (.c (.str [32])) (.t 40), none⟩, [35, 42, 43, 44, 45, 46, 47, 48, 49]⟩,
    ⟨7, ⟨some 42, .bin .add (.t 41) (.c (.str [61])), none⟩, [35, 43, 44, 45, 46, 47, 48, 49]⟩,
    ⟨8, ⟨some 43, .mv (.t 10), none⟩, [35, 36, 37, 38, 39, 40, 41, 42, 44, 45, 46, 47, 48, 49]⟩,
    ⟨9, ⟨some 44, .mv (.t 13), none⟩, [35, 36, 37, 38, 39, 40, 41, 42, 43, 45, 46, 47, 48, 49]⟩,
    ⟨10, ⟨some 45, .ia 43 (.t 44) 1, none⟩, [35, 36, 37, 38, 39, 40, 41, 42, 46, 47, 48, 49]⟩,
    ⟨11, ⟨some 46, .ld 45 1 false, none⟩, [35, 36, 37, 38, 39, 40, 41, 42, 47, 48, 49]⟩,
    ⟨12, ⟨some 47, .call 81 [(.t 46)], none⟩, [35, 36, 37, 38, 39, 40, 41, 42, 48, 49]⟩,
    ⟨13, ⟨some 48, .bin .add (.t 42) (.t 47), none⟩, [35, 49]⟩,
    ⟨14, ⟨some 49, .bin .add (.t 35) (.t 48), none⟩, []⟩]
    [(15, ⟨some 12, .asg (.t 49), none⟩)] [1, 6, 10, 12, 27, 28, 29, 30]))))
  (.reg [⟨some 50, .bin .add (.t 30) (.c (.int .i64 1)), none⟩,
    ⟨some 30, .mv (.t 50), none⟩] [1, 6, 10, 12, 27, 28, 29, 30]))))))))
  (.seq (.reg [⟨some 51, .mv (.t 12), none⟩,
    ⟨some 8, .asg (.t 51), none⟩] [8])
  (.ret)))))
theorem con_spec_nCell {v0 : XGeo} {v1 : (List XVariable)} {v2 : XTable} {v3 : Int} {r : (List UInt8)} (h : sh_spec_nCell v0 v1 v2 v3 = some r) : Con Tryd.prog 51 [(cXGeo (cLs cI rfl)).enc v0, (cLs (cXVariable cS cI) rfl).enc v1, (cXTable cI (cLs cI rfl) (cLs cI rfl) cI).enc v2, cI.enc v3] [] (rs_spec_nCell r) := by
  delta sh_spec_nCell at h
  refine top (out := none) (f := Tryd.f51) (m := m51) (rs := [.t 8]) (by kernel_rfl) rfl (by kernel_rfl) (by kernel_rfl) (by kernel_rfl) (by kernel_rfl) (by kernel_rfl) ?_
  exact
   ini [(0, .d ((cXGeo (cLs cI rfl)).enc v0)), (1, .d ((cLs (cXVariable cS cI) rfl).enc v1)), (2, .d ((cXTable cI (cLs cI rfl) (cLs cI rfl) cI).enc v2)), (3, .d (cI.enc v3))] rfl <| wpC_seq <| reg_s <| x_box (ss rfl rfl) <| x_box (ss rfl rfl) <| x_asg (sc cS ([] : List UInt8) rfl) <| seqN [(1, .d ((cLs (cXVariable cS cI) rfl).enc v1)), (3, .d (cI.enc v3)), (4, .box ((cXGeo (cLs cI rfl)).enc v0)), (6, .box ((cXTable cI (cLs cI rfl) (cLs cI rfl) cI).enc v2))] (by kernel_rfl) <|
    xn <| wpC_seq <| reg_s <| st rfl <| ldb rfl rfl rfl rfl <| st rfl <| mvd rfl rfl <| st rfl <| ldb rfl rfl rfl rfl <| st rfl <| mvd rfl rfl <| bnd h fun x3 e4 h => st rfl <| o_call (a1 (c := (cXGeo (cLs cI rfl))) (tXGeo (tLs tK)) rfl (a1 (c := (cLs (cXVariable cS cI) rfl)) (tLs (tXVariable tS tK)) rfl (a1 (c := (cXTable cI (cLs cI rfl) (cLs cI rfl) cI)) (tXTable tK (tLs tK) (tLs tK) tK) rfl (a1 (c := cI) tK rfl a0)))) (con_spec_CellAt e4) (.inl (so1 sK (so1 (sLo sK) (so1 sB so0)))) <| x_mvt rfl <| x_ext rfl rfl <| x_ext rfl rfl <| x_ext rfl rfl <| x_asg (ss rfl rfl) <| x_asg (so rfl rfl) <| x_asg (ss rfl rfl) <| seqN [(1, .d ((cLs (cXVariable cS cI) rfl).enc v1)), (6, .box ((cXTable cI (cLs cI rfl) (cLs cI rfl) cI).enc v2)), (9, .d (cI.enc x3.1)), (10, .d ((cLo cI).enc x3.2.1))] (by kernel_rfl) <|
    xn <| wpC_seq <| reg_s <| st rfl <| mvd rfl rfl <| bnd h fun x8 e9 h => st rfl <| o_call (a1 (c := cI) tK rfl a0) (con_spec_l1Num e9) (.inl (so1 sS so0)) <| lnO_k h fun l10 h => st rfl <| b_cat rfl rfl l10 <| x_asg (ss rfl rfl) <| seqN [(1, .d ((cLs (cXVariable cS cI) rfl).enc v1)), (6, .box ((cXTable cI (cLs cI rfl) (cLs cI rfl) cI).enc v2)), (10, .d ((cLo cI).enc x3.2.1)), (12, .d (cS.enc (([97, 114, 101, 97, 32] : List UInt8) ++ x8)))] (by kernel_rfl) <|
    xn <| wpC_seq <| wpC_kp <| wpC_seq <| reg_s <| st rfl <| fab rfl rfl rfl rfl <| st rfl <| lda rfl rfl rfl rfl rfl rfl <| stw rfl <| lens rfl fun l94 => st rfl <| mvc cI (0 : Int) rfl <| seqN [(1, .d ((cLs (cXVariable cS cI) rfl).enc v1)), (6, .box ((cXTable cI (cLs cI rfl) (cLs cI rfl) cI).enc v2)), (10, .d ((cLo cI).enc x3.2.1)), (12, .d (cS.enc (([97, 114, 101, 97, 32] : List UInt8) ++ x8))), (27, .adr 6 [.fld 1]), (28, .d ((cLs cI rfl).enc v2.Vars)), (29, .d (cI.enc (v2.Vars.length : Int))), (30, .d (cI.enc (0 : Int)))] (by kernel_rfl) <|
    xn <| wpC_blk <| lpR (fun (k96 : Nat) (s95 : (List UInt8)) => [(1, .d ((cLs (cXVariable cS cI) rfl).enc v1)), (6, .box ((cXTable cI (cLs cI rfl) (cLs cI rfl) cI).enc v2)), (10, .d ((cLo cI).enc x3.2.1)), (12, .d (cS.enc s95)), (27, .adr 6 [.fld 1]), (28, .d ((cLs cI rfl).enc v2.Vars)), (29, .d (cI.enc (v2.Vars.length : Int))), (30, .d (cI.enc (k96 : Int)))]) (([97, 114, 101, 97, 32] : List UInt8) ++ x8) rfl h
    (fun G150 s95 h => wpC_seq <| reg_s <| st rfl <| b_lss (k := .i64) rfl rfl <| seqN [(1, .d ((cLs (cXVariable cS cI) rfl).enc v1)), (6, .box ((cXTable cI (cLs cI rfl) (cLs cI rfl) cI).enc v2)), (10, .d ((cLo cI).enc x3.2.1)), (12, .d (cS.enc s95)), (27, .adr 6 [.fld 1]), (28, .d ((cLs cI rfl).enc v2.Vars)), (29, .d (cI.enc (v2.Vars.length : Int))), (30, .d (cI.enc (v2.Vars.length : Int))), (31, .d (cB.enc (decide ((v2.Vars.length : Int) < (v2.Vars.length : Int)))))] (by kernel_rfl) <|
    xn <| wpC_seq <| wpC_kp <| cnd0 rfl (dlf _) <| wpC_exit <| xt <| xt <| xt <| xb <| kpN [(12, .d (cS.enc s95))] (by kernel_rfl) <| xn <| wpC_seq <| reg_s <| st rfl <| mvd rfl rfl <| x_asg (ss rfl rfl) <| seqN [(8, .d (cS.enc s95))] (by kernel_rfl) <|
    xn <| wpC_ret <| re <| fin h (r1 (ss rfl rfl) <| r0) rfl)
    (fun G150 nx148 k96 s95 x97 hk98 hx99 hn149 h => wpC_seq <| reg_s <| st rfl <| b_lss (k := .i64) rfl rfl <| seqN [(1, .d ((cLs (cXVariable cS cI) rfl).enc v1)), (6, .box ((cXTable cI (cLs cI rfl) (cLs cI rfl) cI).enc v2)), (10, .d ((cLo cI).enc x3.2.1)), (12, .d (cS.enc s95)), (27, .adr 6 [.fld 1]), (28, .d ((cLs cI rfl).enc v2.Vars)), (29, .d (cI.enc (v2.Vars.length : Int))), (30, .d (cI.enc (k96 : Int))), (31, .d (cB.enc (decide ((k96 : Int) < (v2.Vars.length : Int)))))] (by kernel_rfl) <|
    xn <| wpC_seq <| wpC_kp <| cnd1 rfl (dlt hk98) <| wpC_skip <| kpN [(1, .d ((cLs (cXVariable cS cI) rfl).enc v1)), (6, .box ((cXTable cI (cLs cI rfl) (cLs cI rfl) cI).enc v2)), (10, .d ((cLo cI).enc x3.2.1)), (12, .d (cS.enc s95)), (27, .adr 6 [.fld 1]), (28, .d ((cLs cI rfl).enc v2.Vars)), (29, .d (cI.enc (v2.Vars.length : Int))), (30, .d (cI.enc (k96 : Int)))] (by kernel_rfl) <| xn <| wpC_seq <| wpC_kp <| wpC_blk <| wpC_seq <| reg_s <| st rfl <| mvd rfl rfl <| st rfl <| ias rfl rfl (Int.natCast_nonneg _) hx99 rfl <| st rfl <| ldi rfl rfl rfl rfl <| x_asg (ss rfl rfl) <| x_asg (ss rfl rfl) <| seqN [(1, .d ((cLs (cXVariable cS cI) rfl).enc v1)), (6, .box ((cXTable cI (cLs cI rfl) (cLs cI rfl) cI).enc v2)), (10, .d ((cLo cI).enc x3.2.1)), (12, .d (cS.enc s95)), (13, .d (cI.enc (k96 : Int))), (14, .d (cI.enc x97)), (27, .adr 6 [.fld 1]), (28, .d ((cLs cI rfl).enc v2.Vars)), (29, .d (cI.enc (v2.Vars.length : Int))), (30, .d (cI.enc (k96 : Int)))] (by kernel_rfl) <|
    xn <| drw_s <| pst rfl <| mvd rfl rfl ⟨rfl, pst rfl <| mvd rfl rfl ⟨rfl, pst rfl <| mvd rfl rfl ⟨rfl, getO_kp h fun x163 i164 g165 h => pst rfl <| ias rfl rfl i164 g165 rfl ⟨rfl, pst rfl <| fai rfl rfl rfl rfl ⟨rfl, pst rfl <| ldi rfl rfl rfl rfl ⟨rfl, lnO_kp h fun l166 h => pst rfl <| b_cat rfl rfl l166 ⟨rfl, lnO_kp h fun l167 h => pst rfl <| b_cat rfl rfl l167 ⟨rfl, pst rfl <| mvo rfl rfl ⟨rfl, pst rfl <| mvd rfl rfl ⟨rfl, getO_kp h fun x168 i169 g170 h => pst rfl <| iar rfl rfl rfl rfl i169 g170 rfl ⟨rfl, pst rfl <| lda rfl rfl (Gt.idx g170 Gt.nil) rfl rfl rfl ⟨rfl, bndp h fun x171 e172 h => pst rfl <| o_call (a1 (c := cI) tK rfl a0) (con_spec_l1Num e172) (.inl (so1 sS so0)) ⟨rfl, lnO_kp h fun l173 h => pst rfl <| b_cat rfl rfl l173 ⟨rfl, lnO_kp h fun l174 h => pst rfl <| b_cat rfl rfl l174 ⟨rfl, preN <| x_asg (ss rfl rfl) <| seqN [(1, .d ((cLs (cXVariable cS cI) rfl).enc v1)), (6, .box ((cXTable cI (cLs cI rfl) (cLs cI rfl) cI).enc v2)), (10, .d ((cLo cI).enc x3.2.1)), (12, .d (cS.enc (s95 ++ (((([32] : List UInt8) ++ x163.Name) ++ ([61] : List UInt8)) ++ x171)))), (27, .adr 6 [.fld 1]), (28, .d ((cLs cI rfl).enc v2.Vars)), (29, .d (cI.enc (v2.Vars.length : Int))), (30, .d (cI.enc (k96 : Int)))] (by kernel_rfl) <|
    xbb <| kpN [(1, .d ((cLs (cXVariable cS cI) rfl).enc v1)), (6, .box ((cXTable cI (cLs cI rfl) (cLs cI rfl) cI).enc v2)), (10, .d ((cLo cI).enc x3.2.1)), (12, .d (cS.enc (s95 ++ (((([32] : List UInt8) ++ x163.Name) ++ ([61] : List UInt8)) ++ x171)))), (27, .adr 6 [.fld 1]), (28, .d ((cLs cI rfl).enc v2.Vars)), (29, .d (cI.enc (v2.Vars.length : Int))), (30, .d (cI.enc (k96 : Int)))] (by kernel_rfl) <| xn <| reg_s <| st rfl <| b_inc rfl rfl l94 hk98 <| st rfl <| mvd rfl rfl <| seqN [(1, .d ((cLs (cXVariable cS cI) rfl).enc v1)), (6, .box ((cXTable cI (cLs cI rfl) (cLs cI rfl) cI).enc v2)), (10, .d ((cLo cI).enc x3.2.1)), (12, .d (cS.enc (s95 ++ (((([32] : List UInt8) ++ x163.Name) ++ ([61] : List UInt8)) ++ x171)))), (27, .adr 6 [.fld 1]), (28, .d ((cLs cI rfl).enc v2.Vars)), (29, .d (cI.enc (v2.Vars.length : Int))), (30, .d (cI.enc ((k96 + 1 : Nat) : Int)))] (by kernel_rfl) <|
    xn <| hn149 (s95 ++ (((([32] : List UInt8) ++ x163.Name) ++ ([61] : List UInt8)) ++ x171)) h⟩⟩⟩⟩⟩⟩⟩⟩⟩⟩⟩⟩⟩⟩⟩)

def rs_spec_nSigned (r : (List UInt8)) : List D := [cS.enc r]
def m52 : MC := .seq (.reg [⟨some 2, .asg (.c (.str [])), none⟩] [0])
  (.seq (.kp [0] (.seq (.reg [⟨some 3, .mv (.t 0), none⟩,
    ⟨some 4, .bin .lss (.t 3) (.c (.int .i64 0)), none⟩] [0, 4])
  (.cond (.t 4) (.seq (.reg [⟨some 5, .mv (.t 0), none⟩,
    ⟨some 6, .neg (.t 5), none⟩,
    ⟨some 7, .call 81 [(.t 6)], none⟩,
    ⟨some 8, .bin .add (.c (.str [45])) (.t 7), none⟩,
    ⟨some 2, .asg (.t 8), none⟩] [2])
  (.ret)) (.skip))))
  (.seq (.reg [⟨some 9, .mv (.t 0), none⟩,
    ⟨some 10, .call 81 [(.t 9)], none⟩,
    ⟨some 2, .asg (.t 10), none⟩] [2])
  (.ret)))
theorem con_spec_nSigned {v0 : Int} {r : (List UInt8)} (h : sh_spec_nSigned v0 = some r) : Con Tryd.prog 52 [cI.enc v0] [] (rs_spec_nSigned r) := by
  delta sh_spec_nSigned at h
  refine top (out := none) (f := Tryd.f52) (m := m52) (rs := [.t 2]) (by kernel_rfl) rfl (by kernel_rfl) (by kernel_rfl) (by kernel_rfl) (by kernel_rfl) (by kernel_rfl) ?_
  exact
   ini [(0, .d (cI.enc v0))] rfl <| wpC_seq <| reg_s <| x_asg (sc cS ([] : List UInt8) rfl) <| seqN [(0, .d (cI.enc v0))] (by kernel_rfl) <|
    xn <| wpC_seq <| wpC_kp <| wpC_seq <| reg_s <| st rfl <| mvd rfl rfl <| st rfl <| b_lss (k := .i64) rfl rfl <| seqN [(0, .d (cI.enc v0)), (4, .d (cB.enc (decide (v0 < (0 : Int)))))] (by kernel_rfl) <|
    xn <| cnd rfl h (fun b10 h => wpC_seq <| reg_s <| st rfl <| mvd rfl rfl <| ckI_k h fun i15 h => st rfl <| o_neg (k := .i64) rfl i15 <| bnd h fun x16 e17 h => st rfl <| o_call (a1 (c := cI) tK rfl a0) (con_spec_l1Num e17) (.inl (so1 sS so0)) <| lnO_k h fun l18 h => st rfl <| b_cat rfl rfl l18 <| x_asg (ss rfl rfl) <| seqN [(2, .d (cS.enc (([45] : List UInt8) ++ x16)))] (by kernel_rfl) <|
    xn <| wpC_ret <| rt <| rt <| re <| fin h (r1 (ss rfl rfl) <| r0) rfl)
    (fun b10 h => wpC_skip <| kpN [(0, .d (cI.enc v0))] (by kernel_rfl) <| xn <| wpC_seq <| reg_s <| st rfl <| mvd rfl rfl <| bnd h fun x21 e22 h => st rfl <| o_call (a1 (c := cI) tK rfl a0) (con_spec_l1Num e22) (.inl (so1 sS so0)) <| x_asg (ss rfl rfl) <| seqN [(2, .d (cS.enc x21))] (by kernel_rfl) <|
    xn <| wpC_ret <| re <| fin h (r1 (ss rfl rfl) <| r0) rfl)

def rs_spec_nReport (r : (List UInt8)) : List D := [cS.enc r]
def m27 : MC := .seq (.reg [⟨some 4, .box (.t 0), none⟩,
    ⟨some 6, .box (.t 2), none⟩,
    ⟨some 8, .asg (.c (.str [])), none⟩] [1, 3, 4, 6])
  (.seq (.reg [⟨some 9, .asg (.c (.str [])), none⟩] [1, 3, 4, 6, 9])
  (.seq (.kp [9] (.seq (.reg [⟨some 12, .mv (.t 3), none⟩,
    ⟨some 13, .len false (.t 12), none⟩,
    ⟨some 14, .mv (.c (.int .i64 0)), none⟩] [1, 3, 4, 6, 9, 12, 13, 14])
  (.blk 0 (.loop (.seq (.reg [⟨some 15, .bin .lss (.t 14) (.t 13), none⟩] [1, 3, 4, 6, 9, 12, 13, 14, 15])
  (.seq (.kp [1, 3, 4, 6, 9, 12, 13, 14] (.cond (.t 15) (.skip) (.exit 0)))
  (.seq (.kp [1, 3, 4, 6, 9, 12, 13, 14] (.blk 1 (.seq (.reg [⟨some 16, .mv (.t 14), none⟩,
    ⟨some 17, .ia 12 (.t 14) 1, none⟩,
    ⟨some 18, .ld 17 1 false, none⟩,
    ⟨some 10, .asg (.t 16), none⟩,
    ⟨some 11, .asg (.t 18), none⟩] [1, 3, 4, 6, 9, 10, 11, 12, 13, 14])
  (.reg [⟨some 19, .mv (.t 9), none⟩,
    ⟨some 20, .ld 4 1 true, none⟩,
    ⟨some 21, .mv (.t 1), none⟩,
    ⟨some 22, .ld 6 4 true, none⟩,
    ⟨some 23, .mv (.t 10), none⟩,
    ⟨some 24, .call 51 [(.t 20), (.t 21), (.t 22), (.t 23)], none⟩,
    ⟨some 25, .bin .add (.t 24) (.c (.str [58, 32])), none⟩,
    ⟨some 26, .mv (.t 11), none⟩,
    ⟨some 27, .call 52 [(.t 26)], none⟩,
    ⟨some 28, .bin .add (.t 25) (.t 27), none⟩,
    ⟨some 29, .bin .add (.t 28) (.c (.str [10])), none⟩,
    ⟨some 30, .bin .add (.t 19) (.t 29), none⟩,
    ⟨some 9, .asg (.t 30), none⟩] [1, 3, 4, 6, 9, 12, 13, 14]))))
  (.reg [⟨some 31, .bin .add (.t 14) (.c (.int .i64 1)), none⟩,
    ⟨some 14, .mv (.t 31), none⟩] [1, 3, 4, 6, 9, 12, 13, 14]))))))))
  (.seq (.reg [⟨some 32, .mv (.t 9), none⟩,
    ⟨some 8, .asg (.t 32), none⟩] [8])
  (.ret))))
theorem con_spec_nReport {v0 : XGeo} {v1 : (List XVariable)} {v2 : XTable} {v3 : (List Int)} {r : (List UInt8)} (h : sh_spec_nReport v0 v1 v2 v3 = some r) : Con Tryd.prog 27 [(cXGeo (cLs cI rfl)).enc v0, (cLs (cXVariable cS cI) rfl).enc v1, (cXTable cI (cLs cI rfl) (cLs cI rfl) cI).enc v2, (cLs cI rfl).enc v3] [] (rs_spec_nReport r) := by
  delta sh_spec_nReport at h
  refine top (out := none) (f := Tryd.f27) (m := m27) (rs := [.t 8]) (by kernel_rfl) rfl (by kernel_rfl) (by kernel_rfl) (by kernel_rfl) (by kernel_rfl) (by kernel_rfl) ?_
  exact
   ini [(0, .d ((cXGeo (cLs cI rfl)).enc v0)), (1, .d ((cLs (cXVariable cS cI) rfl).enc v1)), (2, .d ((cXTable cI (cLs cI rfl) (cLs cI rfl) cI).enc v2)), (3, .d ((cLs cI rfl).enc v3))] rfl <| wpC_seq <| reg_s <| x_box (ss rfl rfl) <| x_box (ss rfl rfl) <| x_asg (sc cS ([] : List UInt8) rfl) <| seqN [(1, .d ((cLs (cXVariable cS cI) rfl).enc v1)), (3, .d ((cLs cI rfl).enc v3)), (4, .box ((cXGeo (cLs cI rfl)).enc v0)), (6, .box ((cXTable cI (cLs cI rfl) (cLs cI rfl) cI).enc v2))] (by kernel_rfl) <|
    xn <| wpC_seq <| reg_s <| x_asg (sc cS ([] : List UInt8) rfl) <| seqN [(1, .d ((cLs (cXVariable cS cI) rfl).enc v1)), (3, .d ((cLs cI rfl).enc v3)), (4, .box ((cXGeo (cLs cI rfl)).enc v0)), (6, .box ((cXTable cI (cLs cI rfl) (cLs cI rfl) cI).enc v2)), (9, .d (cS.enc ([] : List UInt8)))] (by kernel_rfl) <|
    xn <| wpC_seq <| wpC_kp <| wpC_seq <| reg_s <| st rfl <| mvd rfl rfl <| stw rfl <| lens rfl fun l60 => st rfl <| mvc cI (0 : Int) rfl <| seqN [(1, .d ((cLs (cXVariable cS cI) rfl).enc v1)), (3, .d ((cLs cI rfl).enc v3)), (4, .box ((cXGeo (cLs cI rfl)).enc v0)), (6, .box ((cXTable cI (cLs cI rfl) (cLs cI rfl) cI).enc v2)), (9, .d (cS.enc ([] : List UInt8))), (12, .d ((cLs cI rfl).enc v3)), (13, .d (cI.enc (v3.length : Int))), (14, .d (cI.enc (0 : Int)))] (by kernel_rfl) <|
    xn <| wpC_blk <| lpR (fun (k62 : Nat) (s61 : (List UInt8)) => [(1, .d ((cLs (cXVariable cS cI) rfl).enc v1)), (3, .d ((cLs cI rfl).enc v3)), (4, .box ((cXGeo (cLs cI rfl)).enc v0)), (6, .box ((cXTable cI (cLs cI rfl) (cLs cI rfl) cI).enc v2)), (9, .d (cS.enc s61)), (12, .d ((cLs cI rfl).enc v3)), (13, .d (cI.enc (v3.length : Int))), (14, .d (cI.enc (k62 : Int)))]) ([] : List UInt8) rfl h
    (fun G100 s61 h => wpC_seq <| reg_s <| st rfl <| b_lss (k := .i64) rfl rfl <| seqN [(1, .d ((cLs (cXVariable cS cI) rfl).enc v1)), (3, .d ((cLs cI rfl).enc v3)), (4, .box ((cXGeo (cLs cI rfl)).enc v0)), (6, .box ((cXTable cI (cLs cI rfl) (cLs cI rfl) cI).enc v2)), (9, .d (cS.enc s61)), (12, .d ((cLs cI rfl).enc v3)), (13, .d (cI.enc (v3.length : Int))), (14, .d (cI.enc (v3.length : Int))), (15, .d (cB.enc (decide ((v3.length : Int) < (v3.length : Int)))))] (by kernel_rfl) <|
    xn <| wpC_seq <| wpC_kp <| cnd0 rfl (dlf _) <| wpC_exit <| xt <| xt <| xt <| xb <| kpN [(9, .d (cS.enc s61))] (by kernel_rfl) <| xn <| wpC_seq <| reg_s <| st rfl <| mvd rfl rfl <| x_asg (ss rfl rfl) <| seqN [(8, .d (cS.enc s61))] (by kernel_rfl) <|
    xn <| wpC_ret <| re <| fin h (r1 (ss rfl rfl) <| r0) rfl)
    (fun G100 nx98 k62 s61 x63 hk64 hx65 hn99 h => wpC_seq <| reg_s <| st rfl <| b_lss (k := .i64) rfl rfl <| seqN [(1, .d ((cLs (cXVariable cS cI) rfl).enc v1)), (3, .d ((cLs cI rfl).enc v3)), (4, .box ((cXGeo (cLs cI rfl)).enc v0)), (6, .box ((cXTable cI (cLs cI rfl) (cLs cI rfl) cI).enc v2)), (9, .d (cS.enc s61)), (12, .d ((cLs cI rfl).enc v3)), (13, .d (cI.enc (v3.length : Int))), (14, .d (cI.enc (k62 : Int))), (15, .d (cB.enc (decide ((k62 : Int) < (v3.length : Int)))))] (by kernel_rfl) <|
    xn <| wpC_seq <| wpC_kp <| cnd1 rfl (dlt hk64) <| wpC_skip <| kpN [(1, .d ((cLs (cXVariable cS cI) rfl).enc v1)), (3, .d ((cLs cI rfl).enc v3)), (4, .box ((cXGeo (cLs cI rfl)).enc v0)), (6, .box ((cXTable cI (cLs cI rfl) (cLs cI rfl) cI).enc v2)), (9, .d (cS.enc s61)), (12, .d ((cLs cI rfl).enc v3)), (13, .d (cI.enc (v3.length : Int))), (14, .d (cI.enc (k62 : Int)))] (by kernel_rfl) <| xn <| wpC_seq <| wpC_kp <| wpC_blk <| wpC_seq <| reg_s <| st rfl <| mvd rfl rfl <| st rfl <| ias rfl rfl (Int.natCast_nonneg _) hx65 rfl <| st rfl <| ldi rfl rfl rfl rfl <| x_asg (ss rfl rfl) <| x_asg (ss rfl rfl) <| seqN [(1, .d ((cLs (cXVariable cS cI) rfl).enc v1)), (3, .d ((cLs cI rfl).enc v3)), (4, .box ((cXGeo (cLs cI rfl)).enc v0)), (6, .box ((cXTable cI (cLs cI rfl) (cLs cI rfl) cI).enc v2)), (9, .d (cS.enc s61)), (10, .d (cI.enc (k62 : Int))), (11, .d (cI.enc x63)), (12, .d ((cLs cI rfl).enc v3)), (13, .d (cI.enc (v3.length : Int))), (14, .d (cI.enc (k62 : Int)))] (by kernel_rfl) <|
    xn <| reg_s <| st rfl <| mvd rfl rfl <| st rfl <| ldb rfl rfl rfl rfl <| st rfl <| mvd rfl rfl <| st rfl <| ldb rfl rfl rfl rfl <| st rfl <| mvd rfl rfl <| bnd h fun x109 e110 h => st rfl <| o_call (a1 (c := (cXGeo (cLs cI rfl))) (tXGeo (tLs tK)) rfl (a1 (c := (cLs (cXVariable cS cI) rfl)) (tLs (tXVariable tS tK)) rfl (a1 (c := (cXTable cI (cLs cI rfl) (cLs cI rfl) cI)) (tXTable tK (tLs tK) (tLs tK) tK) rfl (a1 (c := cI) tK rfl a0)))) (con_spec_nCell e110) (.inl (so1 sS so0)) <| lnO_k h fun l111 h => st rfl <| b_cat rfl rfl l111 <| st rfl <| mvd rfl rfl <| bnd h fun x112 e113 h => st rfl <| o_call (a1 (c := cI) tK rfl a0) (con_spec_nSigned e113) (.inl (so1 sS so0)) <| lnO_k h fun l114 h => st rfl <| b_cat rfl rfl l114 <| lnO_k h fun l115 h => st rfl <| b_cat rfl rfl l115 <| lnO_k h fun l116 h => st rfl <| b_cat rfl rfl l116 <| x_asg (ss rfl rfl) <| seqN [(1, .d ((cLs (cXVariable cS cI) rfl).enc v1)), (3, .d ((cLs cI rfl).enc v3)), (4, .box ((cXGeo (cLs cI rfl)).enc v0)), (6, .box ((cXTable cI (cLs cI rfl) (cLs cI rfl) cI).enc v2)), (9, .d (cS.enc (s61 ++ (((x109 ++ ([58, 32] : List UInt8)) ++ x112) ++ ([10] : List UInt8))))), (12, .d ((cLs cI rfl).enc v3)), (13, .d (cI.enc (v3.length : Int))), (14, .d (cI.enc (k62 : Int)))] (by kernel_rfl) <|
    xbb <| kpN [(1, .d ((cLs (cXVariable cS cI) rfl).enc v1)), (3, .d ((cLs cI rfl).enc v3)), (4, .box ((cXGeo (cLs cI rfl)).enc v0)), (6, .box ((cXTable cI (cLs cI rfl) (cLs cI rfl) cI).enc v2)), (9, .d (cS.enc (s61 ++ (((x109 ++ ([58, 32] : List UInt8)) ++ x112) ++ ([10] : List UInt8))))), (12, .d ((cLs cI rfl).enc v3)), (13, .d (cI.enc (v3.length : Int))), (14, .d (cI.enc (k62 : Int)))] (by kernel_rfl) <| xn <| reg_s <| st rfl <| b_inc rfl rfl l60 hk64 <| st rfl <| mvd rfl rfl <| seqN [(1, .d ((cLs (cXVariable cS cI) rfl).enc v1)), (3, .d ((cLs cI rfl).enc v3)), (4, .box ((cXGeo (cLs cI rfl)).enc v0)), (6, .box ((cXTable cI (cLs cI rfl) (cLs cI rfl) cI).enc v2)), (9, .d (cS.enc (s61 ++ (((x109 ++ ([58, 32] : List UInt8)) ++ x112) ++ ([10] : List UInt8))))), (12, .d ((cLs cI rfl).enc v3)), (13, .d (cI.enc (v3.length : Int))), (14, .d (cI.enc ((k62 + 1 : Nat) : Int)))] (by kernel_rfl) <|
    xn <| hn99 (s61 ++ (((x109 ++ ([58, 32] : List UInt8)) ++ x112) ++ ([10] : List UInt8))) h)

def rs_spec_ReportText (r : ((List UInt8) × Bool)) : List D := [cS.enc r.1, cB.enc r.2]
def m8 : MC := .seq (.reg [⟨some 4, .box (.t 0), none⟩,
    ⟨some 6, .box (.t 2), none⟩,
    ⟨some 8, .asg (.c (.str [])), none⟩,
    ⟨some 9, .asg (.c (.bool false)), none⟩] [1, 3, 4, 6])
  (.seq (.kp [1, 3, 4, 6] (.seq (.reg [⟨some 10, .ld 4 1 true, none⟩,
    ⟨some 11, .mv (.t 1), none⟩,
    ⟨some 12, .ld 6 4 true, none⟩,
    ⟨some 13, .mv (.t 3), none⟩,
    ⟨some 14, .call 26 [(.t 10), (.t 11), (.t 12), (.t 13)], none⟩,
    ⟨some 15, .nt (.t 14), none⟩] [1, 3, 4, 6, 15])
  (.cond (.t 15) (.seq (.reg [⟨some 8, .asg (.c (.str [])), none⟩,
    ⟨some 9, .asg (.c (.bool false)), none⟩] [8, 9])
  (.ret)) (.skip))))
  (.seq (.reg [⟨some 16, .ld 4 1 true, none⟩,
    ⟨some 17, .mv (.t 1), none⟩,
    ⟨some 18, .ld 6 4 true, none⟩,
    ⟨some 19, .mv (.t 3), none⟩,
    ⟨some 20, .call 27 [(.t 16), (.t 17), (.t 18), (.t 19)], none⟩,
    ⟨some 8, .asg (.t 20), none⟩,
    ⟨some 9, .asg (.c (.bool true)), none⟩] [8, 9])
  (.ret)))
theorem con_spec_ReportText {v0 : XGeo} {v1 : (List XVariable)} {v2 : XTable} {v3 : (List Int)} {r : ((List UInt8) × Bool)} (h : sh_spec_ReportText v0 v1 v2 v3 = some r) : Con Tryd.prog 8 [(cXGeo (cLs cI rfl)).enc v0, (cLs (cXVariable cS cI) rfl).enc v1, (cXTable cI (cLs cI rfl) (cLs cI rfl) cI).enc v2, (cLs cI rfl).enc v3] [] (rs_spec_ReportText r) := by
  delta sh_spec_ReportText at h
  refine top (out := none) (f := Tryd.f8) (m := m8) (rs := [.t 8, .t 9]) (by kernel_rfl) rfl (by kernel_rfl) (by kernel_rfl) (by kernel_rfl) (by kernel_rfl) (by kernel_rfl) ?_
  exact
   ini [(0, .d ((cXGeo (cLs cI rfl)).enc v0)), (1, .d ((cLs (cXVariable cS cI) rfl).enc v1)), (2, .d ((cXTable cI (cLs cI rfl) (cLs cI rfl) cI).enc v2)), (3, .d ((cLs cI rfl).enc v3))] rfl <| wpC_seq <| reg_s <| x_box (ss rfl rfl) <| x_box (ss rfl rfl) <| x_asg (sc cS ([] : List UInt8) rfl) <| x_asg (sc cB false rfl) <| seqN [(1, .d ((cLs (cXVariable cS cI) rfl).enc v1)), (3, .d ((cLs cI rfl).enc v3)), (4, .box ((cXGeo (cLs cI rfl)).enc v0)), (6, .box ((cXTable cI (cLs cI rfl) (cLs cI rfl) cI).enc v2))] (by kernel_rfl) <|
    xn <| wpC_seq <| wpC_kp <| wpC_seq <| reg_s <| st rfl <| ldb rfl rfl rfl rfl <| st rfl <| mvd rfl rfl <| st rfl <| ldb rfl rfl rfl rfl <| st rfl <| mvd rfl rfl <| bnd h fun x8 e9 h => st rfl <| o_call (a1 (c := (cXGeo (cLs cI rfl))) (tXGeo (tLs tK)) rfl (a1 (c := (cLs (cXVariable cS cI) rfl)) (tLs (tXVariable tS tK)) rfl (a1 (c := (cXTable cI (cLs cI rfl) (cLs cI rfl) cI)) (tXTable tK (tLs tK) (tLs tK) tK) rfl (a1 (c := (cLs cI rfl)) (tLs tK) rfl a0)))) (con_spec_nCells e9) (.inl (so1 sB so0)) <| st rfl <| o_nt rfl <| seqN [(1, .d ((cLs (cXVariable cS cI) rfl).enc v1)), (3, .d ((cLs cI rfl).enc v3)), (4, .box ((cXGeo (cLs cI rfl)).enc v0)), (6, .box ((cXTable cI (cLs cI rfl) (cLs cI rfl) cI).enc v2)), (15, .d (cB.enc (!x8)))] (by kernel_rfl) <|
    xn <| cnd rfl h (fun b10 h => wpC_seq <| reg_s <| x_asg (sc cS ([] : List UInt8) rfl) <| x_asg (sc cB false rfl) <| seqN [(8, .d (cS.enc ([] : List UInt8))), (9, .d (cB.enc false))] (by kernel_rfl) <|
    xn <| wpC_ret <| rt <| rt <| re <| fin h (r1 (ss rfl rfl) <| r1 (ss rfl rfl) <| r0) rfl)
    (fun b10 h => wpC_skip <| kpN [(1, .d ((cLs (cXVariable cS cI) rfl).enc v1)), (3, .d ((cLs cI rfl).enc v3)), (4, .box ((cXGeo (cLs cI rfl)).enc v0)), (6, .box ((cXTable cI (cLs cI rfl) (cLs cI rfl) cI).enc v2))] (by kernel_rfl) <| xn <| wpC_seq <| reg_s <| st rfl <| ldb rfl rfl rfl rfl <| st rfl <| mvd rfl rfl <| st rfl <| ldb rfl rfl rfl rfl <| st rfl <| mvd rfl rfl <| bnd h fun x13 e14 h => st rfl <| o_call (a1 (c := (cXGeo (cLs cI rfl))) (tXGeo (tLs tK)) rfl (a1 (c := (cLs (cXVariable cS cI) rfl)) (tLs (tXVariable tS tK)) rfl (a1 (c := (cXTable cI (cLs cI rfl) (cLs cI rfl) cI)) (tXTable tK (tLs tK) (tLs tK) tK) rfl (a1 (c := (cLs cI rfl)) (tLs tK) rfl a0)))) (con_spec_nReport e14) (.inl (so1 sS so0)) <| x_asg (ss rfl rfl) <| x_asg (sc cB true rfl) <| seqN [(8, .d (cS.enc x13)), (9, .d (cB.enc true))] (by kernel_rfl) <|
    xn <| wpC_ret <| re <| fin h (r1 (ss rfl rfl) <| r1 (ss rfl rfl) <| r0) rfl)

def rs_impl_IsGeo (r : Bool) : List D := [cB.enc r]
def m53 : MC := .seq (.reg [⟨some 1, .box (.t 0), none⟩,
    ⟨some 2, .asg (.c (.bool false)), none⟩] [1])
  (.seq (.kp [1] (.seq (.reg [⟨some 4, .fa 1 0 0, none⟩,
    ⟨some 5, .ld 4 1 false, none⟩,
    ⟨some 6, .len false (.t 5), none⟩,
    ⟨some 7, .bin .lss (.t 6) (.c (.int .i64 1)), none⟩,
    ⟨some 8, .mv (.t 7), none⟩,
    ⟨some 9, .fa 1 0 0, some (8, false)⟩,
    ⟨some 10, .ld 9 1 false, some (8, false)⟩,
    ⟨some 11, .len false (.t 10), some (8, false)⟩,
    ⟨some 12, .bin .gtr (.t 11) (.c (.int .i64 30)), some (8, false)⟩,
    ⟨some 13, .pick (.t 8) (.c (.bool true)) (.t 12), none⟩,
    ⟨some 14, .mv (.t 13), none⟩,
    ⟨some 15, .fa 1 0 0, some (14, false)⟩,
    ⟨some 16, .ld 15 1 false, some (14, false)⟩,
    ⟨some 17, .ia 16 (.c (.int .i64 0)) 1, some (14, false)⟩,
    ⟨some 18, .ld 17 1 false, some (14, false)⟩,
    ⟨some 19, .bin .neq (.t 18) (.c (.int .i64 (-1))), some (14, false)⟩,
    ⟨some 20, .pick (.t 14) (.c (.bool true)) (.t 19), none⟩] [1, 20])
  (.cond (.t 20) (.seq (.reg [⟨some 2, .asg (.c (.bool false)), none⟩] [2])
  (.ret)) (.skip))))
  (.seq (.kp [] (.seq (.reg [⟨some 3, .asg (.c (.int .i64 1)), none⟩] [1, 3])
  (.blk 0 (.loop (.seq (.kp [1, 3] (.seq (.reg [⟨some 21, .mv (.t 3), none⟩,
    ⟨some 22, .fa 1 0 0, none⟩,
    ⟨some 23, .ld 22 1 false, none⟩,
    ⟨some 24, .len false (.t 23), none⟩,
    ⟨some 25, .bin .lss (.t 21) (.t 24), none⟩] [1, 3, 25])
  (.cond (.t 25) (.skip) (.exit 0))))
  (.seq (.kp [1, 3] (.blk 1 (.seq (.reg [⟨some 28, .fa 1 0 0, none⟩,
    ⟨some 29, .ld 28 1 false, none⟩,
    ⟨some 30, .mv (.t 3), none⟩,
    ⟨some 31, .ia 29 (.t 30) 1, none⟩,
    ⟨some 32, .ld 31 1 false, none⟩,
    ⟨some 33, .bin .lss (.t 32) (.c (.int .i64 0)), none⟩,
    ⟨some 34, .mv (.t 33), none⟩,
    ⟨some 35, .fa 1 0 0, some (34, false)⟩,
    ⟨some 36, .ld 35 1 false, some (34, false)⟩,
    ⟨some 37, .mv (.t 3), some (34, false)⟩,
    ⟨some 38, .ia 36 (.t 37) 1, some (34, false)⟩,
    ⟨some 39, .ld 38 1 false, some (34, false)⟩,
    ⟨some 40, .mv (.t 3), some (34, false)⟩,
    ⟨some 41, .bin .geq (.t 39) (.t 40), some (34, false)⟩,
    ⟨some 42, .pick (.t 34) (.c (.bool true)) (.t 41), none⟩] [1, 3, 42])
  (.cond (.t 42) (.seq (.reg [⟨some 2, .asg (.c (.bool false)), none⟩] [2])
  (.ret)) (.skip)))))
  (.reg [⟨some 26, .mv (.t 3), none⟩,
    ⟨some 27, .bin .add (.t 26) (.c (.int .i64 1)), none⟩,
    ⟨some 3, .asg (.t 27), none⟩] [1, 3])))))))
  (.seq (.reg [⟨some 2, .asg (.c (.bool true)), none⟩] [2])
  (.ret))))
theorem con_impl_IsGeo {v0 : XGeo} {r : Bool} (h : sh_impl_IsGeo v0 = some r) : Con Tryd.prog 53 [(cXGeo (cLs cI rfl)).enc v0] [] (rs_impl_IsGeo r) := by
  delta sh_impl_IsGeo at h
  refine top (out := none) (f := Tryd.f53) (m := m53) (rs := [.t 2]) (by kernel_rfl) rfl (by kernel_rfl) (by kernel_rfl) (by kernel_rfl) (by kernel_rfl) (by kernel_rfl) ?_
  exact
   ini [(0, .d ((cXGeo (cLs cI rfl)).enc v0))] rfl <| wpC_seq <| reg_s <| x_box (ss rfl rfl) <| x_asg (sc cB false rfl) <| seqN [(1, .box ((cXGeo (cLs cI rfl)).enc v0))] (by kernel_rfl) <|
    xn <| wpC_seq <| wpC_kp <| wpC_seq <| reg_s <| st rfl <| fab rfl rfl rfl rfl <| st rfl <| lda rfl rfl rfl rfl rfl rfl <| stw rfl <| lens rfl fun l23 => st rfl <| b_lss (k := .i64) rfl rfl <| st rfl <| mvd rfl rfl <| ite_k h (fun b24 h => gf rfl b24 <| gf rfl b24 <| gf rfl b24 <| gf rfl b24 <| st rfl <| pick1 rfl b24 (cd := cB) (v := true) rfl rfl <| st rfl <| mvd rfl rfl <| gf rfl rfl <| gf rfl rfl <| gf rfl rfl <| gf rfl rfl <| gf rfl rfl <| st rfl <| pick1 rfl rfl (cd := cB) (v := true) rfl rfl <| seqN [(1, .box ((cXGeo (cLs cI rfl)).enc v0)), (20, .d (cB.enc true))] (by kernel_rfl) <|
    xn <| cnd1 rfl rfl <| wpC_seq <| reg_s <| x_asg (sc cB false rfl) <| seqN [(2, .d (cB.enc false))] (by kernel_rfl) <|
    xn <| wpC_ret <| rt <| rt <| re <| fin h (r1 (ss rfl rfl) <| r0) rfl)
    (fun b24 h => gt' rfl b24 <| st rfl <| fab rfl rfl rfl rfl <| gt' rfl b24 <| st rfl <| lda rfl rfl rfl rfl rfl rfl <| gt' rfl b24 <| stw rfl <| lens rfl fun l25 => gt' rfl b24 <| st rfl <| b_gtr (k := .i64) rfl rfl <| st rfl <| pick0 rfl b24 (cd := cB) (v := (decide ((30 : Int) < (v0.Parents.length : Int)))) rfl rfl <| st rfl <| mvd rfl rfl <| ite_k h (fun b26 h => gf rfl b26 <| gf rfl b26 <| gf rfl b26 <| gf rfl b26 <| gf rfl b26 <| st rfl <| pick1 rfl b26 (cd := cB) (v := true) rfl rfl <| seqN [(1, .box ((cXGeo (cLs cI rfl)).enc v0)), (20, .d (cB.enc true))] (by kernel_rfl) <|
    xn <| cnd1 rfl rfl <| wpC_seq <| reg_s <| x_asg (sc cB false rfl) <| seqN [(2, .d (cB.enc false))] (by kernel_rfl) <|
    xn <| wpC_ret <| rt <| rt <| re <| fin h (r1 (ss rfl rfl) <| r0) rfl)
    (fun b26 h => gt' rfl b26 <| st rfl <| fab rfl rfl rfl rfl <| gt' rfl b26 <| st rfl <| lda rfl rfl rfl rfl rfl rfl <| gt' rfl b26 <| getO_k h fun x27 i28 g29 h => st rfl <| ias rfl rfl i28 g29 rfl <| gt' rfl b26 <| st rfl <| ldi rfl rfl rfl rfl <| gt' rfl b26 <| st rfl <| b_neq (k := .i64) rfl rfl <| st rfl <| pick0 rfl b26 (cd := cB) (v := (decide (x27 ≠ (-1 : Int)))) rfl rfl <| seqN [(1, .box ((cXGeo (cLs cI rfl)).enc v0)), (20, .d (cB.enc (decide (x27 ≠ (-1 : Int)))))] (by kernel_rfl) <|
    xn <| cnd rfl h (fun b30 h => wpC_seq <| reg_s <| x_asg (sc cB false rfl) <| seqN [(2, .d (cB.enc false))] (by kernel_rfl) <|
    xn <| wpC_ret <| rt <| rt <| re <| fin h (r1 (ss rfl rfl) <| r0) rfl)
    (fun b30 h => wpC_skip <| kpN [(1, .box ((cXGeo (cLs cI rfl)).enc v0))] (by kernel_rfl) <| xn <| wpC_seq <| wpC_kp <| wpC_seq <| reg_s <| x_asg (sc cI (1 : Int) rfl) <| seqN [(1, .box ((cXGeo (cLs cI rfl)).enc v0)), (3, .d (cI.enc (1 : Int)))] (by kernel_rfl) <|
    xn <| wpC_blk <| lpF (fun (s114 : Int) => [(1, .box ((cXGeo (cLs cI rfl)).enc v0)), (3, .d (cI.enc s114))]) (1 : Int) rfl h
    fun G171 nx169 s114 hn170 h => wpC_seq <| wpC_kp <| wpC_seq <| reg_s <| st rfl <| mvd rfl rfl <| st rfl <| fab rfl rfl rfl rfl <| st rfl <| lda rfl rfl rfl rfl rfl rfl <| stw rfl <| lens rfl fun l176 => st rfl <| b_lss (k := .i64) rfl rfl <| seqN [(1, .box ((cXGeo (cLs cI rfl)).enc v0)), (3, .d (cI.enc s114)), (25, .d (cB.enc (decide (s114 < (v0.Parents.length : Int)))))] (by kernel_rfl) <|
    xn <| cnd rfl h (fun b177 h => wpC_skip <| kpN [(1, .box ((cXGeo (cLs cI rfl)).enc v0)), (3, .d (cI.enc s114))] (by kernel_rfl) <| xn <| wpC_seq <| wpC_kp <| wpC_blk <| wpC_seq <| reg_s <| st rfl <| fab rfl rfl rfl rfl <| st rfl <| lda rfl rfl rfl rfl rfl rfl <| st rfl <| mvd rfl rfl <| getO_k h fun x191 i192 g193 h => st rfl <| ias rfl rfl i192 g193 rfl <| st rfl <| ldi rfl rfl rfl rfl <| st rfl <| b_lss (k := .i64) rfl rfl <| st rfl <| mvd rfl rfl <| ite_k h (fun b194 h => gf rfl b194 <| gf rfl b194 <| gf rfl b194 <| gf rfl b194 <| gf rfl b194 <| gf rfl b194 <| gf rfl b194 <| st rfl <| pick1 rfl b194 (cd := cB) (v := true) rfl rfl <| seqN [(1, .box ((cXGeo (cLs cI rfl)).enc v0)), (3, .d (cI.enc s114)), (42, .d (cB.enc true))] (by kernel_rfl) <|
    xn <| cnd1 rfl rfl <| wpC_seq <| reg_s <| x_asg (sc cB false rfl) <| seqN [(2, .d (cB.enc false))] (by kernel_rfl) <|
    xn <| wpC_ret <| rb <| rt <| rt <| rt <| rb <| rt <| rt <| re <| fin h (r1 (ss rfl rfl) <| r0) rfl)
    (fun b194 h => gt' rfl b194 <| st rfl <| fab rfl rfl rfl rfl <| gt' rfl b194 <| st rfl <| lda rfl rfl rfl rfl rfl rfl <| gt' rfl b194 <| st rfl <| mvd rfl rfl <| gt' rfl b194 <| st rfl <| ias rfl rfl i192 g193 rfl <| gt' rfl b194 <| st rfl <| ldi rfl rfl rfl rfl <| gt' rfl b194 <| st rfl <| mvd rfl rfl <| gt' rfl b194 <| st rfl <| b_geq (k := .i64) rfl rfl <| st rfl <| pick0 rfl b194 (cd := cB) (v := (decide (s114 ≤ x191))) rfl rfl <| seqN [(1, .box ((cXGeo (cLs cI rfl)).enc v0)), (3, .d (cI.enc s114)), (42, .d (cB.enc (decide (s114 ≤ x191))))] (by kernel_rfl) <|
    xn <| cnd rfl h (fun b195 h => wpC_seq <| reg_s <| x_asg (sc cB false rfl) <| seqN [(2, .d (cB.enc false))] (by kernel_rfl) <|
    xn <| wpC_ret <| rb <| rt <| rt <| rt <| rb <| rt <| rt <| re <| fin h (r1 (ss rfl rfl) <| r0) rfl)
    (fun b195 h => wpC_skip <| xbb <| kpN [(1, .box ((cXGeo (cLs cI rfl)).enc v0)), (3, .d (cI.enc s114))] (by kernel_rfl) <| xn <| reg_s <| st rfl <| mvd rfl rfl <| ckI_k h fun i196 h => st rfl <| b_add (k := .i64) rfl rfl i196 <| x_asg (ss rfl rfl) <| seqN [(1, .box ((cXGeo (cLs cI rfl)).enc v0)), (3, .d (cI.enc (s114 + (1 : Int))))] (by kernel_rfl) <|
    xn <| hn170 (s114 + (1 : Int)) h)))
    (fun b177 h => wpC_exit <| xt <| xt <| xt <| xb <| kpN [] (by kernel_rfl) <| xn <| wpC_seq <| reg_s <| x_asg (sc cB true rfl) <| seqN [(2, .d (cB.enc true))] (by kernel_rfl) <|
    xn <| wpC_ret <| re <| fin h (r1 (ss rfl rfl) <| r0) rfl))))

def rs_impl_isWord (r : Bool) : List D := [cB.enc r]
def m69 : MC := .seq (.reg [⟨some 2, .asg (.c (.bool false)), none⟩] [0])
  (.seq (.kp [0] (.seq (.reg [⟨some 4, .mv (.t 0), none⟩,
    ⟨some 5, .len true (.t 4), none⟩,
    ⟨some 6, .bin .lss (.t 5) (.c (.int .i64 1)), none⟩,
    ⟨some 7, .mv (.t 6), none⟩,
    ⟨some 8, .mv (.t 0), some (7, false)⟩,
    ⟨some 9, .len true (.t 8), some (7, false)⟩,
    ⟨some 10, .bin .gtr (.t 9) (.c (.int .i64 8)), some (7, false)⟩,
    ⟨some 11, .pick (.t 7) (.c (.bool true)) (.t 10), none⟩] [0, 11])
  (.cond (.t 11) (.seq (.reg [⟨some 2, .asg (.c (.bool false)), none⟩] [2])
  (.ret)) (.skip))))
  (.seq (.kp [] (.seq (.reg [⟨some 12, .mv (.t 0), none⟩,
    ⟨some 13, .len true (.t 12), none⟩,
    ⟨some 14, .mv (.c (.int .i64 0)), none⟩] [0, 13, 14])
  (.blk 0 (.loop (.seq (.reg [⟨some 15, .bin .lss (.t 14) (.t 13), none⟩] [0, 13, 14, 15])
  (.seq (.kp [0, 13, 14] (.cond (.t 15) (.skip) (.exit 0)))
  (.seq (.kp [0, 13, 14] (.blk 1 (.seq (.reg [⟨some 16, .mv (.t 14), none⟩,
    ⟨some 3, .asg (.t 16), none⟩] [0, 3, 13, 14])
  (.seq (.reg [⟨some 17, .mv (.t 0), none⟩,
    ⟨some 18, .mv (.t 3), none⟩,
    ⟨some 19, .ix (.t 17) (.t 18), none⟩,
    ⟨some 20, .bin .lss (.t 19) (.c (.int .u8 97)), none⟩,
    ⟨some 21, .mv (.t 20), none⟩,
    ⟨some 22, .mv (.t 0), some (21, false)⟩,
    ⟨some 23, .mv (.t 3), some (21, false)⟩,
    ⟨some 24, .ix (.t 22) (.t 23), some (21, false)⟩,
    ⟨some 25, .bin .gtr (.t 24) (.c (.int .u8 122)), some (21, false)⟩,
    ⟨some 26, .pick (.t 21) (.c (.bool true)) (.t 25), none⟩] [0, 13, 14, 26])
  (.cond (.t 26) (.seq (.reg [⟨some 2, .asg (.c (.bool false)), none⟩] [2])
  (.ret)) (.skip))))))
  (.reg [⟨some 27, .bin .add (.t 14) (.c (.int .i64 1)), none⟩,
    ⟨some 14, .mv (.t 27), none⟩] [0, 13, 14]))))))))
  (.seq (.reg [⟨some 2, .asg (.c (.bool true)), none⟩] [2])
  (.ret))))
theorem con_impl_isWord {v0 : (List UInt8)} {r : Bool} (h : sh_impl_isWord v0 = some r) : Con Tryd.prog 69 [cS.enc v0] [] (rs_impl_isWord r) := by
  delta sh_impl_isWord at h
  refine top (out := none) (f := Tryd.f69) (m := m69) (rs := [.t 2]) (by kernel_rfl) rfl (by kernel_rfl) (by kernel_rfl) (by kernel_rfl) (by kernel_rfl) (by kernel_rfl) ?_
  exact
   ini [(0, .d (cS.enc v0))] rfl <| wpC_seq <| reg_s <| x_asg (sc cB false rfl) <| seqN [(0, .d (cS.enc v0))] (by kernel_rfl) <|
    xn <| wpC_seq <| wpC_kp <| wpC_seq <| reg_s <| st rfl <| mvd rfl rfl <| stw rfl <| lent rfl fun l11 => st rfl <| b_lss (k := .i64) rfl rfl <| st rfl <| mvd rfl rfl <| ite_k h (fun b12 h => gf rfl b12 <| gf rfl b12 <| gf rfl b12 <| st rfl <| pick1 rfl b12 (cd := cB) (v := true) rfl rfl <| seqN [(0, .d (cS.enc v0)), (11, .d (cB.enc true))] (by kernel_rfl) <|
    xn <| cnd1 rfl rfl <| wpC_seq <| reg_s <| x_asg (sc cB false rfl) <| seqN [(2, .d (cB.enc false))] (by kernel_rfl) <|
    xn <| wpC_ret <| rt <| rt <| re <| fin h (r1 (ss rfl rfl) <| r0) rfl)
    (fun b12 h => gt' rfl b12 <| st rfl <| mvd rfl rfl <| gt' rfl b12 <| stw rfl <| lent rfl fun l13 => gt' rfl b12 <| st rfl <| b_gtr (k := .i64) rfl rfl <| st rfl <| pick0 rfl b12 (cd := cB) (v := (decide ((8 : Int) < (v0.length : Int)))) rfl rfl <| seqN [(0, .d (cS.enc v0)), (11, .d (cB.enc (decide ((8 : Int) < (v0.length : Int)))))] (by kernel_rfl) <|
    xn <| cnd rfl h (fun b14 h => wpC_seq <| reg_s <| x_asg (sc cB false rfl) <| seqN [(2, .d (cB.enc false))] (by kernel_rfl) <|
    xn <| wpC_ret <| rt <| rt <| re <| fin h (r1 (ss rfl rfl) <| r0) rfl)
    (fun b14 h => wpC_skip <| kpN [(0, .d (cS.enc v0))] (by kernel_rfl) <| xn <| wpC_seq <| wpC_kp <| wpC_seq <| reg_s <| st rfl <| mvd rfl rfl <| stw rfl <| lent rfl fun l38 => st rfl <| mvc cI (0 : Int) rfl <| seqN [(0, .d (cS.enc v0)), (13, .d (cI.enc (v0.length : Int))), (14, .d (cI.enc (0 : Int)))] (by kernel_rfl) <|
    xn <| wpC_blk <| lpR (fun (k40 : Nat) (s39 : Unit) => [(0, .d (cS.enc v0)), (13, .d (cI.enc (v0.length : Int))), (14, .d (cI.enc (k40 : Int)))]) () rfl h
    (fun G52 s39 h => wpC_seq <| reg_s <| st rfl <| b_lss (k := .i64) rfl rfl <| seqN [(0, .d (cS.enc v0)), (13, .d (cI.enc (v0.length : Int))), (14, .d (cI.enc (v0.length : Int))), (15, .d (cB.enc (decide ((v0.length : Int) < (v0.length : Int)))))] (by kernel_rfl) <|
    xn <| wpC_seq <| wpC_kp <| cnd0 rfl (dlf _) <| wpC_exit <| xt <| xt <| xt <| xb <| kpN [] (by kernel_rfl) <| xn <| wpC_seq <| reg_s <| x_asg (sc cB true rfl) <| seqN [(2, .d (cB.enc true))] (by kernel_rfl) <|
    xn <| wpC_ret <| re <| fin h (r1 (ss rfl rfl) <| r0) rfl)
    (fun G52 nx50 k40 s39 x41 hk42 hx43 hn51 h => wpC_seq <| reg_s <| st rfl <| b_lss (k := .i64) rfl rfl <| seqN [(0, .d (cS.enc v0)), (13, .d (cI.enc (v0.length : Int))), (14, .d (cI.enc (k40 : Int))), (15, .d (cB.enc (decide ((k40 : Int) < (v0.length : Int)))))] (by kernel_rfl) <|
    xn <| wpC_seq <| wpC_kp <| cnd1 rfl (dlt hk42) <| wpC_skip <| kpN [(0, .d (cS.enc v0)), (13, .d (cI.enc (v0.length : Int))), (14, .d (cI.enc (k40 : Int)))] (by kernel_rfl) <| xn <| wpC_seq <| wpC_kp <| wpC_blk <| wpC_seq <| reg_s <| st rfl <| mvd rfl rfl <| x_asg (ss rfl rfl) <| seqN [(0, .d (cS.enc v0)), (3, .d (cI.enc (k40 : Int))), (13, .d (cI.enc (v0.length : Int))), (14, .d (cI.enc (k40 : Int)))] (by kernel_rfl) <|
    xn <| wpC_seq <| reg_s <| st rfl <| mvd rfl rfl <| st rfl <| mvd rfl rfl <| st rfl <| o_ix (k := .i64) rfl rfl (Int.natCast_nonneg _) hx43 <| st rfl <| b_lss (k := .u8) rfl rfl <| st rfl <| mvd rfl rfl <| ite_k h (fun b57 h => gf rfl b57 <| gf rfl b57 <| gf rfl b57 <| gf rfl b57 <| st rfl <| pick1 rfl b57 (cd := cB) (v := true) rfl rfl <| seqN [(0, .d (cS.enc v0)), (13, .d (cI.enc (v0.length : Int))), (14, .d (cI.enc (k40 : Int))), (26, .d (cB.enc true))] (by kernel_rfl) <|
    xn <| cnd1 rfl rfl <| wpC_seq <| reg_s <| x_asg (sc cB false rfl) <| seqN [(2, .d (cB.enc false))] (by kernel_rfl) <|
    xn <| wpC_ret <| rb <| rt <| rt <| rt <| rb <| rt <| rt <| re <| fin h (r1 (ss rfl rfl) <| r0) rfl)
    (fun b57 h => gt' rfl b57 <| st rfl <| mvd rfl rfl <| gt' rfl b57 <| st rfl <| mvd rfl rfl <| gt' rfl b57 <| st rfl <| o_ix (k := .i64) rfl rfl (Int.natCast_nonneg _) hx43 <| gt' rfl b57 <| st rfl <| b_gtr (k := .u8) rfl rfl <| st rfl <| pick0 rfl b57 (cd := cB) (v := (decide ((122 : Int) < (x41.toNat : Int)))) rfl rfl <| seqN [(0, .d (cS.enc v0)), (13, .d (cI.enc (v0.length : Int))), (14, .d (cI.enc (k40 : Int))), (26, .d (cB.enc (decide ((122 : Int) < (x41.toNat : Int)))))] (by kernel_rfl) <|
    xn <| cnd rfl h (fun b58 h => wpC_seq <| reg_s <| x_asg (sc cB false rfl) <| seqN [(2, .d (cB.enc false))] (by kernel_rfl) <|
    xn <| wpC_ret <| rb <| rt <| rt <| rt <| rb <| rt <| rt <| re <| fin h (r1 (ss rfl rfl) <| r0) rfl)
    (fun b58 h => wpC_skip <| xbb <| kpN [(0, .d (cS.enc v0)), (13, .d (cI.enc (v0.length : Int))), (14, .d (cI.enc (k40 : Int)))] (by kernel_rfl) <| xn <| reg_s <| st rfl <| b_inc rfl rfl l38 hk42 <| st rfl <| mvd rfl rfl <| seqN [(0, .d (cS.enc v0)), (13, .d (cI.enc (v0.length : Int))), (14, .d (cI.enc ((k40 + 1 : Nat) : Int)))] (by kernel_rfl) <|
    xn <| hn51 () h)))))

def rs_impl_IsSchema (r : Bool) : List D := [cB.enc r]
def m39 : MC := .seq (.reg [⟨some 2, .asg (.c (.bool false)), none⟩] [0])
  (.seq (.kp [0] (.seq (.reg [⟨some 7, .mv (.t 0), none⟩,
    ⟨some 8, .len false (.t 7), none⟩,
    ⟨some 9, .bin .lss (.t 8) (.c (.int .i64 1)), none⟩,
    ⟨some 10, .mv (.t 9), none⟩,
    ⟨some 11, .mv (.t 0), some (10, false)⟩,
    ⟨some 12, .len false (.t 11), some (10, false)⟩,
    ⟨some 13, .bin .gtr (.t 12) (.c (.int .i64 6)), some (10, false)⟩,
    ⟨some 14, .pick (.t 10) (.c (.bool true)) (.t 13), none⟩] [0, 14])
  (.cond (.t 14) (.seq (.reg [⟨some 2, .asg (.c (.bool false)), none⟩] [2])
  (.ret)) (.skip))))
  (.seq (.kp [] (.seq (.reg [⟨some 15, .mv (.t 0), none⟩,
    ⟨some 16, .len false (.t 15), none⟩,
    ⟨some 17, .mv (.c (.int .i64 0)), none⟩] [0, 15, 16, 17])
  (.blk 0 (.loop (.seq (.reg [⟨some 18, .bin .lss (.t 17) (.t 16), none⟩] [0, 15, 16, 17, 18])
  (.seq (.kp [0, 15, 16, 17] (.cond (.t 18) (.skip) (.exit 0)))
  (.seq (.kp [0, 15, 16, 17] (.blk 1 (.seq (.reg [⟨some 19, .mv (.t 17), none⟩,
    ⟨some 20, .ia 15 (.t 17) 2, none⟩,
    ⟨some 21, .ld 20 2 true, none⟩,
    ⟨some 4, .alloc (.agg [.str [], .int .i64 0]), none⟩,
    ⟨some 3, .asg (.t 19), none⟩,
    ⟨none, .st 4 (.t 21) 2, none⟩] [0, 3, 4, 15, 16, 17])
  (.seq (.kp [0, 3, 4, 15, 16, 17] (.seq (.reg [⟨some 22, .fa 4 0 0, none⟩,
    ⟨some 23, .ld 22 1 false, none⟩,
    ⟨some 24, .call 69 [(.t 23)], none⟩,
    ⟨some 25, .nt (.t 24), none⟩,
    ⟨some 26, .mv (.t 25), none⟩,
    ⟨some 27, .fa 4 1 1, some (26, false)⟩,
    ⟨some 28, .ld 27 1 false, some (26, false)⟩,
    ⟨some 29, .bin .lss (.t 28) (.c (.int .i64 2)), some (26, false)⟩,
    ⟨some 30, .pick (.t 26) (.c (.bool true)) (.t 29), none⟩,
    ⟨some 31, .mv (.t 30), none⟩,
    ⟨some 32, .fa 4 1 1, some (31, false)⟩,
    ⟨some 33, .ld 32 1 false, some (31, false)⟩,
    ⟨some 34, .bin .gtr (.t 33) (.c (.int .i64 8)), some (31, false)⟩,
    ⟨some 35, .pick (.t 31) (.c (.bool true)) (.t 34), none⟩] [0, 3, 4, 15, 16, 17, 35])
  (.cond (.t 35) (.seq (.reg [⟨some 2, .asg (.c (.bool false)), none⟩] [2])
  (.ret)) (.skip))))
  (.seq (.reg [⟨some 36, .mv (.t 0), none⟩,
    ⟨some 37, .mv (.t 3), none⟩,
    ⟨some 38, .sl (.t 36) none (some (.t 37)) 2, none⟩,
    ⟨some 39, .len false (.t 38), none⟩,
    ⟨some 40, .mv (.c (.int .i64 0)), none⟩] [0, 4, 15, 16, 17, 38, 39, 40])
  (.blk 2 (.loop (.seq (.reg [⟨some 41, .bin .lss (.t 40) (.t 39), none⟩] [0, 4, 15, 16, 17, 38, 39, 40, 41])
  (.seq (.kp [0, 4, 15, 16, 17, 38, 39, 40] (.cond (.t 41) (.skip) (.exit 2)))
  (.seq (.kp [0, 4, 15, 16, 17, 38, 39, 40] (.blk 3 (.seq (.reg [⟨some 42, .ia 38 (.t 40) 2, none⟩,
    ⟨some 43, .ld 42 2 true, none⟩,
    ⟨some 6, .alloc (.agg [.str [], .int .i64 0]), none⟩,
    ⟨none, .st 6 (.t 43) 2, none⟩] [0, 4, 6, 15, 16, 17, 38, 39, 40])
  (.seq (.reg [⟨some 44, .fa 6 0 0, none⟩,
    ⟨some 45, .ld 44 1 false, none⟩,
    ⟨some 46, .fa 4 0 0, none⟩,
    ⟨some 47, .ld 46 1 false, none⟩,
    ⟨some 48, .bin .eql (.t 45) (.t 47), none⟩] [0, 4, 15, 16, 17, 38, 39, 40, 48])
  (.cond (.t 48) (.seq (.reg [⟨some 2, .asg (.c (.bool false)), none⟩] [2])
  (.ret)) (.skip))))))
  (.reg [⟨some 49, .bin .add (.t 40) (.c (.int .i64 1)), none⟩,
    ⟨some 40, .mv (.t 49), none⟩] [0, 4, 15, 16, 17, 38, 39, 40])))))))))))
  (.reg [⟨some 50, .bin .add (.t 17) (.c (.int .i64 1)), none⟩,
    ⟨some 17, .mv (.t 50), none⟩] [0, 15, 16, 17]))))))))
  (.seq (.reg [⟨some 2, .asg (.c (.bool true)), none⟩] [2])
  (.ret))))
theorem con_impl_IsSchema {v0 : (List XVariable)} {r : Bool} (h : sh_impl_IsSchema v0 = some r) : Con Tryd.prog 39 [(cLs (cXVariable cS cI) rfl).enc v0] [] (rs_impl_IsSchema r) := by
  delta sh_impl_IsSchema at h
  refine top (out := none) (f := Tryd.f39) (m := m39) (rs := [.t 2]) (by kernel_rfl) rfl (by kernel_rfl) (by kernel_rfl) (by kernel_rfl) (by kernel_rfl) (by kernel_rfl) ?_
  exact
   ini [(0, .d ((cLs (cXVariable cS cI) rfl).enc v0))] rfl <| wpC_seq <| reg_s <| x_asg (sc cB false rfl) <| seqN [(0, .d ((cLs (cXVariable cS cI) rfl).enc v0))] (by kernel_rfl) <|
    xn <| wpC_seq <| wpC_kp <| wpC_seq <| reg_s <| st rfl <| mvd rfl rfl <| stw rfl <| lens rfl fun l11 => st rfl <| b_lss (k := .i64) rfl rfl <| st rfl <| mvd rfl rfl <| ite_k h (fun b12 h => gf rfl b12 <| gf rfl b12 <| gf rfl b12 <| st rfl <| pick1 rfl b12 (cd := cB) (v := true) rfl rfl <| seqN [(0, .d ((cLs (cXVariable cS cI) rfl).enc v0)), (14, .d (cB.enc true))] (by kernel_rfl) <|
    xn <| cnd1 rfl rfl <| wpC_seq <| reg_s <| x_asg (sc cB false rfl) <| seqN [(2, .d (cB.enc false))] (by kernel_rfl) <|
    xn <| wpC_ret <| rt <| rt <| re <| fin h (r1 (ss rfl rfl) <| r0) rfl)
    (fun b12 h => gt' rfl b12 <| st rfl <| mvd rfl rfl <| gt' rfl b12 <| stw rfl <| lens rfl fun l13 => gt' rfl b12 <| st rfl <| b_gtr (k := .i64) rfl rfl <| st rfl <| pick0 rfl b12 (cd := cB) (v := (decide ((6 : Int) < (v0.length : Int)))) rfl rfl <| seqN [(0, .d ((cLs (cXVariable cS cI) rfl).enc v0)), (14, .d (cB.enc (decide ((6 : Int) < (v0.length : Int)))))] (by kernel_rfl) <|
    xn <| cnd rfl h (fun b14 h => wpC_seq <| reg_s <| x_asg (sc cB false rfl) <| seqN [(2, .d (cB.enc false))] (by kernel_rfl) <|
    xn <| wpC_ret <| rt <| rt <| re <| fin h (r1 (ss rfl rfl) <| r0) rfl)
    (fun b14 h => wpC_skip <| kpN [(0, .d ((cLs (cXVariable cS cI) rfl).enc v0))] (by kernel_rfl) <| xn <| wpC_seq <| wpC_kp <| wpC_seq <| reg_s <| st rfl <| mvd rfl rfl <| stw rfl <| lens rfl fun l162 => st rfl <| mvc cI (0 : Int) rfl <| seqN [(0, .d ((cLs (cXVariable cS cI) rfl).enc v0)), (15, .d ((cLs (cXVariable cS cI) rfl).enc v0)), (16, .d (cI.enc (v0.length : Int))), (17, .d (cI.enc (0 : Int)))] (by kernel_rfl) <|
    xn <| wpC_blk <| lpR (fun (k164 : Nat) (s163 : Unit) => [(0, .d ((cLs (cXVariable cS cI) rfl).enc v0)), (15, .d ((cLs (cXVariable cS cI) rfl).enc v0)), (16, .d (cI.enc (v0.length : Int))), (17, .d (cI.enc (k164 : Int)))]) () rfl h
    (fun G238 s163 h => wpC_seq <| reg_s <| st rfl <| b_lss (k := .i64) rfl rfl <| seqN [(0, .d ((cLs (cXVariable cS cI) rfl).enc v0)), (15, .d ((cLs (cXVariable cS cI) rfl).enc v0)), (16, .d (cI.enc (v0.length : Int))), (17, .d (cI.enc (v0.length : Int))), (18, .d (cB.enc (decide ((v0.length : Int) < (v0.length : Int)))))] (by kernel_rfl) <|
    xn <| wpC_seq <| wpC_kp <| cnd0 rfl (dlf _) <| wpC_exit <| xt <| xt <| xt <| xb <| kpN [] (by kernel_rfl) <| xn <| wpC_seq <| reg_s <| x_asg (sc cB true rfl) <| seqN [(2, .d (cB.enc true))] (by kernel_rfl) <|
    xn <| wpC_ret <| re <| fin h (r1 (ss rfl rfl) <| r0) rfl)
    (fun G238 nx236 k164 s163 x165 hk166 hx167 hn237 h => wpC_seq <| reg_s <| st rfl <| b_lss (k := .i64) rfl rfl <| seqN [(0, .d ((cLs (cXVariable cS cI) rfl).enc v0)), (15, .d ((cLs (cXVariable cS cI) rfl).enc v0)), (16, .d (cI.enc (v0.length : Int))), (17, .d (cI.enc (k164 : Int))), (18, .d (cB.enc (decide ((k164 : Int) < (v0.length : Int)))))] (by kernel_rfl) <|
    xn <| wpC_seq <| wpC_kp <| cnd1 rfl (dlt hk166) <| wpC_skip <| kpN [(0, .d ((cLs (cXVariable cS cI) rfl).enc v0)), (15, .d ((cLs (cXVariable cS cI) rfl).enc v0)), (16, .d (cI.enc (v0.length : Int))), (17, .d (cI.enc (k164 : Int)))] (by kernel_rfl) <| xn <| wpC_seq <| wpC_kp <| wpC_blk <| wpC_seq <| reg_s <| st rfl <| mvd rfl rfl <| st rfl <| ias rfl rfl (Int.natCast_nonneg _) hx167 rfl <| st rfl <| ldi rfl rfl rfl rfl <| x_all (cXVariable cS cI) (⟨([] : List UInt8), (0 : Int)⟩ : XVariable) rfl <| x_asg (ss rfl rfl) <| x_stb (ss rfl rfl) rfl (Cd.h_sz _ _) rfl <| seqN [(0, .d ((cLs (cXVariable cS cI) rfl).enc v0)), (3, .d (cI.enc (k164 : Int))), (4, .box ((cXVariable cS cI).enc x165)), (15, .d ((cLs (cXVariable cS cI) rfl).enc v0)), (16, .d (cI.enc (v0.length : Int))), (17, .d (cI.enc (k164 : Int)))] (by kernel_rfl) <|
    xn <| wpC_seq <| wpC_kp <| wpC_seq <| reg_s <| st rfl <| fab rfl rfl rfl rfl <| st rfl <| lda rfl rfl rfl rfl rfl rfl <| bnd h fun x286 e287 h => st rfl <| o_call (a1 (c := cS) tS rfl a0) (con_impl_isWord e287) (.inl (so1 sB so0)) <| st rfl <| o_nt rfl <| st rfl <| mvd rfl rfl <| ite_k h (fun b288 h => gf rfl b288 <| gf rfl b288 <| gf rfl b288 <| st rfl <| pick1 rfl b288 (cd := cB) (v := true) rfl rfl <| st rfl <| mvd rfl rfl <| gf rfl rfl <| gf rfl rfl <| gf rfl rfl <| st rfl <| pick1 rfl rfl (cd := cB) (v := true) rfl rfl <| seqN [(0, .d ((cLs (cXVariable cS cI) rfl).enc v0)), (3, .d (cI.enc (k164 : Int))), (4, .box ((cXVariable cS cI).enc x165)), (15, .d ((cLs (cXVariable cS cI) rfl).enc v0)), (16, .d (cI.enc (v0.length : Int))), (17, .d (cI.enc (k164 : Int))), (35, .d (cB.enc true))] (by kernel_rfl) <|
    xn <| cnd1 rfl rfl <| wpC_seq <| reg_s <| x_asg (sc cB false rfl) <| seqN [(2, .d (cB.enc false))] (by kernel_rfl) <|
    xn <| wpC_ret <| rt <| rt <| rb <| rt <| rt <| rt <| rb <| rt <| rt <| re <| fin h (r1 (ss rfl rfl) <| r0) rfl)
    (fun b288 h => gt' rfl b288 <| st rfl <| fab rfl rfl rfl rfl <| gt' rfl b288 <| st rfl <| lda rfl rfl rfl rfl rfl rfl <| gt' rfl b288 <| st rfl <| b_lss (k := .i64) rfl rfl <| st rfl <| pick0 rfl b288 (cd := cB) (v := (decide (x165.Levels < (2 : Int)))) rfl rfl <| st rfl <| mvd rfl rfl <| ite_k h (fun b289 h => gf rfl b289 <| gf rfl b289 <| gf rfl b289 <| st rfl <| pick1 rfl b289 (cd := cB) (v := true) rfl rfl <| seqN [(0, .d ((cLs (cXVariable cS cI) rfl).enc v0)), (3, .d (cI.enc (k164 : Int))), (4, .box ((cXVariable cS cI).enc x165)), (15, .d ((cLs (cXVariable cS cI) rfl).enc v0)), (16, .d (cI.enc (v0.length : Int))), (17, .d (cI.enc (k164 : Int))), (35, .d (cB.enc true))] (by kernel_rfl) <|
    xn <| cnd1 rfl rfl <| wpC_seq <| reg_s <| x_asg (sc cB false rfl) <| seqN [(2, .d (cB.enc false))] (by kernel_rfl) <|
    xn <| wpC_ret <| rt <| rt <| rb <| rt <| rt <| rt <| rb <| rt <| rt <| re <| fin h (r1 (ss rfl rfl) <| r0) rfl)
    (fun b289 h => gt' rfl b289 <| st rfl <| fab rfl rfl rfl rfl <| gt' rfl b289 <| st rfl <| lda rfl rfl rfl rfl rfl rfl <| gt' rfl b289 <| st rfl <| b_gtr (k := .i64) rfl rfl <| st rfl <| pick0 rfl b289 (cd := cB) (v := (decide ((8 : Int) < x165.Levels))) rfl rfl <| seqN [(0, .d ((cLs (cXVariable cS cI) rfl).enc v0)), (3, .d (cI.enc (k164 : Int))), (4, .box ((cXVariable cS cI).enc x165)), (15, .d ((cLs (cXVariable cS cI) rfl).enc v0)), (16, .d (cI.enc (v0.length : Int))), (17, .d (cI.enc (k164 : Int))), (35, .d (cB.enc (decide ((8 : Int) < x165.Levels))))] (by kernel_rfl) <|
    xn <| cnd rfl h (fun b290 h => wpC_seq <| reg_s <| x_asg (sc cB false rfl) <| seqN [(2, .d (cB.enc false))] (by kernel_rfl) <|
    xn <| wpC_ret <| rt <| rt <| rb <| rt <| rt <| rt <| rb <| rt <| rt <| re <| fin h (r1 (ss rfl rfl) <| r0) rfl)
    (fun b290 h => wpC_skip <| kpN [(0, .d ((cLs (cXVariable cS cI) rfl).enc v0)), (3, .d (cI.enc (k164 : Int))), (4, .box ((cXVariable cS cI).enc x165)), (15, .d ((cLs (cXVariable cS cI) rfl).enc v0)), (16, .d (cI.enc (v0.length : Int))), (17, .d (cI.enc (k164 : Int)))] (by kernel_rfl) <| xn <| wpC_seq <| reg_s <| st rfl <| mvd rfl rfl <| st rfl <| mvd rfl rfl <| ck_k h fun i293 h => st rfl <| o_sl rfl rfl lo0 (hi1 (k := .i64) rfl i293.1) i293.2 <| stw rfl <| lens rfl fun l294 => st rfl <| mvc cI (0 : Int) rfl <| seqN [(0, .d ((cLs (cXVariable cS cI) rfl).enc v0)), (4, .box ((cXVariable cS cI).enc x165)), (15, .d ((cLs (cXVariable cS cI) rfl).enc v0)), (16, .d (cI.enc (v0.length : Int))), (17, .d (cI.enc (k164 : Int))), (38, .d ((cLs (cXVariable cS cI) rfl).enc ((v0.take ((k164 : Int)).toNat).drop 0))), (39, .d (cI.enc (((v0.take ((k164 : Int)).toNat).drop 0).length : Int))), (40, .d (cI.enc (0 : Int)))] (by kernel_rfl) <|
    xn <| wpC_blk <| lpR (fun (k296 : Nat) (s295 : Unit) => [(0, .d ((cLs (cXVariable cS cI) rfl).enc v0)), (4, .box ((cXVariable cS cI).enc x165)), (15, .d ((cLs (cXVariable cS cI) rfl).enc v0)), (16, .d (cI.enc (v0.length : Int))), (17, .d (cI.enc (k164 : Int))), (38, .d ((cLs (cXVariable cS cI) rfl).enc ((v0.take ((k164 : Int)).toNat).drop 0))), (39, .d (cI.enc (((v0.take ((k164 : Int)).toNat).drop 0).length : Int))), (40, .d (cI.enc (k296 : Int)))]) () rfl h
    (fun G304 s295 h => wpC_seq <| reg_s <| st rfl <| b_lss (k := .i64) rfl rfl <| seqN [(0, .d ((cLs (cXVariable cS cI) rfl).enc v0)), (4, .box ((cXVariable cS cI).enc x165)), (15, .d ((cLs (cXVariable cS cI) rfl).enc v0)), (16, .d (cI.enc (v0.length : Int))), (17, .d (cI.enc (k164 : Int))), (38, .d ((cLs (cXVariable cS cI) rfl).enc ((v0.take ((k164 : Int)).toNat).drop 0))), (39, .d (cI.enc (((v0.take ((k164 : Int)).toNat).drop 0).length : Int))), (40, .d (cI.enc (((v0.take ((k164 : Int)).toNat).drop 0).length : Int))), (41, .d (cB.enc (decide ((((v0.take ((k164 : Int)).toNat).drop 0).length : Int) < (((v0.take ((k164 : Int)).toNat).drop 0).length : Int)))))] (by kernel_rfl) <|
    xn <| wpC_seq <| wpC_kp <| cnd0 rfl (dlf _) <| wpC_exit <| xt <| xt <| xt <| xb <| xbb <| kpN [(0, .d ((cLs (cXVariable cS cI) rfl).enc v0)), (15, .d ((cLs (cXVariable cS cI) rfl).enc v0)), (16, .d (cI.enc (v0.length : Int))), (17, .d (cI.enc (k164 : Int)))] (by kernel_rfl) <| xn <| reg_s <| st rfl <| b_inc rfl rfl l162 hk166 <| st rfl <| mvd rfl rfl <| seqN [(0, .d ((cLs (cXVariable cS cI) rfl).enc v0)), (15, .d ((cLs (cXVariable cS cI) rfl).enc v0)), (16, .d (cI.enc (v0.length : Int))), (17, .d (cI.enc ((k164 + 1 : Nat) : Int)))] (by kernel_rfl) <|
    xn <| hn237 () h)
    (fun G304 nx302 k296 s295 x297 hk298 hx299 hn303 h => wpC_seq <| reg_s <| st rfl <| b_lss (k := .i64) rfl rfl <| seqN [(0, .d ((cLs (cXVariable cS cI) rfl).enc v0)), (4, .box ((cXVariable cS cI).enc x165)), (15, .d ((cLs (cXVariable cS cI) rfl).enc v0)), (16, .d (cI.enc (v0.length : Int))), (17, .d (cI.enc (k164 : Int))), (38, .d ((cLs (cXVariable cS cI) rfl).enc ((v0.take ((k164 : Int)).toNat).drop 0))), (39, .d (cI.enc (((v0.take ((k164 : Int)).toNat).drop 0).length : Int))), (40, .d (cI.enc (k296 : Int))), (41, .d (cB.enc (decide ((k296 : Int) < (((v0.take ((k164 : Int)).toNat).drop 0).length : Int)))))] (by kernel_rfl) <|
    xn <| wpC_seq <| wpC_kp <| cnd1 rfl (dlt hk298) <| wpC_skip <| kpN [(0, .d ((cLs (cXVariable cS cI) rfl).enc v0)), (4, .box ((cXVariable cS cI).enc x165)), (15, .d ((cLs (cXVariable cS cI) rfl).enc v0)), (16, .d (cI.enc (v0.length : Int))), (17, .d (cI.enc (k164 : Int))), (38, .d ((cLs (cXVariable cS cI) rfl).enc ((v0.take ((k164 : Int)).toNat).drop 0))), (39, .d (cI.enc (((v0.take ((k164 : Int)).toNat).drop 0).length : Int))), (40, .d (cI.enc (k296 : Int)))] (by kernel_rfl) <| xn <| wpC_seq <| wpC_kp <| wpC_blk <| wpC_seq <| reg_s <| st rfl <| ias rfl rfl (Int.natCast_nonneg _) hx299 rfl <| st rfl <| ldi rfl rfl rfl rfl <| x_all (cXVariable cS cI) (⟨([] : List UInt8), (0 : Int)⟩ : XVariable) rfl <| x_stb (ss rfl rfl) rfl (Cd.h_sz _ _) rfl <| seqN [(0, .d ((cLs (cXVariable cS cI) rfl).enc v0)), (4, .box ((cXVariable cS cI).enc x165)), (6, .box ((cXVariable cS cI).enc x297)), (15, .d ((cLs (cXVariable cS cI) rfl).enc v0)), (16, .d (cI.enc (v0.length : Int))), (17, .d (cI.enc (k164 : Int))), (38, .d ((cLs (cXVariable cS cI) rfl).enc ((v0.take ((k164 : Int)).toNat).drop 0))), (39, .d (cI.enc (((v0.take ((k164 : Int)).toNat).drop 0).length : Int))), (40, .d (cI.enc (k296 : Int)))] (by kernel_rfl) <|
    xn <| wpC_seq <| reg_s <| st rfl <| fab rfl rfl rfl rfl <| st rfl <| lda rfl rfl rfl rfl rfl rfl <| st rfl <| fab rfl rfl rfl rfl <| st rfl <| lda rfl rfl rfl rfl rfl rfl <| st rfl <| b_seq rfl rfl <| seqN [(0, .d ((cLs (cXVariable cS cI) rfl).enc v0)), (4, .box ((cXVariable cS cI).enc x165)), (15, .d ((cLs (cXVariable cS cI) rfl).enc v0)), (16, .d (cI.enc (v0.length : Int))), (17, .d (cI.enc (k164 : Int))), (38, .d ((cLs (cXVariable cS cI) rfl).enc ((v0.take ((k164 : Int)).toNat).drop 0))), (39, .d (cI.enc (((v0.take ((k164 : Int)).toNat).drop 0).length : Int))), (40, .d (cI.enc (k296 : Int))), (48, .d (cB.enc (decide (x297.Name = x165.Name))))] (by kernel_rfl) <|
    xn <| cnd rfl h (fun b306 h => wpC_seq <| reg_s <| x_asg (sc cB false rfl) <| seqN [(2, .d (cB.enc false))] (by kernel_rfl) <|
    xn <| wpC_ret <| rb <| rt <| rt <| rt <| rb <| rb <| rt <| rt <| rt <| rb <| rt <| rt <| re <| fin h (r1 (ss rfl rfl) <| r0) rfl)
    (fun b306 h => wpC_skip <| xbb <| kpN [(0, .d ((cLs (cXVariable cS cI) rfl).enc v0)), (4, .box ((cXVariable cS cI).enc x165)), (15, .d ((cLs (cXVariable cS cI) rfl).enc v0)), (16, .d (cI.enc (v0.length : Int))), (17, .d (cI.enc (k164 : Int))), (38, .d ((cLs (cXVariable cS cI) rfl).enc ((v0.take ((k164 : Int)).toNat).drop 0))), (39, .d (cI.enc (((v0.take ((k164 : Int)).toNat).drop 0).length : Int))), (40, .d (cI.enc (k296 : Int)))] (by kernel_rfl) <| xn <| reg_s <| st rfl <| b_inc rfl rfl l294 hk298 <| st rfl <| mvd rfl rfl <| seqN [(0, .d ((cLs (cXVariable cS cI) rfl).enc v0)), (4, .box ((cXVariable cS cI).enc x165)), (15, .d ((cLs (cXVariable cS cI) rfl).enc v0)), (16, .d (cI.enc (v0.length : Int))), (17, .d (cI.enc (k164 : Int))), (38, .d ((cLs (cXVariable cS cI) rfl).enc ((v0.take ((k164 : Int)).toNat).drop 0))), (39, .d (cI.enc (((v0.take ((k164 : Int)).toNat).drop 0).length : Int))), (40, .d (cI.enc ((k296 + 1 : Nat) : Int)))] (by kernel_rfl) <|
    xn <| hn303 () h))))))))

def rs_impl_areVars (r : Bool) : List D := [cB.enc r]
def m82 : MC := .seq (.reg [⟨some 4, .asg (.c (.bool false)), none⟩] [0, 1])
  (.seq (.reg [⟨some 5, .asg (.c (.int .i64 (-1))), none⟩] [0, 1, 5])
  (.seq (.kp [] (.seq (.reg [⟨some 8, .mv (.t 1), none⟩,
    ⟨some 9, .len false (.t 8), none⟩,
    ⟨some 10, .mv (.c (.int .i64 0)), none⟩] [0, 1, 5, 8, 9, 10])
  (.blk 0 (.loop (.seq (.reg [⟨some 11, .bin .lss (.t 10) (.t 9), none⟩] [0, 1, 5, 8, 9, 10, 11])
  (.seq (.kp [0, 1, 5, 8, 9, 10] (.cond (.t 11) (.skip) (.exit 0)))
  (.seq (.kp [0, 1, 5, 8, 9, 10] (.blk 1 (.seq (.reg [⟨some 12, .ia 8 (.t 10) 1, none⟩,
    ⟨some 13, .ld 12 1 false, none⟩,
    ⟨some 7, .asg (.t 13), none⟩] [0, 1, 5, 7, 8, 9, 10])
  (.seq (.kp [0, 1, 7, 8, 9, 10] (.seq (.reg [⟨some 14, .mv (.t 7), none⟩,
    ⟨some 15, .mv (.t 5), none⟩,
    ⟨some 16, .bin .leq (.t 14) (.t 15), none⟩,
    ⟨some 17, .mv (.t 16), none⟩,
    ⟨some 18, .mv (.t 7), some (17, false)⟩,
    ⟨some 19, .mv (.t 0), some (17, false)⟩,
    ⟨some 20, .len false (.t 19), some (17, false)⟩,
    ⟨some 21, .bin .geq (.t 18) (.t 20), some (17, false)⟩,
    ⟨some 22, .pick (.t 17) (.c (.bool true)) (.t 21), none⟩] [0, 1, 7, 8, 9, 10, 22])
  (.cond (.t 22) (.seq (.reg [⟨some 4, .asg (.c (.bool false)), none⟩] [4])
  (.ret)) (.skip))))
  (.reg [⟨some 23, .mv (.t 7), none⟩,
    ⟨some 5, .asg (.t 23), none⟩] [0, 1, 5, 8, 9, 10])))))
  (.reg [⟨some 24, .bin .add (.t 10) (.c (.int .i64 1)), none⟩,
    ⟨some 10, .mv (.t 24), none⟩] [0, 1, 5, 8, 9, 10]))))))))
  (.seq (.reg [⟨some 4, .asg (.c (.bool true)), none⟩] [4])
  (.ret))))
theorem con_impl_areVars {v0 : (List XVariable)} {v1 : (List Int)} {r : Bool} (h : sh_impl_areVars v0 v1 = some r) : Con Tryd.prog 82 [(cLs (cXVariable cS cI) rfl).enc v0, (cLs cI rfl).enc v1] [] (rs_impl_areVars r) := by
  delta sh_impl_areVars at h
  refine top (out := none) (f := Tryd.f82) (m := m82) (rs := [.t 4]) (by kernel_rfl) rfl (by kernel_rfl) (by kernel_rfl) (by kernel_rfl) (by kernel_rfl) (by kernel_rfl) ?_
  exact
   ini [(0, .d ((cLs (cXVariable cS cI) rfl).enc v0)), (1, .d ((cLs cI rfl).enc v1))] rfl <| wpC_seq <| reg_s <| x_asg (sc cB false rfl) <| seqN [(0, .d ((cLs (cXVariable cS cI) rfl).enc v0)), (1, .d ((cLs cI rfl).enc v1))] (by kernel_rfl) <|
    xn <| wpC_seq <| reg_s <| x_asg (sc cI (-1 : Int) rfl) <| seqN [(0, .d ((cLs (cXVariable cS cI) rfl).enc v0)), (1, .d ((cLs cI rfl).enc v1)), (5, .d (cI.enc (-1 : Int)))] (by kernel_rfl) <|
    xn <| wpC_seq <| wpC_kp <| wpC_seq <| reg_s <| st rfl <| mvd rfl rfl <| stw rfl <| lens rfl fun l72 => st rfl <| mvc cI (0 : Int) rfl <| seqN [(0, .d ((cLs (cXVariable cS cI) rfl).enc v0)), (1, .d ((cLs cI rfl).enc v1)), (5, .d (cI.enc (-1 : Int))), (8, .d ((cLs cI rfl).enc v1)), (9, .d (cI.enc (v1.length : Int))), (10, .d (cI.enc (0 : Int)))] (by kernel_rfl) <|
    xn <| wpC_blk <| lpR (fun (k74 : Nat) (s73 : Int) => [(0, .d ((cLs (cXVariable cS cI) rfl).enc v0)), (1, .d ((cLs cI rfl).enc v1)), (5, .d (cI.enc s73)), (8, .d ((cLs cI rfl).enc v1)), (9, .d (cI.enc (v1.length : Int))), (10, .d (cI.enc (k74 : Int)))]) (-1 : Int) rfl h
    (fun G120 s73 h => wpC_seq <| reg_s <| st rfl <| b_lss (k := .i64) rfl rfl <| seqN [(0, .d ((cLs (cXVariable cS cI) rfl).enc v0)), (1, .d ((cLs cI rfl).enc v1)), (5, .d (cI.enc s73)), (8, .d ((cLs cI rfl).enc v1)), (9, .d (cI.enc (v1.length : Int))), (10, .d (cI.enc (v1.length : Int))), (11, .d (cB.enc (decide ((v1.length : Int) < (v1.length : Int)))))] (by kernel_rfl) <|
    xn <| wpC_seq <| wpC_kp <| cnd0 rfl (dlf _) <| wpC_exit <| xt <| xt <| xt <| xb <| kpN [] (by kernel_rfl) <| xn <| wpC_seq <| reg_s <| x_asg (sc cB true rfl) <| seqN [(4, .d (cB.enc true))] (by kernel_rfl) <|
    xn <| wpC_ret <| re <| fin h (r1 (ss rfl rfl) <| r0) rfl)
    (fun G120 nx118 k74 s73 x75 hk76 hx77 hn119 h => wpC_seq <| reg_s <| st rfl <| b_lss (k := .i64) rfl rfl <| seqN [(0, .d ((cLs (cXVariable cS cI) rfl).enc v0)), (1, .d ((cLs cI rfl).enc v1)), (5, .d (cI.enc s73)), (8, .d ((cLs cI rfl).enc v1)), (9, .d (cI.enc (v1.length : Int))), (10, .d (cI.enc (k74 : Int))), (11, .d (cB.enc (decide ((k74 : Int) < (v1.length : Int)))))] (by kernel_rfl) <|
    xn <| wpC_seq <| wpC_kp <| cnd1 rfl (dlt hk76) <| wpC_skip <| kpN [(0, .d ((cLs (cXVariable cS cI) rfl).enc v0)), (1, .d ((cLs cI rfl).enc v1)), (5, .d (cI.enc s73)), (8, .d ((cLs cI rfl).enc v1)), (9, .d (cI.enc (v1.length : Int))), (10, .d (cI.enc (k74 : Int)))] (by kernel_rfl) <| xn <| wpC_seq <| wpC_kp <| wpC_blk <| wpC_seq <| reg_s <| st rfl <| ias rfl rfl (Int.natCast_nonneg _) hx77 rfl <| st rfl <| ldi rfl rfl rfl rfl <| x_asg (ss rfl rfl) <| seqN [(0, .d ((cLs (cXVariable cS cI) rfl).enc v0)), (1, .d ((cLs cI rfl).enc v1)), (5, .d (cI.enc s73)), (7, .d (cI.enc x75)), (8, .d ((cLs cI rfl).enc v1)), (9, .d (cI.enc (v1.length : Int))), (10, .d (cI.enc (k74 : Int)))] (by kernel_rfl) <|
    xn <| wpC_seq <| wpC_kp <| wpC_seq <| reg_s <| st rfl <| mvd rfl rfl <| st rfl <| mvd rfl rfl <| st rfl <| b_leq (k := .i64) rfl rfl <| st rfl <| mvd rfl rfl <| ite_k h (fun b138 h => gf rfl b138 <| gf rfl b138 <| gf rfl b138 <| gf rfl b138 <| st rfl <| pick1 rfl b138 (cd := cB) (v := true) rfl rfl <| seqN [(0, .d ((cLs (cXVariable cS cI) rfl).enc v0)), (1, .d ((cLs cI rfl).enc v1)), (7, .d (cI.enc x75)), (8, .d ((cLs cI rfl).enc v1)), (9, .d (cI.enc (v1.length : Int))), (10, .d (cI.enc (k74 : Int))), (22, .d (cB.enc true))] (by kernel_rfl) <|
    xn <| cnd1 rfl rfl <| wpC_seq <| reg_s <| x_asg (sc cB false rfl) <| seqN [(4, .d (cB.enc false))] (by kernel_rfl) <|
    xn <| wpC_ret <| rt <| rt <| rb <| rt <| rt <| rt <| rb <| rt <| rt <| re <| fin h (r1 (ss rfl rfl) <| r0) rfl)
    (fun b138 h => gt' rfl b138 <| st rfl <| mvd rfl rfl <| gt' rfl b138 <| st rfl <| mvd rfl rfl <| gt' rfl b138 <| stw rfl <| lens rfl fun l139 => gt' rfl b138 <| st rfl <| b_geq (k := .i64) rfl rfl <| st rfl <| pick0 rfl b138 (cd := cB) (v := (decide ((v0.length : Int) ≤ x75))) rfl rfl <| seqN [(0, .d ((cLs (cXVariable cS cI) rfl).enc v0)), (1, .d ((cLs cI rfl).enc v1)), (7, .d (cI.enc x75)), (8, .d ((cLs cI rfl).enc v1)), (9, .d (cI.enc (v1.length : Int))), (10, .d (cI.enc (k74 : Int))), (22, .d (cB.enc (decide ((v0.length : Int) ≤ x75))))] (by kernel_rfl) <|
    xn <| cnd rfl h (fun b140 h => wpC_seq <| reg_s <| x_asg (sc cB false rfl) <| seqN [(4, .d (cB.enc false))] (by kernel_rfl) <|
    xn <| wpC_ret <| rt <| rt <| rb <| rt <| rt <| rt <| rb <| rt <| rt <| re <| fin h (r1 (ss rfl rfl) <| r0) rfl)
    (fun b140 h => wpC_skip <| kpN [(0, .d ((cLs (cXVariable cS cI) rfl).enc v0)), (1, .d ((cLs cI rfl).enc v1)), (7, .d (cI.enc x75)), (8, .d ((cLs cI rfl).enc v1)), (9, .d (cI.enc (v1.length : Int))), (10, .d (cI.enc (k74 : Int)))] (by kernel_rfl) <| xn <| reg_s <| st rfl <| mvd rfl rfl <| x_asg (ss rfl rfl) <| seqN [(0, .d ((cLs (cXVariable cS cI) rfl).enc v0)), (1, .d ((cLs cI rfl).enc v1)), (5, .d (cI.enc x75)), (8, .d ((cLs cI rfl).enc v1)), (9, .d (cI.enc (v1.length : Int))), (10, .d (cI.enc (k74 : Int)))] (by kernel_rfl) <|
    xbb <| kpN [(0, .d ((cLs (cXVariable cS cI) rfl).enc v0)), (1, .d ((cLs cI rfl).enc v1)), (5, .d (cI.enc x75)), (8, .d ((cLs cI rfl).enc v1)), (9, .d (cI.enc (v1.length : Int))), (10, .d (cI.enc (k74 : Int)))] (by kernel_rfl) <| xn <| reg_s <| st rfl <| b_inc rfl rfl l72 hk76 <| st rfl <| mvd rfl rfl <| seqN [(0, .d ((cLs (cXVariable cS cI) rfl).enc v0)), (1, .d ((cLs cI rfl).enc v1)), (5, .d (cI.enc x75)), (8, .d ((cLs cI rfl).enc v1)), (9, .d (cI.enc (v1.length : Int))), (10, .d (cI.enc ((k74 + 1 : Nat) : Int)))] (by kernel_rfl) <|
    xn <| hn119 x75 h)))

def rs_impl_fullSet (r : Int) : List D := [cI.enc r]
def m40 : MC := .seq (.reg [⟨some 1, .box (.t 0), none⟩,
    ⟨some 2, .asg (.c (.int .i64 0)), none⟩] [1])
  (.seq (.reg [⟨some 3, .fa 1 1 1, none⟩,
    ⟨some 4, .ld 3 1 false, none⟩,
    ⟨some 5, .bin .shl (.c (.int .i64 1)) (.t 4), none⟩,
    ⟨some 6, .bin .sub (.t 5) (.c (.int .i64 1)), none⟩,
    ⟨some 2, .asg (.t 6), none⟩] [2])
  (.ret))
theorem con_impl_fullSet {v0 : XVariable} {r : Int} (h : sh_impl_fullSet v0 = some r) : Con Tryd.prog 40 [(cXVariable cS cI).enc v0] [] (rs_impl_fullSet r) := by
  delta sh_impl_fullSet at h
  refine top (out := none) (f := Tryd.f40) (m := m40) (rs := [.t 2]) (by kernel_rfl) rfl (by kernel_rfl) (by kernel_rfl) (by kernel_rfl) (by kernel_rfl) (by kernel_rfl) ?_
  exact
   ini [(0, .d ((cXVariable cS cI).enc v0))] rfl <| wpC_seq <| reg_s <| x_box (ss rfl rfl) <| x_asg (sc cI (0 : Int) rfl) <| seqN [(1, .box ((cXVariable cS cI).enc v0))] (by kernel_rfl) <|
    xn <| wpC_seq <| reg_s <| st rfl <| fab rfl rfl rfl rfl <| st rfl <| lda rfl rfl rfl rfl rfl rfl <| ck_k h fun i4 h => ckI_k h fun i5 h => st rfl <| b_shl (k := .i64) (k' := .i64) rfl rfl i4 rfl i5 <| ckI_k h fun i6 h => st rfl <| b_sub (k := .i64) rfl rfl i6 <| x_asg (ss rfl rfl) <| seqN [(2, .d (cI.enc (((1 : Int) * 2 ^ (v0.Levels).toNat) - (1 : Int))))] (by kernel_rfl) <|
    xn <| wpC_ret <| re <| fin h (r1 (ss rfl rfl) <| r0) rfl

def rs_impl_isWhere (r : Bool) : List D := [cB.enc r]
def m83 : MC := .seq (.reg [⟨some 4, .asg (.c (.bool false)), none⟩] [0, 1])
  (.seq (.kp [0, 1] (.seq (.reg [⟨some 7, .mv (.t 1), none⟩,
    ⟨some 8, .len false (.t 7), none⟩,
    ⟨some 9, .mv (.t 0), none⟩,
    ⟨some 10, .len false (.t 9), none⟩,
    ⟨some 11, .bin .neq (.t 8) (.t 10), none⟩] [0, 1, 11])
  (.cond (.t 11) (.seq (.reg [⟨some 4, .asg (.c (.bool false)), none⟩] [4])
  (.ret)) (.skip))))
  (.seq (.kp [] (.seq (.reg [⟨some 12, .mv (.t 1), none⟩,
    ⟨some 13, .len false (.t 12), none⟩,
    ⟨some 14, .mv (.c (.int .i64 0)), none⟩] [0, 1, 12, 13, 14])
  (.blk 0 (.loop (.seq (.reg [⟨some 15, .bin .lss (.t 14) (.t 13), none⟩] [0, 1, 12, 13, 14, 15])
  (.seq (.kp [0, 1, 12, 13, 14] (.cond (.t 15) (.skip) (.exit 0)))
  (.seq (.kp [0, 1, 12, 13, 14] (.blk 1 (.seq (.reg [⟨some 16, .mv (.t 14), none⟩,
    ⟨some 17, .ia 12 (.t 14) 1, none⟩,
    ⟨some 18, .ld 17 1 false, none⟩,
    ⟨some 5, .asg (.t 16), none⟩,
    ⟨some 6, .asg (.t 18), none⟩] [0, 1, 5, 6, 12, 13, 14])
  (.seq (.reg [⟨some 19, .mv (.t 6), none⟩,
    ⟨some 20, .bin .lss (.t 19) (.c (.int .i64 0)), none⟩,
    ⟨some 21, .mv (.t 20), none⟩,
    ⟨some 22, .mv (.t 6), some (21, false)⟩,
    ⟨some 23, .mv (.t 0), some (21, false)⟩,
    ⟨some 24, .mv (.t 5), some (21, false)⟩,
    ⟨some 25, .ia 23 (.t 24) 2, some (21, false)⟩,
    ⟨some 26, .ld 25 2 true, some (21, false)⟩,
    ⟨some 27, .call 40 [(.t 26)], some (21, false)⟩,
    ⟨some 28, .bin .gtr (.t 22) (.t 27), some (21, false)⟩,
    ⟨some 29, .pick (.t 21) (.c (.bool true)) (.t 28), none⟩] [0, 1, 12, 13, 14, 29])
  (.cond (.t 29) (.seq (.reg [⟨some 4, .asg (.c (.bool false)), none⟩] [4])
  (.ret)) (.skip))))))
  (.reg [⟨some 30, .bin .add (.t 14) (.c (.int .i64 1)), none⟩,
    ⟨some 14, .mv (.t 30), none⟩] [0, 1, 12, 13, 14]))))))))
  (.seq (.reg [⟨some 4, .asg (.c (.bool true)), none⟩] [4])
  (.ret))))
theorem con_impl_isWhere {v0 : (List XVariable)} {v1 : (List Int)} {r : Bool} (h : sh_impl_isWhere v0 v1 = some r) : Con Tryd.prog 83 [(cLs (cXVariable cS cI) rfl).enc v0, (cLs cI rfl).enc v1] [] (rs_impl_isWhere r) := by
  delta sh_impl_isWhere at h
  refine top (out := none) (f := Tryd.f83) (m := m83) (rs := [.t 4]) (by kernel_rfl) rfl (by kernel_rfl) (by kernel_rfl) (by kernel_rfl) (by kernel_rfl) (by kernel_rfl) ?_
  exact
   ini [(0, .d ((cLs (cXVariable cS cI) rfl).enc v0)), (1, .d ((cLs cI rfl).enc v1))] rfl <| wpC_seq <| reg_s <| x_asg (sc cB false rfl) <| seqN [(0, .d ((cLs (cXVariable cS cI) rfl).enc v0)), (1, .d ((cLs cI rfl).enc v1))] (by kernel_rfl) <|
    xn <| wpC_seq <| wpC_kp <| wpC_seq <| reg_s <| st rfl <| mvd rfl rfl <| stw rfl <| lens rfl fun l8 => st rfl <| mvd rfl rfl <| stw rfl <| lens rfl fun l9 => st rfl <| b_neq (k := .i64) rfl rfl <| seqN [(0, .d ((cLs (cXVariable cS cI) rfl).enc v0)), (1, .d ((cLs cI rfl).enc v1)), (11, .d (cB.enc (decide ((v1.length : Int) ≠ (v0.length : Int)))))] (by kernel_rfl) <|
    xn <| cnd rfl h (fun b10 h => wpC_seq <| reg_s <| x_asg (sc cB false rfl) <| seqN [(4, .d (cB.enc false))] (by kernel_rfl) <|
    xn <| wpC_ret <| rt <| rt <| re <| fin h (r1 (ss rfl rfl) <| r0) rfl)
    (fun b10 h => wpC_skip <| kpN [(0, .d ((cLs (cXVariable cS cI) rfl).enc v0)), (1, .d ((cLs cI rfl).enc v1))] (by kernel_rfl) <| xn <| wpC_seq <| wpC_kp <| wpC_seq <| reg_s <| st rfl <| mvd rfl rfl <| stw rfl <| lens rfl fun l74 => st rfl <| mvc cI (0 : Int) rfl <| seqN [(0, .d ((cLs (cXVariable cS cI) rfl).enc v0)), (1, .d ((cLs cI rfl).enc v1)), (12, .d ((cLs cI rfl).enc v1)), (13, .d (cI.enc (v1.length : Int))), (14, .d (cI.enc (0 : Int)))] (by kernel_rfl) <|
    xn <| wpC_blk <| lpR (fun (k76 : Nat) (s75 : Unit) => [(0, .d ((cLs (cXVariable cS cI) rfl).enc v0)), (1, .d ((cLs cI rfl).enc v1)), (12, .d ((cLs cI rfl).enc v1)), (13, .d (cI.enc (v1.length : Int))), (14, .d (cI.enc (k76 : Int)))]) () rfl h
    (fun G108 s75 h => wpC_seq <| reg_s <| st rfl <| b_lss (k := .i64) rfl rfl <| seqN [(0, .d ((cLs (cXVariable cS cI) rfl).enc v0)), (1, .d ((cLs cI rfl).enc v1)), (12, .d ((cLs cI rfl).enc v1)), (13, .d (cI.enc (v1.length : Int))), (14, .d (cI.enc (v1.length : Int))), (15, .d (cB.enc (decide ((v1.length : Int) < (v1.length : Int)))))] (by kernel_rfl) <|
    xn <| wpC_seq <| wpC_kp <| cnd0 rfl (dlf _) <| wpC_exit <| xt <| xt <| xt <| xb <| kpN [] (by kernel_rfl) <| xn <| wpC_seq <| reg_s <| x_asg (sc cB true rfl) <| seqN [(4, .d (cB.enc true))] (by kernel_rfl) <|
    xn <| wpC_ret <| re <| fin h (r1 (ss rfl rfl) <| r0) rfl)
    (fun G108 nx106 k76 s75 x77 hk78 hx79 hn107 h => wpC_seq <| reg_s <| st rfl <| b_lss (k := .i64) rfl rfl <| seqN [(0, .d ((cLs (cXVariable cS cI) rfl).enc v0)), (1, .d ((cLs cI rfl).enc v1)), (12, .d ((cLs cI rfl).enc v1)), (13, .d (cI.enc (v1.length : Int))), (14, .d (cI.enc (k76 : Int))), (15, .d (cB.enc (decide ((k76 : Int) < (v1.length : Int)))))] (by kernel_rfl) <|
    xn <| wpC_seq <| wpC_kp <| cnd1 rfl (dlt hk78) <| wpC_skip <| kpN [(0, .d ((cLs (cXVariable cS cI) rfl).enc v0)), (1, .d ((cLs cI rfl).enc v1)), (12, .d ((cLs cI rfl).enc v1)), (13, .d (cI.enc (v1.length : Int))), (14, .d (cI.enc (k76 : Int)))] (by kernel_rfl) <| xn <| wpC_seq <| wpC_kp <| wpC_blk <| wpC_seq <| reg_s <| st rfl <| mvd rfl rfl <| st rfl <| ias rfl rfl (Int.natCast_nonneg _) hx79 rfl <| st rfl <| ldi rfl rfl rfl rfl <| x_asg (ss rfl rfl) <| x_asg (ss rfl rfl) <| seqN [(0, .d ((cLs (cXVariable cS cI) rfl).enc v0)), (1, .d ((cLs cI rfl).enc v1)), (5, .d (cI.enc (k76 : Int))), (6, .d (cI.enc x77)), (12, .d ((cLs cI rfl).enc v1)), (13, .d (cI.enc (v1.length : Int))), (14, .d (cI.enc (k76 : Int)))] (by kernel_rfl) <|
    xn <| wpC_seq <| reg_s <| st rfl <| mvd rfl rfl <| st rfl <| b_lss (k := .i64) rfl rfl <| st rfl <| mvd rfl rfl <| ite_k h (fun b128 h => gf rfl b128 <| gf rfl b128 <| gf rfl b128 <| gf rfl b128 <| gf rfl b128 <| gf rfl b128 <| gf rfl b128 <| st rfl <| pick1 rfl b128 (cd := cB) (v := true) rfl rfl <| seqN [(0, .d ((cLs (cXVariable cS cI) rfl).enc v0)), (1, .d ((cLs cI rfl).enc v1)), (12, .d ((cLs cI rfl).enc v1)), (13, .d (cI.enc (v1.length : Int))), (14, .d (cI.enc (k76 : Int))), (29, .d (cB.enc true))] (by kernel_rfl) <|
    xn <| cnd1 rfl rfl <| wpC_seq <| reg_s <| x_asg (sc cB false rfl) <| seqN [(4, .d (cB.enc false))] (by kernel_rfl) <|
    xn <| wpC_ret <| rb <| rt <| rt <| rt <| rb <| rt <| rt <| re <| fin h (r1 (ss rfl rfl) <| r0) rfl)
    (fun b128 h => gt' rfl b128 <| st rfl <| mvd rfl rfl <| gt' rfl b128 <| st rfl <| mvd rfl rfl <| gt' rfl b128 <| st rfl <| mvd rfl rfl <| gt' rfl b128 <| getO_k h fun x129 i130 g131 h => st rfl <| ias rfl rfl i130 g131 rfl <| gt' rfl b128 <| st rfl <| ldi rfl rfl rfl rfl <| gt' rfl b128 <| bnd h fun x132 e133 h => st rfl <| o_call (a1 (c := (cXVariable cS cI)) (tXVariable tS tK) rfl a0) (con_impl_fullSet e133) (.inl (so1 sK so0)) <| gt' rfl b128 <| st rfl <| b_gtr (k := .i64) rfl rfl <| st rfl <| pick0 rfl b128 (cd := cB) (v := (decide (x132 < x77))) rfl rfl <| seqN [(0, .d ((cLs (cXVariable cS cI) rfl).enc v0)), (1, .d ((cLs cI rfl).enc v1)), (12, .d ((cLs cI rfl).enc v1)), (13, .d (cI.enc (v1.length : Int))), (14, .d (cI.enc (k76 : Int))), (29, .d (cB.enc (decide (x132 < x77))))] (by kernel_rfl) <|
    xn <| cnd rfl h (fun b134 h => wpC_seq <| reg_s <| x_asg (sc cB false rfl) <| seqN [(4, .d (cB.enc false))] (by kernel_rfl) <|
    xn <| wpC_ret <| rb <| rt <| rt <| rt <| rb <| rt <| rt <| re <| fin h (r1 (ss rfl rfl) <| r0) rfl)
    (fun b134 h => wpC_skip <| xbb <| kpN [(0, .d ((cLs (cXVariable cS cI) rfl).enc v0)), (1, .d ((cLs cI rfl).enc v1)), (12, .d ((cLs cI rfl).enc v1)), (13, .d (cI.enc (v1.length : Int))), (14, .d (cI.enc (k76 : Int)))] (by kernel_rfl) <| xn <| reg_s <| st rfl <| b_inc rfl rfl l74 hk78 <| st rfl <| mvd rfl rfl <| seqN [(0, .d ((cLs (cXVariable cS cI) rfl).enc v0)), (1, .d ((cLs cI rfl).enc v1)), (12, .d ((cLs cI rfl).enc v1)), (13, .d (cI.enc (v1.length : Int))), (14, .d (cI.enc ((k76 + 1 : Nat) : Int)))] (by kernel_rfl) <|
    xn <| hn107 () h))))

def rs_impl_depthOf (r : Int) : List D := [cI.enc r]
def m84 : MC := .seq (.reg [⟨some 2, .box (.t 0), none⟩,
    ⟨some 4, .asg (.c (.int .i64 0)), none⟩] [1, 2])
  (.seq (.reg [⟨some 5, .asg (.c (.int .i64 0)), none⟩] [1, 2, 5])
  (.seq (.kp [5] (.blk 0 (.loop (.kp [1, 2, 5] (.seq (.kp [1, 2, 5] (.seq (.reg [⟨some 6, .mv (.t 1), none⟩,
    ⟨some 7, .bin .gtr (.t 6) (.c (.int .i64 0)), none⟩] [1, 2, 5, 7])
  (.cond (.t 7) (.skip) (.exit 0))))
  (.blk 1 (.seq (.reg [⟨some 8, .fa 2 0 0, none⟩,
    ⟨some 9, .ld 8 1 false, none⟩,
    ⟨some 10, .mv (.t 1), none⟩,
    ⟨some 11, .ia 9 (.t 10) 1, none⟩,
    ⟨some 12, .ld 11 1 false, none⟩,
    ⟨some 1, .asg (.t 12), none⟩] [1, 2, 5])
  (.reg [⟨some 13, .mv (.t 5), none⟩,
    ⟨some 14, .bin .add (.t 13) (.c (.int .i64 1)), none⟩,
    ⟨some 5, .asg (.t 14), none⟩] [1, 2, 5]))))))))
  (.seq (.reg [⟨some 15, .mv (.t 5), none⟩,
    ⟨some 4, .asg (.t 15), none⟩] [4])
  (.ret))))
theorem con_impl_depthOf {v0 : XGeo} {v1 : Int} {r : Int} (h : sh_impl_depthOf v0 v1 = some r) : Con Tryd.prog 84 [(cXGeo (cLs cI rfl)).enc v0, cI.enc v1] [] (rs_impl_depthOf r) := by
  delta sh_impl_depthOf at h
  refine top (out := none) (f := Tryd.f84) (m := m84) (rs := [.t 4]) (by kernel_rfl) rfl (by kernel_rfl) (by kernel_rfl) (by kernel_rfl) (by kernel_rfl) (by kernel_rfl) ?_
  exact
   ini [(0, .d ((cXGeo (cLs cI rfl)).enc v0)), (1, .d (cI.enc v1))] rfl <| wpC_seq <| reg_s <| x_box (ss rfl rfl) <| x_asg (sc cI (0 : Int) rfl) <| seqN [(1, .d (cI.enc v1)), (2, .box ((cXGeo (cLs cI rfl)).enc v0))] (by kernel_rfl) <|
    xn <| wpC_seq <| reg_s <| x_asg (sc cI (0 : Int) rfl) <| seqN [(1, .d (cI.enc v1)), (2, .box ((cXGeo (cLs cI rfl)).enc v0)), (5, .d (cI.enc (0 : Int)))] (by kernel_rfl) <|
    xn <| wpC_seq <| wpC_kp <| wpC_blk <| lpF (fun (s36 : (Int × Int)) => [(1, .d (cI.enc s36.1)), (2, .box ((cXGeo (cLs cI rfl)).enc v0)), (5, .d (cI.enc s36.2))]) (v1, (0 : Int)) rfl h
    fun G61 nx59 s36 hn60 h => wpC_kp <| wpC_seq <| wpC_kp <| wpC_seq <| reg_s <| st rfl <| mvd rfl rfl <| st rfl <| b_gtr (k := .i64) rfl rfl <| seqN [(1, .d (cI.enc s36.1)), (2, .box ((cXGeo (cLs cI rfl)).enc v0)), (5, .d (cI.enc s36.2)), (7, .d (cB.enc (decide ((0 : Int) < s36.1))))] (by kernel_rfl) <|
    xn <| cnd rfl h (fun b63 h => wpC_skip <| kpN [(1, .d (cI.enc s36.1)), (2, .box ((cXGeo (cLs cI rfl)).enc v0)), (5, .d (cI.enc s36.2))] (by kernel_rfl) <| xn <| wpC_blk <| wpC_seq <| reg_s <| st rfl <| fab rfl rfl rfl rfl <| st rfl <| lda rfl rfl rfl rfl rfl rfl <| st rfl <| mvd rfl rfl <| getO_k h fun x67 i68 g69 h => st rfl <| ias rfl rfl i68 g69 rfl <| st rfl <| ldi rfl rfl rfl rfl <| x_asg (ss rfl rfl) <| seqN [(1, .d (cI.enc x67)), (2, .box ((cXGeo (cLs cI rfl)).enc v0)), (5, .d (cI.enc s36.2))] (by kernel_rfl) <|
    xn <| reg_s <| st rfl <| mvd rfl rfl <| ckI_k h fun i70 h => st rfl <| b_add (k := .i64) rfl rfl i70 <| x_asg (ss rfl rfl) <| seqN [(1, .d (cI.enc x67)), (2, .box ((cXGeo (cLs cI rfl)).enc v0)), (5, .d (cI.enc (s36.2 + (1 : Int))))] (by kernel_rfl) <|
    xbb <| kpN [(1, .d (cI.enc x67)), (2, .box ((cXGeo (cLs cI rfl)).enc v0)), (5, .d (cI.enc (s36.2 + (1 : Int))))] (by kernel_rfl) <| xn <| hn60 (x67, (s36.2 + (1 : Int))) h)
    (fun b63 h => wpC_exit <| xt <| xt <| xt <| xt <| xb <| kpN [(5, .d (cI.enc s36.2))] (by kernel_rfl) <| xn <| wpC_seq <| reg_s <| st rfl <| mvd rfl rfl <| x_asg (ss rfl rfl) <| seqN [(4, .d (cI.enc s36.2))] (by kernel_rfl) <|
    xn <| wpC_ret <| re <| fin h (r1 (ss rfl rfl) <| r0) rfl)

def rs_impl_areasAt (r : (List Int)) : List D := [(cLo cI).enc r]
def m55 : MC := .seq (.reg [⟨some 2, .box (.t 0), none⟩,
    ⟨some 4, .asg (.c (.slice true [])), none⟩] [1, 2])
  (.seq (.reg [⟨some 5, .asg (.c (.slice true [])), none⟩] [1, 2, 5])
  (.seq (.kp [5] (.seq (.reg [⟨some 7, .fa 2 0 0, none⟩,
    ⟨some 8, .ld 7 1 false, none⟩,
    ⟨some 9, .len false (.t 8), none⟩,
    ⟨some 10, .mv (.c (.int .i64 0)), none⟩] [1, 2, 5, 9, 10])
  (.blk 0 (.loop (.seq (.reg [⟨some 11, .bin .lss (.t 10) (.t 9), none⟩] [1, 2, 5, 9, 10, 11])
  (.seq (.kp [1, 2, 5, 9, 10] (.cond (.t 11) (.skip) (.exit 0)))
  (.seq (.kp [1, 2, 5, 9, 10] (.blk 1 (.seq (.reg [⟨some 12, .mv (.t 10), none⟩,
    ⟨some 6, .asg (.t 12), none⟩] [1, 2, 5, 6, 9, 10])
  (.seq (.reg [⟨some 13, .ld 2 1 true, none⟩,
    ⟨some 14, .mv (.t 6), none⟩,
    ⟨some 15, .call 84 [(.t 13), (.t 14)], none⟩,
    ⟨some 16, .mv (.t 1), none⟩,
    ⟨some 17, .bin .eql (.t 15) (.t 16), none⟩] [1, 2, 5, 6, 9, 10, 17])
  (.cond (.t 17) (.reg [⟨some 18, .mv (.t 5), none⟩,
    ⟨some 19, .mv (.t 6), none⟩,
    ⟨some 20, .bsl [(.t 19)] 1, none⟩,
    ⟨some 21, .app (.t 18) (.t 20) 1, none⟩,
    ⟨some 5, .asg (.t 21), none⟩] [1, 2, 5, 9, 10]) (.skip))))))
  (.reg [⟨some 22, .bin .add (.t 10) (.c (.int .i64 1)), none⟩,
    ⟨some 10, .mv (.t 22), none⟩] [1, 2, 5, 9, 10]))))))))
  (.seq (.reg [⟨some 23, .mv (.t 5), none⟩,
    ⟨some 4, .asg (.t 23), none⟩] [4])
  (.ret))))
theorem con_impl_areasAt {v0 : XGeo} {v1 : Int} {r : (List Int)} (h : sh_impl_areasAt v0 v1 = some r) : Con Tryd.prog 55 [(cXGeo (cLs cI rfl)).enc v0, cI.enc v1] [] (rs_impl_areasAt r) := by
  delta sh_impl_areasAt at h
  refine top (out := none) (f := Tryd.f55) (m := m55) (rs := [.t 4]) (by kernel_rfl) rfl (by kernel_rfl) (by kernel_rfl) (by kernel_rfl) (by kernel_rfl) (by kernel_rfl) ?_
  exact
   ini [(0, .d ((cXGeo (cLs cI rfl)).enc v0)), (1, .d (cI.enc v1))] rfl <| wpC_seq <| reg_s <| x_box (ss rfl rfl) <| x_asg (sc (cLo cI) ([] : List Int) rfl) <| seqN [(1, .d (cI.enc v1)), (2, .box ((cXGeo (cLs cI rfl)).enc v0))] (by kernel_rfl) <|
    xn <| wpC_seq <| reg_s <| x_asg (sc (cLo cI) ([] : List Int) rfl) <| seqN [(1, .d (cI.enc v1)), (2, .box ((cXGeo (cLs cI rfl)).enc v0)), (5, .d ((cLo cI).enc ([] : List Int)))] (by kernel_rfl) <|
    xn <| wpC_seq <| wpC_kp <| wpC_seq <| reg_s <| st rfl <| fab rfl rfl rfl rfl <| st rfl <| lda rfl rfl rfl rfl rfl rfl <| stw rfl <| lens rfl fun l48 => st rfl <| mvc cI (0 : Int) rfl <| seqN [(1, .d (cI.enc v1)), (2, .box ((cXGeo (cLs cI rfl)).enc v0)), (5, .d ((cLo cI).enc ([] : List Int))), (9, .d (cI.enc (v0.Parents.length : Int))), (10, .d (cI.enc (0 : Int)))] (by kernel_rfl) <|
    xn <| wpC_blk <| lpR (fun (k50 : Nat) (s49 : (List Int)) => [(1, .d (cI.enc v1)), (2, .box ((cXGeo (cLs cI rfl)).enc v0)), (5, .d ((cLo cI).enc s49)), (9, .d (cI.enc (v0.Parents.length : Int))), (10, .d (cI.enc (k50 : Int)))]) ([] : List Int) rfl h
    (fun G80 s49 h => wpC_seq <| reg_s <| st rfl <| b_lss (k := .i64) rfl rfl <| seqN [(1, .d (cI.enc v1)), (2, .box ((cXGeo (cLs cI rfl)).enc v0)), (5, .d ((cLo cI).enc s49)), (9, .d (cI.enc (v0.Parents.length : Int))), (10, .d (cI.enc (v0.Parents.length : Int))), (11, .d (cB.enc (decide ((v0.Parents.length : Int) < (v0.Parents.length : Int)))))] (by kernel_rfl) <|
    xn <| wpC_seq <| wpC_kp <| cnd0 rfl (dlf _) <| wpC_exit <| xt <| xt <| xt <| xb <| kpN [(5, .d ((cLo cI).enc s49))] (by kernel_rfl) <| xn <| wpC_seq <| reg_s <| st rfl <| mvo rfl rfl <| x_asg (sr rfl rfl) <| seqN [(4, .d ((cLo cI).enc s49))] (by kernel_rfl) <|
    xn <| wpC_ret <| re <| fin h (r1 (so rfl rfl) <| r0) rfl)
    (fun G80 nx78 k50 s49 x51 hk52 hx53 hn79 h => wpC_seq <| reg_s <| st rfl <| b_lss (k := .i64) rfl rfl <| seqN [(1, .d (cI.enc v1)), (2, .box ((cXGeo (cLs cI rfl)).enc v0)), (5, .d ((cLo cI).enc s49)), (9, .d (cI.enc (v0.Parents.length : Int))), (10, .d (cI.enc (k50 : Int))), (11, .d (cB.enc (decide ((k50 : Int) < (v0.Parents.length : Int)))))] (by kernel_rfl) <|
    xn <| wpC_seq <| wpC_kp <| cnd1 rfl (dlt hk52) <| wpC_skip <| kpN [(1, .d (cI.enc v1)), (2, .box ((cXGeo (cLs cI rfl)).enc v0)), (5, .d ((cLo cI).enc s49)), (9, .d (cI.enc (v0.Parents.length : Int))), (10, .d (cI.enc (k50 : Int)))] (by kernel_rfl) <| xn <| wpC_seq <| wpC_kp <| wpC_blk <| wpC_seq <| reg_s <| st rfl <| mvd rfl rfl <| x_asg (ss rfl rfl) <| seqN [(1, .d (cI.enc v1)), (2, .box ((cXGeo (cLs cI rfl)).enc v0)), (5, .d ((cLo cI).enc s49)), (6, .d (cI.enc (k50 : Int))), (9, .d (cI.enc (v0.Parents.length : Int))), (10, .d (cI.enc (k50 : Int)))] (by kernel_rfl) <|
    xn <| wpC_seq <| reg_s <| st rfl <| ldb rfl rfl rfl rfl <| st rfl <| mvd rfl rfl <| bnd h fun x89 e90 h => st rfl <| o_call (a1 (c := (cXGeo (cLs cI rfl))) (tXGeo (tLs tK)) rfl (a1 (c := cI) tK rfl a0)) (con_impl_depthOf e90) (.inl (so1 sK so0)) <| st rfl <| mvd rfl rfl <| st rfl <| b_eql (k := .i64) rfl rfl <| seqN [(1, .d (cI.enc v1)), (2, .box ((cXGeo (cLs cI rfl)).enc v0)), (5, .d ((cLo cI).enc s49)), (6, .d (cI.enc (k50 : Int))), (9, .d (cI.enc (v0.Parents.length : Int))), (10, .d (cI.enc (k50 : Int))), (17, .d (cB.enc (decide (x89 = v1))))] (by kernel_rfl) <|
    xn <| cnd rfl h (fun b91 h => reg_s <| st rfl <| mvo rfl rfl <| st rfl <| mvd rfl rfl <| x_bsl cI [(k50 : Int)] (t1 (ss rfl rfl) rfl t0) rfl rfl <| lnO_k h fun l92 h => x_app (sr rfl rfl) (to rfl rfl) l92 rfl <| x_asg (so rfl rfl) <| seqN [(1, .d (cI.enc v1)), (2, .box ((cXGeo (cLs cI rfl)).enc v0)), (5, .d ((cLo cI).enc (s49 ++ [(k50 : Int)]))), (9, .d (cI.enc (v0.Parents.length : Int))), (10, .d (cI.enc (k50 : Int)))] (by kernel_rfl) <|
    xbb <| kpN [(1, .d (cI.enc v1)), (2, .box ((cXGeo (cLs cI rfl)).enc v0)), (5, .d ((cLo cI).enc (s49 ++ [(k50 : Int)]))), (9, .d (cI.enc (v0.Parents.length : Int))), (10, .d (cI.enc (k50 : Int)))] (by kernel_rfl) <| xn <| reg_s <| st rfl <| b_inc rfl rfl l48 hk52 <| st rfl <| mvd rfl rfl <| seqN [(1, .d (cI.enc v1)), (2, .box ((cXGeo (cLs cI rfl)).enc v0)), (5, .d ((cLo cI).enc (s49 ++ [(k50 : Int)]))), (9, .d (cI.enc (v0.Parents.length : Int))), (10, .d (cI.enc ((k50 + 1 : Nat) : Int)))] (by kernel_rfl) <|
    xn <| hn79 (s49 ++ [(k50 : Int)]) h)
    (fun b91 h => wpC_skip <| xbb <| kpN [(1, .d (cI.enc v1)), (2, .box ((cXGeo (cLs cI rfl)).enc v0)), (5, .d ((cLo cI).enc s49)), (9, .d (cI.enc (v0.Parents.length : Int))), (10, .d (cI.enc (k50 : Int)))] (by kernel_rfl) <| xn <| reg_s <| st rfl <| b_inc rfl rfl l48 hk52 <| st rfl <| mvd rfl rfl <| seqN [(1, .d (cI.enc v1)), (2, .box ((cXGeo (cLs cI rfl)).enc v0)), (5, .d ((cLo cI).enc s49)), (9, .d (cI.enc (v0.Parents.length : Int))), (10, .d (cI.enc ((k50 + 1 : Nat) : Int)))] (by kernel_rfl) <|
    xn <| hn79 s49 h))

def rs_impl_crossed (r : (List XVariable)) : List D := [(cLo (cXVariable cS cI)).enc r]
def m57 : MC := .seq (.reg [⟨some 3, .box (.t 1), none⟩,
    ⟨some 4, .asg (.c (.slice true [])), none⟩] [0, 3])
  (.seq (.reg [⟨some 8, .fa 3 1 1, none⟩,
    ⟨some 9, .ld 8 1 false, none⟩,
    ⟨some 10, .len false (.t 9), none⟩,
    ⟨some 11, .mk (.agg [.str [], .int .i64 0]) (.t 10), none⟩,
    ⟨some 5, .asg (.t 11), none⟩] [0, 3, 5])
  (.seq (.kp [5] (.seq (.reg [⟨some 12, .fa 3 1 1, none⟩,
    ⟨some 13, .ld 12 1 false, none⟩,
    ⟨some 14, .len false (.t 13), none⟩,
    ⟨some 15, .mv (.c (.int .i64 0)), none⟩] [0, 3, 5, 12, 13, 14, 15])
  (.blk 0 (.loop (.seq (.reg [⟨some 16, .bin .lss (.t 15) (.t 14), none⟩] [0, 3, 5, 12, 13, 14, 15, 16])
  (.seq (.kp [0, 3, 5, 12, 13, 14, 15] (.cond (.t 16) (.skip) (.exit 0)))
  (.seq (.kp [0, 3, 5, 12, 13, 14, 15] (.blk 1 (.seq (.reg [⟨some 17, .mv (.t 15), none⟩,
    ⟨some 18, .ia 13 (.t 15) 1, none⟩,
    ⟨some 19, .ld 18 1 false, none⟩,
    ⟨some 6, .asg (.t 17), none⟩,
    ⟨some 7, .asg (.t 19), none⟩] [0, 3, 5, 6, 7, 12, 13, 14, 15])
  (.reg [⟨some 20, .mv (.t 5), none⟩,
    ⟨some 21, .mv (.t 6), none⟩,
    ⟨some 22, .mv (.t 0), none⟩,
    ⟨some 23, .mv (.t 7), none⟩,
    ⟨some 24, .ia 22 (.t 23) 2, none⟩,
    ⟨some 25, .ld 24 2 true, none⟩,
    ⟨some 26, .ia 20 (.t 21) 2, none⟩,
    ⟨none, .st 26 (.t 25) 2, none⟩] [0, 3, 5, 12, 13, 14, 15]))))
  (.reg [⟨some 27, .bin .add (.t 15) (.c (.int .i64 1)), none⟩,
    ⟨some 15, .mv (.t 27), none⟩] [0, 3, 5, 12, 13, 14, 15]))))))))
  (.seq (.reg [⟨some 28, .mv (.t 5), none⟩,
    ⟨some 4, .asg (.t 28), none⟩] [4])
  (.ret))))
theorem con_impl_crossed {v0 : (List XVariable)} {v1 : XTable} {r : (List XVariable)} (h : sh_impl_crossed v0 v1 = some r) : Con Tryd.prog 57 [(cLs (cXVariable cS cI) rfl).enc v0, (cXTable cI (cLs cI rfl) (cLs cI rfl) cI).enc v1] [] (rs_impl_crossed r) := by
  delta sh_impl_crossed at h
  refine top (out := none) (f := Tryd.f57) (m := m57) (rs := [.t 4]) (by kernel_rfl) rfl (by kernel_rfl) (by kernel_rfl) (by kernel_rfl) (by kernel_rfl) (by kernel_rfl) ?_
  exact
   ini [(0, .d ((cLs (cXVariable cS cI) rfl).enc v0)), (1, .d ((cXTable cI (cLs cI rfl) (cLs cI rfl) cI).enc v1))] rfl <| wpC_seq <| reg_s <| x_box (ss rfl rfl) <| x_asg (sc (cLo (cXVariable cS cI)) ([] : List XVariable) rfl) <| seqN [(0, .d ((cLs (cXVariable cS cI) rfl).enc v0)), (3, .box ((cXTable cI (cLs cI rfl) (cLs cI rfl) cI).enc v1))] (by kernel_rfl) <|
    xn <| wpC_seq <| reg_s <| st rfl <| fab rfl rfl rfl rfl <| st rfl <| lda rfl rfl rfl rfl rfl rfl <| stw rfl <| lens rfl fun l4 => mkO_k h fun i5 l6 h => st rfl <| o_mk (c := (cXVariable cS cI)) (a0 := (⟨([] : List UInt8), (0 : Int)⟩ : XVariable)) rfl (k := .i64) rfl i5 l6 <| x_asg (so rfl rfl) <| seqN [(0, .d ((cLs (cXVariable cS cI) rfl).enc v0)), (3, .box ((cXTable cI (cLs cI rfl) (cLs cI rfl) cI).enc v1)), (5, .d ((cLo (cXVariable cS cI)).enc (List.replicate ((v1.Vars.length : Int)).toNat (⟨([] : List UInt8), (0 : Int)⟩ : XVariable))))] (by kernel_rfl) <|
    xn <| wpC_seq <| wpC_kp <| wpC_seq <| reg_s <| st rfl <| fab rfl rfl rfl rfl <| st rfl <| lda rfl rfl rfl rfl rfl rfl <| stw rfl <| lens rfl fun l54 => st rfl <| mvc cI (0 : Int) rfl <| seqN [(0, .d ((cLs (cXVariable cS cI) rfl).enc v0)), (3, .box ((cXTable cI (cLs cI rfl) (cLs cI rfl) cI).enc v1)), (5, .d ((cLo (cXVariable cS cI)).enc (List.replicate ((v1.Vars.length : Int)).toNat (⟨([] : List UInt8), (0 : Int)⟩ : XVariable)))), (12, .adr 3 [.fld 1]), (13, .d ((cLs cI rfl).enc v1.Vars)), (14, .d (cI.enc (v1.Vars.length : Int))), (15, .d (cI.enc (0 : Int)))] (by kernel_rfl) <|
    xn <| wpC_blk <| lpR (fun (k56 : Nat) (s55 : (List XVariable)) => [(0, .d ((cLs (cXVariable cS cI) rfl).enc v0)), (3, .box ((cXTable cI (cLs cI rfl) (cLs cI rfl) cI).enc v1)), (5, .d ((cLo (cXVariable cS cI)).enc s55)), (12, .adr 3 [.fld 1]), (13, .d ((cLs cI rfl).enc v1.Vars)), (14, .d (cI.enc (v1.Vars.length : Int))), (15, .d (cI.enc (k56 : Int)))]) (List.replicate ((v1.Vars.length : Int)).toNat (⟨([] : List UInt8), (0 : Int)⟩ : XVariable)) rfl h
    (fun G86 s55 h => wpC_seq <| reg_s <| st rfl <| b_lss (k := .i64) rfl rfl <| seqN [(0, .d ((cLs (cXVariable cS cI) rfl).enc v0)), (3, .box ((cXTable cI (cLs cI rfl) (cLs cI rfl) cI).enc v1)), (5, .d ((cLo (cXVariable cS cI)).enc s55)), (12, .adr 3 [.fld 1]), (13, .d ((cLs cI rfl).enc v1.Vars)), (14, .d (cI.enc (v1.Vars.length : Int))), (15, .d (cI.enc (v1.Vars.length : Int))), (16, .d (cB.enc (decide ((v1.Vars.length : Int) < (v1.Vars.length : Int)))))] (by kernel_rfl) <|
    xn <| wpC_seq <| wpC_kp <| cnd0 rfl (dlf _) <| wpC_exit <| xt <| xt <| xt <| xb <| kpN [(5, .d ((cLo (cXVariable cS cI)).enc s55))] (by kernel_rfl) <| xn <| wpC_seq <| reg_s <| st rfl <| mvo rfl rfl <| x_asg (sr rfl rfl) <| seqN [(4, .d ((cLo (cXVariable cS cI)).enc s55))] (by kernel_rfl) <|
    xn <| wpC_ret <| re <| fin h (r1 (so rfl rfl) <| r0) rfl)
    (fun G86 nx84 k56 s55 x57 hk58 hx59 hn85 h => wpC_seq <| reg_s <| st rfl <| b_lss (k := .i64) rfl rfl <| seqN [(0, .d ((cLs (cXVariable cS cI) rfl).enc v0)), (3, .box ((cXTable cI (cLs cI rfl) (cLs cI rfl) cI).enc v1)), (5, .d ((cLo (cXVariable cS cI)).enc s55)), (12, .adr 3 [.fld 1]), (13, .d ((cLs cI rfl).enc v1.Vars)), (14, .d (cI.enc (v1.Vars.length : Int))), (15, .d (cI.enc (k56 : Int))), (16, .d (cB.enc (decide ((k56 : Int) < (v1.Vars.length : Int)))))] (by kernel_rfl) <|
    xn <| wpC_seq <| wpC_kp <| cnd1 rfl (dlt hk58) <| wpC_skip <| kpN [(0, .d ((cLs (cXVariable cS cI) rfl).enc v0)), (3, .box ((cXTable cI (cLs cI rfl) (cLs cI rfl) cI).enc v1)), (5, .d ((cLo (cXVariable cS cI)).enc s55)), (12, .adr 3 [.fld 1]), (13, .d ((cLs cI rfl).enc v1.Vars)), (14, .d (cI.enc (v1.Vars.length : Int))), (15, .d (cI.enc (k56 : Int)))] (by kernel_rfl) <| xn <| wpC_seq <| wpC_kp <| wpC_blk <| wpC_seq <| reg_s <| st rfl <| mvd rfl rfl <| st rfl <| ias rfl rfl (Int.natCast_nonneg _) hx59 rfl <| st rfl <| ldi rfl rfl rfl rfl <| x_asg (ss rfl rfl) <| x_asg (ss rfl rfl) <| seqN [(0, .d ((cLs (cXVariable cS cI) rfl).enc v0)), (3, .box ((cXTable cI (cLs cI rfl) (cLs cI rfl) cI).enc v1)), (5, .d ((cLo (cXVariable cS cI)).enc s55)), (6, .d (cI.enc (k56 : Int))), (7, .d (cI.enc x57)), (12, .adr 3 [.fld 1]), (13, .d ((cLs cI rfl).enc v1.Vars)), (14, .d (cI.enc (v1.Vars.length : Int))), (15, .d (cI.enc (k56 : Int)))] (by kernel_rfl) <|
    xn <| reg_s <| st rfl <| mvo rfl rfl <| st rfl <| mvd rfl rfl <| st rfl <| mvd rfl rfl <| st rfl <| mvd rfl rfl <| getO_k h fun x93 i94 g95 h => st rfl <| ias rfl rfl i94 g95 rfl <| st rfl <| ldi rfl rfl rfl rfl <| getO_k h fun x96 i97 g98 h => st rfl <| iar rfl rfl rfl rfl i97 g98 rfl <| x_sta ((cLo (cXVariable cS cI)).enc (s55.set ((k56 : Int)).toNat x93)) (ss rfl rfl) rfl rfl (Ln.idx g98 Ln.nil) (Cd.h_sz (cXVariable cS cI) _) rfl <| seqN [(0, .d ((cLs (cXVariable cS cI) rfl).enc v0)), (3, .box ((cXTable cI (cLs cI rfl) (cLs cI rfl) cI).enc v1)), (5, .d ((cLo (cXVariable cS cI)).enc (s55.set ((k56 : Int)).toNat x93))), (12, .adr 3 [.fld 1]), (13, .d ((cLs cI rfl).enc v1.Vars)), (14, .d (cI.enc (v1.Vars.length : Int))), (15, .d (cI.enc (k56 : Int)))] (by kernel_rfl) <|
    xbb <| kpN [(0, .d ((cLs (cXVariable cS cI) rfl).enc v0)), (3, .box ((cXTable cI (cLs cI rfl) (cLs cI rfl) cI).enc v1)), (5, .d ((cLo (cXVariable cS cI)).enc (s55.set ((k56 : Int)).toNat x93))), (12, .adr 3 [.fld 1]), (13, .d ((cLs cI rfl).enc v1.Vars)), (14, .d (cI.enc (v1.Vars.length : Int))), (15, .d (cI.enc (k56 : Int)))] (by kernel_rfl) <| xn <| reg_s <| st rfl <| b_inc rfl rfl l54 hk58 <| st rfl <| mvd rfl rfl <| seqN [(0, .d ((cLs (cXVariable cS cI) rfl).enc v0)), (3, .box ((cXTable cI (cLs cI rfl) (cLs cI rfl) cI).enc v1)), (5, .d ((cLo (cXVariable cS cI)).enc (s55.set ((k56 : Int)).toNat x93))), (12, .adr 3 [.fld 1]), (13, .d ((cLs cI rfl).enc v1.Vars)), (14, .d (cI.enc (v1.Vars.length : Int))), (15, .d (cI.enc ((k56 + 1 : Nat) : Int)))] (by kernel_rfl) <|
    xn <| hn85 (s55.set ((k56 : Int)).toNat x93) h)

def rs_impl_combinations (r : Int) : List D := [cI.enc r]
def m56 : MC := .seq (.reg [⟨some 2, .asg (.c (.int .i64 0)), none⟩] [0])
  (.seq (.reg [⟨some 3, .asg (.c (.int .i64 1)), none⟩] [0, 3])
  (.seq (.kp [3] (.seq (.reg [⟨some 6, .mv (.t 0), none⟩,
    ⟨some 7, .len false (.t 6), none⟩,
    ⟨some 8, .mv (.c (.int .i64 0)), none⟩] [0, 3, 6, 7, 8])
  (.blk 0 (.loop (.seq (.reg [⟨some 9, .bin .lss (.t 8) (.t 7), none⟩] [0, 3, 6, 7, 8, 9])
  (.seq (.kp [0, 3, 6, 7, 8] (.cond (.t 9) (.skip) (.exit 0)))
  (.seq (.kp [0, 3, 6, 7, 8] (.blk 1 (.seq (.reg [⟨some 10, .ia 6 (.t 8) 2, none⟩,
    ⟨some 11, .ld 10 2 true, none⟩,
    ⟨some 5, .alloc (.agg [.str [], .int .i64 0]), none⟩,
    ⟨none, .st 5 (.t 11) 2, none⟩] [0, 3, 5, 6, 7, 8])
  (.reg [⟨some 12, .mv (.t 3), none⟩,
    ⟨some 13, .fa 5 1 1, none⟩,
    ⟨some 14, .ld 13 1 false, none⟩,
    ⟨some 15, .bin .mul (.t 12) (.t 14), none⟩,
    ⟨some 3, .asg (.t 15), none⟩] [0, 3, 6, 7, 8]))))
  (.reg [⟨some 16, .bin .add (.t 8) (.c (.int .i64 1)), none⟩,
    ⟨some 8, .mv (.t 16), none⟩] [0, 3, 6, 7, 8]))))))))
  (.seq (.reg [⟨some 17, .mv (.t 3), none⟩,
    ⟨some 2, .asg (.t 17), none⟩] [2])
  (.ret))))
theorem con_impl_combinations {v0 : (List XVariable)} {r : Int} (h : sh_impl_combinations v0 = some r) : Con Tryd.prog 56 [(cLs (cXVariable cS cI) rfl).enc v0] [] (rs_impl_combinations r) := by
  delta sh_impl_combinations at h
  refine top (out := none) (f := Tryd.f56) (m := m56) (rs := [.t 2]) (by kernel_rfl) rfl (by kernel_rfl) (by kernel_rfl) (by kernel_rfl) (by kernel_rfl) (by kernel_rfl) ?_
  exact
   ini [(0, .d ((cLs (cXVariable cS cI) rfl).enc v0))] rfl <| wpC_seq <| reg_s <| x_asg (sc cI (0 : Int) rfl) <| seqN [(0, .d ((cLs (cXVariable cS cI) rfl).enc v0))] (by kernel_rfl) <|
    xn <| wpC_seq <| reg_s <| x_asg (sc cI (1 : Int) rfl) <| seqN [(0, .d ((cLs (cXVariable cS cI) rfl).enc v0)), (3, .d (cI.enc (1 : Int)))] (by kernel_rfl) <|
    xn <| wpC_seq <| wpC_kp <| wpC_seq <| reg_s <| st rfl <| mvd rfl rfl <| stw rfl <| lens rfl fun l18 => st rfl <| mvc cI (0 : Int) rfl <| seqN [(0, .d ((cLs (cXVariable cS cI) rfl).enc v0)), (3, .d (cI.enc (1 : Int))), (6, .d ((cLs (cXVariable cS cI) rfl).enc v0)), (7, .d (cI.enc (v0.length : Int))), (8, .d (cI.enc (0 : Int)))] (by kernel_rfl) <|
    xn <| wpC_blk <| lpR (fun (k20 : Nat) (s19 : Int) => [(0, .d ((cLs (cXVariable cS cI) rfl).enc v0)), (3, .d (cI.enc s19)), (6, .d ((cLs (cXVariable cS cI) rfl).enc v0)), (7, .d (cI.enc (v0.length : Int))), (8, .d (cI.enc (k20 : Int)))]) (1 : Int) rfl h
    (fun G30 s19 h => wpC_seq <| reg_s <| st rfl <| b_lss (k := .i64) rfl rfl <| seqN [(0, .d ((cLs (cXVariable cS cI) rfl).enc v0)), (3, .d (cI.enc s19)), (6, .d ((cLs (cXVariable cS cI) rfl).enc v0)), (7, .d (cI.enc (v0.length : Int))), (8, .d (cI.enc (v0.length : Int))), (9, .d (cB.enc (decide ((v0.length : Int) < (v0.length : Int)))))] (by kernel_rfl) <|
    xn <| wpC_seq <| wpC_kp <| cnd0 rfl (dlf _) <| wpC_exit <| xt <| xt <| xt <| xb <| kpN [(3, .d (cI.enc s19))] (by kernel_rfl) <| xn <| wpC_seq <| reg_s <| st rfl <| mvd rfl rfl <| x_asg (ss rfl rfl) <| seqN [(2, .d (cI.enc s19))] (by kernel_rfl) <|
    xn <| wpC_ret <| re <| fin h (r1 (ss rfl rfl) <| r0) rfl)
    (fun G30 nx28 k20 s19 x21 hk22 hx23 hn29 h => wpC_seq <| reg_s <| st rfl <| b_lss (k := .i64) rfl rfl <| seqN [(0, .d ((cLs (cXVariable cS cI) rfl).enc v0)), (3, .d (cI.enc s19)), (6, .d ((cLs (cXVariable cS cI) rfl).enc v0)), (7, .d (cI.enc (v0.length : Int))), (8, .d (cI.enc (k20 : Int))), (9, .d (cB.enc (decide ((k20 : Int) < (v0.length : Int)))))] (by kernel_rfl) <|
    xn <| wpC_seq <| wpC_kp <| cnd1 rfl (dlt hk22) <| wpC_skip <| kpN [(0, .d ((cLs (cXVariable cS cI) rfl).enc v0)), (3, .d (cI.enc s19)), (6, .d ((cLs (cXVariable cS cI) rfl).enc v0)), (7, .d (cI.enc (v0.length : Int))), (8, .d (cI.enc (k20 : Int)))] (by kernel_rfl) <| xn <| wpC_seq <| wpC_kp <| wpC_blk <| wpC_seq <| reg_s <| st rfl <| ias rfl rfl (Int.natCast_nonneg _) hx23 rfl <| st rfl <| ldi rfl rfl rfl rfl <| x_all (cXVariable cS cI) (⟨([] : List UInt8), (0 : Int)⟩ : XVariable) rfl <| x_stb (ss rfl rfl) rfl (Cd.h_sz _ _) rfl <| seqN [(0, .d ((cLs (cXVariable cS cI) rfl).enc v0)), (3, .d (cI.enc s19)), (5, .box ((cXVariable cS cI).enc x21)), (6, .d ((cLs (cXVariable cS cI) rfl).enc v0)), (7, .d (cI.enc (v0.length : Int))), (8, .d (cI.enc (k20 : Int)))] (by kernel_rfl) <|
    xn <| reg_s <| st rfl <| mvd rfl rfl <| st rfl <| fab rfl rfl rfl rfl <| st rfl <| lda rfl rfl rfl rfl rfl rfl <| ckI_k h fun i32 h => st rfl <| b_mul (k := .i64) rfl rfl i32 <| x_asg (ss rfl rfl) <| seqN [(0, .d ((cLs (cXVariable cS cI) rfl).enc v0)), (3, .d (cI.enc (s19 * x21.Levels))), (6, .d ((cLs (cXVariable cS cI) rfl).enc v0)), (7, .d (cI.enc (v0.length : Int))), (8, .d (cI.enc (k20 : Int)))] (by kernel_rfl) <|
    xbb <| kpN [(0, .d ((cLs (cXVariable cS cI) rfl).enc v0)), (3, .d (cI.enc (s19 * x21.Levels))), (6, .d ((cLs (cXVariable cS cI) rfl).enc v0)), (7, .d (cI.enc (v0.length : Int))), (8, .d (cI.enc (k20 : Int)))] (by kernel_rfl) <| xn <| reg_s <| st rfl <| b_inc rfl rfl l18 hk22 <| st rfl <| mvd rfl rfl <| seqN [(0, .d ((cLs (cXVariable cS cI) rfl).enc v0)), (3, .d (cI.enc (s19 * x21.Levels))), (6, .d ((cLs (cXVariable cS cI) rfl).enc v0)), (7, .d (cI.enc (v0.length : Int))), (8, .d (cI.enc ((k20 + 1 : Nat) : Int)))] (by kernel_rfl) <|
    xn <| hn29 (s19 * x21.Levels) h)

def rs_impl_cellCount (r : Int) : List D := [cI.enc r]
def m31 : MC := .seq (.reg [⟨some 3, .box (.t 0), none⟩,
    ⟨some 5, .box (.t 2), none⟩,
    ⟨some 6, .asg (.c (.int .i64 0)), none⟩] [1, 3, 5])
  (.seq (.drw [⟨0, ⟨some 7, .ld 3 1 true, none⟩, [8, 9, 10, 11, 12, 13, 14, 15, 16]⟩,
    ⟨1, ⟨some 8, .fa 5 0 0, none⟩, [7, 9, 10, 11, 12, 13, 14, 15, 16]⟩,
    ⟨2, ⟨some 9, .ld 8 1 false, none⟩, [7, 10, 11, 12, 13, 14, 15, 16]⟩,
    ⟨3, ⟨some 10, .call 55 [(.t 7), (.t 9)], none⟩, [11, 12, 13, 14, 15, 16]⟩,
    ⟨4, ⟨some 11, .len false (.t 10), none⟩, [12, 13, 14, 15, 16]⟩,
    ⟨5, ⟨some 12, .mv (.t 1), none⟩, [7, 8, 9, 10, 11, 13, 14, 15, 16]⟩,
    ⟨6, ⟨some 13, .ld 5 4 true, none⟩, [7, 8, 9, 10, 11, 12, 14, 15, 16]⟩,
    ⟨7, ⟨some 14, .call 57 [(.t 12), (.t 13)], none⟩, [11, 15, 16]⟩,
    ⟨8, ⟨some 15, .call 56 [(.t 14)], none⟩, [11, 16]⟩,
    ⟨9, ⟨some 16, .bin .mul (.t 11) (.t 15), none⟩, []⟩]
    [(10, ⟨some 6, .asg (.t 16), none⟩)] [6])
  (.ret))
theorem con_impl_cellCount {v0 : XGeo} {v1 : (List XVariable)} {v2 : XTable} {r : Int} (h : sh_impl_cellCount v0 v1 v2 = some r) : Con Tryd.prog 31 [(cXGeo (cLs cI rfl)).enc v0, (cLs (cXVariable cS cI) rfl).enc v1, (cXTable cI (cLs cI rfl) (cLs cI rfl) cI).enc v2] [] (rs_impl_cellCount r) := by
  delta sh_impl_cellCount at h
  refine top (out := none) (f := Tryd.f31) (m := m31) (rs := [.t 6]) (by kernel_rfl) rfl (by kernel_rfl) (by kernel_rfl) (by kernel_rfl) (by kernel_rfl) (by kernel_rfl) ?_
  exact
   ini [(0, .d ((cXGeo (cLs cI rfl)).enc v0)), (1, .d ((cLs (cXVariable cS cI) rfl).enc v1)), (2, .d ((cXTable cI (cLs cI rfl) (cLs cI rfl) cI).enc v2))] rfl <| wpC_seq <| reg_s <| x_box (ss rfl rfl) <| x_box (ss rfl rfl) <| x_asg (sc cI (0 : Int) rfl) <| seqN [(1, .d ((cLs (cXVariable cS cI) rfl).enc v1)), (3, .box ((cXGeo (cLs cI rfl)).enc v0)), (5, .box ((cXTable cI (cLs cI rfl) (cLs cI rfl) cI).enc v2))] (by kernel_rfl) <|
    xn <| wpC_seq <| drw_s <| pst rfl <| ldb rfl rfl rfl rfl ⟨rfl, pst rfl <| fab rfl rfl rfl rfl ⟨rfl, pst rfl <| lda rfl rfl rfl rfl rfl rfl ⟨rfl, bndp h fun x9 e10 h => pst rfl <| o_call (a1 (c := (cXGeo (cLs cI rfl))) (tXGeo (tLs tK)) rfl (a1 (c := cI) tK rfl a0)) (con_impl_areasAt e10) (.inl (so1 (sLo sK) so0)) ⟨rfl, lmO_kp h fun l11 h => pst rfl <| plno rfl l11 ⟨rfl, pst rfl <| mvd rfl rfl ⟨rfl, pst rfl <| ldb rfl rfl rfl rfl ⟨rfl, bndp h fun x12 e13 h => pst rfl <| o_call (a1 (c := (cLs (cXVariable cS cI) rfl)) (tLs (tXVariable tS tK)) rfl (a1 (c := (cXTable cI (cLs cI rfl) (cLs cI rfl) cI)) (tXTable tK (tLs tK) (tLs tK) tK) rfl a0)) (con_impl_crossed e13) (.inl (so1 (sLo (sXVariable sS sK)) so0)) ⟨rfl, bndp h fun x14 e15 h => pst rfl <| o_call (a1 (c := (cLo (cXVariable cS cI))) (tLo (tXVariable tS tK)) rfl a0) (con_impl_combinations e15) (.inl (so1 sK so0)) ⟨rfl, ckI_kp h fun i16 h => pst rfl <| b_mul (k := .i64) rfl rfl i16 ⟨rfl, preN <| x_asg (ss rfl rfl) <| seqN [(6, .d (cI.enc ((x9.length : Int) * x14)))] (by kernel_rfl) <|
    xn <| wpC_ret <| re <| fin h (r1 (ss rfl rfl) <| r0) rfl⟩⟩⟩⟩⟩⟩⟩⟩⟩⟩

def rs_impl_isTable (r : Bool) : List D := [cB.enc r]
def m54 : MC := .seq (.reg [⟨some 3, .box (.t 0), none⟩,
    ⟨some 5, .box (.t 2), none⟩,
    ⟨some 6, .asg (.c (.bool false)), none⟩] [1, 3, 5])
  (.seq (.kp [1, 3, 5] (.seq (.reg [⟨some 8, .mv (.t 1), none⟩,
    ⟨some 9, .fa 5 1 1, none⟩,
    ⟨some 10, .ld 9 1 false, none⟩,
    ⟨some 11, .call 82 [(.t 8), (.t 10)], none⟩,
    ⟨some 12, .nt (.t 11), none⟩,
    ⟨some 13, .mv (.t 12), none⟩,
    ⟨some 14, .mv (.t 1), some (13, false)⟩,
    ⟨some 15, .fa 5 2 2, some (13, false)⟩,
    ⟨some 16, .ld 15 1 false, some (13, false)⟩,
    ⟨some 17, .call 83 [(.t 14), (.t 16)], some (13, false)⟩,
    ⟨some 18, .nt (.t 17), some (13, false)⟩,
    ⟨some 19, .pick (.t 13) (.c (.bool true)) (.t 18), none⟩,
    ⟨some 20, .mv (.t 19), none⟩,
    ⟨some 21, .fa 5 3 3, some (20, false)⟩,
    ⟨some 22, .ld 21 1 false, some (20, false)⟩,
    ⟨some 23, .bin .lss (.t 22) (.c (.int .i64 (-1))), some (20, false)⟩,
    ⟨some 24, .pick (.t 20) (.c (.bool true)) (.t 23), none⟩,
    ⟨some 25, .mv (.t 24), none⟩,
    ⟨some 26, .fa 5 3 3, some (25, false)⟩,
    ⟨some 27, .ld 26 1 false, some (25, false)⟩,
    ⟨some 28, .mv (.t 1), some (25, false)⟩,
    ⟨some 29, .len false (.t 28), some (25, false)⟩,
    ⟨some 30, .bin .geq (.t 27) (.t 29), some (25, false)⟩,
    ⟨some 31, .pick (.t 25) (.c (.bool true)) (.t 30), none⟩] [1, 3, 5, 31])
  (.cond (.t 31) (.seq (.reg [⟨some 6, .asg (.c (.bool false)), none⟩] [6])
  (.ret)) (.skip))))
  (.seq (.reg [⟨some 32, .ld 3 1 true, none⟩,
    ⟨some 33, .mv (.t 1), none⟩,
    ⟨some 34, .ld 5 4 true, none⟩,
    ⟨some 35, .call 31 [(.t 32), (.t 33), (.t 34)], none⟩,
    ⟨some 7, .asg (.t 35), none⟩] [7])
  (.seq (.reg [⟨some 36, .mv (.t 7), none⟩,
    ⟨some 37, .bin .gtr (.t 36) (.c (.int .i64 0)), none⟩,
    ⟨some 38, .mv (.t 37), none⟩,
    ⟨some 39, .mv (.t 7), some (38, true)⟩,
    ⟨some 40, .bin .leq (.t 39) (.c (.int .i64 600)), some (38, true)⟩,
    ⟨some 41, .pick (.t 38) (.t 40) (.c (.bool false)), none⟩,
    ⟨some 6, .asg (.t 41), none⟩] [6])
  (.ret))))
theorem con_impl_isTable {v0 : XGeo} {v1 : (List XVariable)} {v2 : XTable} {r : Bool} (h : sh_impl_isTable v0 v1 v2 = some r) : Con Tryd.prog 54 [(cXGeo (cLs cI rfl)).enc v0, (cLs (cXVariable cS cI) rfl).enc v1, (cXTable cI (cLs cI rfl) (cLs cI rfl) cI).enc v2] [] (rs_impl_isTable r) := by
  delta sh_impl_isTable at h
  refine top (out := none) (f := Tryd.f54) (m := m54) (rs := [.t 6]) (by kernel_rfl) rfl (by kernel_rfl) (by kernel_rfl) (by kernel_rfl) (by kernel_rfl) (by kernel_rfl) ?_
  exact
   ini [(0, .d ((cXGeo (cLs cI rfl)).enc v0)), (1, .d ((cLs (cXVariable cS cI) rfl).enc v1)), (2, .d ((cXTable cI (cLs cI rfl) (cLs cI rfl) cI).enc v2))] rfl <| wpC_seq <| reg_s <| x_box (ss rfl rfl) <| x_box (ss rfl rfl) <| x_asg (sc cB false rfl) <| seqN [(1, .d ((cLs (cXVariable cS cI) rfl).enc v1)), (3, .box ((cXGeo (cLs cI rfl)).enc v0)), (5, .box ((cXTable cI (cLs cI rfl) (cLs cI rfl) cI).enc v2))] (by kernel_rfl) <|
    xn <| wpC_seq <| wpC_kp <| wpC_seq <| jw (fun (s28 : Bool) => [(1, .d ((cLs (cXVariable cS cI) rfl).enc v1)), (3, .box ((cXGeo (cLs cI rfl)).enc v0)), (5, .box ((cXTable cI (cLs cI rfl) (cLs cI rfl) cI).enc v2)), (31, .d (cB.enc s28))]) h (fun s28 h => xn <| cnd rfl h (fun b30 h => wpC_seq <| reg_s <| x_asg (sc cB false rfl) <| seqN [(6, .d (cB.enc false))] (by kernel_rfl) <|
    xn <| wpC_ret <| rt <| rt <| re <| fin h (r1 (ss rfl rfl) <| r0) rfl)
    (fun b30 h => wpC_skip <| kpN [(1, .d ((cLs (cXVariable cS cI) rfl).enc v1)), (3, .box ((cXGeo (cLs cI rfl)).enc v0)), (5, .box ((cXTable cI (cLs cI rfl) (cLs cI rfl) cI).enc v2))] (by kernel_rfl) <| xn <| wpC_seq <| reg_s <| st rfl <| ldb rfl rfl rfl rfl <| st rfl <| mvd rfl rfl <| st rfl <| ldb rfl rfl rfl rfl <| bnd h fun x33 e34 h => st rfl <| o_call (a1 (c := (cXGeo (cLs cI rfl))) (tXGeo (tLs tK)) rfl (a1 (c := (cLs (cXVariable cS cI) rfl)) (tLs (tXVariable tS tK)) rfl (a1 (c := (cXTable cI (cLs cI rfl) (cLs cI rfl) cI)) (tXTable tK (tLs tK) (tLs tK) tK) rfl a0))) (con_impl_cellCount e34) (.inl (so1 sK so0)) <| x_asg (ss rfl rfl) <| seqN [(7, .d (cI.enc x33))] (by kernel_rfl) <|
    xn <| wpC_seq <| reg_s <| st rfl <| mvd rfl rfl <| st rfl <| b_gtr (k := .i64) rfl rfl <| st rfl <| mvd rfl rfl <| ite_k h (fun b36 h => gt' rfl b36 <| st rfl <| mvd rfl rfl <| gt' rfl b36 <| st rfl <| b_leq (k := .i64) rfl rfl <| st rfl <| pick1 rfl b36 (cd := cB) (v := (decide (x33 ≤ (600 : Int)))) rfl rfl <| x_asg (ss rfl rfl) <| seqN [(6, .d (cB.enc (decide (x33 ≤ (600 : Int)))))] (by kernel_rfl) <|
    xn <| wpC_ret <| re <| fin h (r1 (ss rfl rfl) <| r0) rfl)
    (fun b36 h => gf rfl b36 <| gf rfl b36 <| st rfl <| pick0 rfl b36 (cd := cB) (v := false) rfl rfl <| x_asg (ss rfl rfl) <| seqN [(6, .d (cB.enc false))] (by kernel_rfl) <|
    xn <| wpC_ret <| re <| fin h (r1 (ss rfl rfl) <| r0) rfl)))
    fun s28' q29 h => reg_s <| st rfl <| mvd rfl rfl <| st rfl <| fab rfl rfl rfl rfl <| st rfl <| lda rfl rfl rfl rfl rfl rfl <| bnd h fun x37 e38 h => st rfl <| o_call (a1 (c := (cLs (cXVariable cS cI) rfl)) (tLs (tXVariable tS tK)) rfl (a1 (c := (cLs cI rfl)) (tLs tK) rfl a0)) (con_impl_areVars e38) (.inl (so1 sB so0)) <| st rfl <| o_nt rfl <| st rfl <| mvd rfl rfl <| ite_k h (fun b39 h => gf rfl b39 <| gf rfl b39 <| gf rfl b39 <| gf rfl b39 <| gf rfl b39 <| st rfl <| pick1 rfl b39 (cd := cB) (v := true) rfl rfl <| st rfl <| mvd rfl rfl <| gf rfl rfl <| gf rfl rfl <| gf rfl rfl <| st rfl <| pick1 rfl rfl (cd := cB) (v := true) rfl rfl <| st rfl <| mvd rfl rfl <| gf rfl rfl <| gf rfl rfl <| gf rfl rfl <| gf rfl rfl <| gf rfl rfl <| st rfl <| pick1 rfl rfl (cd := cB) (v := true) rfl rfl <| seqN [(1, .d ((cLs (cXVariable cS cI) rfl).enc v1)), (3, .box ((cXGeo (cLs cI rfl)).enc v0)), (5, .box ((cXTable cI (cLs cI rfl) (cLs cI rfl) cI).enc v2)), (31, .d (cB.enc true))] (by kernel_rfl) <|
    lfn (S := (fun (s28 : Bool) => [(1, .d ((cLs (cXVariable cS cI) rfl).enc v1)), (3, .box ((cXGeo (cLs cI rfl)).enc v0)), (5, .box ((cXTable cI (cLs cI rfl) (cLs cI rfl) cI).enc v2)), (31, .d (cB.enc s28))])) h q29 rfl)
    (fun b39 h => gt' rfl b39 <| st rfl <| mvd rfl rfl <| gt' rfl b39 <| st rfl <| fab rfl rfl rfl rfl <| gt' rfl b39 <| st rfl <| lda rfl rfl rfl rfl rfl rfl <| gt' rfl b39 <| bnd h fun x40 e41 h => st rfl <| o_call (a1 (c := (cLs (cXVariable cS cI) rfl)) (tLs (tXVariable tS tK)) rfl (a1 (c := (cLs cI rfl)) (tLs tK) rfl a0)) (con_impl_isWhere e41) (.inl (so1 sB so0)) <| gt' rfl b39 <| st rfl <| o_nt rfl <| st rfl <| pick0 rfl b39 (cd := cB) (v := (!x40)) rfl rfl <| st rfl <| mvd rfl rfl <| ite_k h (fun b42 h => gf rfl b42 <| gf rfl b42 <| gf rfl b42 <| st rfl <| pick1 rfl b42 (cd := cB) (v := true) rfl rfl <| st rfl <| mvd rfl rfl <| gf rfl rfl <| gf rfl rfl <| gf rfl rfl <| gf rfl rfl <| gf rfl rfl <| st rfl <| pick1 rfl rfl (cd := cB) (v := true) rfl rfl <| seqN [(1, .d ((cLs (cXVariable cS cI) rfl).enc v1)), (3, .box ((cXGeo (cLs cI rfl)).enc v0)), (5, .box ((cXTable cI (cLs cI rfl) (cLs cI rfl) cI).enc v2)), (31, .d (cB.enc true))] (by kernel_rfl) <|
    lfn (S := (fun (s28 : Bool) => [(1, .d ((cLs (cXVariable cS cI) rfl).enc v1)), (3, .box ((cXGeo (cLs cI rfl)).enc v0)), (5, .box ((cXTable cI (cLs cI rfl) (cLs cI rfl) cI).enc v2)), (31, .d (cB.enc s28))])) h q29 rfl)
    (fun b42 h => gt' rfl b42 <| st rfl <| fab rfl rfl rfl rfl <| gt' rfl b42 <| st rfl <| lda rfl rfl rfl rfl rfl rfl <| gt' rfl b42 <| st rfl <| b_lss (k := .i64) rfl rfl <| st rfl <| pick0 rfl b42 (cd := cB) (v := (decide (v2.Sum < (-1 : Int)))) rfl rfl <| st rfl <| mvd rfl rfl <| ite_k h (fun b43 h => gf rfl b43 <| gf rfl b43 <| gf rfl b43 <| gf rfl b43 <| gf rfl b43 <| st rfl <| pick1 rfl b43 (cd := cB) (v := true) rfl rfl <| seqN [(1, .d ((cLs (cXVariable cS cI) rfl).enc v1)), (3, .box ((cXGeo (cLs cI rfl)).enc v0)), (5, .box ((cXTable cI (cLs cI rfl) (cLs cI rfl) cI).enc v2)), (31, .d (cB.enc true))] (by kernel_rfl) <|
    lfn (S := (fun (s28 : Bool) => [(1, .d ((cLs (cXVariable cS cI) rfl).enc v1)), (3, .box ((cXGeo (cLs cI rfl)).enc v0)), (5, .box ((cXTable cI (cLs cI rfl) (cLs cI rfl) cI).enc v2)), (31, .d (cB.enc s28))])) h q29 rfl)
    (fun b43 h => gt' rfl b43 <| st rfl <| fab rfl rfl rfl rfl <| gt' rfl b43 <| st rfl <| lda rfl rfl rfl rfl rfl rfl <| gt' rfl b43 <| st rfl <| mvd rfl rfl <| gt' rfl b43 <| stw rfl <| lens rfl fun l44 => gt' rfl b43 <| st rfl <| b_geq (k := .i64) rfl rfl <| st rfl <| pick0 rfl b43 (cd := cB) (v := (decide ((v1.length : Int) ≤ v2.Sum))) rfl rfl <| seqN [(1, .d ((cLs (cXVariable cS cI) rfl).enc v1)), (3, .box ((cXGeo (cLs cI rfl)).enc v0)), (5, .box ((cXTable cI (cLs cI rfl) (cLs cI rfl) cI).enc v2)), (31, .d (cB.enc (decide ((v1.length : Int) ≤ v2.Sum))))] (by kernel_rfl) <|
    lfn (S := (fun (s28 : Bool) => [(1, .d ((cLs (cXVariable cS cI) rfl).enc v1)), (3, .box ((cXGeo (cLs cI rfl)).enc v0)), (5, .box ((cXTable cI (cLs cI rfl) (cLs cI rfl) cI).enc v2)), (31, .d (cB.enc s28))])) h q29 rfl)))

def rs_impl_areTabled (r : Bool) : List D := [cB.enc r]
def m29 : MC := .seq (.reg [⟨some 3, .box (.t 0), none⟩,
    ⟨some 5, .box (.t 2), none⟩,
    ⟨some 6, .asg (.c (.bool false)), none⟩] [1, 3, 5])
  (.seq (.reg [⟨some 7, .ld 3 1 true, none⟩,
    ⟨some 8, .call 53 [(.t 7)], none⟩,
    ⟨some 9, .mv (.t 8), none⟩,
    ⟨some 10, .mv (.t 1), some (9, true)⟩,
    ⟨some 11, .call 39 [(.t 10)], some (9, true)⟩,
    ⟨some 12, .pick (.t 9) (.t 11) (.c (.bool false)), none⟩,
    ⟨some 13, .mv (.t 12), none⟩,
    ⟨some 14, .ld 3 1 true, some (13, true)⟩,
    ⟨some 15, .mv (.t 1), some (13, true)⟩,
    ⟨some 16, .ld 5 4 true, some (13, true)⟩,
    ⟨some 17, .call 54 [(.t 14), (.t 15), (.t 16)], some (13, true)⟩,
    ⟨some 18, .pick (.t 13) (.t 17) (.c (.bool false)), none⟩,
    ⟨some 6, .asg (.t 18), none⟩] [6])
  (.ret))
theorem con_impl_areTabled {v0 : XGeo} {v1 : (List XVariable)} {v2 : XTable} {r : Bool} (h : sh_impl_areTabled v0 v1 v2 = some r) : Con Tryd.prog 29 [(cXGeo (cLs cI rfl)).enc v0, (cLs (cXVariable cS cI) rfl).enc v1, (cXTable cI (cLs cI rfl) (cLs cI rfl) cI).enc v2] [] (rs_impl_areTabled r) := by
  delta sh_impl_areTabled at h
  refine top (out := none) (f := Tryd.f29) (m := m29) (rs := [.t 6]) (by kernel_rfl) rfl (by kernel_rfl) (by kernel_rfl) (by kernel_rfl) (by kernel_rfl) (by kernel_rfl) ?_
  exact
   ini [(0, .d ((cXGeo (cLs cI rfl)).enc v0)), (1, .d ((cLs (cXVariable cS cI) rfl).enc v1)), (2, .d ((cXTable cI (cLs cI rfl) (cLs cI rfl) cI).enc v2))] rfl <| wpC_seq <| reg_s <| x_box (ss rfl rfl) <| x_box (ss rfl rfl) <| x_asg (sc cB false rfl) <| seqN [(1, .d ((cLs (cXVariable cS cI) rfl).enc v1)), (3, .box ((cXGeo (cLs cI rfl)).enc v0)), (5, .box ((cXTable cI (cLs cI rfl) (cLs cI rfl) cI).enc v2))] (by kernel_rfl) <|
    xn <| wpC_seq <| reg_s <| st rfl <| ldb rfl rfl rfl rfl <| bnd h fun x9 e10 h => st rfl <| o_call (a1 (c := (cXGeo (cLs cI rfl))) (tXGeo (tLs tK)) rfl a0) (con_impl_IsGeo e10) (.inl (so1 sB so0)) <| st rfl <| mvd rfl rfl <| ite_k h (fun b11 h => gt' rfl b11 <| st rfl <| mvd rfl rfl <| gt' rfl b11 <| bnd h fun x12 e13 h => st rfl <| o_call (a1 (c := (cLs (cXVariable cS cI) rfl)) (tLs (tXVariable tS tK)) rfl a0) (con_impl_IsSchema e13) (.inl (so1 sB so0)) <| st rfl <| pick1 rfl b11 (cd := cB) (v := x12) rfl rfl <| st rfl <| mvd rfl rfl <| ite_k h (fun b14 h => gt' rfl b14 <| st rfl <| ldb rfl rfl rfl rfl <| gt' rfl b14 <| st rfl <| mvd rfl rfl <| gt' rfl b14 <| st rfl <| ldb rfl rfl rfl rfl <| gt' rfl b14 <| bnd h fun x15 e16 h => st rfl <| o_call (a1 (c := (cXGeo (cLs cI rfl))) (tXGeo (tLs tK)) rfl (a1 (c := (cLs (cXVariable cS cI) rfl)) (tLs (tXVariable tS tK)) rfl (a1 (c := (cXTable cI (cLs cI rfl) (cLs cI rfl) cI)) (tXTable tK (tLs tK) (tLs tK) tK) rfl a0))) (con_impl_isTable e16) (.inl (so1 sB so0)) <| st rfl <| pick1 rfl b14 (cd := cB) (v := x15) rfl rfl <| x_asg (ss rfl rfl) <| seqN [(6, .d (cB.enc x15))] (by kernel_rfl) <|
    xn <| wpC_ret <| re <| fin h (r1 (ss rfl rfl) <| r0) rfl)
    (fun b14 h => gf rfl b14 <| gf rfl b14 <| gf rfl b14 <| gf rfl b14 <| st rfl <| pick0 rfl b14 (cd := cB) (v := false) rfl rfl <| x_asg (ss rfl rfl) <| seqN [(6, .d (cB.enc false))] (by kernel_rfl) <|
    xn <| wpC_ret <| re <| fin h (r1 (ss rfl rfl) <| r0) rfl))
    (fun b11 h => gf rfl b11 <| gf rfl b11 <| st rfl <| pick0 rfl b11 (cd := cB) (v := false) rfl rfl <| st rfl <| mvd rfl rfl <| gf rfl rfl <| gf rfl rfl <| gf rfl rfl <| gf rfl rfl <| st rfl <| pick0 rfl rfl (cd := cB) (v := false) rfl rfl <| x_asg (ss rfl rfl) <| seqN [(6, .d (cB.enc false))] (by kernel_rfl) <|
    xn <| wpC_ret <| re <| fin h (r1 (ss rfl rfl) <| r0) rfl)

def rs_impl_areSmallIntegers (r : Bool) : List D := [cB.enc r]
def m30 : MC := .seq (.reg [⟨some 4, .asg (.c (.bool false)), none⟩] [0, 1])
  (.seq (.kp [0] (.seq (.reg [⟨some 7, .mv (.t 0), none⟩,
    ⟨some 8, .len false (.t 7), none⟩,
    ⟨some 9, .mv (.t 1), none⟩,
    ⟨some 10, .bin .neq (.t 8) (.t 9), none⟩] [0, 10])
  (.cond (.t 10) (.seq (.reg [⟨some 4, .asg (.c (.bool false)), none⟩] [4])
  (.ret)) (.skip))))
  (.seq (.kp [] (.seq (.reg [⟨some 11, .mv (.t 0), none⟩,
    ⟨some 12, .len false (.t 11), none⟩,
    ⟨some 13, .mv (.c (.int .i64 0)), none⟩] [0, 11, 12, 13])
  (.blk 0 (.loop (.seq (.reg [⟨some 14, .bin .lss (.t 13) (.t 12), none⟩] [0, 11, 12, 13, 14])
  (.seq (.kp [0, 11, 12, 13] (.cond (.t 14) (.skip) (.exit 0)))
  (.seq (.kp [0, 11, 12, 13] (.blk 1 (.seq (.reg [⟨some 15, .ia 11 (.t 13) 1, none⟩,
    ⟨some 16, .ld 15 1 false, none⟩,
    ⟨some 6, .asg (.t 16), none⟩] [0, 6, 11, 12, 13])
  (.seq (.reg [⟨some 17, .mv (.t 6), none⟩,
    ⟨some 18, .bin .lss (.t 17) (.c (.int .i64 (-1000000))), none⟩,
    ⟨some 19, .mv (.t 18), none⟩,
    ⟨some 20, .mv (.t 6), some (19, false)⟩,
    ⟨some 21, .bin .gtr (.t 20) (.c (.int .i64 1000000)), some (19, false)⟩,
    ⟨some 22, .pick (.t 19) (.c (.bool true)) (.t 21), none⟩] [0, 11, 12, 13, 22])
  (.cond (.t 22) (.seq (.reg [⟨some 4, .asg (.c (.bool false)), none⟩] [4])
  (.ret)) (.skip))))))
  (.reg [⟨some 23, .bin .add (.t 13) (.c (.int .i64 1)), none⟩,
    ⟨some 13, .mv (.t 23), none⟩] [0, 11, 12, 13]))))))))
  (.seq (.reg [⟨some 4, .asg (.c (.bool true)), none⟩] [4])
  (.ret))))
theorem con_impl_areSmallIntegers {v0 : (List Int)} {v1 : Int} {r : Bool} (h : sh_impl_areSmallIntegers v0 v1 = some r) : Con Tryd.prog 30 [(cLs cI rfl).enc v0, cI.enc v1] [] (rs_impl_areSmallIntegers r) := by
  delta sh_impl_areSmallIntegers at h
  refine top (out := none) (f := Tryd.f30) (m := m30) (rs := [.t 4]) (by kernel_rfl) rfl (by kernel_rfl) (by kernel_rfl) (by kernel_rfl) (by kernel_rfl) (by kernel_rfl) ?_
  exact
   ini [(0, .d ((cLs cI rfl).enc v0)), (1, .d (cI.enc v1))] rfl <| wpC_seq <| reg_s <| x_asg (sc cB false rfl) <| seqN [(0, .d ((cLs cI rfl).enc v0)), (1, .d (cI.enc v1))] (by kernel_rfl) <|
    xn <| wpC_seq <| wpC_kp <| wpC_seq <| reg_s <| st rfl <| mvd rfl rfl <| stw rfl <| lens rfl fun l5 => st rfl <| mvd rfl rfl <| st rfl <| b_neq (k := .i64) rfl rfl <| seqN [(0, .d ((cLs cI rfl).enc v0)), (10, .d (cB.enc (decide ((v0.length : Int) ≠ v1))))] (by kernel_rfl) <|
    xn <| cnd rfl h (fun b6 h => wpC_seq <| reg_s <| x_asg (sc cB false rfl) <| seqN [(4, .d (cB.enc false))] (by kernel_rfl) <|
    xn <| wpC_ret <| rt <| rt <| re <| fin h (r1 (ss rfl rfl) <| r0) rfl)
    (fun b6 h => wpC_skip <| kpN [(0, .d ((cLs cI rfl).enc v0))] (by kernel_rfl) <| xn <| wpC_seq <| wpC_kp <| wpC_seq <| reg_s <| st rfl <| mvd rfl rfl <| stw rfl <| lens rfl fun l30 => st rfl <| mvc cI (0 : Int) rfl <| seqN [(0, .d ((cLs cI rfl).enc v0)), (11, .d ((cLs cI rfl).enc v0)), (12, .d (cI.enc (v0.length : Int))), (13, .d (cI.enc (0 : Int)))] (by kernel_rfl) <|
    xn <| wpC_blk <| lpR (fun (k32 : Nat) (s31 : Unit) => [(0, .d ((cLs cI rfl).enc v0)), (11, .d ((cLs cI rfl).enc v0)), (12, .d (cI.enc (v0.length : Int))), (13, .d (cI.enc (k32 : Int)))]) () rfl h
    (fun G44 s31 h => wpC_seq <| reg_s <| st rfl <| b_lss (k := .i64) rfl rfl <| seqN [(0, .d ((cLs cI rfl).enc v0)), (11, .d ((cLs cI rfl).enc v0)), (12, .d (cI.enc (v0.length : Int))), (13, .d (cI.enc (v0.length : Int))), (14, .d (cB.enc (decide ((v0.length : Int) < (v0.length : Int)))))] (by kernel_rfl) <|
    xn <| wpC_seq <| wpC_kp <| cnd0 rfl (dlf _) <| wpC_exit <| xt <| xt <| xt <| xb <| kpN [] (by kernel_rfl) <| xn <| wpC_seq <| reg_s <| x_asg (sc cB true rfl) <| seqN [(4, .d (cB.enc true))] (by kernel_rfl) <|
    xn <| wpC_ret <| re <| fin h (r1 (ss rfl rfl) <| r0) rfl)
    (fun G44 nx42 k32 s31 x33 hk34 hx35 hn43 h => wpC_seq <| reg_s <| st rfl <| b_lss (k := .i64) rfl rfl <| seqN [(0, .d ((cLs cI rfl).enc v0)), (11, .d ((cLs cI rfl).enc v0)), (12, .d (cI.enc (v0.length : Int))), (13, .d (cI.enc (k32 : Int))), (14, .d (cB.enc (decide ((k32 : Int) < (v0.length : Int)))))] (by kernel_rfl) <|
    xn <| wpC_seq <| wpC_kp <| cnd1 rfl (dlt hk34) <| wpC_skip <| kpN [(0, .d ((cLs cI rfl).enc v0)), (11, .d ((cLs cI rfl).enc v0)), (12, .d (cI.enc (v0.length : Int))), (13, .d (cI.enc (k32 : Int)))] (by kernel_rfl) <| xn <| wpC_seq <| wpC_kp <| wpC_blk <| wpC_seq <| reg_s <| st rfl <| ias rfl rfl (Int.natCast_nonneg _) hx35 rfl <| st rfl <| ldi rfl rfl rfl rfl <| x_asg (ss rfl rfl) <| seqN [(0, .d ((cLs cI rfl).enc v0)), (6, .d (cI.enc x33)), (11, .d ((cLs cI rfl).enc v0)), (12, .d (cI.enc (v0.length : Int))), (13, .d (cI.enc (k32 : Int)))] (by kernel_rfl) <|
    xn <| wpC_seq <| reg_s <| st rfl <| mvd rfl rfl <| st rfl <| b_lss (k := .i64) rfl rfl <| st rfl <| mvd rfl rfl <| ite_k h (fun b49 h => gf rfl b49 <| gf rfl b49 <| st rfl <| pick1 rfl b49 (cd := cB) (v := true) rfl rfl <| seqN [(0, .d ((cLs cI rfl).enc v0)), (11, .d ((cLs cI rfl).enc v0)), (12, .d (cI.enc (v0.length : Int))), (13, .d (cI.enc (k32 : Int))), (22, .d (cB.enc true))] (by kernel_rfl) <|
    xn <| cnd1 rfl rfl <| wpC_seq <| reg_s <| x_asg (sc cB false rfl) <| seqN [(4, .d (cB.enc false))] (by kernel_rfl) <|
    xn <| wpC_ret <| rb <| rt <| rt <| rt <| rb <| rt <| rt <| re <| fin h (r1 (ss rfl rfl) <| r0) rfl)
    (fun b49 h => gt' rfl b49 <| st rfl <| mvd rfl rfl <| gt' rfl b49 <| st rfl <| b_gtr (k := .i64) rfl rfl <| st rfl <| pick0 rfl b49 (cd := cB) (v := (decide ((1000000 : Int) < x33))) rfl rfl <| seqN [(0, .d ((cLs cI rfl).enc v0)), (11, .d ((cLs cI rfl).enc v0)), (12, .d (cI.enc (v0.length : Int))), (13, .d (cI.enc (k32 : Int))), (22, .d (cB.enc (decide ((1000000 : Int) < x33))))] (by kernel_rfl) <|
    xn <| cnd rfl h (fun b50 h => wpC_seq <| reg_s <| x_asg (sc cB false rfl) <| seqN [(4, .d (cB.enc false))] (by kernel_rfl) <|
    xn <| wpC_ret <| rb <| rt <| rt <| rt <| rb <| rt <| rt <| re <| fin h (r1 (ss rfl rfl) <| r0) rfl)
    (fun b50 h => wpC_skip <| xbb <| kpN [(0, .d ((cLs cI rfl).enc v0)), (11, .d ((cLs cI rfl).enc v0)), (12, .d (cI.enc (v0.length : Int))), (13, .d (cI.enc (k32 : Int)))] (by kernel_rfl) <| xn <| reg_s <| st rfl <| b_inc rfl rfl l30 hk34 <| st rfl <| mvd rfl rfl <| seqN [(0, .d ((cLs cI rfl).enc v0)), (11, .d ((cLs cI rfl).enc v0)), (12, .d (cI.enc (v0.length : Int))), (13, .d (cI.enc ((k32 + 1 : Nat) : Int)))] (by kernel_rfl) <|
    xn <| hn43 () h))))

def rs_impl_valuesAt (r : (List Int)) : List D := [(cLo cI).enc r]
def m86 : MC := .seq (.reg [⟨some 4, .asg (.c (.slice true [])), none⟩] [0, 1])
  (.seq (.reg [⟨some 7, .mv (.t 0), none⟩,
    ⟨some 8, .len false (.t 7), none⟩,
    ⟨some 9, .mk (.int .i64 0) (.t 8), none⟩,
    ⟨some 5, .asg (.t 9), none⟩] [0, 1, 5])
  (.seq (.kp [5] (.seq (.reg [⟨some 10, .mv (.t 0), none⟩,
    ⟨some 11, .len false (.t 10), none⟩,
    ⟨some 12, .bin .sub (.t 11) (.c (.int .i64 1)), none⟩,
    ⟨some 6, .asg (.t 12), none⟩] [0, 1, 5, 6])
  (.blk 0 (.loop (.seq (.kp [0, 1, 5, 6] (.seq (.reg [⟨some 13, .mv (.t 6), none⟩,
    ⟨some 14, .bin .geq (.t 13) (.c (.int .i64 0)), none⟩] [0, 1, 5, 6, 14])
  (.cond (.t 14) (.skip) (.exit 0))))
  (.seq (.kp [0, 1, 5, 6] (.blk 1 (.seq (.reg [⟨some 17, .mv (.t 5), none⟩,
    ⟨some 18, .mv (.t 6), none⟩,
    ⟨some 19, .mv (.t 1), none⟩,
    ⟨some 20, .mv (.t 0), none⟩,
    ⟨some 21, .mv (.t 6), none⟩,
    ⟨some 22, .ia 20 (.t 21) 2, none⟩,
    ⟨some 23, .fa 22 1 1, none⟩,
    ⟨some 24, .ld 23 1 false, none⟩,
    ⟨some 25, .bin .rem (.t 19) (.t 24), none⟩,
    ⟨some 26, .ia 17 (.t 18) 1, none⟩,
    ⟨none, .st 26 (.t 25) 1, none⟩] [0, 1, 5, 6])
  (.reg [⟨some 27, .mv (.t 1), none⟩,
    ⟨some 28, .mv (.t 0), none⟩,
    ⟨some 29, .mv (.t 6), none⟩,
    ⟨some 30, .ia 28 (.t 29) 2, none⟩,
    ⟨some 31, .fa 30 1 1, none⟩,
    ⟨some 32, .ld 31 1 false, none⟩,
    ⟨some 33, .bin .quo (.t 27) (.t 32), none⟩,
    ⟨some 1, .asg (.t 33), none⟩] [0, 1, 5, 6]))))
  (.reg [⟨some 15, .mv (.t 6), none⟩,
    ⟨some 16, .bin .sub (.t 15) (.c (.int .i64 1)), none⟩,
    ⟨some 6, .asg (.t 16), none⟩] [0, 1, 5, 6])))))))
  (.seq (.reg [⟨some 34, .mv (.t 5), none⟩,
    ⟨some 4, .asg (.t 34), none⟩] [4])
  (.ret))))
theorem con_impl_valuesAt {v0 : (List XVariable)} {v1 : Int} {r : (List Int)} (h : sh_impl_valuesAt v0 v1 = some r) : Con Tryd.prog 86 [(cLs (cXVariable cS cI) rfl).enc v0, cI.enc v1] [] (rs_impl_valuesAt r) := by
  delta sh_impl_valuesAt at h
  refine top (out := none) (f := Tryd.f86) (m := m86) (rs := [.t 4]) (by kernel_rfl) rfl (by kernel_rfl) (by kernel_rfl) (by kernel_rfl) (by kernel_rfl) (by kernel_rfl) ?_
  exact
   ini [(0, .d ((cLs (cXVariable cS cI) rfl).enc v0)), (1, .d (cI.enc v1))] rfl <| wpC_seq <| reg_s <| x_asg (sc (cLo cI) ([] : List Int) rfl) <| seqN [(0, .d ((cLs (cXVariable cS cI) rfl).enc v0)), (1, .d (cI.enc v1))] (by kernel_rfl) <|
    xn <| wpC_seq <| reg_s <| st rfl <| mvd rfl rfl <| stw rfl <| lens rfl fun l4 => mkO_k h fun i5 l6 h => st rfl <| o_mk (c := cI) (a0 := (0 : Int)) rfl (k := .i64) rfl i5 l6 <| x_asg (so rfl rfl) <| seqN [(0, .d ((cLs (cXVariable cS cI) rfl).enc v0)), (1, .d (cI.enc v1)), (5, .d ((cLo cI).enc (List.replicate ((v0.length : Int)).toNat (0 : Int))))] (by kernel_rfl) <|
    xn <| wpC_seq <| wpC_kp <| wpC_seq <| reg_s <| st rfl <| mvd rfl rfl <| stw rfl <| lens rfl fun l126 => ckI_k h fun i127 h => st rfl <| b_sub (k := .i64) rfl rfl i127 <| x_asg (ss rfl rfl) <| seqN [(0, .d ((cLs (cXVariable cS cI) rfl).enc v0)), (1, .d (cI.enc v1)), (5, .d ((cLo cI).enc (List.replicate ((v0.length : Int)).toNat (0 : Int)))), (6, .d (cI.enc ((v0.length : Int) - (1 : Int))))] (by kernel_rfl) <|
    xn <| wpC_blk <| lpF (fun (s128 : (Int × (List Int) × Int)) => [(0, .d ((cLs (cXVariable cS cI) rfl).enc v0)), (1, .d (cI.enc s128.1)), (5, .d ((cLo cI).enc s128.2.1)), (6, .d (cI.enc s128.2.2))]) (v1, (List.replicate ((v0.length : Int)).toNat (0 : Int)), ((v0.length : Int) - (1 : Int))) rfl h
    fun G205 nx203 s128 hn204 h => wpC_seq <| wpC_kp <| wpC_seq <| reg_s <| st rfl <| mvd rfl rfl <| st rfl <| b_geq (k := .i64) rfl rfl <| seqN [(0, .d ((cLs (cXVariable cS cI) rfl).enc v0)), (1, .d (cI.enc s128.1)), (5, .d ((cLo cI).enc s128.2.1)), (6, .d (cI.enc s128.2.2)), (14, .d (cB.enc (decide ((0 : Int) ≤ s128.2.2))))] (by kernel_rfl) <|
    xn <| cnd rfl h (fun b207 h => wpC_skip <| kpN [(0, .d ((cLs (cXVariable cS cI) rfl).enc v0)), (1, .d (cI.enc s128.1)), (5, .d ((cLo cI).enc s128.2.1)), (6, .d (cI.enc s128.2.2))] (by kernel_rfl) <| xn <| wpC_seq <| wpC_kp <| wpC_blk <| wpC_seq <| reg_s <| st rfl <| mvo rfl rfl <| st rfl <| mvd rfl rfl <| st rfl <| mvd rfl rfl <| st rfl <| mvd rfl rfl <| st rfl <| mvd rfl rfl <| getO_k h fun x231 i232 g233 h => st rfl <| ias rfl rfl i232 g233 rfl <| st rfl <| fai rfl rfl rfl rfl <| st rfl <| ldi rfl rfl rfl rfl <| ck_k h fun i234 h => st rfl <| b_rem (k := .i64) rfl rfl i234 <| getO_k h fun x235 i236 g237 h => st rfl <| iar rfl rfl rfl rfl i236 g237 rfl <| x_sta ((cLo cI).enc (s128.2.1.set (s128.2.2).toNat (s128.1.tmod x231.Levels))) (ss rfl rfl) rfl rfl (Ln.idx g237 Ln.nil) (Cd.h_sz cI _) rfl <| seqN [(0, .d ((cLs (cXVariable cS cI) rfl).enc v0)), (1, .d (cI.enc s128.1)), (5, .d ((cLo cI).enc (s128.2.1.set (s128.2.2).toNat (s128.1.tmod x231.Levels)))), (6, .d (cI.enc s128.2.2))] (by kernel_rfl) <|
    xn <| reg_s <| st rfl <| mvd rfl rfl <| st rfl <| mvd rfl rfl <| st rfl <| mvd rfl rfl <| st rfl <| ias rfl rfl i232 g233 rfl <| st rfl <| fai rfl rfl rfl rfl <| st rfl <| ldi rfl rfl rfl rfl <| ck_k h fun i238 h => ckI_k h fun i239 h => st rfl <| b_quo (k := .i64) rfl rfl i238 i239 <| x_asg (ss rfl rfl) <| seqN [(0, .d ((cLs (cXVariable cS cI) rfl).enc v0)), (1, .d (cI.enc (s128.1.tdiv x231.Levels))), (5, .d ((cLo cI).enc (s128.2.1.set (s128.2.2).toNat (s128.1.tmod x231.Levels)))), (6, .d (cI.enc s128.2.2))] (by kernel_rfl) <|
    xbb <| kpN [(0, .d ((cLs (cXVariable cS cI) rfl).enc v0)), (1, .d (cI.enc (s128.1.tdiv x231.Levels))), (5, .d ((cLo cI).enc (s128.2.1.set (s128.2.2).toNat (s128.1.tmod x231.Levels)))), (6, .d (cI.enc s128.2.2))] (by kernel_rfl) <| xn <| reg_s <| st rfl <| mvd rfl rfl <| ckI_k h fun i240 h => st rfl <| b_sub (k := .i64) rfl rfl i240 <| x_asg (ss rfl rfl) <| seqN [(0, .d ((cLs (cXVariable cS cI) rfl).enc v0)), (1, .d (cI.enc (s128.1.tdiv x231.Levels))), (5, .d ((cLo cI).enc (s128.2.1.set (s128.2.2).toNat (s128.1.tmod x231.Levels)))), (6, .d (cI.enc (s128.2.2 - (1 : Int))))] (by kernel_rfl) <|
    xn <| hn204 ((s128.1.tdiv x231.Levels), (s128.2.1.set (s128.2.2).toNat (s128.1.tmod x231.Levels)), (s128.2.2 - (1 : Int))) h)
    (fun b207 h => wpC_exit <| xt <| xt <| xt <| xb <| kpN [(5, .d ((cLo cI).enc s128.2.1))] (by kernel_rfl) <| xn <| wpC_seq <| reg_s <| st rfl <| mvo rfl rfl <| x_asg (sr rfl rfl) <| seqN [(4, .d ((cLo cI).enc s128.2.1))] (by kernel_rfl) <|
    xn <| wpC_ret <| re <| fin h (r1 (so rfl rfl) <| r0) rfl)

def rs_impl_cellAt (r : (Int × (List Int))) : List D := [cI.enc r.1, (cLo cI).enc r.2]
def m59 : MC := .seq (.reg [⟨some 4, .box (.t 0), none⟩,
    ⟨some 6, .box (.t 2), none⟩,
    ⟨some 8, .asg (.c (.int .i64 0)), none⟩,
    ⟨some 9, .asg (.c (.slice true [])), none⟩] [1, 3, 4, 6])
  (.seq (.reg [⟨some 12, .mv (.t 1), none⟩,
    ⟨some 13, .ld 6 4 true, none⟩,
    ⟨some 14, .call 57 [(.t 12), (.t 13)], none⟩,
    ⟨some 10, .asg (.t 14), none⟩] [3, 4, 6, 10])
  (.seq (.reg [⟨some 15, .mv (.t 10), none⟩,
    ⟨some 16, .call 56 [(.t 15)], none⟩,
    ⟨some 11, .asg (.t 16), none⟩] [3, 4, 6, 10, 11])
  (.seq (.drw [⟨0, ⟨some 17, .ld 4 1 true, none⟩, [18, 19, 20, 21, 22, 23, 24, 25, 26, 27, 28, 29, 30]⟩,
    ⟨1, ⟨some 18, .fa 6 0 0, none⟩, [17, 19, 20, 21, 22, 23, 24, 25, 26, 27, 28, 29, 30]⟩,
    ⟨2, ⟨some 19, .ld 18 1 false, none⟩, [17, 20, 21, 22, 23, 24, 25, 26, 27, 28, 29, 30]⟩,
    ⟨3, ⟨some 20, .call 55 [(.t 17), (.t 19)], none⟩, [21, 22, 23, 24, 25, 26, 27, 28, 29, 30]⟩,
    ⟨4, ⟨some 21, .mv (.t 3), none⟩, [17, 18, 19, 20, 22, 23, 24, 25, 26, 27, 28, 29, 30]⟩,
    ⟨5, ⟨some 22, .mv (.t 11), none⟩, [17, 18, 19, 20, 21, 23, 24, 25, 26, 27, 28, 29, 30]⟩,
    ⟨6, ⟨some 23, .bin .quo (.t 21) (.t 22), none⟩, [17, 18, 19, 20, 24, 25, 26, 27, 28, 29, 30]⟩,
    ⟨7, ⟨some 24, .ia 20 (.t 23) 1, none⟩, [25, 26, 27, 28, 29, 30]⟩,
    ⟨8, ⟨some 25, .ld 24 1 false, none⟩, [26, 27, 28, 29, 30]⟩,
    ⟨9, ⟨some 26, .mv (.t 10), none⟩, [17, 18, 19, 20, 21, 22, 23, 24, 25, 27, 28, 29, 30]⟩,
    ⟨10, ⟨some 27, .mv (.t 3), none⟩, [17, 18, 19, 20, 21, 22, 23, 24, 25, 26, 28, 29, 30]⟩,
    ⟨11, ⟨some 28, .mv (.t 11), none⟩, [17, 18, 19, 20, 21, 22, 23, 24, 25, 26, 27, 29, 30]⟩,
    ⟨12, ⟨some 29, .bin .rem (.t 27) (.t 28), none⟩, [17, 18, 19, 20, 21, 22, 23, 24, 25, 26, 30]⟩,
    ⟨13, ⟨some 30, .call 86 [(.t 26), (.t 29)], none⟩, [21, 22, 23, 24, 25]⟩]
    [(14, ⟨some 8, .asg (.t 25), none⟩),
    (15, ⟨some 9, .asg (.t 30), none⟩)] [8, 9])
  (.ret))))
theorem con_impl_cellAt {v0 : XGeo} {v1 : (List XVariable)} {v2 : XTable} {v3 : Int} {r : (Int × (List Int))} (h : sh_impl_cellAt v0 v1 v2 v3 = some r) : Con Tryd.prog 59 [(cXGeo (cLs cI rfl)).enc v0, (cLs (cXVariable cS cI) rfl).enc v1, (cXTable cI (cLs cI rfl) (cLs cI rfl) cI).enc v2, cI.enc v3] [] (rs_impl_cellAt r) := by
  delta sh_impl_cellAt at h
  refine top (out := none) (f := Tryd.f59) (m := m59) (rs := [.t 8, .t 9]) (by kernel_rfl) rfl (by kernel_rfl) (by kernel_rfl) (by kernel_rfl) (by kernel_rfl) (by kernel_rfl) ?_
  exact
   ini [(0, .d ((cXGeo (cLs cI rfl)).enc v0)), (1, .d ((cLs (cXVariable cS cI) rfl).enc v1)), (2, .d ((cXTable cI (cLs cI rfl) (cLs cI rfl) cI).enc v2)), (3, .d (cI.enc v3))] rfl <| wpC_seq <| reg_s <| x_box (ss rfl rfl) <| x_box (ss rfl rfl) <| x_asg (sc cI (0 : Int) rfl) <| x_asg (sc (cLo cI) ([] : List Int) rfl) <| seqN [(1, .d ((cLs (cXVariable cS cI) rfl).enc v1)), (3, .d (cI.enc v3)), (4, .box ((cXGeo (cLs cI rfl)).enc v0)), (6, .box ((cXTable cI (cLs cI rfl) (cLs cI rfl) cI).enc v2))] (by kernel_rfl) <|
    xn <| wpC_seq <| reg_s <| st rfl <| mvd rfl rfl <| st rfl <| ldb rfl rfl rfl rfl <| bnd h fun x3 e4 h => st rfl <| o_call (a1 (c := (cLs (cXVariable cS cI) rfl)) (tLs (tXVariable tS tK)) rfl (a1 (c := (cXTable cI (cLs cI rfl) (cLs cI rfl) cI)) (tXTable tK (tLs tK) (tLs tK) tK) rfl a0)) (con_impl_crossed e4) (.inl (so1 (sLo (sXVariable sS sK)) so0)) <| x_asg (so rfl rfl) <| seqN [(3, .d (cI.enc v3)), (4, .box ((cXGeo (cLs cI rfl)).enc v0)), (6, .box ((cXTable cI (cLs cI rfl) (cLs cI rfl) cI).enc v2)), (10, .d ((cLo (cXVariable cS cI)).enc x3))] (by kernel_rfl) <|
    xn <| wpC_seq <| reg_s <| st rfl <| mvo rfl rfl <| bnd h fun x7 e8 h => st rfl <| o_call (a1 (c := (cLo (cXVariable cS cI))) (tLo (tXVariable tS tK)) rfl a0) (con_impl_combinations e8) (.inl (so1 sK so0)) <| x_asg (ss rfl rfl) <| seqN [(3, .d (cI.enc v3)), (4, .box ((cXGeo (cLs cI rfl)).enc v0)), (6, .box ((cXTable cI (cLs cI rfl) (cLs cI rfl) cI).enc v2)), (10, .d ((cLo (cXVariable cS cI)).enc x3)), (11, .d (cI.enc x7))] (by kernel_rfl) <|
    xn <| wpC_seq <| drw_s <| pst rfl <| ldb rfl rfl rfl rfl ⟨rfl, pst rfl <| fab rfl rfl rfl rfl ⟨rfl, pst rfl <| lda rfl rfl rfl rfl rfl rfl ⟨rfl, bndp h fun x19 e20 h => pst rfl <| o_call (a1 (c := (cXGeo (cLs cI rfl))) (tXGeo (tLs tK)) rfl (a1 (c := cI) tK rfl a0)) (con_impl_areasAt e20) (.inl (so1 (sLo sK) so0)) ⟨rfl, pst rfl <| mvd rfl rfl ⟨rfl, pst rfl <| mvd rfl rfl ⟨rfl, ck_kp h fun i21 h => ckI_kp h fun i22 h => pst rfl <| b_quo (k := .i64) rfl rfl i21 i22 ⟨rfl, getO_kp h fun x23 i24 g25 h => pst rfl <| iao rfl rfl i24 g25 rfl ⟨rfl, pst rfl <| lda rfl rfl (Gt.idx g25 Gt.nil) rfl rfl rfl ⟨rfl, pst rfl <| mvo rfl rfl ⟨rfl, pst rfl <| mvd rfl rfl ⟨rfl, pst rfl <| mvd rfl rfl ⟨rfl, ck_kp h fun i26 h => pst rfl <| b_rem (k := .i64) rfl rfl i26 ⟨rfl, bndp h fun x27 e28 h => pst rfl <| o_call (a1 (c := (cLo (cXVariable cS cI))) (tLo (tXVariable tS tK)) rfl (a1 (c := cI) tK rfl a0)) (con_impl_valuesAt e28) (.inl (so1 (sLo sK) so0)) ⟨rfl, preN <| x_asg (ss rfl rfl) <| x_asg (so rfl rfl) <| seqN [(8, .d (cI.enc x23)), (9, .d ((cLo cI).enc x27))] (by kernel_rfl) <|
    xn <| wpC_ret <| re <| fin h (r1 (ss rfl rfl) <| r1 (so rfl rfl) <| r0) rfl⟩⟩⟩⟩⟩⟩⟩⟩⟩⟩⟩⟩⟩⟩

def rs_strconv_Itoa (r : (List UInt8)) : List D := [cS.enc r]
theorem con_strconv_Itoa {v0 : Int} {r : (List UInt8)} (h : sh_strconv_Itoa v0 = some r) : Con Tryd.prog 34 [cI.enc v0] [] (rs_strconv_Itoa r) := by
  unfold sh_strconv_Itoa at h
  split at h
  · rename_i hb
    have hd : r = Go.Lib.decDigits v0.toNat := by
      simp only [Option.some.injEq] at h
      rw [← h, Go.Lib.decDigits]
      by_cases h9 : v0 < 10
      · rw [if_pos h9, dif_pos (by omega)]
      · rw [if_neg h9, dif_neg (by omega), Go.Lib.decDigits, dif_pos (by omega)]; rfl
    have hl : r.length ≤ maxLen := by
      simp only [Option.some.injEq] at h
      have : maxLen = 9223372036854775807 := rfl
      rw [← h]
      split <;> simp <;> omega
    refine ⟨⟨Tryd.f34, _, Tryd.func34, rfl, by kernel_rfl⟩, ?_⟩
    intro w Z vs F hrep h1 h2 h3 htz
    obtain ⟨x, vs2, f1, f2, rfl, e1, r1, rfl, e2⟩ := hrep
    obtain ⟨rfl, _⟩ := RepV.int r1
    have := Tryd.strconv_Itoa_small v0.toNat (by omega) w
    rw [Int.toNat_of_nonneg hb.1] at this
    refine this.mono ?_
    rintro e w' ⟨rfl, rfl⟩
    rw [← hd]
    exact ⟨_, Z, fun _ => 0, fun _ => 0, rfl, ret_below (RepV.mkStr hl) (Go.RowKit.Below.refl _ _)⟩
  · cases h
end AS.W
