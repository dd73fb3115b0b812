/- The program computes the plain functions. No condition. -/
import Derived.Test.YtiohllblkcjafaaQRecordsInS
import Derived.Test.YtiohllblkcjafaaProg
import Derived.Test.YtiohllblkcjafaaQRecordsInL2
set_option maxRecDepth 100000
set_option linter.unusedVariables false
set_option linter.unusedSimpArgs false
namespace AS.W
open Go Go.Proofs
def rs_spec_RecordsIn (r : ((List Int) × Bool)) : List D := [(cLo cI).enc r.1, cB.enc r.2]
def m45 : MC := .seq (.reg [⟨some 5, .box (.t 0), none⟩,
    ⟨some 7, .box (.t 2), none⟩,
    ⟨some 10, .asg (.c (.slice true [])), none⟩,
    ⟨some 11, .asg (.c (.bool false)), none⟩] [1, 3, 4, 5, 7])
  (.seq (.kp [1, 3, 4, 5, 7] (.seq (.reg [⟨some 17, .ld 5 1 true, none⟩,
    ⟨some 18, .mv (.t 1), none⟩,
    ⟨some 19, .ld 7 4 true, none⟩,
    ⟨some 20, .call 63 [(.t 17), (.t 18), (.t 19)], none⟩,
    ⟨some 21, .nt (.t 20), none⟩,
    ⟨some 22, .mv (.t 21), none⟩,
    ⟨some 23, .ld 5 1 true, some (22, false)⟩,
    ⟨some 24, .mv (.t 1), some (22, false)⟩,
    ⟨some 25, .mv (.t 3), some (22, false)⟩,
    ⟨some 26, .call 85 [(.t 23), (.t 24), (.t 25)], some (22, false)⟩,
    ⟨some 27, .nt (.t 26), some (22, false)⟩,
    ⟨some 28, .pick (.t 22) (.c (.bool true)) (.t 27), none⟩,
    ⟨some 29, .mv (.t 28), none⟩,
    ⟨some 30, .mv (.t 4), some (29, false)⟩,
    ⟨some 31, .ld 5 1 true, some (29, false)⟩,
    ⟨some 32, .mv (.t 1), some (29, false)⟩,
    ⟨some 33, .ld 7 4 true, some (29, false)⟩,
    ⟨some 34, .call 87 [(.t 31), (.t 32), (.t 33)], some (29, false)⟩,
    ⟨some 35, .bin .sub (.t 34) (.c (.int .i64 1)), some (29, false)⟩,
    ⟨some 36, .call 86 [(.t 30), (.c (.int .i64 0)), (.t 35)], some (29, false)⟩,
    ⟨some 37, .nt (.t 36), some (29, false)⟩,
    ⟨some 38, .pick (.t 29) (.c (.bool true)) (.t 37), none⟩] [1, 3, 4, 5, 7, 38])
  (.cond (.t 38) (.seq (.reg [⟨some 10, .asg (.c (.slice true [])), none⟩,
    ⟨some 11, .asg (.c (.bool false)), none⟩] [10, 11])
  (.ret)) (.skip))))
  (.seq (.reg [⟨some 12, .asg (.c (.slice true [])), none⟩] [1, 3, 4, 5, 7, 12])
  (.seq (.kp [12] (.seq (.reg [⟨some 39, .mv (.t 3), none⟩,
    ⟨some 40, .len false (.t 39), none⟩,
    ⟨some 41, .mv (.c (.int .i64 0)), none⟩] [1, 3, 4, 5, 7, 12, 39, 40, 41])
  (.blk 0 (.loop (.seq (.reg [⟨some 42, .bin .lss (.t 41) (.t 40), none⟩] [1, 3, 4, 5, 7, 12, 39, 40, 41, 42])
  (.seq (.kp [1, 3, 4, 5, 7, 12, 39, 40, 41] (.cond (.t 42) (.skip) (.exit 0)))
  (.seq (.kp [1, 3, 4, 5, 7, 12, 39, 40, 41] (.blk 1 (.seq (.reg [⟨some 43, .mv (.t 41), none⟩,
    ⟨some 44, .ia 39 (.t 41) 3, none⟩,
    ⟨some 45, .ld 44 3 true, none⟩,
    ⟨some 14, .alloc (.agg [.int .i64 0, .int .i64 0, .slice true []]), none⟩,
    ⟨some 13, .asg (.t 43), none⟩,
    ⟨none, .st 14 (.t 45) 3, none⟩] [1, 3, 4, 5, 7, 12, 13, 14, 39, 40, 41])
  (.seq (.reg [⟨some 47, .ld 5 1 true, none⟩,
    ⟨some 48, .mv (.t 1), none⟩,
    ⟨some 49, .ld 7 4 true, none⟩,
    ⟨some 50, .ld 14 3 true, none⟩,
    ⟨some 51, .call 67 [(.t 47), (.t 48), (.t 49), (.t 50)], none⟩,
    ⟨some 46, .mvt 51, none⟩,
    ⟨some 52, .ext 46 0, none⟩,
    ⟨some 53, .ext 46 1, none⟩,
    ⟨some 15, .asg (.t 52), none⟩,
    ⟨some 16, .asg (.t 53), none⟩] [1, 3, 4, 5, 7, 12, 13, 15, 39, 40, 41])
  (.seq (.reg [⟨some 54, .mv (.t 15), none⟩,
    ⟨some 55, .mv (.t 4), none⟩,
    ⟨some 56, .bin .eql (.t 54) (.t 55), none⟩] [1, 3, 4, 5, 7, 12, 13, 39, 40, 41, 56])
  (.cond (.t 56) (.reg [⟨some 57, .mv (.t 12), none⟩,
    ⟨some 58, .mv (.t 13), none⟩,
    ⟨some 59, .bsl [(.t 58)] 1, none⟩,
    ⟨some 60, .app (.t 57) (.t 59) 1, none⟩,
    ⟨some 12, .asg (.t 60), none⟩] [1, 3, 4, 5, 7, 12, 39, 40, 41]) (.skip)))))))
  (.reg [⟨some 61, .bin .add (.t 41) (.c (.int .i64 1)), none⟩,
    ⟨some 41, .mv (.t 61), none⟩] [1, 3, 4, 5, 7, 12, 39, 40, 41]))))))))
  (.seq (.reg [⟨some 62, .mv (.t 12), none⟩,
    ⟨some 10, .asg (.t 62), none⟩,
    ⟨some 11, .asg (.c (.bool true)), none⟩] [10, 11])
  (.ret)))))
theorem con_spec_RecordsIn {v0 : XGeo} {v1 : (List XVariable)} {v2 : XTable} {v3 : (List XRecord)} {v4 : Int} {r : ((List Int) × Bool)} (h : sh_spec_RecordsIn v0 v1 v2 v3 v4 = some r) : Con Try.prog 45 [(cXGeo (cLs cI rfl)).enc v0, (cLs (cXVariable cS cI) rfl).enc v1, (cXTable cI (cLs cI rfl) (cLs cI rfl) cI).enc v2, (cLs (cXRecord cI cI (cLs cI rfl)) rfl).enc v3, cI.enc v4] [] (rs_spec_RecordsIn r) := by
  delta sh_spec_RecordsIn at h
  refine top (out := none) (f := Try.f45) (m := m45) (rs := [.t 10, .t 11]) (by kernel_rfl) rfl (by kernel_rfl) (by kernel_rfl) (by kernel_rfl) (by kernel_rfl) (by kernel_rfl) ?_
  exact
   ini [(0, .d ((cXGeo (cLs cI rfl)).enc v0)), (1, .d ((cLs (cXVariable cS cI) rfl).enc v1)), (2, .d ((cXTable cI (cLs cI rfl) (cLs cI rfl) cI).enc v2)), (3, .d ((cLs (cXRecord cI cI (cLs cI rfl)) rfl).enc v3)), (4, .d (cI.enc v4))] rfl <| wpC_seq <| reg_s <| x_box (ss rfl rfl) <| x_box (ss rfl rfl) <| x_asg (sc (cLo cI) ([] : List Int) rfl) <| x_asg (sc cB false rfl) <| seqN [(1, .d ((cLs (cXVariable cS cI) rfl).enc v1)), (3, .d ((cLs (cXRecord cI cI (cLs cI rfl)) rfl).enc v3)), (4, .d (cI.enc v4)), (5, .box ((cXGeo (cLs cI rfl)).enc v0)), (7, .box ((cXTable cI (cLs cI rfl) (cLs cI rfl) cI).enc v2))] (by kernel_rfl) <|
    xn <| wpC_seq <| wpC_kp <| wpC_seq <| reg_s <| st rfl <| ldb rfl rfl rfl rfl <| st rfl <| mvd rfl rfl <| st rfl <| ldb rfl rfl rfl rfl <| bnd h fun x35 e36 h => st rfl <| o_call (a1 (c := (cXGeo (cLs cI rfl))) (tXGeo (tLs tK)) rfl (a1 (c := (cLs (cXVariable cS cI) rfl)) (tLs (tXVariable tS tK)) rfl (a1 (c := (cXTable cI (cLs cI rfl) (cLs cI rfl) cI)) (tXTable tK (tLs tK) (tLs tK) tK) rfl a0))) (con_spec_uGood e36) (.inl (so1 sB so0)) <| st rfl <| o_nt rfl <| st rfl <| mvd rfl rfl <| ite_k h (fun b37 h => gf rfl b37 <| gf rfl b37 <| gf rfl b37 <| gf rfl b37 <| gf rfl b37 <| st rfl <| pick1 rfl b37 (cd := cB) (v := true) rfl rfl <| st rfl <| mvd rfl rfl <| gf rfl rfl <| gf rfl rfl <| gf rfl rfl <| gf rfl rfl <| gf rfl rfl <| gf rfl rfl <| gf rfl rfl <| gf rfl rfl <| st rfl <| pick1 rfl rfl (cd := cB) (v := true) rfl rfl <| seqN [(1, .d ((cLs (cXVariable cS cI) rfl).enc v1)), (3, .d ((cLs (cXRecord cI cI (cLs cI rfl)) rfl).enc v3)), (4, .d (cI.enc v4)), (5, .box ((cXGeo (cLs cI rfl)).enc v0)), (7, .box ((cXTable cI (cLs cI rfl) (cLs cI rfl) cI).enc v2)), (38, .d (cB.enc true))] (by kernel_rfl) <|
    xn <| cnd1 rfl rfl <| wpC_seq <| reg_s <| x_asg (sc (cLo cI) ([] : List Int) rfl) <| x_asg (sc cB false rfl) <| seqN [(10, .d ((cLo cI).enc ([] : List Int))), (11, .d (cB.enc false))] (by kernel_rfl) <|
    xn <| wpC_ret <| rt <| rt <| re <| fin h (r1 (so rfl rfl) <| r1 (ss rfl rfl) <| r0) rfl)
    (fun b37 h => gt' rfl b37 <| st rfl <| ldb rfl rfl rfl rfl <| gt' rfl b37 <| st rfl <| mvd rfl rfl <| gt' rfl b37 <| st rfl <| mvd rfl rfl <| gt' rfl b37 <| bnd h fun x38 e39 h => st rfl <| o_call (a1 (c := (cXGeo (cLs cI rfl))) (tXGeo (tLs tK)) rfl (a1 (c := (cLs (cXVariable cS cI) rfl)) (tLs (tXVariable tS tK)) rfl (a1 (c := (cLs (cXRecord cI cI (cLs cI rfl)) rfl)) (tLs (tXRecord tK tK (tLs tK))) rfl a0))) (con_spec_uSurvey e39) (.inl (so1 sB so0)) <| gt' rfl b37 <| st rfl <| o_nt rfl <| st rfl <| pick0 rfl b37 (cd := cB) (v := (!x38)) rfl rfl <| st rfl <| mvd rfl rfl <| ite_k h (fun b40 h => gf rfl b40 <| gf rfl b40 <| gf rfl b40 <| gf rfl b40 <| gf rfl b40 <| gf rfl b40 <| gf rfl b40 <| gf rfl b40 <| st rfl <| pick1 rfl b40 (cd := cB) (v := true) rfl rfl <| seqN [(1, .d ((cLs (cXVariable cS cI) rfl).enc v1)), (3, .d ((cLs (cXRecord cI cI (cLs cI rfl)) rfl).enc v3)), (4, .d (cI.enc v4)), (5, .box ((cXGeo (cLs cI rfl)).enc v0)), (7, .box ((cXTable cI (cLs cI rfl) (cLs cI rfl) cI).enc v2)), (38, .d (cB.enc true))] (by kernel_rfl) <|
    xn <| cnd1 rfl rfl <| wpC_seq <| reg_s <| x_asg (sc (cLo cI) ([] : List Int) rfl) <| x_asg (sc cB false rfl) <| seqN [(10, .d ((cLo cI).enc ([] : List Int))), (11, .d (cB.enc false))] (by kernel_rfl) <|
    xn <| wpC_ret <| rt <| rt <| re <| fin h (r1 (so rfl rfl) <| r1 (ss rfl rfl) <| r0) rfl)
    (fun b40 h => gt' rfl b40 <| st rfl <| mvd rfl rfl <| gt' rfl b40 <| st rfl <| ldb rfl rfl rfl rfl <| gt' rfl b40 <| st rfl <| mvd rfl rfl <| gt' rfl b40 <| st rfl <| ldb rfl rfl rfl rfl <| gt' rfl b40 <| bnd h fun x41 e42 h => st rfl <| o_call (a1 (c := (cXGeo (cLs cI rfl))) (tXGeo (tLs tK)) rfl (a1 (c := (cLs (cXVariable cS cI) rfl)) (tLs (tXVariable tS tK)) rfl (a1 (c := (cXTable cI (cLs cI rfl) (cLs cI rfl) cI)) (tXTable tK (tLs tK) (tLs tK) tK) rfl a0))) (con_spec_uCount e42) (.inl (so1 sK so0)) <| gt' rfl b40 <| ckI_k h fun i43 h => st rfl <| b_sub (k := .i64) rfl rfl i43 <| gt' rfl b40 <| bnd h fun x44 e45 h => st rfl <| o_call (a1 (c := cI) tK rfl (a1 (c := cI) tK rfl (a1 (c := cI) tK rfl a0))) (con_spec_l1In e45) (.inl (so1 sB so0)) <| gt' rfl b40 <| st rfl <| o_nt rfl <| st rfl <| pick0 rfl b40 (cd := cB) (v := (!x44)) rfl rfl <| seqN [(1, .d ((cLs (cXVariable cS cI) rfl).enc v1)), (3, .d ((cLs (cXRecord cI cI (cLs cI rfl)) rfl).enc v3)), (4, .d (cI.enc v4)), (5, .box ((cXGeo (cLs cI rfl)).enc v0)), (7, .box ((cXTable cI (cLs cI rfl) (cLs cI rfl) cI).enc v2)), (38, .d (cB.enc (!x44)))] (by kernel_rfl) <|
    xn <| cnd rfl h (fun b46 h => wpC_seq <| reg_s <| x_asg (sc (cLo cI) ([] : List Int) rfl) <| x_asg (sc cB false rfl) <| seqN [(10, .d ((cLo cI).enc ([] : List Int))), (11, .d (cB.enc false))] (by kernel_rfl) <|
    xn <| wpC_ret <| rt <| rt <| re <| fin h (r1 (so rfl rfl) <| r1 (ss rfl rfl) <| r0) rfl)
    (fun b46 h => wpC_skip <| kpN [(1, .d ((cLs (cXVariable cS cI) rfl).enc v1)), (3, .d ((cLs (cXRecord cI cI (cLs cI rfl)) rfl).enc v3)), (4, .d (cI.enc v4)), (5, .box ((cXGeo (cLs cI rfl)).enc v0)), (7, .box ((cXTable cI (cLs cI rfl) (cLs cI rfl) cI).enc v2))] (by kernel_rfl) <| xn <| wpC_seq <| reg_s <| x_asg (sc (cLo cI) ([] : List Int) rfl) <| seqN [(1, .d ((cLs (cXVariable cS cI) rfl).enc v1)), (3, .d ((cLs (cXRecord cI cI (cLs cI rfl)) rfl).enc v3)), (4, .d (cI.enc v4)), (5, .box ((cXGeo (cLs cI rfl)).enc v0)), (7, .box ((cXTable cI (cLs cI rfl) (cLs cI rfl) cI).enc v2)), (12, .d ((cLo cI).enc ([] : List Int)))] (by kernel_rfl) <|
    xn <| wpC_seq <| wpC_kp <| wpC_seq <| reg_s <| st rfl <| mvd rfl rfl <| stw rfl <| lens rfl fun l94 => st rfl <| mvc cI (0 : Int) rfl <| seqN [(1, .d ((cLs (cXVariable cS cI) rfl).enc v1)), (3, .d ((cLs (cXRecord cI cI (cLs cI rfl)) rfl).enc v3)), (4, .d (cI.enc v4)), (5, .box ((cXGeo (cLs cI rfl)).enc v0)), (7, .box ((cXTable cI (cLs cI rfl) (cLs cI rfl) cI).enc v2)), (12, .d ((cLo cI).enc ([] : List Int))), (39, .d ((cLs (cXRecord cI cI (cLs cI rfl)) rfl).enc v3)), (40, .d (cI.enc (v3.length : Int))), (41, .d (cI.enc (0 : Int)))] (by kernel_rfl) <|
    xn <| wpC_blk <| lpR (fun (k96 : Nat) (s95 : (List Int)) => [(1, .d ((cLs (cXVariable cS cI) rfl).enc v1)), (3, .d ((cLs (cXRecord cI cI (cLs cI rfl)) rfl).enc v3)), (4, .d (cI.enc v4)), (5, .box ((cXGeo (cLs cI rfl)).enc v0)), (7, .box ((cXTable cI (cLs cI rfl) (cLs cI rfl) cI).enc v2)), (12, .d ((cLo cI).enc s95)), (39, .d ((cLs (cXRecord cI cI (cLs cI rfl)) rfl).enc v3)), (40, .d (cI.enc (v3.length : Int))), (41, .d (cI.enc (k96 : Int)))]) ([] : List Int) rfl h
    (fun G126 s95 h => wpC_seq <| reg_s <| st rfl <| b_lss (k := .i64) rfl rfl <| seqN [(1, .d ((cLs (cXVariable cS cI) rfl).enc v1)), (3, .d ((cLs (cXRecord cI cI (cLs cI rfl)) rfl).enc v3)), (4, .d (cI.enc v4)), (5, .box ((cXGeo (cLs cI rfl)).enc v0)), (7, .box ((cXTable cI (cLs cI rfl) (cLs cI rfl) cI).enc v2)), (12, .d ((cLo cI).enc s95)), (39, .d ((cLs (cXRecord cI cI (cLs cI rfl)) rfl).enc v3)), (40, .d (cI.enc (v3.length : Int))), (41, .d (cI.enc (v3.length : Int))), (42, .d (cB.enc (decide ((v3.length : Int) < (v3.length : Int)))))] (by kernel_rfl) <|
    xn <| wpC_seq <| wpC_kp <| cnd0 rfl (dlf _) <| wpC_exit <| xt <| xt <| xt <| xb <| kpN [(12, .d ((cLo cI).enc s95))] (by kernel_rfl) <| xn <| wpC_seq <| reg_s <| st rfl <| mvo rfl rfl <| x_asg (sr rfl rfl) <| x_asg (sc cB true rfl) <| seqN [(10, .d ((cLo cI).enc s95)), (11, .d (cB.enc true))] (by kernel_rfl) <|
    xn <| wpC_ret <| re <| fin h (r1 (so rfl rfl) <| r1 (ss rfl rfl) <| r0) rfl)
    (fun G126 nx124 k96 s95 x97 hk98 hx99 hn125 h => wpC_seq <| reg_s <| st rfl <| b_lss (k := .i64) rfl rfl <| seqN [(1, .d ((cLs (cXVariable cS cI) rfl).enc v1)), (3, .d ((cLs (cXRecord cI cI (cLs cI rfl)) rfl).enc v3)), (4, .d (cI.enc v4)), (5, .box ((cXGeo (cLs cI rfl)).enc v0)), (7, .box ((cXTable cI (cLs cI rfl) (cLs cI rfl) cI).enc v2)), (12, .d ((cLo cI).enc s95)), (39, .d ((cLs (cXRecord cI cI (cLs cI rfl)) rfl).enc v3)), (40, .d (cI.enc (v3.length : Int))), (41, .d (cI.enc (k96 : Int))), (42, .d (cB.enc (decide ((k96 : Int) < (v3.length : Int)))))] (by kernel_rfl) <|
    xn <| wpC_seq <| wpC_kp <| cnd1 rfl (dlt hk98) <| wpC_skip <| kpN [(1, .d ((cLs (cXVariable cS cI) rfl).enc v1)), (3, .d ((cLs (cXRecord cI cI (cLs cI rfl)) rfl).enc v3)), (4, .d (cI.enc v4)), (5, .box ((cXGeo (cLs cI rfl)).enc v0)), (7, .box ((cXTable cI (cLs cI rfl) (cLs cI rfl) cI).enc v2)), (12, .d ((cLo cI).enc s95)), (39, .d ((cLs (cXRecord cI cI (cLs cI rfl)) rfl).enc v3)), (40, .d (cI.enc (v3.length : Int))), (41, .d (cI.enc (k96 : Int)))] (by kernel_rfl) <| xn <| wpC_seq <| wpC_kp <| wpC_blk <| wpC_seq <| reg_s <| st rfl <| mvd rfl rfl <| st rfl <| ias rfl rfl (Int.natCast_nonneg _) hx99 rfl <| st rfl <| ldi rfl rfl rfl rfl <| x_all (cXRecord cI cI (cLo cI)) (⟨(0 : Int), (0 : Int), ([] : List Int)⟩ : XRecord) rfl <| x_asg (ss rfl rfl) <| x_stb (ss rfl rfl) rfl (Cd.h_sz _ _) rfl <| seqN [(1, .d ((cLs (cXVariable cS cI) rfl).enc v1)), (3, .d ((cLs (cXRecord cI cI (cLs cI rfl)) rfl).enc v3)), (4, .d (cI.enc v4)), (5, .box ((cXGeo (cLs cI rfl)).enc v0)), (7, .box ((cXTable cI (cLs cI rfl) (cLs cI rfl) cI).enc v2)), (12, .d ((cLo cI).enc s95)), (13, .d (cI.enc (k96 : Int))), (14, .box ((cXRecord cI cI (cLs cI rfl)).enc x97)), (39, .d ((cLs (cXRecord cI cI (cLs cI rfl)) rfl).enc v3)), (40, .d (cI.enc (v3.length : Int))), (41, .d (cI.enc (k96 : Int)))] (by kernel_rfl) <|
    xn <| wpC_seq <| reg_s <| st rfl <| ldb rfl rfl rfl rfl <| st rfl <| mvd rfl rfl <| st rfl <| ldb rfl rfl rfl rfl <| st rfl <| ldb rfl rfl rfl rfl <| bnd h fun x135 e136 h => st rfl <| o_call (a1 (c := (cXGeo (cLs cI rfl))) (tXGeo (tLs tK)) rfl (a1 (c := (cLs (cXVariable cS cI) rfl)) (tLs (tXVariable tS tK)) rfl (a1 (c := (cXTable cI (cLs cI rfl) (cLs cI rfl) cI)) (tXTable tK (tLs tK) (tLs tK) tK) rfl (a1 (c := (cXRecord cI cI (cLs cI rfl))) (tXRecord tK tK (tLs tK)) rfl a0)))) (con_spec_uCell e136) (.inl (so1 sK (so1 sK so0))) <| x_mvt rfl <| x_ext rfl rfl <| x_ext rfl rfl <| x_asg (ss rfl rfl) <| x_asg (ss rfl rfl) <| seqN [(1, .d ((cLs (cXVariable cS cI) rfl).enc v1)), (3, .d ((cLs (cXRecord cI cI (cLs cI rfl)) rfl).enc v3)), (4, .d (cI.enc v4)), (5, .box ((cXGeo (cLs cI rfl)).enc v0)), (7, .box ((cXTable cI (cLs cI rfl) (cLs cI rfl) cI).enc v2)), (12, .d ((cLo cI).enc s95)), (13, .d (cI.enc (k96 : Int))), (15, .d (cI.enc x135.1)), (39, .d ((cLs (cXRecord cI cI (cLs cI rfl)) rfl).enc v3)), (40, .d (cI.enc (v3.length : Int))), (41, .d (cI.enc (k96 : Int)))] (by kernel_rfl) <|
    xn <| wpC_seq <| reg_s <| st rfl <| mvd rfl rfl <| st rfl <| mvd rfl rfl <| st rfl <| b_eql (k := .i64) rfl rfl <| seqN [(1, .d ((cLs (cXVariable cS cI) rfl).enc v1)), (3, .d ((cLs (cXRecord cI cI (cLs cI rfl)) rfl).enc v3)), (4, .d (cI.enc v4)), (5, .box ((cXGeo (cLs cI rfl)).enc v0)), (7, .box ((cXTable cI (cLs cI rfl) (cLs cI rfl) cI).enc v2)), (12, .d ((cLo cI).enc s95)), (13, .d (cI.enc (k96 : Int))), (39, .d ((cLs (cXRecord cI cI (cLs cI rfl)) rfl).enc v3)), (40, .d (cI.enc (v3.length : Int))), (41, .d (cI.enc (k96 : Int))), (56, .d (cB.enc (decide (x135.1 = v4))))] (by kernel_rfl) <|
    xn <| cnd rfl h (fun b137 h => reg_s <| st rfl <| mvo rfl rfl <| st rfl <| mvd rfl rfl <| x_bsl cI [(k96 : Int)] (t1 (ss rfl rfl) rfl t0) rfl rfl <| lnO_k h fun l138 h => x_app (sr rfl rfl) (to rfl rfl) l138 rfl <| x_asg (so rfl rfl) <| seqN [(1, .d ((cLs (cXVariable cS cI) rfl).enc v1)), (3, .d ((cLs (cXRecord cI cI (cLs cI rfl)) rfl).enc v3)), (4, .d (cI.enc v4)), (5, .box ((cXGeo (cLs cI rfl)).enc v0)), (7, .box ((cXTable cI (cLs cI rfl) (cLs cI rfl) cI).enc v2)), (12, .d ((cLo cI).enc (s95 ++ [(k96 : Int)]))), (39, .d ((cLs (cXRecord cI cI (cLs cI rfl)) rfl).enc v3)), (40, .d (cI.enc (v3.length : Int))), (41, .d (cI.enc (k96 : Int)))] (by kernel_rfl) <|
    xbb <| kpN [(1, .d ((cLs (cXVariable cS cI) rfl).enc v1)), (3, .d ((cLs (cXRecord cI cI (cLs cI rfl)) rfl).enc v3)), (4, .d (cI.enc v4)), (5, .box ((cXGeo (cLs cI rfl)).enc v0)), (7, .box ((cXTable cI (cLs cI rfl) (cLs cI rfl) cI).enc v2)), (12, .d ((cLo cI).enc (s95 ++ [(k96 : Int)]))), (39, .d ((cLs (cXRecord cI cI (cLs cI rfl)) rfl).enc v3)), (40, .d (cI.enc (v3.length : Int))), (41, .d (cI.enc (k96 : Int)))] (by kernel_rfl) <| xn <| reg_s <| st rfl <| b_inc rfl rfl l94 hk98 <| st rfl <| mvd rfl rfl <| seqN [(1, .d ((cLs (cXVariable cS cI) rfl).enc v1)), (3, .d ((cLs (cXRecord cI cI (cLs cI rfl)) rfl).enc v3)), (4, .d (cI.enc v4)), (5, .box ((cXGeo (cLs cI rfl)).enc v0)), (7, .box ((cXTable cI (cLs cI rfl) (cLs cI rfl) cI).enc v2)), (12, .d ((cLo cI).enc (s95 ++ [(k96 : Int)]))), (39, .d ((cLs (cXRecord cI cI (cLs cI rfl)) rfl).enc v3)), (40, .d (cI.enc (v3.length : Int))), (41, .d (cI.enc ((k96 + 1 : Nat) : Int)))] (by kernel_rfl) <|
    xn <| hn125 (s95 ++ [(k96 : Int)]) h)
    (fun b137 h => wpC_skip <| xbb <| kpN [(1, .d ((cLs (cXVariable cS cI) rfl).enc v1)), (3, .d ((cLs (cXRecord cI cI (cLs cI rfl)) rfl).enc v3)), (4, .d (cI.enc v4)), (5, .box ((cXGeo (cLs cI rfl)).enc v0)), (7, .box ((cXTable cI (cLs cI rfl) (cLs cI rfl) cI).enc v2)), (12, .d ((cLo cI).enc s95)), (39, .d ((cLs (cXRecord cI cI (cLs cI rfl)) rfl).enc v3)), (40, .d (cI.enc (v3.length : Int))), (41, .d (cI.enc (k96 : Int)))] (by kernel_rfl) <| xn <| reg_s <| st rfl <| b_inc rfl rfl l94 hk98 <| st rfl <| mvd rfl rfl <| seqN [(1, .d ((cLs (cXVariable cS cI) rfl).enc v1)), (3, .d ((cLs (cXRecord cI cI (cLs cI rfl)) rfl).enc v3)), (4, .d (cI.enc v4)), (5, .box ((cXGeo (cLs cI rfl)).enc v0)), (7, .box ((cXTable cI (cLs cI rfl) (cLs cI rfl) cI).enc v2)), (12, .d ((cLo cI).enc s95)), (39, .d ((cLs (cXRecord cI cI (cLs cI rfl)) rfl).enc v3)), (40, .d (cI.enc (v3.length : Int))), (41, .d (cI.enc ((k96 + 1 : Nat) : Int)))] (by kernel_rfl) <|
    xn <| hn125 s95 h)))))

def rs_impl_isData (r : Bool) : List D := [cB.enc r]
def m131 : MC := .seq (.reg [⟨some 4, .asg (.c (.bool false)), none⟩] [0, 1])
  (.seq (.kp [0, 1] (.seq (.reg [⟨some 7, .mv (.t 1), none⟩,
    ⟨some 8, .len false (.t 7), none⟩,
    ⟨some 9, .bin .gtr (.t 8) (.c (.int .i64 40)), none⟩] [0, 1, 9])
  (.cond (.t 9) (.seq (.reg [⟨some 4, .asg (.c (.bool false)), none⟩] [4])
  (.ret)) (.skip))))
  (.seq (.kp [] (.seq (.reg [⟨some 10, .mv (.t 1), none⟩,
    ⟨some 11, .len false (.t 10), none⟩,
    ⟨some 12, .mv (.c (.int .i64 0)), none⟩] [0, 1, 10, 11, 12])
  (.blk 0 (.loop (.seq (.reg [⟨some 13, .bin .lss (.t 12) (.t 11), none⟩] [0, 1, 10, 11, 12, 13])
  (.seq (.kp [0, 1, 10, 11, 12] (.cond (.t 13) (.skip) (.exit 0)))
  (.seq (.kp [0, 1, 10, 11, 12] (.blk 1 (.seq (.reg [⟨some 14, .ia 10 (.t 12) 3, none⟩,
    ⟨some 15, .ld 14 3 true, none⟩,
    ⟨some 6, .alloc (.agg [.int .i64 0, .int .i64 0, .slice true []]), none⟩,
    ⟨none, .st 6 (.t 15) 3, none⟩] [0, 1, 6, 10, 11, 12])
  (.seq (.reg [⟨some 16, .mv (.t 0), none⟩,
    ⟨some 17, .ld 6 3 true, none⟩,
    ⟨some 18, .call 69 [(.t 16), (.t 17)], none⟩,
    ⟨some 19, .nt (.t 18), none⟩] [0, 1, 10, 11, 12, 19])
  (.cond (.t 19) (.seq (.reg [⟨some 4, .asg (.c (.bool false)), none⟩] [4])
  (.ret)) (.skip))))))
  (.reg [⟨some 20, .bin .add (.t 12) (.c (.int .i64 1)), none⟩,
    ⟨some 12, .mv (.t 20), none⟩] [0, 1, 10, 11, 12]))))))))
  (.seq (.reg [⟨some 4, .asg (.c (.bool true)), none⟩] [4])
  (.ret))))
theorem con_impl_isData {v0 : (List XVariable)} {v1 : (List XRecord)} {r : Bool} (h : sh_impl_isData v0 v1 = some r) : Con Try.prog 131 [(cLs (cXVariable cS cI) rfl).enc v0, (cLs (cXRecord cI cI (cLs cI rfl)) rfl).enc v1] [] (rs_impl_isData r) := by
  delta sh_impl_isData at h
  refine top (out := none) (f := Try.f131) (m := m131) (rs := [.t 4]) (by kernel_rfl) rfl (by kernel_rfl) (by kernel_rfl) (by kernel_rfl) (by kernel_rfl) (by kernel_rfl) ?_
  exact
   ini [(0, .d ((cLs (cXVariable cS cI) rfl).enc v0)), (1, .d ((cLs (cXRecord cI cI (cLs cI rfl)) rfl).enc v1))] rfl <| wpC_seq <| reg_s <| x_asg (sc cB false rfl) <| seqN [(0, .d ((cLs (cXVariable cS cI) rfl).enc v0)), (1, .d ((cLs (cXRecord cI cI (cLs cI rfl)) rfl).enc v1))] (by kernel_rfl) <|
    xn <| wpC_seq <| wpC_kp <| wpC_seq <| reg_s <| st rfl <| mvd rfl rfl <| stw rfl <| lens rfl fun l5 => st rfl <| b_gtr (k := .i64) rfl rfl <| seqN [(0, .d ((cLs (cXVariable cS cI) rfl).enc v0)), (1, .d ((cLs (cXRecord cI cI (cLs cI rfl)) rfl).enc v1)), (9, .d (cB.enc (decide ((40 : Int) < (v1.length : Int)))))] (by kernel_rfl) <|
    xn <| cnd rfl h (fun b6 h => wpC_seq <| reg_s <| x_asg (sc cB false rfl) <| seqN [(4, .d (cB.enc false))] (by kernel_rfl) <|
    xn <| wpC_ret <| rt <| rt <| re <| fin h (r1 (ss rfl rfl) <| r0) rfl)
    (fun b6 h => wpC_skip <| kpN [(0, .d ((cLs (cXVariable cS cI) rfl).enc v0)), (1, .d ((cLs (cXRecord cI cI (cLs cI rfl)) rfl).enc v1))] (by kernel_rfl) <| xn <| wpC_seq <| wpC_kp <| wpC_seq <| reg_s <| st rfl <| mvd rfl rfl <| stw rfl <| lens rfl fun l38 => st rfl <| mvc cI (0 : Int) rfl <| seqN [(0, .d ((cLs (cXVariable cS cI) rfl).enc v0)), (1, .d ((cLs (cXRecord cI cI (cLs cI rfl)) rfl).enc v1)), (10, .d ((cLs (cXRecord cI cI (cLs cI rfl)) rfl).enc v1)), (11, .d (cI.enc (v1.length : Int))), (12, .d (cI.enc (0 : Int)))] (by kernel_rfl) <|
    xn <| wpC_blk <| lpR (fun (k40 : Nat) (s39 : Unit) => [(0, .d ((cLs (cXVariable cS cI) rfl).enc v0)), (1, .d ((cLs (cXRecord cI cI (cLs cI rfl)) rfl).enc v1)), (10, .d ((cLs (cXRecord cI cI (cLs cI rfl)) rfl).enc v1)), (11, .d (cI.enc (v1.length : Int))), (12, .d (cI.enc (k40 : Int)))]) () rfl h
    (fun G56 s39 h => wpC_seq <| reg_s <| st rfl <| b_lss (k := .i64) rfl rfl <| seqN [(0, .d ((cLs (cXVariable cS cI) rfl).enc v0)), (1, .d ((cLs (cXRecord cI cI (cLs cI rfl)) rfl).enc v1)), (10, .d ((cLs (cXRecord cI cI (cLs cI rfl)) rfl).enc v1)), (11, .d (cI.enc (v1.length : Int))), (12, .d (cI.enc (v1.length : Int))), (13, .d (cB.enc (decide ((v1.length : Int) < (v1.length : Int)))))] (by kernel_rfl) <|
    xn <| wpC_seq <| wpC_kp <| cnd0 rfl (dlf _) <| wpC_exit <| xt <| xt <| xt <| xb <| kpN [] (by kernel_rfl) <| xn <| wpC_seq <| reg_s <| x_asg (sc cB true rfl) <| seqN [(4, .d (cB.enc true))] (by kernel_rfl) <|
    xn <| wpC_ret <| re <| fin h (r1 (ss rfl rfl) <| r0) rfl)
    (fun G56 nx54 k40 s39 x41 hk42 hx43 hn55 h => wpC_seq <| reg_s <| st rfl <| b_lss (k := .i64) rfl rfl <| seqN [(0, .d ((cLs (cXVariable cS cI) rfl).enc v0)), (1, .d ((cLs (cXRecord cI cI (cLs cI rfl)) rfl).enc v1)), (10, .d ((cLs (cXRecord cI cI (cLs cI rfl)) rfl).enc v1)), (11, .d (cI.enc (v1.length : Int))), (12, .d (cI.enc (k40 : Int))), (13, .d (cB.enc (decide ((k40 : Int) < (v1.length : Int)))))] (by kernel_rfl) <|
    xn <| wpC_seq <| wpC_kp <| cnd1 rfl (dlt hk42) <| wpC_skip <| kpN [(0, .d ((cLs (cXVariable cS cI) rfl).enc v0)), (1, .d ((cLs (cXRecord cI cI (cLs cI rfl)) rfl).enc v1)), (10, .d ((cLs (cXRecord cI cI (cLs cI rfl)) rfl).enc v1)), (11, .d (cI.enc (v1.length : Int))), (12, .d (cI.enc (k40 : Int)))] (by kernel_rfl) <| xn <| wpC_seq <| wpC_kp <| wpC_blk <| wpC_seq <| reg_s <| st rfl <| ias rfl rfl (Int.natCast_nonneg _) hx43 rfl <| st rfl <| ldi rfl rfl rfl rfl <| x_all (cXRecord cI cI (cLo cI)) (⟨(0 : Int), (0 : Int), ([] : List Int)⟩ : XRecord) rfl <| x_stb (ss rfl rfl) rfl (Cd.h_sz _ _) rfl <| seqN [(0, .d ((cLs (cXVariable cS cI) rfl).enc v0)), (1, .d ((cLs (cXRecord cI cI (cLs cI rfl)) rfl).enc v1)), (6, .box ((cXRecord cI cI (cLs cI rfl)).enc x41)), (10, .d ((cLs (cXRecord cI cI (cLs cI rfl)) rfl).enc v1)), (11, .d (cI.enc (v1.length : Int))), (12, .d (cI.enc (k40 : Int)))] (by kernel_rfl) <|
    xn <| wpC_seq <| reg_s <| st rfl <| mvd rfl rfl <| st rfl <| ldb rfl rfl rfl rfl <| bnd h fun x64 e65 h => st rfl <| o_call (a1 (c := (cLs (cXVariable cS cI) rfl)) (tLs (tXVariable tS tK)) rfl (a1 (c := (cXRecord cI cI (cLs cI rfl))) (tXRecord tK tK (tLs tK)) rfl a0)) (con_impl_isRecord e65) (.inl (so1 sB so0)) <| st rfl <| o_nt rfl <| seqN [(0, .d ((cLs (cXVariable cS cI) rfl).enc v0)), (1, .d ((cLs (cXRecord cI cI (cLs cI rfl)) rfl).enc v1)), (10, .d ((cLs (cXRecord cI cI (cLs cI rfl)) rfl).enc v1)), (11, .d (cI.enc (v1.length : Int))), (12, .d (cI.enc (k40 : Int))), (19, .d (cB.enc (!x64)))] (by kernel_rfl) <|
    xn <| cnd rfl h (fun b66 h => wpC_seq <| reg_s <| x_asg (sc cB false rfl) <| seqN [(4, .d (cB.enc false))] (by kernel_rfl) <|
    xn <| wpC_ret <| rb <| rt <| rt <| rt <| rb <| rt <| rt <| re <| fin h (r1 (ss rfl rfl) <| r0) rfl)
    (fun b66 h => wpC_skip <| xbb <| kpN [(0, .d ((cLs (cXVariable cS cI) rfl).enc v0)), (1, .d ((cLs (cXRecord cI cI (cLs cI rfl)) rfl).enc v1)), (10, .d ((cLs (cXRecord cI cI (cLs cI rfl)) rfl).enc v1)), (11, .d (cI.enc (v1.length : Int))), (12, .d (cI.enc (k40 : Int)))] (by kernel_rfl) <| xn <| reg_s <| st rfl <| b_inc rfl rfl l38 hk42 <| st rfl <| mvd rfl rfl <| seqN [(0, .d ((cLs (cXVariable cS cI) rfl).enc v0)), (1, .d ((cLs (cXRecord cI cI (cLs cI rfl)) rfl).enc v1)), (10, .d ((cLs (cXRecord cI cI (cLs cI rfl)) rfl).enc v1)), (11, .d (cI.enc (v1.length : Int))), (12, .d (cI.enc ((k40 + 1 : Nat) : Int)))] (by kernel_rfl) <|
    xn <| hn55 () h)))

def rs_impl_isSurvey (r : Bool) : List D := [cB.enc r]
def m88 : MC := .seq (.reg [⟨some 3, .box (.t 0), none⟩,
    ⟨some 6, .asg (.c (.bool false)), none⟩] [1, 2, 3])
  (.seq (.kp [2, 3] (.seq (.reg [⟨some 9, .mv (.t 1), none⟩,
    ⟨some 10, .mv (.t 2), none⟩,
    ⟨some 11, .call 131 [(.t 9), (.t 10)], none⟩,
    ⟨some 12, .nt (.t 11), none⟩] [2, 3, 12])
  (.cond (.t 12) (.seq (.reg [⟨some 6, .asg (.c (.bool false)), none⟩] [6])
  (.ret)) (.skip))))
  (.seq (.kp [] (.seq (.reg [⟨some 13, .mv (.t 2), none⟩,
    ⟨some 14, .len false (.t 13), none⟩,
    ⟨some 15, .mv (.c (.int .i64 0)), none⟩] [2, 3, 13, 14, 15])
  (.blk 0 (.loop (.seq (.reg [⟨some 16, .bin .lss (.t 15) (.t 14), none⟩] [2, 3, 13, 14, 15, 16])
  (.seq (.kp [2, 3, 13, 14, 15] (.cond (.t 16) (.skip) (.exit 0)))
  (.seq (.kp [2, 3, 13, 14, 15] (.blk 1 (.seq (.reg [⟨some 17, .ia 13 (.t 15) 3, none⟩,
    ⟨some 18, .ld 17 3 true, none⟩,
    ⟨some 8, .alloc (.agg [.int .i64 0, .int .i64 0, .slice true []]), none⟩,
    ⟨none, .st 8 (.t 18) 3, none⟩] [2, 3, 8, 13, 14, 15])
  (.seq (.reg [⟨some 19, .ld 3 1 true, none⟩,
    ⟨some 20, .fa 8 0 0, none⟩,
    ⟨some 21, .ld 20 1 false, none⟩,
    ⟨some 22, .call 70 [(.t 19), (.t 21)], none⟩,
    ⟨some 23, .nt (.t 22), none⟩,
    ⟨some 24, .mv (.t 23), none⟩,
    ⟨some 25, .ld 3 1 true, some (24, false)⟩,
    ⟨some 26, .fa 8 0 0, some (24, false)⟩,
    ⟨some 27, .ld 26 1 false, some (24, false)⟩,
    ⟨some 28, .call 71 [(.t 25), (.t 27)], some (24, false)⟩,
    ⟨some 29, .nt (.t 28), some (24, false)⟩,
    ⟨some 30, .pick (.t 24) (.c (.bool true)) (.t 29), none⟩] [2, 3, 13, 14, 15, 30])
  (.cond (.t 30) (.seq (.reg [⟨some 6, .asg (.c (.bool false)), none⟩] [6])
  (.ret)) (.skip))))))
  (.reg [⟨some 31, .bin .add (.t 15) (.c (.int .i64 1)), none⟩,
    ⟨some 15, .mv (.t 31), none⟩] [2, 3, 13, 14, 15]))))))))
  (.seq (.reg [⟨some 6, .asg (.c (.bool true)), none⟩] [6])
  (.ret))))
theorem con_impl_isSurvey {v0 : XGeo} {v1 : (List XVariable)} {v2 : (List XRecord)} {r : Bool} (h : sh_impl_isSurvey v0 v1 v2 = some r) : Con Try.prog 88 [(cXGeo (cLs cI rfl)).enc v0, (cLs (cXVariable cS cI) rfl).enc v1, (cLs (cXRecord cI cI (cLs cI rfl)) rfl).enc v2] [] (rs_impl_isSurvey r) := by
  delta sh_impl_isSurvey at h
  refine top (out := none) (f := Try.f88) (m := m88) (rs := [.t 6]) (by kernel_rfl) rfl (by kernel_rfl) (by kernel_rfl) (by kernel_rfl) (by kernel_rfl) (by kernel_rfl) ?_
  exact
   ini [(0, .d ((cXGeo (cLs cI rfl)).enc v0)), (1, .d ((cLs (cXVariable cS cI) rfl).enc v1)), (2, .d ((cLs (cXRecord cI cI (cLs cI rfl)) rfl).enc v2))] rfl <| wpC_seq <| reg_s <| x_box (ss rfl rfl) <| x_asg (sc cB false rfl) <| seqN [(1, .d ((cLs (cXVariable cS cI) rfl).enc v1)), (2, .d ((cLs (cXRecord cI cI (cLs cI rfl)) rfl).enc v2)), (3, .box ((cXGeo (cLs cI rfl)).enc v0))] (by kernel_rfl) <|
    xn <| wpC_seq <| wpC_kp <| wpC_seq <| reg_s <| st rfl <| mvd rfl rfl <| st rfl <| mvd rfl rfl <| bnd h fun x8 e9 h => st rfl <| o_call (a1 (c := (cLs (cXVariable cS cI) rfl)) (tLs (tXVariable tS tK)) rfl (a1 (c := (cLs (cXRecord cI cI (cLs cI rfl)) rfl)) (tLs (tXRecord tK tK (tLs tK))) rfl a0)) (con_impl_isData e9) (.inl (so1 sB so0)) <| st rfl <| o_nt rfl <| seqN [(2, .d ((cLs (cXRecord cI cI (cLs cI rfl)) rfl).enc v2)), (3, .box ((cXGeo (cLs cI rfl)).enc v0)), (12, .d (cB.enc (!x8)))] (by kernel_rfl) <|
    xn <| cnd rfl h (fun b10 h => wpC_seq <| reg_s <| x_asg (sc cB false rfl) <| seqN [(6, .d (cB.enc false))] (by kernel_rfl) <|
    xn <| wpC_ret <| rt <| rt <| re <| fin h (r1 (ss rfl rfl) <| r0) rfl)
    (fun b10 h => wpC_skip <| kpN [(2, .d ((cLs (cXRecord cI cI (cLs cI rfl)) rfl).enc v2)), (3, .box ((cXGeo (cLs cI rfl)).enc v0))] (by kernel_rfl) <| xn <| wpC_seq <| wpC_kp <| wpC_seq <| reg_s <| st rfl <| mvd rfl rfl <| stw rfl <| lens rfl fun l66 => st rfl <| mvc cI (0 : Int) rfl <| seqN [(2, .d ((cLs (cXRecord cI cI (cLs cI rfl)) rfl).enc v2)), (3, .box ((cXGeo (cLs cI rfl)).enc v0)), (13, .d ((cLs (cXRecord cI cI (cLs cI rfl)) rfl).enc v2)), (14, .d (cI.enc (v2.length : Int))), (15, .d (cI.enc (0 : Int)))] (by kernel_rfl) <|
    xn <| wpC_blk <| lpR (fun (k68 : Nat) (s67 : Unit) => [(2, .d ((cLs (cXRecord cI cI (cLs cI rfl)) rfl).enc v2)), (3, .box ((cXGeo (cLs cI rfl)).enc v0)), (13, .d ((cLs (cXRecord cI cI (cLs cI rfl)) rfl).enc v2)), (14, .d (cI.enc (v2.length : Int))), (15, .d (cI.enc (k68 : Int)))]) () rfl h
    (fun G96 s67 h => wpC_seq <| reg_s <| st rfl <| b_lss (k := .i64) rfl rfl <| seqN [(2, .d ((cLs (cXRecord cI cI (cLs cI rfl)) rfl).enc v2)), (3, .box ((cXGeo (cLs cI rfl)).enc v0)), (13, .d ((cLs (cXRecord cI cI (cLs cI rfl)) rfl).enc v2)), (14, .d (cI.enc (v2.length : Int))), (15, .d (cI.enc (v2.length : Int))), (16, .d (cB.enc (decide ((v2.length : Int) < (v2.length : Int)))))] (by kernel_rfl) <|
    xn <| wpC_seq <| wpC_kp <| cnd0 rfl (dlf _) <| wpC_exit <| xt <| xt <| xt <| xb <| kpN [] (by kernel_rfl) <| xn <| wpC_seq <| reg_s <| x_asg (sc cB true rfl) <| seqN [(6, .d (cB.enc true))] (by kernel_rfl) <|
    xn <| wpC_ret <| re <| fin h (r1 (ss rfl rfl) <| r0) rfl)
    (fun G96 nx94 k68 s67 x69 hk70 hx71 hn95 h => wpC_seq <| reg_s <| st rfl <| b_lss (k := .i64) rfl rfl <| seqN [(2, .d ((cLs (cXRecord cI cI (cLs cI rfl)) rfl).enc v2)), (3, .box ((cXGeo (cLs cI rfl)).enc v0)), (13, .d ((cLs (cXRecord cI cI (cLs cI rfl)) rfl).enc v2)), (14, .d (cI.enc (v2.length : Int))), (15, .d (cI.enc (k68 : Int))), (16, .d (cB.enc (decide ((k68 : Int) < (v2.length : Int)))))] (by kernel_rfl) <|
    xn <| wpC_seq <| wpC_kp <| cnd1 rfl (dlt hk70) <| wpC_skip <| kpN [(2, .d ((cLs (cXRecord cI cI (cLs cI rfl)) rfl).enc v2)), (3, .box ((cXGeo (cLs cI rfl)).enc v0)), (13, .d ((cLs (cXRecord cI cI (cLs cI rfl)) rfl).enc v2)), (14, .d (cI.enc (v2.length : Int))), (15, .d (cI.enc (k68 : Int)))] (by kernel_rfl) <| xn <| wpC_seq <| wpC_kp <| wpC_blk <| wpC_seq <| reg_s <| st rfl <| ias rfl rfl (Int.natCast_nonneg _) hx71 rfl <| st rfl <| ldi rfl rfl rfl rfl <| x_all (cXRecord cI cI (cLo cI)) (⟨(0 : Int), (0 : Int), ([] : List Int)⟩ : XRecord) rfl <| x_stb (ss rfl rfl) rfl (Cd.h_sz _ _) rfl <| seqN [(2, .d ((cLs (cXRecord cI cI (cLs cI rfl)) rfl).enc v2)), (3, .box ((cXGeo (cLs cI rfl)).enc v0)), (8, .box ((cXRecord cI cI (cLs cI rfl)).enc x69)), (13, .d ((cLs (cXRecord cI cI (cLs cI rfl)) rfl).enc v2)), (14, .d (cI.enc (v2.length : Int))), (15, .d (cI.enc (k68 : Int)))] (by kernel_rfl) <|
    xn <| wpC_seq <| reg_s <| st rfl <| ldb rfl rfl rfl rfl <| st rfl <| fab rfl rfl rfl rfl <| st rfl <| lda rfl rfl rfl rfl rfl rfl <| bnd h fun x113 e114 h => st rfl <| o_call (a1 (c := (cXGeo (cLs cI rfl))) (tXGeo (tLs tK)) rfl (a1 (c := cI) tK rfl a0)) (con_impl_isArea e114) (.inl (so1 sB so0)) <| st rfl <| o_nt rfl <| st rfl <| mvd rfl rfl <| ite_k h (fun b115 h => gf rfl b115 <| gf rfl b115 <| gf rfl b115 <| gf rfl b115 <| gf rfl b115 <| st rfl <| pick1 rfl b115 (cd := cB) (v := true) rfl rfl <| seqN [(2, .d ((cLs (cXRecord cI cI (cLs cI rfl)) rfl).enc v2)), (3, .box ((cXGeo (cLs cI rfl)).enc v0)), (13, .d ((cLs (cXRecord cI cI (cLs cI rfl)) rfl).enc v2)), (14, .d (cI.enc (v2.length : Int))), (15, .d (cI.enc (k68 : Int))), (30, .d (cB.enc true))] (by kernel_rfl) <|
    xn <| cnd1 rfl rfl <| wpC_seq <| reg_s <| x_asg (sc cB false rfl) <| seqN [(6, .d (cB.enc false))] (by kernel_rfl) <|
    xn <| wpC_ret <| rb <| rt <| rt <| rt <| rb <| rt <| rt <| re <| fin h (r1 (ss rfl rfl) <| r0) rfl)
    (fun b115 h => gt' rfl b115 <| st rfl <| ldb rfl rfl rfl rfl <| gt' rfl b115 <| st rfl <| fab rfl rfl rfl rfl <| gt' rfl b115 <| st rfl <| lda rfl rfl rfl rfl rfl rfl <| gt' rfl b115 <| bnd h fun x116 e117 h => st rfl <| o_call (a1 (c := (cXGeo (cLs cI rfl))) (tXGeo (tLs tK)) rfl (a1 (c := cI) tK rfl a0)) (con_impl_isLeaf e117) (.inl (so1 sB so0)) <| gt' rfl b115 <| st rfl <| o_nt rfl <| st rfl <| pick0 rfl b115 (cd := cB) (v := (!x116)) rfl rfl <| seqN [(2, .d ((cLs (cXRecord cI cI (cLs cI rfl)) rfl).enc v2)), (3, .box ((cXGeo (cLs cI rfl)).enc v0)), (13, .d ((cLs (cXRecord cI cI (cLs cI rfl)) rfl).enc v2)), (14, .d (cI.enc (v2.length : Int))), (15, .d (cI.enc (k68 : Int))), (30, .d (cB.enc (!x116)))] (by kernel_rfl) <|
    xn <| cnd rfl h (fun b118 h => wpC_seq <| reg_s <| x_asg (sc cB false rfl) <| seqN [(6, .d (cB.enc false))] (by kernel_rfl) <|
    xn <| wpC_ret <| rb <| rt <| rt <| rt <| rb <| rt <| rt <| re <| fin h (r1 (ss rfl rfl) <| r0) rfl)
    (fun b118 h => wpC_skip <| xbb <| kpN [(2, .d ((cLs (cXRecord cI cI (cLs cI rfl)) rfl).enc v2)), (3, .box ((cXGeo (cLs cI rfl)).enc v0)), (13, .d ((cLs (cXRecord cI cI (cLs cI rfl)) rfl).enc v2)), (14, .d (cI.enc (v2.length : Int))), (15, .d (cI.enc (k68 : Int)))] (by kernel_rfl) <| xn <| reg_s <| st rfl <| b_inc rfl rfl l66 hk70 <| st rfl <| mvd rfl rfl <| seqN [(2, .d ((cLs (cXRecord cI cI (cLs cI rfl)) rfl).enc v2)), (3, .box ((cXGeo (cLs cI rfl)).enc v0)), (13, .d ((cLs (cXRecord cI cI (cLs cI rfl)) rfl).enc v2)), (14, .d (cI.enc (v2.length : Int))), (15, .d (cI.enc ((k68 + 1 : Nat) : Int)))] (by kernel_rfl) <|
    xn <| hn95 () h))))

def rs_impl_RecordsIn (r : ((List Int) × Bool)) : List D := [(cLo cI).enc r.1, cB.enc r.2]
def m47 : MC := .seq (.reg [⟨some 5, .box (.t 0), none⟩,
    ⟨some 7, .box (.t 2), none⟩,
    ⟨some 10, .asg (.c (.slice true [])), none⟩,
    ⟨some 11, .asg (.c (.bool false)), none⟩] [1, 3, 4, 5, 7])
  (.seq (.kp [1, 3, 4, 5, 7] (.seq (.reg [⟨some 17, .ld 5 1 true, none⟩,
    ⟨some 18, .mv (.t 1), none⟩,
    ⟨some 19, .ld 7 4 true, none⟩,
    ⟨some 20, .call 68 [(.t 17), (.t 18), (.t 19)], none⟩,
    ⟨some 21, .nt (.t 20), none⟩,
    ⟨some 22, .mv (.t 21), none⟩,
    ⟨some 23, .ld 5 1 true, some (22, false)⟩,
    ⟨some 24, .mv (.t 1), some (22, false)⟩,
    ⟨some 25, .mv (.t 3), some (22, false)⟩,
    ⟨some 26, .call 88 [(.t 23), (.t 24), (.t 25)], some (22, false)⟩,
    ⟨some 27, .nt (.t 26), some (22, false)⟩,
    ⟨some 28, .pick (.t 22) (.c (.bool true)) (.t 27), none⟩,
    ⟨some 29, .mv (.t 28), none⟩,
    ⟨some 30, .mv (.t 4), some (29, false)⟩,
    ⟨some 31, .bin .lss (.t 30) (.c (.int .i64 0)), some (29, false)⟩,
    ⟨some 32, .pick (.t 29) (.c (.bool true)) (.t 31), none⟩,
    ⟨some 33, .mv (.t 32), none⟩,
    ⟨some 34, .mv (.t 4), some (33, false)⟩,
    ⟨some 35, .ld 5 1 true, some (33, false)⟩,
    ⟨some 36, .mv (.t 1), some (33, false)⟩,
    ⟨some 37, .ld 7 4 true, some (33, false)⟩,
    ⟨some 38, .call 89 [(.t 35), (.t 36), (.t 37)], some (33, false)⟩,
    ⟨some 39, .bin .geq (.t 34) (.t 38), some (33, false)⟩,
    ⟨some 40, .pick (.t 33) (.c (.bool true)) (.t 39), none⟩] [1, 3, 4, 5, 7, 40])
  (.cond (.t 40) (.seq (.reg [⟨some 10, .asg (.c (.slice true [])), none⟩,
    ⟨some 11, .asg (.c (.bool false)), none⟩] [10, 11])
  (.ret)) (.skip))))
  (.seq (.reg [⟨some 12, .asg (.c (.slice true [])), none⟩] [1, 3, 4, 5, 7, 12])
  (.seq (.kp [12] (.seq (.reg [⟨some 41, .mv (.t 3), none⟩,
    ⟨some 42, .len false (.t 41), none⟩,
    ⟨some 43, .mv (.c (.int .i64 0)), none⟩] [1, 3, 4, 5, 7, 12, 41, 42, 43])
  (.blk 0 (.loop (.seq (.reg [⟨some 44, .bin .lss (.t 43) (.t 42), none⟩] [1, 3, 4, 5, 7, 12, 41, 42, 43, 44])
  (.seq (.kp [1, 3, 4, 5, 7, 12, 41, 42, 43] (.cond (.t 44) (.skip) (.exit 0)))
  (.seq (.kp [1, 3, 4, 5, 7, 12, 41, 42, 43] (.blk 1 (.seq (.reg [⟨some 45, .mv (.t 43), none⟩,
    ⟨some 46, .ia 41 (.t 43) 3, none⟩,
    ⟨some 47, .ld 46 3 true, none⟩,
    ⟨some 14, .alloc (.agg [.int .i64 0, .int .i64 0, .slice true []]), none⟩,
    ⟨some 13, .asg (.t 45), none⟩,
    ⟨none, .st 14 (.t 47) 3, none⟩] [1, 3, 4, 5, 7, 12, 13, 14, 41, 42, 43])
  (.seq (.reg [⟨some 49, .ld 5 1 true, none⟩,
    ⟨some 50, .mv (.t 1), none⟩,
    ⟨some 51, .ld 7 4 true, none⟩,
    ⟨some 52, .ld 14 3 true, none⟩,
    ⟨some 53, .call 72 [(.t 49), (.t 50), (.t 51), (.t 52)], none⟩,
    ⟨some 48, .mvt 53, none⟩,
    ⟨some 54, .ext 48 0, none⟩,
    ⟨some 55, .ext 48 1, none⟩,
    ⟨some 15, .asg (.t 54), none⟩,
    ⟨some 16, .asg (.t 55), none⟩] [1, 3, 4, 5, 7, 12, 13, 15, 41, 42, 43])
  (.seq (.reg [⟨some 56, .mv (.t 15), none⟩,
    ⟨some 57, .mv (.t 4), none⟩,
    ⟨some 58, .bin .eql (.t 56) (.t 57), none⟩] [1, 3, 4, 5, 7, 12, 13, 41, 42, 43, 58])
  (.cond (.t 58) (.reg [⟨some 59, .mv (.t 12), none⟩,
    ⟨some 60, .mv (.t 13), none⟩,
    ⟨some 61, .bsl [(.t 60)] 1, none⟩,
    ⟨some 62, .app (.t 59) (.t 61) 1, none⟩,
    ⟨some 12, .asg (.t 62), none⟩] [1, 3, 4, 5, 7, 12, 41, 42, 43]) (.skip)))))))
  (.reg [⟨some 63, .bin .add (.t 43) (.c (.int .i64 1)), none⟩,
    ⟨some 43, .mv (.t 63), none⟩] [1, 3, 4, 5, 7, 12, 41, 42, 43]))))))))
  (.seq (.reg [⟨some 64, .mv (.t 12), none⟩,
    ⟨some 10, .asg (.t 64), none⟩,
    ⟨some 11, .asg (.c (.bool true)), none⟩] [10, 11])
  (.ret)))))
theorem con_impl_RecordsIn {v0 : XGeo} {v1 : (List XVariable)} {v2 : XTable} {v3 : (List XRecord)} {v4 : Int} {r : ((List Int) × Bool)} (h : sh_impl_RecordsIn v0 v1 v2 v3 v4 = some r) : Con Try.prog 47 [(cXGeo (cLs cI rfl)).enc v0, (cLs (cXVariable cS cI) rfl).enc v1, (cXTable cI (cLs cI rfl) (cLs cI rfl) cI).enc v2, (cLs (cXRecord cI cI (cLs cI rfl)) rfl).enc v3, cI.enc v4] [] (rs_impl_RecordsIn r) := by
  delta sh_impl_RecordsIn at h
  refine top (out := none) (f := Try.f47) (m := m47) (rs := [.t 10, .t 11]) (by kernel_rfl) rfl (by kernel_rfl) (by kernel_rfl) (by kernel_rfl) (by kernel_rfl) (by kernel_rfl) ?_
  exact
   ini [(0, .d ((cXGeo (cLs cI rfl)).enc v0)), (1, .d ((cLs (cXVariable cS cI) rfl).enc v1)), (2, .d ((cXTable cI (cLs cI rfl) (cLs cI rfl) cI).enc v2)), (3, .d ((cLs (cXRecord cI cI (cLs cI rfl)) rfl).enc v3)), (4, .d (cI.enc v4))] rfl <| wpC_seq <| reg_s <| x_box (ss rfl rfl) <| x_box (ss rfl rfl) <| x_asg (sc (cLo cI) ([] : List Int) rfl) <| x_asg (sc cB false rfl) <| seqN [(1, .d ((cLs (cXVariable cS cI) rfl).enc v1)), (3, .d ((cLs (cXRecord cI cI (cLs cI rfl)) rfl).enc v3)), (4, .d (cI.enc v4)), (5, .box ((cXGeo (cLs cI rfl)).enc v0)), (7, .box ((cXTable cI (cLs cI rfl) (cLs cI rfl) cI).enc v2))] (by kernel_rfl) <|
    xn <| wpC_seq <| wpC_kp <| wpC_seq <| jw (fun (s31 : Bool) => [(1, .d ((cLs (cXVariable cS cI) rfl).enc v1)), (3, .d ((cLs (cXRecord cI cI (cLs cI rfl)) rfl).enc v3)), (4, .d (cI.enc v4)), (5, .box ((cXGeo (cLs cI rfl)).enc v0)), (7, .box ((cXTable cI (cLs cI rfl) (cLs cI rfl) cI).enc v2)), (40, .d (cB.enc s31))]) h (fun s31 h => xn <| cnd rfl h (fun b33 h => wpC_seq <| reg_s <| x_asg (sc (cLo cI) ([] : List Int) rfl) <| x_asg (sc cB false rfl) <| seqN [(10, .d ((cLo cI).enc ([] : List Int))), (11, .d (cB.enc false))] (by kernel_rfl) <|
    xn <| wpC_ret <| rt <| rt <| re <| fin h (r1 (so rfl rfl) <| r1 (ss rfl rfl) <| r0) rfl)
    (fun b33 h => wpC_skip <| kpN [(1, .d ((cLs (cXVariable cS cI) rfl).enc v1)), (3, .d ((cLs (cXRecord cI cI (cLs cI rfl)) rfl).enc v3)), (4, .d (cI.enc v4)), (5, .box ((cXGeo (cLs cI rfl)).enc v0)), (7, .box ((cXTable cI (cLs cI rfl) (cLs cI rfl) cI).enc v2))] (by kernel_rfl) <| xn <| wpC_seq <| reg_s <| x_asg (sc (cLo cI) ([] : List Int) rfl) <| seqN [(1, .d ((cLs (cXVariable cS cI) rfl).enc v1)), (3, .d ((cLs (cXRecord cI cI (cLs cI rfl)) rfl).enc v3)), (4, .d (cI.enc v4)), (5, .box ((cXGeo (cLs cI rfl)).enc v0)), (7, .box ((cXTable cI (cLs cI rfl) (cLs cI rfl) cI).enc v2)), (12, .d ((cLo cI).enc ([] : List Int)))] (by kernel_rfl) <|
    xn <| wpC_seq <| wpC_kp <| wpC_seq <| reg_s <| st rfl <| mvd rfl rfl <| stw rfl <| lens rfl fun l81 => st rfl <| mvc cI (0 : Int) rfl <| seqN [(1, .d ((cLs (cXVariable cS cI) rfl).enc v1)), (3, .d ((cLs (cXRecord cI cI (cLs cI rfl)) rfl).enc v3)), (4, .d (cI.enc v4)), (5, .box ((cXGeo (cLs cI rfl)).enc v0)), (7, .box ((cXTable cI (cLs cI rfl) (cLs cI rfl) cI).enc v2)), (12, .d ((cLo cI).enc ([] : List Int))), (41, .d ((cLs (cXRecord cI cI (cLs cI rfl)) rfl).enc v3)), (42, .d (cI.enc (v3.length : Int))), (43, .d (cI.enc (0 : Int)))] (by kernel_rfl) <|
    xn <| wpC_blk <| lpR (fun (k83 : Nat) (s82 : (List Int)) => [(1, .d ((cLs (cXVariable cS cI) rfl).enc v1)), (3, .d ((cLs (cXRecord cI cI (cLs cI rfl)) rfl).enc v3)), (4, .d (cI.enc v4)), (5, .box ((cXGeo (cLs cI rfl)).enc v0)), (7, .box ((cXTable cI (cLs cI rfl) (cLs cI rfl) cI).enc v2)), (12, .d ((cLo cI).enc s82)), (41, .d ((cLs (cXRecord cI cI (cLs cI rfl)) rfl).enc v3)), (42, .d (cI.enc (v3.length : Int))), (43, .d (cI.enc (k83 : Int)))]) ([] : List Int) rfl h
    (fun G113 s82 h => wpC_seq <| reg_s <| st rfl <| b_lss (k := .i64) rfl rfl <| seqN [(1, .d ((cLs (cXVariable cS cI) rfl).enc v1)), (3, .d ((cLs (cXRecord cI cI (cLs cI rfl)) rfl).enc v3)), (4, .d (cI.enc v4)), (5, .box ((cXGeo (cLs cI rfl)).enc v0)), (7, .box ((cXTable cI (cLs cI rfl) (cLs cI rfl) cI).enc v2)), (12, .d ((cLo cI).enc s82)), (41, .d ((cLs (cXRecord cI cI (cLs cI rfl)) rfl).enc v3)), (42, .d (cI.enc (v3.length : Int))), (43, .d (cI.enc (v3.length : Int))), (44, .d (cB.enc (decide ((v3.length : Int) < (v3.length : Int)))))] (by kernel_rfl) <|
    xn <| wpC_seq <| wpC_kp <| cnd0 rfl (dlf _) <| wpC_exit <| xt <| xt <| xt <| xb <| kpN [(12, .d ((cLo cI).enc s82))] (by kernel_rfl) <| xn <| wpC_seq <| reg_s <| st rfl <| mvo rfl rfl <| x_asg (sr rfl rfl) <| x_asg (sc cB true rfl) <| seqN [(10, .d ((cLo cI).enc s82)), (11, .d (cB.enc true))] (by kernel_rfl) <|
    xn <| wpC_ret <| re <| fin h (r1 (so rfl rfl) <| r1 (ss rfl rfl) <| r0) rfl)
    (fun G113 nx111 k83 s82 x84 hk85 hx86 hn112 h => wpC_seq <| reg_s <| st rfl <| b_lss (k := .i64) rfl rfl <| seqN [(1, .d ((cLs (cXVariable cS cI) rfl).enc v1)), (3, .d ((cLs (cXRecord cI cI (cLs cI rfl)) rfl).enc v3)), (4, .d (cI.enc v4)), (5, .box ((cXGeo (cLs cI rfl)).enc v0)), (7, .box ((cXTable cI (cLs cI rfl) (cLs cI rfl) cI).enc v2)), (12, .d ((cLo cI).enc s82)), (41, .d ((cLs (cXRecord cI cI (cLs cI rfl)) rfl).enc v3)), (42, .d (cI.enc (v3.length : Int))), (43, .d (cI.enc (k83 : Int))), (44, .d (cB.enc (decide ((k83 : Int) < (v3.length : Int)))))] (by kernel_rfl) <|
    xn <| wpC_seq <| wpC_kp <| cnd1 rfl (dlt hk85) <| wpC_skip <| kpN [(1, .d ((cLs (cXVariable cS cI) rfl).enc v1)), (3, .d ((cLs (cXRecord cI cI (cLs cI rfl)) rfl).enc v3)), (4, .d (cI.enc v4)), (5, .box ((cXGeo (cLs cI rfl)).enc v0)), (7, .box ((cXTable cI (cLs cI rfl) (cLs cI rfl) cI).enc v2)), (12, .d ((cLo cI).enc s82)), (41, .d ((cLs (cXRecord cI cI (cLs cI rfl)) rfl).enc v3)), (42, .d (cI.enc (v3.length : Int))), (43, .d (cI.enc (k83 : Int)))] (by kernel_rfl) <| xn <| wpC_seq <| wpC_kp <| wpC_blk <| wpC_seq <| reg_s <| st rfl <| mvd rfl rfl <| st rfl <| ias rfl rfl (Int.natCast_nonneg _) hx86 rfl <| st rfl <| ldi rfl rfl rfl rfl <| x_all (cXRecord cI cI (cLo cI)) (⟨(0 : Int), (0 : Int), ([] : List Int)⟩ : XRecord) rfl <| x_asg (ss rfl rfl) <| x_stb (ss rfl rfl) rfl (Cd.h_sz _ _) rfl <| seqN [(1, .d ((cLs (cXVariable cS cI) rfl).enc v1)), (3, .d ((cLs (cXRecord cI cI (cLs cI rfl)) rfl).enc v3)), (4, .d (cI.enc v4)), (5, .box ((cXGeo (cLs cI rfl)).enc v0)), (7, .box ((cXTable cI (cLs cI rfl) (cLs cI rfl) cI).enc v2)), (12, .d ((cLo cI).enc s82)), (13, .d (cI.enc (k83 : Int))), (14, .box ((cXRecord cI cI (cLs cI rfl)).enc x84)), (41, .d ((cLs (cXRecord cI cI (cLs cI rfl)) rfl).enc v3)), (42, .d (cI.enc (v3.length : Int))), (43, .d (cI.enc (k83 : Int)))] (by kernel_rfl) <|
    xn <| wpC_seq <| reg_s <| st rfl <| ldb rfl rfl rfl rfl <| st rfl <| mvd rfl rfl <| st rfl <| ldb rfl rfl rfl rfl <| st rfl <| ldb rfl rfl rfl rfl <| bnd h fun x122 e123 h => st rfl <| o_call (a1 (c := (cXGeo (cLs cI rfl))) (tXGeo (tLs tK)) rfl (a1 (c := (cLs (cXVariable cS cI) rfl)) (tLs (tXVariable tS tK)) rfl (a1 (c := (cXTable cI (cLs cI rfl) (cLs cI rfl) cI)) (tXTable tK (tLs tK) (tLs tK) tK) rfl (a1 (c := (cXRecord cI cI (cLs cI rfl))) (tXRecord tK tK (tLs tK)) rfl a0)))) (con_impl_contribution e123) (.inl (so1 sK (so1 sK so0))) <| x_mvt rfl <| x_ext rfl rfl <| x_ext rfl rfl <| x_asg (ss rfl rfl) <| x_asg (ss rfl rfl) <| seqN [(1, .d ((cLs (cXVariable cS cI) rfl).enc v1)), (3, .d ((cLs (cXRecord cI cI (cLs cI rfl)) rfl).enc v3)), (4, .d (cI.enc v4)), (5, .box ((cXGeo (cLs cI rfl)).enc v0)), (7, .box ((cXTable cI (cLs cI rfl) (cLs cI rfl) cI).enc v2)), (12, .d ((cLo cI).enc s82)), (13, .d (cI.enc (k83 : Int))), (15, .d (cI.enc x122.1)), (41, .d ((cLs (cXRecord cI cI (cLs cI rfl)) rfl).enc v3)), (42, .d (cI.enc (v3.length : Int))), (43, .d (cI.enc (k83 : Int)))] (by kernel_rfl) <|
    xn <| wpC_seq <| reg_s <| st rfl <| mvd rfl rfl <| st rfl <| mvd rfl rfl <| st rfl <| b_eql (k := .i64) rfl rfl <| seqN [(1, .d ((cLs (cXVariable cS cI) rfl).enc v1)), (3, .d ((cLs (cXRecord cI cI (cLs cI rfl)) rfl).enc v3)), (4, .d (cI.enc v4)), (5, .box ((cXGeo (cLs cI rfl)).enc v0)), (7, .box ((cXTable cI (cLs cI rfl) (cLs cI rfl) cI).enc v2)), (12, .d ((cLo cI).enc s82)), (13, .d (cI.enc (k83 : Int))), (41, .d ((cLs (cXRecord cI cI (cLs cI rfl)) rfl).enc v3)), (42, .d (cI.enc (v3.length : Int))), (43, .d (cI.enc (k83 : Int))), (58, .d (cB.enc (decide (x122.1 = v4))))] (by kernel_rfl) <|
    xn <| cnd rfl h (fun b124 h => reg_s <| st rfl <| mvo rfl rfl <| st rfl <| mvd rfl rfl <| x_bsl cI [(k83 : Int)] (t1 (ss rfl rfl) rfl t0) rfl rfl <| lnO_k h fun l125 h => x_app (sr rfl rfl) (to rfl rfl) l125 rfl <| x_asg (so rfl rfl) <| seqN [(1, .d ((cLs (cXVariable cS cI) rfl).enc v1)), (3, .d ((cLs (cXRecord cI cI (cLs cI rfl)) rfl).enc v3)), (4, .d (cI.enc v4)), (5, .box ((cXGeo (cLs cI rfl)).enc v0)), (7, .box ((cXTable cI (cLs cI rfl) (cLs cI rfl) cI).enc v2)), (12, .d ((cLo cI).enc (s82 ++ [(k83 : Int)]))), (41, .d ((cLs (cXRecord cI cI (cLs cI rfl)) rfl).enc v3)), (42, .d (cI.enc (v3.length : Int))), (43, .d (cI.enc (k83 : Int)))] (by kernel_rfl) <|
    xbb <| kpN [(1, .d ((cLs (cXVariable cS cI) rfl).enc v1)), (3, .d ((cLs (cXRecord cI cI (cLs cI rfl)) rfl).enc v3)), (4, .d (cI.enc v4)), (5, .box ((cXGeo (cLs cI rfl)).enc v0)), (7, .box ((cXTable cI (cLs cI rfl) (cLs cI rfl) cI).enc v2)), (12, .d ((cLo cI).enc (s82 ++ [(k83 : Int)]))), (41, .d ((cLs (cXRecord cI cI (cLs cI rfl)) rfl).enc v3)), (42, .d (cI.enc (v3.length : Int))), (43, .d (cI.enc (k83 : Int)))] (by kernel_rfl) <| xn <| reg_s <| st rfl <| b_inc rfl rfl l81 hk85 <| st rfl <| mvd rfl rfl <| seqN [(1, .d ((cLs (cXVariable cS cI) rfl).enc v1)), (3, .d ((cLs (cXRecord cI cI (cLs cI rfl)) rfl).enc v3)), (4, .d (cI.enc v4)), (5, .box ((cXGeo (cLs cI rfl)).enc v0)), (7, .box ((cXTable cI (cLs cI rfl) (cLs cI rfl) cI).enc v2)), (12, .d ((cLo cI).enc (s82 ++ [(k83 : Int)]))), (41, .d ((cLs (cXRecord cI cI (cLs cI rfl)) rfl).enc v3)), (42, .d (cI.enc (v3.length : Int))), (43, .d (cI.enc ((k83 + 1 : Nat) : Int)))] (by kernel_rfl) <|
    xn <| hn112 (s82 ++ [(k83 : Int)]) h)
    (fun b124 h => wpC_skip <| xbb <| kpN [(1, .d ((cLs (cXVariable cS cI) rfl).enc v1)), (3, .d ((cLs (cXRecord cI cI (cLs cI rfl)) rfl).enc v3)), (4, .d (cI.enc v4)), (5, .box ((cXGeo (cLs cI rfl)).enc v0)), (7, .box ((cXTable cI (cLs cI rfl) (cLs cI rfl) cI).enc v2)), (12, .d ((cLo cI).enc s82)), (41, .d ((cLs (cXRecord cI cI (cLs cI rfl)) rfl).enc v3)), (42, .d (cI.enc (v3.length : Int))), (43, .d (cI.enc (k83 : Int)))] (by kernel_rfl) <| xn <| reg_s <| st rfl <| b_inc rfl rfl l81 hk85 <| st rfl <| mvd rfl rfl <| seqN [(1, .d ((cLs (cXVariable cS cI) rfl).enc v1)), (3, .d ((cLs (cXRecord cI cI (cLs cI rfl)) rfl).enc v3)), (4, .d (cI.enc v4)), (5, .box ((cXGeo (cLs cI rfl)).enc v0)), (7, .box ((cXTable cI (cLs cI rfl) (cLs cI rfl) cI).enc v2)), (12, .d ((cLo cI).enc s82)), (41, .d ((cLs (cXRecord cI cI (cLs cI rfl)) rfl).enc v3)), (42, .d (cI.enc (v3.length : Int))), (43, .d (cI.enc ((k83 + 1 : Nat) : Int)))] (by kernel_rfl) <|
    xn <| hn112 s82 h))))
    fun s31' q32 h => reg_s <| st rfl <| ldb rfl rfl rfl rfl <| st rfl <| mvd rfl rfl <| st rfl <| ldb rfl rfl rfl rfl <| bnd h fun x126 e127 h => st rfl <| o_call (a1 (c := (cXGeo (cLs cI rfl))) (tXGeo (tLs tK)) rfl (a1 (c := (cLs (cXVariable cS cI) rfl)) (tLs (tXVariable tS tK)) rfl (a1 (c := (cXTable cI (cLs cI rfl) (cLs cI rfl) cI)) (tXTable tK (tLs tK) (tLs tK) tK) rfl a0))) (con_impl_areTabled e127) (.inl (so1 sB so0)) <| st rfl <| o_nt rfl <| st rfl <| mvd rfl rfl <| ite_k h (fun b128 h => gf rfl b128 <| gf rfl b128 <| gf rfl b128 <| gf rfl b128 <| gf rfl b128 <| st rfl <| pick1 rfl b128 (cd := cB) (v := true) rfl rfl <| st rfl <| mvd rfl rfl <| gf rfl rfl <| gf rfl rfl <| st rfl <| pick1 rfl rfl (cd := cB) (v := true) rfl rfl <| st rfl <| mvd rfl rfl <| gf rfl rfl <| gf rfl rfl <| gf rfl rfl <| gf rfl rfl <| gf rfl rfl <| gf rfl rfl <| st rfl <| pick1 rfl rfl (cd := cB) (v := true) rfl rfl <| seqN [(1, .d ((cLs (cXVariable cS cI) rfl).enc v1)), (3, .d ((cLs (cXRecord cI cI (cLs cI rfl)) rfl).enc v3)), (4, .d (cI.enc v4)), (5, .box ((cXGeo (cLs cI rfl)).enc v0)), (7, .box ((cXTable cI (cLs cI rfl) (cLs cI rfl) cI).enc v2)), (40, .d (cB.enc true))] (by kernel_rfl) <|
    lfn (S := (fun (s31 : Bool) => [(1, .d ((cLs (cXVariable cS cI) rfl).enc v1)), (3, .d ((cLs (cXRecord cI cI (cLs cI rfl)) rfl).enc v3)), (4, .d (cI.enc v4)), (5, .box ((cXGeo (cLs cI rfl)).enc v0)), (7, .box ((cXTable cI (cLs cI rfl) (cLs cI rfl) cI).enc v2)), (40, .d (cB.enc s31))])) h q32 rfl)
    (fun b128 h => gt' rfl b128 <| st rfl <| ldb rfl rfl rfl rfl <| gt' rfl b128 <| st rfl <| mvd rfl rfl <| gt' rfl b128 <| st rfl <| mvd rfl rfl <| gt' rfl b128 <| bnd h fun x129 e130 h => st rfl <| o_call (a1 (c := (cXGeo (cLs cI rfl))) (tXGeo (tLs tK)) rfl (a1 (c := (cLs (cXVariable cS cI) rfl)) (tLs (tXVariable tS tK)) rfl (a1 (c := (cLs (cXRecord cI cI (cLs cI rfl)) rfl)) (tLs (tXRecord tK tK (tLs tK))) rfl a0))) (con_impl_isSurvey e130) (.inl (so1 sB so0)) <| gt' rfl b128 <| st rfl <| o_nt rfl <| st rfl <| pick0 rfl b128 (cd := cB) (v := (!x129)) rfl rfl <| st rfl <| mvd rfl rfl <| ite_k h (fun b131 h => gf rfl b131 <| gf rfl b131 <| st rfl <| pick1 rfl b131 (cd := cB) (v := true) rfl rfl <| st rfl <| mvd rfl rfl <| gf rfl rfl <| gf rfl rfl <| gf rfl rfl <| gf rfl rfl <| gf rfl rfl <| gf rfl rfl <| st rfl <| pick1 rfl rfl (cd := cB) (v := true) rfl rfl <| seqN [(1, .d ((cLs (cXVariable cS cI) rfl).enc v1)), (3, .d ((cLs (cXRecord cI cI (cLs cI rfl)) rfl).enc v3)), (4, .d (cI.enc v4)), (5, .box ((cXGeo (cLs cI rfl)).enc v0)), (7, .box ((cXTable cI (cLs cI rfl) (cLs cI rfl) cI).enc v2)), (40, .d (cB.enc true))] (by kernel_rfl) <|
    lfn (S := (fun (s31 : Bool) => [(1, .d ((cLs (cXVariable cS cI) rfl).enc v1)), (3, .d ((cLs (cXRecord cI cI (cLs cI rfl)) rfl).enc v3)), (4, .d (cI.enc v4)), (5, .box ((cXGeo (cLs cI rfl)).enc v0)), (7, .box ((cXTable cI (cLs cI rfl) (cLs cI rfl) cI).enc v2)), (40, .d (cB.enc s31))])) h q32 rfl)
    (fun b131 h => gt' rfl b131 <| st rfl <| mvd rfl rfl <| gt' rfl b131 <| st rfl <| b_lss (k := .i64) rfl rfl <| st rfl <| pick0 rfl b131 (cd := cB) (v := (decide (v4 < (0 : Int)))) rfl rfl <| st rfl <| mvd rfl rfl <| ite_k h (fun b132 h => gf rfl b132 <| gf rfl b132 <| gf rfl b132 <| gf rfl b132 <| gf rfl b132 <| gf rfl b132 <| st rfl <| pick1 rfl b132 (cd := cB) (v := true) rfl rfl <| seqN [(1, .d ((cLs (cXVariable cS cI) rfl).enc v1)), (3, .d ((cLs (cXRecord cI cI (cLs cI rfl)) rfl).enc v3)), (4, .d (cI.enc v4)), (5, .box ((cXGeo (cLs cI rfl)).enc v0)), (7, .box ((cXTable cI (cLs cI rfl) (cLs cI rfl) cI).enc v2)), (40, .d (cB.enc true))] (by kernel_rfl) <|
    lfn (S := (fun (s31 : Bool) => [(1, .d ((cLs (cXVariable cS cI) rfl).enc v1)), (3, .d ((cLs (cXRecord cI cI (cLs cI rfl)) rfl).enc v3)), (4, .d (cI.enc v4)), (5, .box ((cXGeo (cLs cI rfl)).enc v0)), (7, .box ((cXTable cI (cLs cI rfl) (cLs cI rfl) cI).enc v2)), (40, .d (cB.enc s31))])) h q32 rfl)
    (fun b132 h => gt' rfl b132 <| st rfl <| mvd rfl rfl <| gt' rfl b132 <| st rfl <| ldb rfl rfl rfl rfl <| gt' rfl b132 <| st rfl <| mvd rfl rfl <| gt' rfl b132 <| st rfl <| ldb rfl rfl rfl rfl <| gt' rfl b132 <| bnd h fun x133 e134 h => st rfl <| o_call (a1 (c := (cXGeo (cLs cI rfl))) (tXGeo (tLs tK)) rfl (a1 (c := (cLs (cXVariable cS cI) rfl)) (tLs (tXVariable tS tK)) rfl (a1 (c := (cXTable cI (cLs cI rfl) (cLs cI rfl) cI)) (tXTable tK (tLs tK) (tLs tK) tK) rfl a0))) (con_impl_cellCount e134) (.inl (so1 sK so0)) <| gt' rfl b132 <| st rfl <| b_geq (k := .i64) rfl rfl <| st rfl <| pick0 rfl b132 (cd := cB) (v := (decide (x133 ≤ v4))) rfl rfl <| seqN [(1, .d ((cLs (cXVariable cS cI) rfl).enc v1)), (3, .d ((cLs (cXRecord cI cI (cLs cI rfl)) rfl).enc v3)), (4, .d (cI.enc v4)), (5, .box ((cXGeo (cLs cI rfl)).enc v0)), (7, .box ((cXTable cI (cLs cI rfl) (cLs cI rfl) cI).enc v2)), (40, .d (cB.enc (decide (x133 ≤ v4))))] (by kernel_rfl) <|
    lfn (S := (fun (s31 : Bool) => [(1, .d ((cLs (cXVariable cS cI) rfl).enc v1)), (3, .d ((cLs (cXRecord cI cI (cLs cI rfl)) rfl).enc v3)), (4, .d (cI.enc v4)), (5, .box ((cXGeo (cLs cI rfl)).enc v0)), (7, .box ((cXTable cI (cLs cI rfl) (cLs cI rfl) cI).enc v2)), (40, .d (cB.enc s31))])) h q32 rfl)))

def rs_laws_eqRecordS (r : Bool) : List D := [cB.enc r]
def m48 : MC := .seq (.reg [⟨some 4, .asg (.c (.bool false)), none⟩] [0, 1])
  (.seq (.kp [0, 1] (.seq (.reg [⟨some 6, .mv (.t 0), none⟩,
    ⟨some 7, .len false (.t 6), none⟩,
    ⟨some 8, .mv (.t 1), none⟩,
    ⟨some 9, .len false (.t 8), none⟩,
    ⟨some 10, .bin .neq (.t 7) (.t 9), none⟩] [0, 1, 10])
  (.cond (.t 10) (.seq (.reg [⟨some 4, .asg (.c (.bool false)), none⟩] [4])
  (.ret)) (.skip))))
  (.seq (.kp [] (.seq (.reg [⟨some 5, .asg (.c (.int .i64 0)), none⟩] [0, 1, 5])
  (.blk 0 (.loop (.seq (.kp [0, 1, 5] (.seq (.reg [⟨some 11, .mv (.t 5), none⟩,
    ⟨some 12, .mv (.t 0), none⟩,
    ⟨some 13, .len false (.t 12), none⟩,
    ⟨some 14, .bin .lss (.t 11) (.t 13), none⟩] [0, 1, 5, 14])
  (.cond (.t 14) (.skip) (.exit 0))))
  (.seq (.kp [0, 1, 5] (.blk 1 (.seq (.drw [⟨0, ⟨some 17, .mv (.t 0), none⟩, [18, 19, 20, 21, 22, 23, 24, 25, 26]⟩,
    ⟨1, ⟨some 18, .mv (.t 5), none⟩, [17, 19, 20, 21, 22, 23, 24, 25, 26]⟩,
    ⟨2, ⟨some 19, .ia 17 (.t 18) 3, none⟩, [20, 21, 22, 23, 24, 25, 26]⟩,
    ⟨3, ⟨some 20, .ld 19 3 true, none⟩, [21, 22, 23, 24, 25, 26]⟩,
    ⟨4, ⟨some 21, .mv (.t 1), none⟩, [17, 18, 19, 20, 22, 23, 24, 25, 26]⟩,
    ⟨5, ⟨some 22, .mv (.t 5), none⟩, [17, 18, 19, 20, 21, 23, 24, 25, 26]⟩,
    ⟨6, ⟨some 23, .ia 21 (.t 22) 3, none⟩, [17, 18, 19, 20, 24, 25, 26]⟩,
    ⟨7, ⟨some 24, .ld 23 3 true, none⟩, [17, 18, 19, 20, 25, 26]⟩,
    ⟨8, ⟨some 25, .call 28 [(.t 20), (.t 24)], none⟩, [26]⟩,
    ⟨9, ⟨some 26, .nt (.t 25), none⟩, []⟩]
    [] [0, 1, 5, 26])
  (.cond (.t 26) (.seq (.reg [⟨some 4, .asg (.c (.bool false)), none⟩] [4])
  (.ret)) (.skip)))))
  (.reg [⟨some 15, .mv (.t 5), none⟩,
    ⟨some 16, .bin .add (.t 15) (.c (.int .i64 1)), none⟩,
    ⟨some 5, .asg (.t 16), none⟩] [0, 1, 5])))))))
  (.seq (.reg [⟨some 4, .asg (.c (.bool true)), none⟩] [4])
  (.ret))))
theorem con_laws_eqRecordS {v0 : (List XRecord)} {v1 : (List XRecord)} {r : Bool} (h : sh_laws_eqRecordS v0 v1 = some r) : Con Try.prog 48 [(cLs (cXRecord cI cI (cLs cI rfl)) rfl).enc v0, (cLs (cXRecord cI cI (cLs cI rfl)) rfl).enc v1] [] (rs_laws_eqRecordS r) := by
  delta sh_laws_eqRecordS at h
  refine top (out := none) (f := Try.f48) (m := m48) (rs := [.t 4]) (by kernel_rfl) rfl (by kernel_rfl) (by kernel_rfl) (by kernel_rfl) (by kernel_rfl) (by kernel_rfl) ?_
  exact
   ini [(0, .d ((cLs (cXRecord cI cI (cLs cI rfl)) rfl).enc v0)), (1, .d ((cLs (cXRecord cI cI (cLs cI rfl)) rfl).enc v1))] rfl <| wpC_seq <| reg_s <| x_asg (sc cB false rfl) <| seqN [(0, .d ((cLs (cXRecord cI cI (cLs cI rfl)) rfl).enc v0)), (1, .d ((cLs (cXRecord cI cI (cLs cI rfl)) rfl).enc v1))] (by kernel_rfl) <|
    xn <| wpC_seq <| wpC_kp <| wpC_seq <| reg_s <| st rfl <| mvd rfl rfl <| stw rfl <| lens rfl fun l8 => st rfl <| mvd rfl rfl <| stw rfl <| lens rfl fun l9 => st rfl <| b_neq (k := .i64) rfl rfl <| seqN [(0, .d ((cLs (cXRecord cI cI (cLs cI rfl)) rfl).enc v0)), (1, .d ((cLs (cXRecord cI cI (cLs cI rfl)) rfl).enc v1)), (10, .d (cB.enc (decide ((v0.length : Int) ≠ (v1.length : Int)))))] (by kernel_rfl) <|
    xn <| cnd rfl h (fun b10 h => wpC_seq <| reg_s <| x_asg (sc cB false rfl) <| seqN [(4, .d (cB.enc false))] (by kernel_rfl) <|
    xn <| wpC_ret <| rt <| rt <| re <| fin h (r1 (ss rfl rfl) <| r0) rfl)
    (fun b10 h => wpC_skip <| kpN [(0, .d ((cLs (cXRecord cI cI (cLs cI rfl)) rfl).enc v0)), (1, .d ((cLs (cXRecord cI cI (cLs cI rfl)) rfl).enc v1))] (by kernel_rfl) <| xn <| wpC_seq <| wpC_kp <| wpC_seq <| reg_s <| x_asg (sc cI (0 : Int) rfl) <| seqN [(0, .d ((cLs (cXRecord cI cI (cLs cI rfl)) rfl).enc v0)), (1, .d ((cLs (cXRecord cI cI (cLs cI rfl)) rfl).enc v1)), (5, .d (cI.enc (0 : Int)))] (by kernel_rfl) <|
    xn <| wpC_blk <| lpF (fun (s142 : Int) => [(0, .d ((cLs (cXRecord cI cI (cLs cI rfl)) rfl).enc v0)), (1, .d ((cLs (cXRecord cI cI (cLs cI rfl)) rfl).enc v1)), (5, .d (cI.enc s142))]) (0 : Int) rfl h
    fun G231 nx229 s142 hn230 h => wpC_seq <| wpC_kp <| wpC_seq <| reg_s <| st rfl <| mvd rfl rfl <| st rfl <| mvd rfl rfl <| stw rfl <| lens rfl fun l236 => st rfl <| b_lss (k := .i64) rfl rfl <| seqN [(0, .d ((cLs (cXRecord cI cI (cLs cI rfl)) rfl).enc v0)), (1, .d ((cLs (cXRecord cI cI (cLs cI rfl)) rfl).enc v1)), (5, .d (cI.enc s142)), (14, .d (cB.enc (decide (s142 < (v0.length : Int)))))] (by kernel_rfl) <|
    xn <| cnd rfl h (fun b237 h => wpC_skip <| kpN [(0, .d ((cLs (cXRecord cI cI (cLs cI rfl)) rfl).enc v0)), (1, .d ((cLs (cXRecord cI cI (cLs cI rfl)) rfl).enc v1)), (5, .d (cI.enc s142))] (by kernel_rfl) <| xn <| wpC_seq <| wpC_kp <| wpC_blk <| wpC_seq <| drw_s <| pst rfl <| mvd rfl rfl ⟨rfl, pst rfl <| mvd rfl rfl ⟨rfl, getO_kp h fun x263 i264 g265 h => pst rfl <| ias rfl rfl i264 g265 rfl ⟨rfl, pst rfl <| ldi rfl rfl rfl rfl ⟨rfl, pst rfl <| mvd rfl rfl ⟨rfl, pst rfl <| mvd rfl rfl ⟨rfl, getO_kp h fun x266 i267 g268 h => pst rfl <| ias rfl rfl i267 g268 rfl ⟨rfl, pst rfl <| ldi rfl rfl rfl rfl ⟨rfl, bndp h fun x269 e270 h => pst rfl <| o_call (a1 (c := (cXRecord cI cI (cLs cI rfl))) (tXRecord tK tK (tLs tK)) rfl (a1 (c := (cXRecord cI cI (cLs cI rfl))) (tXRecord tK tK (tLs tK)) rfl a0)) (con_laws_eqRecord e270) (.inl (so1 sB so0)) ⟨rfl, pst rfl <| o_nt rfl ⟨rfl, preN <| seqN [(0, .d ((cLs (cXRecord cI cI (cLs cI rfl)) rfl).enc v0)), (1, .d ((cLs (cXRecord cI cI (cLs cI rfl)) rfl).enc v1)), (5, .d (cI.enc s142)), (26, .d (cB.enc (!x269)))] (by kernel_rfl) <|
    xn <| cnd rfl h (fun b271 h => wpC_seq <| reg_s <| x_asg (sc cB false rfl) <| seqN [(4, .d (cB.enc false))] (by kernel_rfl) <|
    xn <| wpC_ret <| rb <| rt <| rt <| rt <| rb <| rt <| rt <| re <| fin h (r1 (ss rfl rfl) <| r0) rfl)
    (fun b271 h => wpC_skip <| xbb <| kpN [(0, .d ((cLs (cXRecord cI cI (cLs cI rfl)) rfl).enc v0)), (1, .d ((cLs (cXRecord cI cI (cLs cI rfl)) rfl).enc v1)), (5, .d (cI.enc s142))] (by kernel_rfl) <| xn <| reg_s <| st rfl <| mvd rfl rfl <| ckI_k h fun i272 h => st rfl <| b_add (k := .i64) rfl rfl i272 <| x_asg (ss rfl rfl) <| seqN [(0, .d ((cLs (cXRecord cI cI (cLs cI rfl)) rfl).enc v0)), (1, .d ((cLs (cXRecord cI cI (cLs cI rfl)) rfl).enc v1)), (5, .d (cI.enc (s142 + (1 : Int))))] (by kernel_rfl) <|
    xn <| hn230 (s142 + (1 : Int)) h)⟩⟩⟩⟩⟩⟩⟩⟩⟩⟩)
    (fun b237 h => wpC_exit <| xt <| xt <| xt <| xb <| kpN [] (by kernel_rfl) <| xn <| wpC_seq <| reg_s <| x_asg (sc cB true rfl) <| seqN [(4, .d (cB.enc true))] (by kernel_rfl) <|
    xn <| wpC_ret <| re <| fin h (r1 (ss rfl rfl) <| r0) rfl))

def os_laws_markIntS (r : ((List Int) × Int)) : D := (cLo cI).enc r.1
def rs_laws_markIntS (r : ((List Int) × Int)) : List D := [cI.enc r.2]
def m38 : MC := .seq (.reg [⟨some 4, .asg (.c (.int .i64 0)), none⟩] [0, 1])
  (.seq (.kp [0, 1] (.seq (.reg [⟨some 5, .asg (.c (.int .i64 0)), none⟩] [0, 1, 5])
  (.blk 0 (.loop (.seq (.kp [0, 1, 5] (.seq (.reg [⟨some 6, .mv (.t 5), none⟩,
    ⟨some 7, .mv (.t 0), none⟩,
    ⟨some 8, .len false (.t 7), none⟩,
    ⟨some 9, .bin .lss (.t 6) (.t 8), none⟩] [0, 1, 5, 9])
  (.cond (.t 9) (.skip) (.exit 0))))
  (.seq (.kp [0, 1, 5] (.blk 1 (.seq (.reg [⟨some 12, .mv (.t 0), none⟩,
    ⟨some 13, .mv (.t 5), none⟩,
    ⟨some 14, .mv (.t 1), none⟩,
    ⟨some 15, .ia 12 (.t 13) 1, none⟩,
    ⟨none, .st 15 (.t 14) 1, none⟩] [0, 1, 5])
  (.reg [⟨some 16, .mv (.t 1), none⟩,
    ⟨some 17, .bin .add (.t 16) (.c (.int .i64 1)), none⟩,
    ⟨some 1, .asg (.t 17), none⟩] [0, 1, 5]))))
  (.reg [⟨some 10, .mv (.t 5), none⟩,
    ⟨some 11, .bin .add (.t 10) (.c (.int .i64 1)), none⟩,
    ⟨some 5, .asg (.t 11), none⟩] [0, 1, 5])))))))
  (.seq (.reg [⟨some 18, .mv (.t 1), none⟩,
    ⟨some 4, .asg (.t 18), none⟩] [0, 4])
  (.ret)))
theorem con_laws_markIntS {v0 : (List Int)} {v1 : Int} {r : ((List Int) × Int)} (h : sh_laws_markIntS v0 v1 = some r) : Con Try.prog 38 [(cLo cI).enc v0, cI.enc v1] (outsOf (some (os_laws_markIntS r))) (rs_laws_markIntS r) := by
  delta sh_laws_markIntS at h
  refine top (out := some (os_laws_markIntS r)) (f := Try.f38) (m := m38) (rs := [.t 4]) (by kernel_rfl) rfl (by kernel_rfl) (by kernel_rfl) (by kernel_rfl) (by kernel_rfl) (by kernel_rfl) ?_
  exact
   ini [(0, .d ((cLo cI).enc v0)), (1, .d (cI.enc v1))] rfl <| wpC_seq <| reg_s <| x_asg (sc cI (0 : Int) rfl) <| seqN [(0, .d ((cLo cI).enc v0)), (1, .d (cI.enc v1))] (by kernel_rfl) <|
    xn <| wpC_seq <| wpC_kp <| wpC_seq <| reg_s <| x_asg (sc cI (0 : Int) rfl) <| seqN [(0, .d ((cLo cI).enc v0)), (1, .d (cI.enc v1)), (5, .d (cI.enc (0 : Int)))] (by kernel_rfl) <|
    xn <| wpC_blk <| lpF (fun (s72 : ((List Int) × Int × Int)) => [(0, .d ((cLo cI).enc s72.1)), (1, .d (cI.enc s72.2.1)), (5, .d (cI.enc s72.2.2))]) (v0, v1, (0 : Int)) rfl h
    fun G121 nx119 s72 hn120 h => wpC_seq <| wpC_kp <| wpC_seq <| reg_s <| st rfl <| mvd rfl rfl <| st rfl <| mvo rfl rfl <| stw rfl <| leno rfl fun l126 => st rfl <| b_lss (k := .i64) rfl rfl <| seqN [(0, .d ((cLo cI).enc s72.1)), (1, .d (cI.enc s72.2.1)), (5, .d (cI.enc s72.2.2)), (9, .d (cB.enc (decide (s72.2.2 < (s72.1.length : Int)))))] (by kernel_rfl) <|
    xn <| cnd rfl h (fun b127 h => wpC_skip <| kpN [(0, .d ((cLo cI).enc s72.1)), (1, .d (cI.enc s72.2.1)), (5, .d (cI.enc s72.2.2))] (by kernel_rfl) <| xn <| wpC_seq <| wpC_kp <| wpC_blk <| wpC_seq <| reg_s <| st rfl <| mvo rfl rfl <| st rfl <| mvd rfl rfl <| st rfl <| mvd rfl rfl <| getO_k h fun x138 i139 g140 h => st rfl <| iar rfl rfl rfl rfl i139 g140 rfl <| x_sta ((cLo cI).enc (s72.1.set (s72.2.2).toNat s72.2.1)) (ss rfl rfl) rfl rfl (Ln.idx g140 Ln.nil) (Cd.h_sz cI _) rfl <| seqN [(0, .d ((cLo cI).enc (s72.1.set (s72.2.2).toNat s72.2.1))), (1, .d (cI.enc s72.2.1)), (5, .d (cI.enc s72.2.2))] (by kernel_rfl) <|
    xn <| reg_s <| st rfl <| mvd rfl rfl <| ckI_k h fun i141 h => st rfl <| b_add (k := .i64) rfl rfl i141 <| x_asg (ss rfl rfl) <| seqN [(0, .d ((cLo cI).enc (s72.1.set (s72.2.2).toNat s72.2.1))), (1, .d (cI.enc (s72.2.1 + (1 : Int)))), (5, .d (cI.enc s72.2.2))] (by kernel_rfl) <|
    xbb <| kpN [(0, .d ((cLo cI).enc (s72.1.set (s72.2.2).toNat s72.2.1))), (1, .d (cI.enc (s72.2.1 + (1 : Int)))), (5, .d (cI.enc s72.2.2))] (by kernel_rfl) <| xn <| reg_s <| st rfl <| mvd rfl rfl <| ckI_k h fun i142 h => st rfl <| b_add (k := .i64) rfl rfl i142 <| x_asg (ss rfl rfl) <| seqN [(0, .d ((cLo cI).enc (s72.1.set (s72.2.2).toNat s72.2.1))), (1, .d (cI.enc (s72.2.1 + (1 : Int)))), (5, .d (cI.enc (s72.2.2 + (1 : Int))))] (by kernel_rfl) <|
    xn <| hn120 ((s72.1.set (s72.2.2).toNat s72.2.1), (s72.2.1 + (1 : Int)), (s72.2.2 + (1 : Int))) h)
    (fun b127 h => wpC_exit <| xt <| xt <| xt <| xb <| kpN [(0, .d ((cLo cI).enc s72.1)), (1, .d (cI.enc s72.2.1))] (by kernel_rfl) <| xn <| wpC_seq <| reg_s <| st rfl <| mvd rfl rfl <| x_asg (ss rfl rfl) <| seqN [(0, .d ((cLo cI).enc s72.1)), (4, .d (cI.enc s72.2.1))] (by kernel_rfl) <|
    xn <| wpC_ret <| re <| finO h (r1 (ss rfl rfl) <| r0) rfl rfl)

def os_laws_markGeo (r : (XGeo × Int)) : D := (cXGeo (cLo cI)).enc r.1
def rs_laws_markGeo (r : (XGeo × Int)) : List D := [cI.enc r.2]
def m31 : MC := .seq (.reg [⟨some 2, .boxm 0, none⟩,
    ⟨some 4, .asg (.c (.int .i64 0)), none⟩] [0, 1, 2])
  (.seq (.reg [⟨some 5, .fa 2 0 0, none⟩,
    ⟨some 6, .ld 5 1 false, none⟩,
    ⟨some 7, .mv (.t 1), none⟩,
    ⟨some 8, .callO 38 [(.t 6), (.t 7)], none⟩,
    ⟨some 1, .asg (.t 8), none⟩] [0, 1])
  (.seq (.reg [⟨some 9, .mv (.t 1), none⟩,
    ⟨some 4, .asg (.t 9), none⟩] [0, 4])
  (.ret)))
theorem con_laws_markGeo {v0 : XGeo} {v1 : Int} {r : (XGeo × Int)} (h : sh_laws_markGeo v0 v1 = some r) : Con Try.prog 31 [(cXGeo (cLo cI)).enc v0, cI.enc v1] (outsOf (some (os_laws_markGeo r))) (rs_laws_markGeo r) := by
  delta sh_laws_markGeo at h
  refine top (out := some (os_laws_markGeo r)) (f := Try.f31) (m := m31) (rs := [.t 4]) (by kernel_rfl) rfl (by kernel_rfl) (by kernel_rfl) (by kernel_rfl) (by kernel_rfl) (by kernel_rfl) ?_
  exact
   ini [(0, .d ((cXGeo (cLo cI)).enc v0)), (1, .d (cI.enc v1))] rfl <| wpC_seq <| reg_s <| x_boxm rfl rfl <| x_asg (sc cI (0 : Int) rfl) <| seqN [(0, .d ((cXGeo (cLo cI)).enc v0)), (1, .d (cI.enc v1)), (2, .mad 0 [])] (by kernel_rfl) <|
    xn <| wpC_seq <| reg_s <| st rfl <| fam rfl rfl rfl rfl rfl rfl <| st rfl <| ldmo rfl rfl rfl rfl rfl rfl <| st rfl <| mvd rfl rfl <| bnd h fun x3 e4 h => x_clr (c := (cLo cI)) (c' := (cLo cI)) ((cXGeo (cLo cI)).enc (⟨x3.1⟩ : XGeo)) (sLo sK) rfl (a1 (c := cI) tK rfl a0) rfl (Ln.fld rfl rfl Ln.nil rfl) (con_laws_markIntS e4) rfl rfl (so1 sK so0) <| x_asg (ss rfl rfl) <| seqN [(0, .d ((cXGeo (cLo cI)).enc (⟨x3.1⟩ : XGeo))), (1, .d (cI.enc x3.2))] (by kernel_rfl) <|
    xn <| wpC_seq <| reg_s <| st rfl <| mvd rfl rfl <| x_asg (ss rfl rfl) <| seqN [(0, .d ((cXGeo (cLo cI)).enc (⟨x3.1⟩ : XGeo))), (4, .d (cI.enc x3.2))] (by kernel_rfl) <|
    xn <| wpC_ret <| re <| finO h (r1 (ss rfl rfl) <| r0) rfl rfl

def rs_laws_markText (r : (List UInt8)) : List D := [cS.enc r]
def m79 : MC := .seq (.reg [⟨some 2, .asg (.c (.str [])), none⟩] [0])
  (.seq (.kp [0] (.seq (.reg [⟨some 4, .mv (.t 0), none⟩,
    ⟨some 5, .bin .leq (.t 4) (.c (.int .i64 0)), none⟩] [0, 5])
  (.cond (.t 5) (.seq (.reg [⟨some 2, .asg (.c (.str [109, 48])), none⟩] [2])
  (.ret)) (.skip))))
  (.seq (.reg [⟨some 3, .asg (.c (.str [])), none⟩] [0, 3])
  (.seq (.kp [3] (.blk 0 (.loop (.kp [0, 3] (.seq (.kp [0, 3] (.seq (.reg [⟨some 6, .mv (.t 0), none⟩,
    ⟨some 7, .bin .gtr (.t 6) (.c (.int .i64 0)), none⟩] [0, 3, 7])
  (.cond (.t 7) (.skip) (.exit 0))))
  (.blk 1 (.seq (.reg [⟨some 8, .mv (.t 0), none⟩,
    ⟨some 9, .bin .rem (.t 8) (.c (.int .i64 10)), none⟩,
    ⟨some 10, .bin .add (.c (.int .i64 48)) (.t 9), none⟩,
    ⟨some 11, .cvi .u8 (.t 10), none⟩,
    ⟨some 12, .bsl [(.t 11)] 1, none⟩,
    ⟨some 13, .b2s (.t 12), none⟩,
    ⟨some 14, .mv (.t 3), none⟩,
    ⟨some 15, .bin .add (.t 13) (.t 14), none⟩,
    ⟨some 3, .asg (.t 15), none⟩] [0, 3])
  (.reg [⟨some 16, .mv (.t 0), none⟩,
    ⟨some 17, .bin .quo (.t 16) (.c (.int .i64 10)), none⟩,
    ⟨some 0, .asg (.t 17), none⟩] [0, 3]))))))))
  (.seq (.reg [⟨some 18, .mv (.t 3), none⟩,
    ⟨some 19, .bin .add (.c (.str [109])) (.t 18), none⟩,
    ⟨some 2, .asg (.t 19), none⟩] [2])
  (.ret)))))
theorem con_laws_markText {v0 : Int} {r : (List UInt8)} (h : sh_laws_markText v0 = some r) : Con Try.prog 79 [cI.enc v0] [] (rs_laws_markText r) := by
  delta sh_laws_markText at h
  refine top (out := none) (f := Try.f79) (m := m79) (rs := [.t 2]) (by kernel_rfl) rfl (by kernel_rfl) (by kernel_rfl) (by kernel_rfl) (by kernel_rfl) (by kernel_rfl) ?_
  exact
   ini [(0, .d (cI.enc v0))] rfl <| wpC_seq <| reg_s <| x_asg (sc cS ([] : List UInt8) rfl) <| seqN [(0, .d (cI.enc v0))] (by kernel_rfl) <|
    xn <| wpC_seq <| wpC_kp <| wpC_seq <| reg_s <| st rfl <| mvd rfl rfl <| st rfl <| b_leq (k := .i64) rfl rfl <| seqN [(0, .d (cI.enc v0)), (5, .d (cB.enc (decide (v0 ≤ (0 : Int)))))] (by kernel_rfl) <|
    xn <| cnd rfl h (fun b2 h => wpC_seq <| reg_s <| x_asg (sc cS ([109, 48] : List UInt8) rfl) <| seqN [(2, .d (cS.enc ([109, 48] : List UInt8)))] (by kernel_rfl) <|
    xn <| wpC_ret <| rt <| rt <| re <| fin h (r1 (ss rfl rfl) <| r0) rfl)
    (fun b2 h => wpC_skip <| kpN [(0, .d (cI.enc v0))] (by kernel_rfl) <| xn <| wpC_seq <| reg_s <| x_asg (sc cS ([] : List UInt8) rfl) <| seqN [(0, .d (cI.enc v0)), (3, .d (cS.enc ([] : List UInt8)))] (by kernel_rfl) <|
    xn <| wpC_seq <| wpC_kp <| wpC_blk <| lpF (fun (s59 : (Int × (List UInt8))) => [(0, .d (cI.enc s59.1)), (3, .d (cS.enc s59.2))]) (v0, ([] : List UInt8)) rfl h
    fun G98 nx96 s59 hn97 h => wpC_kp <| wpC_seq <| wpC_kp <| wpC_seq <| reg_s <| st rfl <| mvd rfl rfl <| st rfl <| b_gtr (k := .i64) rfl rfl <| seqN [(0, .d (cI.enc s59.1)), (3, .d (cS.enc s59.2)), (7, .d (cB.enc (decide ((0 : Int) < s59.1))))] (by kernel_rfl) <|
    xn <| cnd rfl h (fun b100 h => wpC_skip <| kpN [(0, .d (cI.enc s59.1)), (3, .d (cS.enc s59.2))] (by kernel_rfl) <| xn <| wpC_blk <| wpC_seq <| reg_s <| st rfl <| mvd rfl rfl <| ck_k h fun i107 h => st rfl <| b_rem (k := .i64) rfl rfl i107 <| ckI_k h fun i108 h => st rfl <| b_add (k := .i64) rfl rfl i108 <| ckU_k h fun i109 h => st rfl <| o_cvi (k := .i64) (k' := .u8) rfl i109 <| x_bsl cU [((48 : Int) + (s59.1.tmod (10 : Int)))] (t1 (ss rfl rfl) rfl t0) rfl rfl <| ck_k h fun i110 h => st rfl <| o_b2s rfl rfl i110 <| st rfl <| mvd rfl rfl <| lnO_k h fun l112 h => st rfl <| b_cat rfl rfl l112 <| x_asg (ss rfl rfl) <| seqN [(0, .d (cI.enc s59.1)), (3, .d (cS.enc ((bytesOf [((48 : Int) + (s59.1.tmod (10 : Int)))]) ++ s59.2)))] (by kernel_rfl) <|
    xn <| reg_s <| st rfl <| mvd rfl rfl <| ck_k h fun i113 h => ckI_k h fun i114 h => st rfl <| b_quo (k := .i64) rfl rfl i113 i114 <| x_asg (ss rfl rfl) <| seqN [(0, .d (cI.enc (s59.1.tdiv (10 : Int)))), (3, .d (cS.enc ((bytesOf [((48 : Int) + (s59.1.tmod (10 : Int)))]) ++ s59.2)))] (by kernel_rfl) <|
    xbb <| kpN [(0, .d (cI.enc (s59.1.tdiv (10 : Int)))), (3, .d (cS.enc ((bytesOf [((48 : Int) + (s59.1.tmod (10 : Int)))]) ++ s59.2)))] (by kernel_rfl) <| xn <| hn97 ((s59.1.tdiv (10 : Int)), ((bytesOf [((48 : Int) + (s59.1.tmod (10 : Int)))]) ++ s59.2)) h)
    (fun b100 h => wpC_exit <| xt <| xt <| xt <| xt <| xb <| kpN [(3, .d (cS.enc s59.2))] (by kernel_rfl) <| xn <| wpC_seq <| reg_s <| st rfl <| mvd rfl rfl <| lnO_k h fun l116 h => st rfl <| b_cat rfl rfl l116 <| x_asg (ss rfl rfl) <| seqN [(2, .d (cS.enc (([109] : List UInt8) ++ s59.2)))] (by kernel_rfl) <|
    xn <| wpC_ret <| re <| fin h (r1 (ss rfl rfl) <| r0) rfl))

def os_laws_markVariableS (r : ((List XVariable) × Int)) : D := (cLo (cXVariable cS cI)).enc r.1
def rs_laws_markVariableS (r : ((List XVariable) × Int)) : List D := [cI.enc r.2]
def m32 : MC := .seq (.reg [⟨some 4, .asg (.c (.int .i64 0)), none⟩] [0, 1])
  (.seq (.kp [0, 1] (.seq (.reg [⟨some 5, .asg (.c (.int .i64 0)), none⟩] [0, 1, 5])
  (.blk 0 (.loop (.seq (.kp [0, 1, 5] (.seq (.reg [⟨some 6, .mv (.t 5), none⟩,
    ⟨some 7, .mv (.t 0), none⟩,
    ⟨some 8, .len false (.t 7), none⟩,
    ⟨some 9, .bin .lss (.t 6) (.t 8), none⟩] [0, 1, 5, 9])
  (.cond (.t 9) (.skip) (.exit 0))))
  (.seq (.kp [0, 1, 5] (.blk 1 (.seq (.reg [⟨some 12, .mv (.t 0), none⟩,
    ⟨some 13, .mv (.t 5), none⟩,
    ⟨some 14, .mv (.t 1), none⟩,
    ⟨some 15, .call 79 [(.t 14)], none⟩,
    ⟨some 16, .ia 12 (.t 13) 2, none⟩,
    ⟨some 17, .fa 16 0 0, none⟩,
    ⟨none, .st 17 (.t 15) 1, none⟩] [0, 1, 5])
  (.seq (.reg [⟨some 18, .mv (.t 1), none⟩,
    ⟨some 19, .bin .add (.t 18) (.c (.int .i64 1)), none⟩,
    ⟨some 1, .asg (.t 19), none⟩] [0, 1, 5])
  (.seq (.reg [⟨some 20, .mv (.t 0), none⟩,
    ⟨some 21, .mv (.t 5), none⟩,
    ⟨some 22, .mv (.t 1), none⟩,
    ⟨some 23, .ia 20 (.t 21) 2, none⟩,
    ⟨some 24, .fa 23 1 1, none⟩,
    ⟨none, .st 24 (.t 22) 1, none⟩] [0, 1, 5])
  (.reg [⟨some 25, .mv (.t 1), none⟩,
    ⟨some 26, .bin .add (.t 25) (.c (.int .i64 1)), none⟩,
    ⟨some 1, .asg (.t 26), none⟩] [0, 1, 5]))))))
  (.reg [⟨some 10, .mv (.t 5), none⟩,
    ⟨some 11, .bin .add (.t 10) (.c (.int .i64 1)), none⟩,
    ⟨some 5, .asg (.t 11), none⟩] [0, 1, 5])))))))
  (.seq (.reg [⟨some 27, .mv (.t 1), none⟩,
    ⟨some 4, .asg (.t 27), none⟩] [0, 4])
  (.ret)))
theorem con_laws_markVariableS {v0 : (List XVariable)} {v1 : Int} {r : ((List XVariable) × Int)} (h : sh_laws_markVariableS v0 v1 = some r) : Con Try.prog 32 [(cLo (cXVariable cS cI)).enc v0, cI.enc v1] (outsOf (some (os_laws_markVariableS r))) (rs_laws_markVariableS r) := by
  delta sh_laws_markVariableS at h
  refine top (out := some (os_laws_markVariableS r)) (f := Try.f32) (m := m32) (rs := [.t 4]) (by kernel_rfl) rfl (by kernel_rfl) (by kernel_rfl) (by kernel_rfl) (by kernel_rfl) (by kernel_rfl) ?_
  exact
   ini [(0, .d ((cLo (cXVariable cS cI)).enc v0)), (1, .d (cI.enc v1))] rfl <| wpC_seq <| reg_s <| x_asg (sc cI (0 : Int) rfl) <| seqN [(0, .d ((cLo (cXVariable cS cI)).enc v0)), (1, .d (cI.enc v1))] (by kernel_rfl) <|
    xn <| wpC_seq <| wpC_kp <| wpC_seq <| reg_s <| x_asg (sc cI (0 : Int) rfl) <| seqN [(0, .d ((cLo (cXVariable cS cI)).enc v0)), (1, .d (cI.enc v1)), (5, .d (cI.enc (0 : Int)))] (by kernel_rfl) <|
    xn <| wpC_blk <| lpF (fun (s144 : ((List XVariable) × Int × Int)) => [(0, .d ((cLo (cXVariable cS cI)).enc s144.1)), (1, .d (cI.enc s144.2.1)), (5, .d (cI.enc s144.2.2))]) (v0, v1, (0 : Int)) rfl h
    fun G241 nx239 s144 hn240 h => wpC_seq <| wpC_kp <| wpC_seq <| reg_s <| st rfl <| mvd rfl rfl <| st rfl <| mvo rfl rfl <| stw rfl <| leno rfl fun l246 => st rfl <| b_lss (k := .i64) rfl rfl <| seqN [(0, .d ((cLo (cXVariable cS cI)).enc s144.1)), (1, .d (cI.enc s144.2.1)), (5, .d (cI.enc s144.2.2)), (9, .d (cB.enc (decide (s144.2.2 < (s144.1.length : Int)))))] (by kernel_rfl) <|
    xn <| cnd rfl h (fun b247 h => wpC_skip <| kpN [(0, .d ((cLo (cXVariable cS cI)).enc s144.1)), (1, .d (cI.enc s144.2.1)), (5, .d (cI.enc s144.2.2))] (by kernel_rfl) <| xn <| wpC_seq <| wpC_kp <| wpC_blk <| wpC_seq <| reg_s <| st rfl <| mvo rfl rfl <| st rfl <| mvd rfl rfl <| st rfl <| mvd rfl rfl <| bnd h fun x272 e273 h => st rfl <| o_call (a1 (c := cI) tK rfl a0) (con_laws_markText e273) (.inl (so1 sS so0)) <| getO_k h fun x274 i275 g276 h => st rfl <| iar rfl rfl rfl rfl i275 g276 rfl <| st rfl <| faa rfl rfl (Gt.idx g276 Gt.nil) rfl rfl rfl <| x_sta ((cLo (cXVariable cS cI)).enc (s144.1.set (s144.2.2).toNat (⟨x272, x274.Levels⟩ : XVariable))) (ss rfl rfl) rfl rfl (Ln.idx g276 (Ln.fld rfl rfl Ln.nil rfl)) (Cd.h_sz cS _) rfl <| seqN [(0, .d ((cLo (cXVariable cS cI)).enc (s144.1.set (s144.2.2).toNat (⟨x272, x274.Levels⟩ : XVariable)))), (1, .d (cI.enc s144.2.1)), (5, .d (cI.enc s144.2.2))] (by kernel_rfl) <|
    xn <| wpC_seq <| reg_s <| st rfl <| mvd rfl rfl <| ckI_k h fun i278 h => st rfl <| b_add (k := .i64) rfl rfl i278 <| x_asg (ss rfl rfl) <| seqN [(0, .d ((cLo (cXVariable cS cI)).enc (s144.1.set (s144.2.2).toNat (⟨x272, x274.Levels⟩ : XVariable)))), (1, .d (cI.enc (s144.2.1 + (1 : Int)))), (5, .d (cI.enc s144.2.2))] (by kernel_rfl) <|
    xn <| wpC_seq <| reg_s <| st rfl <| mvo rfl rfl <| st rfl <| mvd rfl rfl <| st rfl <| mvd rfl rfl <| getO_k h fun x282 i283 g284 h => st rfl <| iar rfl rfl rfl rfl i283 g284 rfl <| st rfl <| faa rfl rfl (Gt.idx g284 Gt.nil) rfl rfl rfl <| x_sta ((cLo (cXVariable cS cI)).enc ((s144.1.set (s144.2.2).toNat (⟨x272, x274.Levels⟩ : XVariable)).set (s144.2.2).toNat (⟨x282.Name, (s144.2.1 + (1 : Int))⟩ : XVariable))) (ss rfl rfl) rfl rfl (Ln.idx g284 (Ln.fld rfl rfl Ln.nil rfl)) (Cd.h_sz cI _) rfl <| seqN [(0, .d ((cLo (cXVariable cS cI)).enc ((s144.1.set (s144.2.2).toNat (⟨x272, x274.Levels⟩ : XVariable)).set (s144.2.2).toNat (⟨x282.Name, (s144.2.1 + (1 : Int))⟩ : XVariable)))), (1, .d (cI.enc (s144.2.1 + (1 : Int)))), (5, .d (cI.enc s144.2.2))] (by kernel_rfl) <|
    xn <| reg_s <| st rfl <| mvd rfl rfl <| ckI_k h fun i285 h => st rfl <| b_add (k := .i64) rfl rfl i285 <| x_asg (ss rfl rfl) <| seqN [(0, .d ((cLo (cXVariable cS cI)).enc ((s144.1.set (s144.2.2).toNat (⟨x272, x274.Levels⟩ : XVariable)).set (s144.2.2).toNat (⟨x282.Name, (s144.2.1 + (1 : Int))⟩ : XVariable)))), (1, .d (cI.enc ((s144.2.1 + (1 : Int)) + (1 : Int)))), (5, .d (cI.enc s144.2.2))] (by kernel_rfl) <|
    xbb <| kpN [(0, .d ((cLo (cXVariable cS cI)).enc ((s144.1.set (s144.2.2).toNat (⟨x272, x274.Levels⟩ : XVariable)).set (s144.2.2).toNat (⟨x282.Name, (s144.2.1 + (1 : Int))⟩ : XVariable)))), (1, .d (cI.enc ((s144.2.1 + (1 : Int)) + (1 : Int)))), (5, .d (cI.enc s144.2.2))] (by kernel_rfl) <| xn <| reg_s <| st rfl <| mvd rfl rfl <| ckI_k h fun i286 h => st rfl <| b_add (k := .i64) rfl rfl i286 <| x_asg (ss rfl rfl) <| seqN [(0, .d ((cLo (cXVariable cS cI)).enc ((s144.1.set (s144.2.2).toNat (⟨x272, x274.Levels⟩ : XVariable)).set (s144.2.2).toNat (⟨x282.Name, (s144.2.1 + (1 : Int))⟩ : XVariable)))), (1, .d (cI.enc ((s144.2.1 + (1 : Int)) + (1 : Int)))), (5, .d (cI.enc (s144.2.2 + (1 : Int))))] (by kernel_rfl) <|
    xn <| hn240 (((s144.1.set (s144.2.2).toNat (⟨x272, x274.Levels⟩ : XVariable)).set (s144.2.2).toNat (⟨x282.Name, (s144.2.1 + (1 : Int))⟩ : XVariable)), ((s144.2.1 + (1 : Int)) + (1 : Int)), (s144.2.2 + (1 : Int))) h)
    (fun b247 h => wpC_exit <| xt <| xt <| xt <| xb <| kpN [(0, .d ((cLo (cXVariable cS cI)).enc s144.1)), (1, .d (cI.enc s144.2.1))] (by kernel_rfl) <| xn <| wpC_seq <| reg_s <| st rfl <| mvd rfl rfl <| x_asg (ss rfl rfl) <| seqN [(0, .d ((cLo (cXVariable cS cI)).enc s144.1)), (4, .d (cI.enc s144.2.1))] (by kernel_rfl) <|
    xn <| wpC_ret <| re <| finO h (r1 (ss rfl rfl) <| r0) rfl rfl)

def os_laws_markTable (r : (XTable × Int)) : D := (cXTable cI (cLo cI) (cLo cI) cI).enc r.1
def rs_laws_markTable (r : (XTable × Int)) : List D := [cI.enc r.2]
def m42 : MC := .seq (.reg [⟨some 2, .boxm 0, none⟩,
    ⟨some 4, .asg (.c (.int .i64 0)), none⟩] [0, 1, 2])
  (.seq (.reg [⟨some 5, .fa 2 1 1, none⟩,
    ⟨some 6, .ld 5 1 false, none⟩,
    ⟨some 7, .mv (.t 1), none⟩,
    ⟨some 8, .callO 38 [(.t 6), (.t 7)], none⟩,
    ⟨some 1, .asg (.t 8), none⟩] [0, 1, 2])
  (.seq (.reg [⟨some 9, .fa 2 2 2, none⟩,
    ⟨some 10, .ld 9 1 false, none⟩,
    ⟨some 11, .mv (.t 1), none⟩,
    ⟨some 12, .callO 38 [(.t 10), (.t 11)], none⟩,
    ⟨some 1, .asg (.t 12), none⟩] [0, 1])
  (.seq (.reg [⟨some 13, .mv (.t 1), none⟩,
    ⟨some 4, .asg (.t 13), none⟩] [0, 4])
  (.ret))))
theorem con_laws_markTable {v0 : XTable} {v1 : Int} {r : (XTable × Int)} (h : sh_laws_markTable v0 v1 = some r) : Con Try.prog 42 [(cXTable cI (cLo cI) (cLo cI) cI).enc v0, cI.enc v1] (outsOf (some (os_laws_markTable r))) (rs_laws_markTable r) := by
  delta sh_laws_markTable at h
  refine top (out := some (os_laws_markTable r)) (f := Try.f42) (m := m42) (rs := [.t 4]) (by kernel_rfl) rfl (by kernel_rfl) (by kernel_rfl) (by kernel_rfl) (by kernel_rfl) (by kernel_rfl) ?_
  exact
   ini [(0, .d ((cXTable cI (cLo cI) (cLo cI) cI).enc v0)), (1, .d (cI.enc v1))] rfl <| wpC_seq <| reg_s <| x_boxm rfl rfl <| x_asg (sc cI (0 : Int) rfl) <| seqN [(0, .d ((cXTable cI (cLo cI) (cLo cI) cI).enc v0)), (1, .d (cI.enc v1)), (2, .mad 0 [])] (by kernel_rfl) <|
    xn <| wpC_seq <| reg_s <| st rfl <| fam rfl rfl rfl rfl rfl rfl <| st rfl <| ldmo rfl rfl rfl rfl rfl rfl <| st rfl <| mvd rfl rfl <| bnd h fun x3 e4 h => x_clr (c := (cLo cI)) (c' := (cLo cI)) ((cXTable cI (cLo cI) (cLo cI) cI).enc (⟨v0.Level, x3.1, v0.Where, v0.Sum⟩ : XTable)) (sLo sK) rfl (a1 (c := cI) tK rfl a0) rfl (Ln.fld rfl rfl Ln.nil rfl) (con_laws_markIntS e4) rfl rfl (so1 sK so0) <| x_asg (ss rfl rfl) <| seqN [(0, .d ((cXTable cI (cLo cI) (cLo cI) cI).enc (⟨v0.Level, x3.1, v0.Where, v0.Sum⟩ : XTable))), (1, .d (cI.enc x3.2)), (2, .mad 0 [])] (by kernel_rfl) <|
    xn <| wpC_seq <| reg_s <| st rfl <| fam rfl rfl rfl rfl rfl rfl <| st rfl <| ldmo rfl rfl rfl rfl rfl rfl <| st rfl <| mvd rfl rfl <| bnd h fun x7 e8 h => x_clr (c := (cLo cI)) (c' := (cLo cI)) ((cXTable cI (cLo cI) (cLo cI) cI).enc (⟨v0.Level, x3.1, x7.1, v0.Sum⟩ : XTable)) (sLo sK) rfl (a1 (c := cI) tK rfl a0) rfl (Ln.fld rfl rfl Ln.nil rfl) (con_laws_markIntS e8) rfl rfl (so1 sK so0) <| x_asg (ss rfl rfl) <| seqN [(0, .d ((cXTable cI (cLo cI) (cLo cI) cI).enc (⟨v0.Level, x3.1, x7.1, v0.Sum⟩ : XTable))), (1, .d (cI.enc x7.2))] (by kernel_rfl) <|
    xn <| wpC_seq <| reg_s <| st rfl <| mvd rfl rfl <| x_asg (ss rfl rfl) <| seqN [(0, .d ((cXTable cI (cLo cI) (cLo cI) cI).enc (⟨v0.Level, x3.1, x7.1, v0.Sum⟩ : XTable))), (4, .d (cI.enc x7.2))] (by kernel_rfl) <|
    xn <| wpC_ret <| re <| finO h (r1 (ss rfl rfl) <| r0) rfl rfl

def os_laws_markRecordS (r : ((List XRecord) × Int)) : D := (cLo (cXRecord cI cI (cLo cI))).enc r.1
def rs_laws_markRecordS (r : ((List XRecord) × Int)) : List D := [cI.enc r.2]
def m49 : MC := .seq (.reg [⟨some 4, .asg (.c (.int .i64 0)), none⟩] [0, 1])
  (.seq (.kp [0, 1] (.seq (.reg [⟨some 5, .asg (.c (.int .i64 0)), none⟩] [0, 1, 5])
  (.blk 0 (.loop (.seq (.kp [0, 1, 5] (.seq (.reg [⟨some 6, .mv (.t 5), none⟩,
    ⟨some 7, .mv (.t 0), none⟩,
    ⟨some 8, .len false (.t 7), none⟩,
    ⟨some 9, .bin .lss (.t 6) (.t 8), none⟩] [0, 1, 5, 9])
  (.cond (.t 9) (.skip) (.exit 0))))
  (.seq (.kp [0, 1, 5] (.blk 1 (.seq (.reg [⟨some 12, .mv (.t 0), none⟩,
    ⟨some 13, .mv (.t 5), none⟩,
    ⟨some 14, .mv (.t 1), none⟩,
    ⟨some 15, .ia 12 (.t 13) 3, none⟩,
    ⟨some 16, .fa 15 0 0, none⟩,
    ⟨none, .st 16 (.t 14) 1, none⟩] [0, 1, 5])
  (.seq (.reg [⟨some 17, .mv (.t 1), none⟩,
    ⟨some 18, .bin .add (.t 17) (.c (.int .i64 1)), none⟩,
    ⟨some 1, .asg (.t 18), none⟩] [0, 1, 5])
  (.seq (.reg [⟨some 19, .mv (.t 0), none⟩,
    ⟨some 20, .mv (.t 5), none⟩,
    ⟨some 21, .mv (.t 1), none⟩,
    ⟨some 22, .ia 19 (.t 20) 3, none⟩,
    ⟨some 23, .fa 22 1 1, none⟩,
    ⟨none, .st 23 (.t 21) 1, none⟩] [0, 1, 5])
  (.seq (.reg [⟨some 24, .mv (.t 1), none⟩,
    ⟨some 25, .bin .add (.t 24) (.c (.int .i64 1)), none⟩,
    ⟨some 1, .asg (.t 25), none⟩] [0, 1, 5])
  (.reg [⟨some 26, .mv (.t 0), none⟩,
    ⟨some 27, .mv (.t 5), none⟩,
    ⟨some 28, .ia 26 (.t 27) 3, none⟩,
    ⟨some 29, .fa 28 2 2, none⟩,
    ⟨some 30, .ld 29 1 false, none⟩,
    ⟨some 31, .mv (.t 1), none⟩,
    ⟨some 32, .callO 38 [(.t 30), (.t 31)], none⟩,
    ⟨some 1, .asg (.t 32), none⟩] [0, 1, 5])))))))
  (.reg [⟨some 10, .mv (.t 5), none⟩,
    ⟨some 11, .bin .add (.t 10) (.c (.int .i64 1)), none⟩,
    ⟨some 5, .asg (.t 11), none⟩] [0, 1, 5])))))))
  (.seq (.reg [⟨some 33, .mv (.t 1), none⟩,
    ⟨some 4, .asg (.t 33), none⟩] [0, 4])
  (.ret)))
theorem con_laws_markRecordS {v0 : (List XRecord)} {v1 : Int} {r : ((List XRecord) × Int)} (h : sh_laws_markRecordS v0 v1 = some r) : Con Try.prog 49 [(cLo (cXRecord cI cI (cLo cI))).enc v0, cI.enc v1] (outsOf (some (os_laws_markRecordS r))) (rs_laws_markRecordS r) := by
  delta sh_laws_markRecordS at h
  refine top (out := some (os_laws_markRecordS r)) (f := Try.f49) (m := m49) (rs := [.t 4]) (by kernel_rfl) rfl (by kernel_rfl) (by kernel_rfl) (by kernel_rfl) (by kernel_rfl) (by kernel_rfl) ?_
  exact
   ini [(0, .d ((cLo (cXRecord cI cI (cLo cI))).enc v0)), (1, .d (cI.enc v1))] rfl <| wpC_seq <| reg_s <| x_asg (sc cI (0 : Int) rfl) <| seqN [(0, .d ((cLo (cXRecord cI cI (cLo cI))).enc v0)), (1, .d (cI.enc v1))] (by kernel_rfl) <|
    xn <| wpC_seq <| wpC_kp <| wpC_seq <| reg_s <| x_asg (sc cI (0 : Int) rfl) <| seqN [(0, .d ((cLo (cXRecord cI cI (cLo cI))).enc v0)), (1, .d (cI.enc v1)), (5, .d (cI.enc (0 : Int)))] (by kernel_rfl) <|
    xn <| wpC_blk <| lpF (fun (s156 : ((List XRecord) × Int × Int)) => [(0, .d ((cLo (cXRecord cI cI (cLo cI))).enc s156.1)), (1, .d (cI.enc s156.2.1)), (5, .d (cI.enc s156.2.2))]) (v0, v1, (0 : Int)) rfl h
    fun G261 nx259 s156 hn260 h => wpC_seq <| wpC_kp <| wpC_seq <| reg_s <| st rfl <| mvd rfl rfl <| st rfl <| mvo rfl rfl <| stw rfl <| leno rfl fun l266 => st rfl <| b_lss (k := .i64) rfl rfl <| seqN [(0, .d ((cLo (cXRecord cI cI (cLo cI))).enc s156.1)), (1, .d (cI.enc s156.2.1)), (5, .d (cI.enc s156.2.2)), (9, .d (cB.enc (decide (s156.2.2 < (s156.1.length : Int)))))] (by kernel_rfl) <|
    xn <| cnd rfl h (fun b267 h => wpC_skip <| kpN [(0, .d ((cLo (cXRecord cI cI (cLo cI))).enc s156.1)), (1, .d (cI.enc s156.2.1)), (5, .d (cI.enc s156.2.2))] (by kernel_rfl) <| xn <| wpC_seq <| wpC_kp <| wpC_blk <| wpC_seq <| reg_s <| st rfl <| mvo rfl rfl <| st rfl <| mvd rfl rfl <| st rfl <| mvd rfl rfl <| getO_k h fun x292 i293 g294 h => st rfl <| iar rfl rfl rfl rfl i293 g294 rfl <| st rfl <| faa rfl rfl (Gt.idx g294 Gt.nil) rfl rfl rfl <| x_sta ((cLo (cXRecord cI cI (cLo cI))).enc (s156.1.set (s156.2.2).toNat (⟨s156.2.1, x292.House, x292.Values⟩ : XRecord))) (ss rfl rfl) rfl rfl (Ln.idx g294 (Ln.fld rfl rfl Ln.nil rfl)) (Cd.h_sz cI _) rfl <| seqN [(0, .d ((cLo (cXRecord cI cI (cLo cI))).enc (s156.1.set (s156.2.2).toNat (⟨s156.2.1, x292.House, x292.Values⟩ : XRecord)))), (1, .d (cI.enc s156.2.1)), (5, .d (cI.enc s156.2.2))] (by kernel_rfl) <|
    xn <| wpC_seq <| reg_s <| st rfl <| mvd rfl rfl <| ckI_k h fun i296 h => st rfl <| b_add (k := .i64) rfl rfl i296 <| x_asg (ss rfl rfl) <| seqN [(0, .d ((cLo (cXRecord cI cI (cLo cI))).enc (s156.1.set (s156.2.2).toNat (⟨s156.2.1, x292.House, x292.Values⟩ : XRecord)))), (1, .d (cI.enc (s156.2.1 + (1 : Int)))), (5, .d (cI.enc s156.2.2))] (by kernel_rfl) <|
    xn <| wpC_seq <| reg_s <| st rfl <| mvo rfl rfl <| st rfl <| mvd rfl rfl <| st rfl <| mvd rfl rfl <| getO_k h fun x300 i301 g302 h => st rfl <| iar rfl rfl rfl rfl i301 g302 rfl <| st rfl <| faa rfl rfl (Gt.idx g302 Gt.nil) rfl rfl rfl <| x_sta ((cLo (cXRecord cI cI (cLo cI))).enc ((s156.1.set (s156.2.2).toNat (⟨s156.2.1, x292.House, x292.Values⟩ : XRecord)).set (s156.2.2).toNat (⟨x300.Area, (s156.2.1 + (1 : Int)), x300.Values⟩ : XRecord))) (ss rfl rfl) rfl rfl (Ln.idx g302 (Ln.fld rfl rfl Ln.nil rfl)) (Cd.h_sz cI _) rfl <| seqN [(0, .d ((cLo (cXRecord cI cI (cLo cI))).enc ((s156.1.set (s156.2.2).toNat (⟨s156.2.1, x292.House, x292.Values⟩ : XRecord)).set (s156.2.2).toNat (⟨x300.Area, (s156.2.1 + (1 : Int)), x300.Values⟩ : XRecord)))), (1, .d (cI.enc (s156.2.1 + (1 : Int)))), (5, .d (cI.enc s156.2.2))] (by kernel_rfl) <|
    xn <| wpC_seq <| reg_s <| st rfl <| mvd rfl rfl <| ckI_k h fun i304 h => st rfl <| b_add (k := .i64) rfl rfl i304 <| x_asg (ss rfl rfl) <| seqN [(0, .d ((cLo (cXRecord cI cI (cLo cI))).enc ((s156.1.set (s156.2.2).toNat (⟨s156.2.1, x292.House, x292.Values⟩ : XRecord)).set (s156.2.2).toNat (⟨x300.Area, (s156.2.1 + (1 : Int)), x300.Values⟩ : XRecord)))), (1, .d (cI.enc ((s156.2.1 + (1 : Int)) + (1 : Int)))), (5, .d (cI.enc s156.2.2))] (by kernel_rfl) <|
    xn <| reg_s <| st rfl <| mvo rfl rfl <| st rfl <| mvd rfl rfl <| getO_k h fun x305 i306 g307 h => st rfl <| iar rfl rfl rfl rfl i306 g307 rfl <| st rfl <| faa rfl rfl (Gt.idx g307 Gt.nil) rfl rfl rfl <| st rfl <| ldao rfl rfl (Gt.idx g307 (Gt.fld rfl rfl Gt.nil)) rfl rfl rfl <| st rfl <| mvd rfl rfl <| bnd h fun x308 e309 h => x_clr (c := (cLo cI)) (c' := (cLo cI)) ((cLo (cXRecord cI cI (cLo cI))).enc (((s156.1.set (s156.2.2).toNat (⟨s156.2.1, x292.House, x292.Values⟩ : XRecord)).set (s156.2.2).toNat (⟨x300.Area, (s156.2.1 + (1 : Int)), x300.Values⟩ : XRecord)).set (s156.2.2).toNat (⟨x305.Area, x305.House, x308.1⟩ : XRecord))) (sLo sK) rfl (a1 (c := cI) tK rfl a0) rfl (Ln.idx g307 (Ln.fld rfl rfl Ln.nil rfl)) (con_laws_markIntS e309) rfl rfl (so1 sK so0) <| x_asg (ss rfl rfl) <| seqN [(0, .d ((cLo (cXRecord cI cI (cLo cI))).enc (((s156.1.set (s156.2.2).toNat (⟨s156.2.1, x292.House, x292.Values⟩ : XRecord)).set (s156.2.2).toNat (⟨x300.Area, (s156.2.1 + (1 : Int)), x300.Values⟩ : XRecord)).set (s156.2.2).toNat (⟨x305.Area, x305.House, x308.1⟩ : XRecord)))), (1, .d (cI.enc x308.2)), (5, .d (cI.enc s156.2.2))] (by kernel_rfl) <|
    xbb <| kpN [(0, .d ((cLo (cXRecord cI cI (cLo cI))).enc (((s156.1.set (s156.2.2).toNat (⟨s156.2.1, x292.House, x292.Values⟩ : XRecord)).set (s156.2.2).toNat (⟨x300.Area, (s156.2.1 + (1 : Int)), x300.Values⟩ : XRecord)).set (s156.2.2).toNat (⟨x305.Area, x305.House, x308.1⟩ : XRecord)))), (1, .d (cI.enc x308.2)), (5, .d (cI.enc s156.2.2))] (by kernel_rfl) <| xn <| reg_s <| st rfl <| mvd rfl rfl <| ckI_k h fun i310 h => st rfl <| b_add (k := .i64) rfl rfl i310 <| x_asg (ss rfl rfl) <| seqN [(0, .d ((cLo (cXRecord cI cI (cLo cI))).enc (((s156.1.set (s156.2.2).toNat (⟨s156.2.1, x292.House, x292.Values⟩ : XRecord)).set (s156.2.2).toNat (⟨x300.Area, (s156.2.1 + (1 : Int)), x300.Values⟩ : XRecord)).set (s156.2.2).toNat (⟨x305.Area, x305.House, x308.1⟩ : XRecord)))), (1, .d (cI.enc x308.2)), (5, .d (cI.enc (s156.2.2 + (1 : Int))))] (by kernel_rfl) <|
    xn <| hn260 ((((s156.1.set (s156.2.2).toNat (⟨s156.2.1, x292.House, x292.Values⟩ : XRecord)).set (s156.2.2).toNat (⟨x300.Area, (s156.2.1 + (1 : Int)), x300.Values⟩ : XRecord)).set (s156.2.2).toNat (⟨x305.Area, x305.House, x308.1⟩ : XRecord)), x308.2, (s156.2.2 + (1 : Int))) h)
    (fun b267 h => wpC_exit <| xt <| xt <| xt <| xb <| kpN [(0, .d ((cLo (cXRecord cI cI (cLo cI))).enc s156.1)), (1, .d (cI.enc s156.2.1))] (by kernel_rfl) <| xn <| wpC_seq <| reg_s <| st rfl <| mvd rfl rfl <| x_asg (ss rfl rfl) <| seqN [(0, .d ((cLo (cXRecord cI cI (cLo cI))).enc s156.1)), (4, .d (cI.enc s156.2.1))] (by kernel_rfl) <|
    xn <| wpC_ret <| re <| finO h (r1 (ss rfl rfl) <| r0) rfl rfl)

def rs_laws_heldIntS (r : Int) : List D := [cI.enc r]
def m39 : MC := .seq (.reg [⟨some 4, .asg (.c (.int .i64 0)), none⟩] [0, 1])
  (.seq (.kp [1] (.seq (.reg [⟨some 5, .asg (.c (.int .i64 0)), none⟩] [0, 1, 5])
  (.blk 0 (.loop (.seq (.kp [0, 1, 5] (.seq (.reg [⟨some 6, .mv (.t 5), none⟩,
    ⟨some 7, .mv (.t 0), none⟩,
    ⟨some 8, .len false (.t 7), none⟩,
    ⟨some 9, .bin .lss (.t 6) (.t 8), none⟩] [0, 1, 5, 9])
  (.cond (.t 9) (.skip) (.exit 0))))
  (.seq (.kp [0, 1, 5] (.blk 1 (.seq (.kp [0, 1, 5] (.seq (.reg [⟨some 12, .mv (.t 0), none⟩,
    ⟨some 13, .mv (.t 5), none⟩,
    ⟨some 14, .ia 12 (.t 13) 1, none⟩,
    ⟨some 15, .ld 14 1 false, none⟩,
    ⟨some 16, .mv (.t 1), none⟩,
    ⟨some 17, .bin .neq (.t 15) (.t 16), none⟩] [0, 1, 5, 17])
  (.cond (.t 17) (.seq (.reg [⟨some 4, .asg (.c (.int .i64 (-1))), none⟩] [4])
  (.ret)) (.skip))))
  (.reg [⟨some 18, .mv (.t 1), none⟩,
    ⟨some 19, .bin .add (.t 18) (.c (.int .i64 1)), none⟩,
    ⟨some 1, .asg (.t 19), none⟩] [0, 1, 5]))))
  (.reg [⟨some 10, .mv (.t 5), none⟩,
    ⟨some 11, .bin .add (.t 10) (.c (.int .i64 1)), none⟩,
    ⟨some 5, .asg (.t 11), none⟩] [0, 1, 5])))))))
  (.seq (.reg [⟨some 20, .mv (.t 1), none⟩,
    ⟨some 4, .asg (.t 20), none⟩] [4])
  (.ret)))
theorem con_laws_heldIntS {v0 : (List Int)} {v1 : Int} {r : Int} (h : sh_laws_heldIntS v0 v1 = some r) : Con Try.prog 39 [(cLs cI rfl).enc v0, cI.enc v1] [] (rs_laws_heldIntS r) := by
  delta sh_laws_heldIntS at h
  refine top (out := none) (f := Try.f39) (m := m39) (rs := [.t 4]) (by kernel_rfl) rfl (by kernel_rfl) (by kernel_rfl) (by kernel_rfl) (by kernel_rfl) (by kernel_rfl) ?_
  exact
   ini [(0, .d ((cLs cI rfl).enc v0)), (1, .d (cI.enc v1))] rfl <| wpC_seq <| reg_s <| x_asg (sc cI (0 : Int) rfl) <| seqN [(0, .d ((cLs cI rfl).enc v0)), (1, .d (cI.enc v1))] (by kernel_rfl) <|
    xn <| wpC_seq <| wpC_kp <| wpC_seq <| reg_s <| x_asg (sc cI (0 : Int) rfl) <| seqN [(0, .d ((cLs cI rfl).enc v0)), (1, .d (cI.enc v1)), (5, .d (cI.enc (0 : Int)))] (by kernel_rfl) <|
    xn <| wpC_blk <| lpF (fun (s120 : (Int × Int)) => [(0, .d ((cLs cI rfl).enc v0)), (1, .d (cI.enc s120.1)), (5, .d (cI.enc s120.2))]) (v1, (0 : Int)) rfl h
    fun G201 nx199 s120 hn200 h => wpC_seq <| wpC_kp <| wpC_seq <| reg_s <| st rfl <| mvd rfl rfl <| st rfl <| mvd rfl rfl <| stw rfl <| lens rfl fun l206 => st rfl <| b_lss (k := .i64) rfl rfl <| seqN [(0, .d ((cLs cI rfl).enc v0)), (1, .d (cI.enc s120.1)), (5, .d (cI.enc s120.2)), (9, .d (cB.enc (decide (s120.2 < (v0.length : Int)))))] (by kernel_rfl) <|
    xn <| cnd rfl h (fun b207 h => wpC_skip <| kpN [(0, .d ((cLs cI rfl).enc v0)), (1, .d (cI.enc s120.1)), (5, .d (cI.enc s120.2))] (by kernel_rfl) <| xn <| wpC_seq <| wpC_kp <| wpC_blk <| wpC_seq <| wpC_kp <| wpC_seq <| reg_s <| st rfl <| mvd rfl rfl <| st rfl <| mvd rfl rfl <| getO_k h fun x233 i234 g235 h => st rfl <| ias rfl rfl i234 g235 rfl <| st rfl <| ldi rfl rfl rfl rfl <| st rfl <| mvd rfl rfl <| st rfl <| b_neq (k := .i64) rfl rfl <| seqN [(0, .d ((cLs cI rfl).enc v0)), (1, .d (cI.enc s120.1)), (5, .d (cI.enc s120.2)), (17, .d (cB.enc (decide (x233 ≠ s120.1))))] (by kernel_rfl) <|
    xn <| cnd rfl h (fun b236 h => wpC_seq <| reg_s <| x_asg (sc cI (-1 : Int) rfl) <| seqN [(4, .d (cI.enc (-1 : Int)))] (by kernel_rfl) <|
    xn <| wpC_ret <| rt <| rt <| rb <| rt <| rt <| rt <| rb <| rt <| rt <| re <| fin h (r1 (ss rfl rfl) <| r0) rfl)
    (fun b236 h => wpC_skip <| kpN [(0, .d ((cLs cI rfl).enc v0)), (1, .d (cI.enc s120.1)), (5, .d (cI.enc s120.2))] (by kernel_rfl) <| xn <| reg_s <| st rfl <| mvd rfl rfl <| ckI_k h fun i237 h => st rfl <| b_add (k := .i64) rfl rfl i237 <| x_asg (ss rfl rfl) <| seqN [(0, .d ((cLs cI rfl).enc v0)), (1, .d (cI.enc (s120.1 + (1 : Int)))), (5, .d (cI.enc s120.2))] (by kernel_rfl) <|
    xbb <| kpN [(0, .d ((cLs cI rfl).enc v0)), (1, .d (cI.enc (s120.1 + (1 : Int)))), (5, .d (cI.enc s120.2))] (by kernel_rfl) <| xn <| reg_s <| st rfl <| mvd rfl rfl <| ckI_k h fun i238 h => st rfl <| b_add (k := .i64) rfl rfl i238 <| x_asg (ss rfl rfl) <| seqN [(0, .d ((cLs cI rfl).enc v0)), (1, .d (cI.enc (s120.1 + (1 : Int)))), (5, .d (cI.enc (s120.2 + (1 : Int))))] (by kernel_rfl) <|
    xn <| hn200 ((s120.1 + (1 : Int)), (s120.2 + (1 : Int))) h))
    (fun b207 h => wpC_exit <| xt <| xt <| xt <| xb <| kpN [(1, .d (cI.enc s120.1))] (by kernel_rfl) <| xn <| wpC_seq <| reg_s <| st rfl <| mvd rfl rfl <| x_asg (ss rfl rfl) <| seqN [(4, .d (cI.enc s120.1))] (by kernel_rfl) <|
    xn <| wpC_ret <| re <| fin h (r1 (ss rfl rfl) <| r0) rfl)
end AS.W
