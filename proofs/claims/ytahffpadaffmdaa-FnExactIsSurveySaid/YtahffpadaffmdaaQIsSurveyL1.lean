/- The program computes the plain functions. No condition. -/
import Derived.Test.YtahffpadaffmdaaQIsSurveyS
import Derived.Test.YtahffpadaffmdaaProg
import Derived.Test.YtahffpadaffmdaaQIsSurveyL0
set_option maxRecDepth 100000
set_option linter.unusedVariables false
set_option linter.unusedSimpArgs false
namespace AS.W
open Go Go.Proofs
def rs_laws_szRecordS (r : Int) : List D := [cI.enc r]
def m33 : MC := .seq (.reg [⟨some 4, .asg (.c (.int .i64 0)), none⟩] [0, 1])
  (.seq (.reg [⟨some 6, .mv (.t 1), none⟩,
    ⟨some 7, .mv (.t 0), none⟩,
    ⟨some 8, .len false (.t 7), none⟩,
    ⟨some 9, .bin .sub (.t 6) (.t 8), none⟩,
    ⟨some 1, .asg (.t 9), none⟩] [0, 1])
  (.seq (.kp [0, 1] (.seq (.reg [⟨some 10, .mv (.t 1), none⟩,
    ⟨some 11, .bin .lss (.t 10) (.c (.int .i64 0)), none⟩] [0, 1, 11])
  (.cond (.t 11) (.seq (.reg [⟨some 4, .asg (.c (.int .i64 (-1))), none⟩] [4])
  (.ret)) (.skip))))
  (.seq (.kp [1] (.seq (.reg [⟨some 5, .asg (.c (.int .i64 0)), none⟩] [0, 1, 5])
  (.blk 0 (.loop (.seq (.kp [0, 1, 5] (.seq (.reg [⟨some 12, .mv (.t 5), none⟩,
    ⟨some 13, .mv (.t 0), none⟩,
    ⟨some 14, .len false (.t 13), none⟩,
    ⟨some 15, .bin .lss (.t 12) (.t 14), none⟩] [0, 1, 5, 15])
  (.cond (.t 15) (.skip) (.exit 0))))
  (.seq (.kp [0, 1, 5] (.blk 1 (.seq (.reg [⟨some 18, .mv (.t 0), none⟩,
    ⟨some 19, .mv (.t 5), none⟩,
    ⟨some 20, .ia 18 (.t 19) 3, none⟩,
    ⟨some 21, .ld 20 3 true, none⟩,
    ⟨some 22, .mv (.t 1), none⟩,
    ⟨some 23, .call 17 [(.t 21), (.t 22)], none⟩,
    ⟨some 1, .asg (.t 23), none⟩] [0, 1, 5])
  (.seq (.reg [⟨some 24, .mv (.t 1), none⟩,
    ⟨some 25, .bin .lss (.t 24) (.c (.int .i64 0)), none⟩] [0, 1, 5, 25])
  (.cond (.t 25) (.seq (.reg [⟨some 4, .asg (.c (.int .i64 (-1))), none⟩] [4])
  (.ret)) (.skip))))))
  (.reg [⟨some 16, .mv (.t 5), none⟩,
    ⟨some 17, .bin .add (.t 16) (.c (.int .i64 1)), none⟩,
    ⟨some 5, .asg (.t 17), none⟩] [0, 1, 5])))))))
  (.seq (.reg [⟨some 26, .mv (.t 1), none⟩,
    ⟨some 4, .asg (.t 26), none⟩] [4])
  (.ret)))))
theorem con_laws_szRecordS {v0 : (List XRecord)} {v1 : Int} {r : Int} (h : sh_laws_szRecordS v0 v1 = some r) : Con Try.prog 33 [(cLs (cXRecord cI cI (cLs cI rfl)) rfl).enc v0, cI.enc v1] [] (rs_laws_szRecordS r) := by
  delta sh_laws_szRecordS at h
  refine top (out := none) (f := Try.f33) (m := m33) (rs := [.t 4]) (by kernel_rfl) rfl (by kernel_rfl) (by kernel_rfl) (by kernel_rfl) (by kernel_rfl) (by kernel_rfl) ?_
  exact
   ini [(0, .d ((cLs (cXRecord cI cI (cLs cI rfl)) rfl).enc v0)), (1, .d (cI.enc v1))] rfl <| wpC_seq <| reg_s <| x_asg (sc cI (0 : Int) rfl) <| seqN [(0, .d ((cLs (cXRecord cI cI (cLs cI rfl)) rfl).enc v0)), (1, .d (cI.enc v1))] (by kernel_rfl) <|
    xn <| wpC_seq <| reg_s <| st rfl <| mvd rfl rfl <| st rfl <| mvd rfl rfl <| stw rfl <| lens rfl fun l3 => ckI_k h fun i4 h => st rfl <| b_sub (k := .i64) rfl rfl i4 <| x_asg (ss rfl rfl) <| seqN [(0, .d ((cLs (cXRecord cI cI (cLs cI rfl)) rfl).enc v0)), (1, .d (cI.enc (v1 - (v0.length : Int))))] (by kernel_rfl) <|
    xn <| wpC_seq <| wpC_kp <| wpC_seq <| reg_s <| st rfl <| mvd rfl rfl <| st rfl <| b_lss (k := .i64) rfl rfl <| seqN [(0, .d ((cLs (cXRecord cI cI (cLs cI rfl)) rfl).enc v0)), (1, .d (cI.enc (v1 - (v0.length : Int)))), (11, .d (cB.enc (decide ((v1 - (v0.length : Int)) < (0 : Int)))))] (by kernel_rfl) <|
    xn <| cnd rfl h (fun b6 h => wpC_seq <| reg_s <| x_asg (sc cI (-1 : Int) rfl) <| seqN [(4, .d (cI.enc (-1 : Int)))] (by kernel_rfl) <|
    xn <| wpC_ret <| rt <| rt <| re <| fin h (r1 (ss rfl rfl) <| r0) rfl)
    (fun b6 h => wpC_skip <| kpN [(0, .d ((cLs (cXRecord cI cI (cLs cI rfl)) rfl).enc v0)), (1, .d (cI.enc (v1 - (v0.length : Int))))] (by kernel_rfl) <| xn <| wpC_seq <| wpC_kp <| wpC_seq <| reg_s <| x_asg (sc cI (0 : Int) rfl) <| seqN [(0, .d ((cLs (cXRecord cI cI (cLs cI rfl)) rfl).enc v0)), (1, .d (cI.enc (v1 - (v0.length : Int)))), (5, .d (cI.enc (0 : Int)))] (by kernel_rfl) <|
    xn <| wpC_blk <| lpF (fun (s102 : (Int × Int)) => [(0, .d ((cLs (cXRecord cI cI (cLs cI rfl)) rfl).enc v0)), (1, .d (cI.enc s102.1)), (5, .d (cI.enc s102.2))]) ((v1 - (v0.length : Int)), (0 : Int)) rfl h
    fun G167 nx165 s102 hn166 h => wpC_seq <| wpC_kp <| wpC_seq <| reg_s <| st rfl <| mvd rfl rfl <| st rfl <| mvd rfl rfl <| stw rfl <| lens rfl fun l172 => st rfl <| b_lss (k := .i64) rfl rfl <| seqN [(0, .d ((cLs (cXRecord cI cI (cLs cI rfl)) rfl).enc v0)), (1, .d (cI.enc s102.1)), (5, .d (cI.enc s102.2)), (15, .d (cB.enc (decide (s102.2 < (v0.length : Int)))))] (by kernel_rfl) <|
    xn <| cnd rfl h (fun b173 h => wpC_skip <| kpN [(0, .d ((cLs (cXRecord cI cI (cLs cI rfl)) rfl).enc v0)), (1, .d (cI.enc s102.1)), (5, .d (cI.enc s102.2))] (by kernel_rfl) <| xn <| wpC_seq <| wpC_kp <| wpC_blk <| wpC_seq <| reg_s <| st rfl <| mvd rfl rfl <| st rfl <| mvd rfl rfl <| getO_k h fun x190 i191 g192 h => st rfl <| ias rfl rfl i191 g192 rfl <| st rfl <| ldi rfl rfl rfl rfl <| st rfl <| mvd rfl rfl <| bnd h fun x193 e194 h => st rfl <| o_call (a1 (c := (cXRecord cI cI (cLs cI rfl))) (tXRecord tK tK (tLs tK)) rfl (a1 (c := cI) tK rfl a0)) (con_laws_szRecord e194) (.inl (so1 sK so0)) <| x_asg (ss rfl rfl) <| seqN [(0, .d ((cLs (cXRecord cI cI (cLs cI rfl)) rfl).enc v0)), (1, .d (cI.enc x193)), (5, .d (cI.enc s102.2))] (by kernel_rfl) <|
    xn <| wpC_seq <| reg_s <| st rfl <| mvd rfl rfl <| st rfl <| b_lss (k := .i64) rfl rfl <| seqN [(0, .d ((cLs (cXRecord cI cI (cLs cI rfl)) rfl).enc v0)), (1, .d (cI.enc x193)), (5, .d (cI.enc s102.2)), (25, .d (cB.enc (decide (x193 < (0 : Int)))))] (by kernel_rfl) <|
    xn <| cnd rfl h (fun b195 h => wpC_seq <| reg_s <| x_asg (sc cI (-1 : Int) rfl) <| seqN [(4, .d (cI.enc (-1 : Int)))] (by kernel_rfl) <|
    xn <| wpC_ret <| rb <| rt <| rt <| rt <| rb <| rt <| rt <| re <| fin h (r1 (ss rfl rfl) <| r0) rfl)
    (fun b195 h => wpC_skip <| xbb <| kpN [(0, .d ((cLs (cXRecord cI cI (cLs cI rfl)) rfl).enc v0)), (1, .d (cI.enc x193)), (5, .d (cI.enc s102.2))] (by kernel_rfl) <| xn <| reg_s <| st rfl <| mvd rfl rfl <| ckI_k h fun i196 h => st rfl <| b_add (k := .i64) rfl rfl i196 <| x_asg (ss rfl rfl) <| seqN [(0, .d ((cLs (cXRecord cI cI (cLs cI rfl)) rfl).enc v0)), (1, .d (cI.enc x193)), (5, .d (cI.enc (s102.2 + (1 : Int))))] (by kernel_rfl) <|
    xn <| hn166 (x193, (s102.2 + (1 : Int))) h))
    (fun b173 h => wpC_exit <| xt <| xt <| xt <| xb <| kpN [(1, .d (cI.enc s102.1))] (by kernel_rfl) <| xn <| wpC_seq <| reg_s <| st rfl <| mvd rfl rfl <| x_asg (ss rfl rfl) <| seqN [(4, .d (cI.enc s102.1))] (by kernel_rfl) <|
    xn <| wpC_ret <| re <| fin h (r1 (ss rfl rfl) <| r0) rfl))

def rs_laws_toRecordS (r : (List XRecord)) : List D := [(cLo (cXRecord cI cI (cLo cI))).enc r]
def m35 : MC := .seq (.reg [⟨some 2, .asg (.c (.slice true [])), none⟩] [0])
  (.seq (.reg [⟨some 5, .mv (.t 0), none⟩,
    ⟨some 6, .len false (.t 5), none⟩,
    ⟨some 7, .mk (.agg [.int .i64 0, .int .i64 0, .slice true []]) (.t 6), none⟩,
    ⟨some 3, .asg (.t 7), none⟩] [0, 3])
  (.seq (.kp [3] (.seq (.reg [⟨some 4, .asg (.c (.int .i64 0)), none⟩] [0, 3, 4])
  (.blk 0 (.loop (.seq (.kp [0, 3, 4] (.seq (.reg [⟨some 8, .mv (.t 4), none⟩,
    ⟨some 9, .mv (.t 0), none⟩,
    ⟨some 10, .len false (.t 9), none⟩,
    ⟨some 11, .bin .lss (.t 8) (.t 10), none⟩] [0, 3, 4, 11])
  (.cond (.t 11) (.skip) (.exit 0))))
  (.seq (.kp [0, 3, 4] (.blk 1 (.reg [⟨some 14, .mv (.t 3), none⟩,
    ⟨some 15, .mv (.t 4), none⟩,
    ⟨some 16, .mv (.t 0), none⟩,
    ⟨some 17, .mv (.t 4), none⟩,
    ⟨some 18, .ia 16 (.t 17) 3, none⟩,
    ⟨some 19, .ld 18 3 true, none⟩,
    ⟨some 20, .call 21 [(.t 19)], none⟩,
    ⟨some 21, .ia 14 (.t 15) 3, none⟩,
    ⟨none, .st 21 (.t 20) 3, none⟩] [0, 3, 4])))
  (.reg [⟨some 12, .mv (.t 4), none⟩,
    ⟨some 13, .bin .add (.t 12) (.c (.int .i64 1)), none⟩,
    ⟨some 4, .asg (.t 13), none⟩] [0, 3, 4])))))))
  (.seq (.reg [⟨some 22, .mv (.t 3), none⟩,
    ⟨some 2, .asg (.t 22), none⟩] [2])
  (.ret))))
theorem con_laws_toRecordS {v0 : (List XRecord)} {r : (List XRecord)} (h : sh_laws_toRecordS v0 = some r) : Con Try.prog 35 [(cLs (cXRecord cI cI (cLs cI rfl)) rfl).enc v0] [] (rs_laws_toRecordS r) := by
  delta sh_laws_toRecordS at h
  refine top (out := none) (f := Try.f35) (m := m35) (rs := [.t 2]) (by kernel_rfl) rfl (by kernel_rfl) (by kernel_rfl) (by kernel_rfl) (by kernel_rfl) (by kernel_rfl) ?_
  exact
   ini [(0, .d ((cLs (cXRecord cI cI (cLs cI rfl)) rfl).enc v0))] rfl <| wpC_seq <| reg_s <| x_asg (sc (cLo (cXRecord cI cI (cLo cI))) ([] : List XRecord) rfl) <| seqN [(0, .d ((cLs (cXRecord cI cI (cLs cI rfl)) rfl).enc v0))] (by kernel_rfl) <|
    xn <| wpC_seq <| reg_s <| st rfl <| mvd rfl rfl <| stw rfl <| lens rfl fun l4 => mkO_k h fun i5 l6 h => st rfl <| o_mk (c := (cXRecord cI cI (cLo cI))) (a0 := (⟨(0 : Int), (0 : Int), ([] : List Int)⟩ : XRecord)) rfl (k := .i64) rfl i5 l6 <| x_asg (so rfl rfl) <| seqN [(0, .d ((cLs (cXRecord cI cI (cLs cI rfl)) rfl).enc v0)), (3, .d ((cLo (cXRecord cI cI (cLo cI))).enc (List.replicate ((v0.length : Int)).toNat (⟨(0 : Int), (0 : Int), ([] : List Int)⟩ : XRecord))))] (by kernel_rfl) <|
    xn <| wpC_seq <| wpC_kp <| wpC_seq <| reg_s <| x_asg (sc cI (0 : Int) rfl) <| seqN [(0, .d ((cLs (cXRecord cI cI (cLs cI rfl)) rfl).enc v0)), (3, .d ((cLo (cXRecord cI cI (cLo cI))).enc (List.replicate ((v0.length : Int)).toNat (⟨(0 : Int), (0 : Int), ([] : List Int)⟩ : XRecord)))), (4, .d (cI.enc (0 : Int)))] (by kernel_rfl) <|
    xn <| wpC_blk <| lpF (fun (s84 : ((List XRecord) × Int)) => [(0, .d ((cLs (cXRecord cI cI (cLs cI rfl)) rfl).enc v0)), (3, .d ((cLo (cXRecord cI cI (cLo cI))).enc s84.1)), (4, .d (cI.enc s84.2))]) ((List.replicate ((v0.length : Int)).toNat (⟨(0 : Int), (0 : Int), ([] : List Int)⟩ : XRecord)), (0 : Int)) rfl h
    fun G137 nx135 s84 hn136 h => wpC_seq <| wpC_kp <| wpC_seq <| reg_s <| st rfl <| mvd rfl rfl <| st rfl <| mvd rfl rfl <| stw rfl <| lens rfl fun l142 => st rfl <| b_lss (k := .i64) rfl rfl <| seqN [(0, .d ((cLs (cXRecord cI cI (cLs cI rfl)) rfl).enc v0)), (3, .d ((cLo (cXRecord cI cI (cLo cI))).enc s84.1)), (4, .d (cI.enc s84.2)), (11, .d (cB.enc (decide (s84.2 < (v0.length : Int)))))] (by kernel_rfl) <|
    xn <| cnd rfl h (fun b143 h => wpC_skip <| kpN [(0, .d ((cLs (cXRecord cI cI (cLs cI rfl)) rfl).enc v0)), (3, .d ((cLo (cXRecord cI cI (cLo cI))).enc s84.1)), (4, .d (cI.enc s84.2))] (by kernel_rfl) <| xn <| wpC_seq <| wpC_kp <| wpC_blk <| reg_s <| st rfl <| mvo rfl rfl <| st rfl <| mvd rfl rfl <| st rfl <| mvd rfl rfl <| st rfl <| mvd rfl rfl <| getO_k h fun x152 i153 g154 h => st rfl <| ias rfl rfl i153 g154 rfl <| st rfl <| ldi rfl rfl rfl rfl <| bnd h fun x155 e156 h => st rfl <| o_call (a1 (c := (cXRecord cI cI (cLs cI rfl))) (tXRecord tK tK (tLs tK)) rfl a0) (con_laws_toRecord e156) (.inl (so1 (sXRecord sK sK (sLo sK)) so0)) <| getO_k h fun x157 i158 g159 h => st rfl <| iar rfl rfl rfl rfl i158 g159 rfl <| x_sta ((cLo (cXRecord cI cI (cLo cI))).enc (s84.1.set (s84.2).toNat x155)) (so rfl rfl) rfl rfl (Ln.idx g159 Ln.nil) (Cd.h_sz (cXRecord cI cI (cLo cI)) _) rfl <| seqN [(0, .d ((cLs (cXRecord cI cI (cLs cI rfl)) rfl).enc v0)), (3, .d ((cLo (cXRecord cI cI (cLo cI))).enc (s84.1.set (s84.2).toNat x155))), (4, .d (cI.enc s84.2))] (by kernel_rfl) <|
    xbb <| kpN [(0, .d ((cLs (cXRecord cI cI (cLs cI rfl)) rfl).enc v0)), (3, .d ((cLo (cXRecord cI cI (cLo cI))).enc (s84.1.set (s84.2).toNat x155))), (4, .d (cI.enc s84.2))] (by kernel_rfl) <| xn <| reg_s <| st rfl <| mvd rfl rfl <| ckI_k h fun i160 h => st rfl <| b_add (k := .i64) rfl rfl i160 <| x_asg (ss rfl rfl) <| seqN [(0, .d ((cLs (cXRecord cI cI (cLs cI rfl)) rfl).enc v0)), (3, .d ((cLo (cXRecord cI cI (cLo cI))).enc (s84.1.set (s84.2).toNat x155))), (4, .d (cI.enc (s84.2 + (1 : Int))))] (by kernel_rfl) <|
    xn <| hn136 ((s84.1.set (s84.2).toNat x155), (s84.2 + (1 : Int))) h)
    (fun b143 h => wpC_exit <| xt <| xt <| xt <| xb <| kpN [(3, .d ((cLo (cXRecord cI cI (cLo cI))).enc s84.1))] (by kernel_rfl) <| xn <| wpC_seq <| reg_s <| st rfl <| mvo rfl rfl <| x_asg (sr rfl rfl) <| seqN [(2, .d ((cLo (cXRecord cI cI (cLo cI))).enc s84.1))] (by kernel_rfl) <|
    xn <| wpC_ret <| re <| fin h (r1 (so rfl rfl) <| r0) rfl)

def rs_spec_dGood (r : Bool) : List D := [cB.enc r]
def m142 : MC := .seq (.reg [⟨some 4, .asg (.c (.bool false)), none⟩] [0, 1])
  (.seq (.kp [1] (.seq (.reg [⟨some 7, .mv (.t 1), none⟩,
    ⟨some 8, .len false (.t 7), none⟩,
    ⟨some 9, .mv (.c (.int .i64 0)), none⟩] [0, 1, 7, 8, 9])
  (.blk 0 (.loop (.seq (.reg [⟨some 10, .bin .lss (.t 9) (.t 8), none⟩] [0, 1, 7, 8, 9, 10])
  (.seq (.kp [0, 1, 7, 8, 9] (.cond (.t 10) (.skip) (.exit 0)))
  (.seq (.kp [0, 1, 7, 8, 9] (.blk 1 (.seq (.reg [⟨some 11, .ia 7 (.t 9) 3, none⟩,
    ⟨some 12, .ld 11 3 true, none⟩,
    ⟨some 6, .alloc (.agg [.int .i64 0, .int .i64 0, .slice true []]), none⟩,
    ⟨none, .st 6 (.t 12) 3, none⟩] [0, 1, 6, 7, 8, 9])
  (.seq (.reg [⟨some 13, .mv (.t 0), none⟩,
    ⟨some 14, .ld 6 3 true, none⟩,
    ⟨some 15, .call 70 [(.t 13), (.t 14)], none⟩,
    ⟨some 16, .nt (.t 15), none⟩] [0, 1, 7, 8, 9, 16])
  (.cond (.t 16) (.seq (.reg [⟨some 4, .asg (.c (.bool false)), none⟩] [4])
  (.ret)) (.skip))))))
  (.reg [⟨some 17, .bin .add (.t 9) (.c (.int .i64 1)), none⟩,
    ⟨some 9, .mv (.t 17), none⟩] [0, 1, 7, 8, 9]))))))))
  (.seq (.reg [⟨some 18, .mv (.t 1), none⟩,
    ⟨some 19, .len false (.t 18), none⟩,
    ⟨some 20, .bin .leq (.t 19) (.c (.int .i64 40)), none⟩,
    ⟨some 4, .asg (.t 20), none⟩] [4])
  (.ret)))
theorem con_spec_dGood {v0 : (List XVariable)} {v1 : (List XRecord)} {r : Bool} (h : sh_spec_dGood v0 v1 = some r) : Con Try.prog 142 [(cLs (cXVariable cS cI) rfl).enc v0, (cLs (cXRecord cI cI (cLs cI rfl)) rfl).enc v1] [] (rs_spec_dGood r) := by
  delta sh_spec_dGood at h
  refine top (out := none) (f := Try.f142) (m := m142) (rs := [.t 4]) (by kernel_rfl) rfl (by kernel_rfl) (by kernel_rfl) (by kernel_rfl) (by kernel_rfl) (by kernel_rfl) ?_
  exact
   ini [(0, .d ((cLs (cXVariable cS cI) rfl).enc v0)), (1, .d ((cLs (cXRecord cI cI (cLs cI rfl)) rfl).enc v1))] rfl <| wpC_seq <| reg_s <| x_asg (sc cB false rfl) <| seqN [(0, .d ((cLs (cXVariable cS cI) rfl).enc v0)), (1, .d ((cLs (cXRecord cI cI (cLs cI rfl)) rfl).enc v1))] (by kernel_rfl) <|
    xn <| wpC_seq <| wpC_kp <| wpC_seq <| reg_s <| st rfl <| mvd rfl rfl <| stw rfl <| lens rfl fun l32 => st rfl <| mvc cI (0 : Int) rfl <| seqN [(0, .d ((cLs (cXVariable cS cI) rfl).enc v0)), (1, .d ((cLs (cXRecord cI cI (cLs cI rfl)) rfl).enc v1)), (7, .d ((cLs (cXRecord cI cI (cLs cI rfl)) rfl).enc v1)), (8, .d (cI.enc (v1.length : Int))), (9, .d (cI.enc (0 : Int)))] (by kernel_rfl) <|
    xn <| wpC_blk <| lpR (fun (k34 : Nat) (s33 : Unit) => [(0, .d ((cLs (cXVariable cS cI) rfl).enc v0)), (1, .d ((cLs (cXRecord cI cI (cLs cI rfl)) rfl).enc v1)), (7, .d ((cLs (cXRecord cI cI (cLs cI rfl)) rfl).enc v1)), (8, .d (cI.enc (v1.length : Int))), (9, .d (cI.enc (k34 : Int)))]) () rfl h
    (fun G50 s33 h => wpC_seq <| reg_s <| st rfl <| b_lss (k := .i64) rfl rfl <| seqN [(0, .d ((cLs (cXVariable cS cI) rfl).enc v0)), (1, .d ((cLs (cXRecord cI cI (cLs cI rfl)) rfl).enc v1)), (7, .d ((cLs (cXRecord cI cI (cLs cI rfl)) rfl).enc v1)), (8, .d (cI.enc (v1.length : Int))), (9, .d (cI.enc (v1.length : Int))), (10, .d (cB.enc (decide ((v1.length : Int) < (v1.length : Int)))))] (by kernel_rfl) <|
    xn <| wpC_seq <| wpC_kp <| cnd0 rfl (dlf _) <| wpC_exit <| xt <| xt <| xt <| xb <| kpN [(1, .d ((cLs (cXRecord cI cI (cLs cI rfl)) rfl).enc v1))] (by kernel_rfl) <| xn <| wpC_seq <| reg_s <| st rfl <| mvd rfl rfl <| stw rfl <| lens rfl fun l52 => st rfl <| b_leq (k := .i64) rfl rfl <| x_asg (ss rfl rfl) <| seqN [(4, .d (cB.enc (decide ((v1.length : Int) ≤ (40 : Int)))))] (by kernel_rfl) <|
    xn <| wpC_ret <| re <| fin h (r1 (ss rfl rfl) <| r0) rfl)
    (fun G50 nx48 k34 s33 x35 hk36 hx37 hn49 h => wpC_seq <| reg_s <| st rfl <| b_lss (k := .i64) rfl rfl <| seqN [(0, .d ((cLs (cXVariable cS cI) rfl).enc v0)), (1, .d ((cLs (cXRecord cI cI (cLs cI rfl)) rfl).enc v1)), (7, .d ((cLs (cXRecord cI cI (cLs cI rfl)) rfl).enc v1)), (8, .d (cI.enc (v1.length : Int))), (9, .d (cI.enc (k34 : Int))), (10, .d (cB.enc (decide ((k34 : Int) < (v1.length : Int)))))] (by kernel_rfl) <|
    xn <| wpC_seq <| wpC_kp <| cnd1 rfl (dlt hk36) <| wpC_skip <| kpN [(0, .d ((cLs (cXVariable cS cI) rfl).enc v0)), (1, .d ((cLs (cXRecord cI cI (cLs cI rfl)) rfl).enc v1)), (7, .d ((cLs (cXRecord cI cI (cLs cI rfl)) rfl).enc v1)), (8, .d (cI.enc (v1.length : Int))), (9, .d (cI.enc (k34 : Int)))] (by kernel_rfl) <| xn <| wpC_seq <| wpC_kp <| wpC_blk <| wpC_seq <| reg_s <| st rfl <| ias rfl rfl (Int.natCast_nonneg _) hx37 rfl <| st rfl <| ldi rfl rfl rfl rfl <| x_all (cXRecord cI cI (cLo cI)) (⟨(0 : Int), (0 : Int), ([] : List Int)⟩ : XRecord) rfl <| x_stb (ss rfl rfl) rfl (Cd.h_sz _ _) rfl <| seqN [(0, .d ((cLs (cXVariable cS cI) rfl).enc v0)), (1, .d ((cLs (cXRecord cI cI (cLs cI rfl)) rfl).enc v1)), (6, .box ((cXRecord cI cI (cLs cI rfl)).enc x35)), (7, .d ((cLs (cXRecord cI cI (cLs cI rfl)) rfl).enc v1)), (8, .d (cI.enc (v1.length : Int))), (9, .d (cI.enc (k34 : Int)))] (by kernel_rfl) <|
    xn <| wpC_seq <| reg_s <| st rfl <| mvd rfl rfl <| st rfl <| ldb rfl rfl rfl rfl <| bnd h fun x60 e61 h => st rfl <| o_call (a1 (c := (cLs (cXVariable cS cI) rfl)) (tLs (tXVariable tS tK)) rfl (a1 (c := (cXRecord cI cI (cLs cI rfl))) (tXRecord tK tK (tLs tK)) rfl a0)) (con_spec_rGood e61) (.inl (so1 sB so0)) <| st rfl <| o_nt rfl <| seqN [(0, .d ((cLs (cXVariable cS cI) rfl).enc v0)), (1, .d ((cLs (cXRecord cI cI (cLs cI rfl)) rfl).enc v1)), (7, .d ((cLs (cXRecord cI cI (cLs cI rfl)) rfl).enc v1)), (8, .d (cI.enc (v1.length : Int))), (9, .d (cI.enc (k34 : Int))), (16, .d (cB.enc (!x60)))] (by kernel_rfl) <|
    xn <| cnd rfl h (fun b62 h => wpC_seq <| reg_s <| x_asg (sc cB false rfl) <| seqN [(4, .d (cB.enc false))] (by kernel_rfl) <|
    xn <| wpC_ret <| rb <| rt <| rt <| rt <| rb <| rt <| rt <| re <| fin h (r1 (ss rfl rfl) <| r0) rfl)
    (fun b62 h => wpC_skip <| xbb <| kpN [(0, .d ((cLs (cXVariable cS cI) rfl).enc v0)), (1, .d ((cLs (cXRecord cI cI (cLs cI rfl)) rfl).enc v1)), (7, .d ((cLs (cXRecord cI cI (cLs cI rfl)) rfl).enc v1)), (8, .d (cI.enc (v1.length : Int))), (9, .d (cI.enc (k34 : Int)))] (by kernel_rfl) <| xn <| reg_s <| st rfl <| b_inc rfl rfl l32 hk36 <| st rfl <| mvd rfl rfl <| seqN [(0, .d ((cLs (cXVariable cS cI) rfl).enc v0)), (1, .d ((cLs (cXRecord cI cI (cLs cI rfl)) rfl).enc v1)), (7, .d ((cLs (cXRecord cI cI (cLs cI rfl)) rfl).enc v1)), (8, .d (cI.enc (v1.length : Int))), (9, .d (cI.enc ((k34 + 1 : Nat) : Int)))] (by kernel_rfl) <|
    xn <| hn49 () h))

def rs_spec_dInput (r : Bool) : List D := [cB.enc r]
def m118 : MC := .seq (.reg [⟨some 4, .asg (.c (.bool false)), none⟩] [0, 1])
  (.seq (.reg [⟨some 5, .mv (.t 0), none⟩,
    ⟨some 6, .call 68 [(.t 5)], none⟩,
    ⟨some 7, .mv (.t 6), none⟩,
    ⟨some 8, .mv (.t 0), some (7, true)⟩,
    ⟨some 9, .mv (.t 1), some (7, true)⟩,
    ⟨some 10, .call 142 [(.t 8), (.t 9)], some (7, true)⟩,
    ⟨some 11, .pick (.t 7) (.t 10) (.c (.bool false)), none⟩,
    ⟨some 4, .asg (.t 11), none⟩] [4])
  (.ret))
theorem con_spec_dInput {v0 : (List XVariable)} {v1 : (List XRecord)} {r : Bool} (h : sh_spec_dInput v0 v1 = some r) : Con Try.prog 118 [(cLs (cXVariable cS cI) rfl).enc v0, (cLs (cXRecord cI cI (cLs cI rfl)) rfl).enc v1] [] (rs_spec_dInput r) := by
  delta sh_spec_dInput at h
  refine top (out := none) (f := Try.f118) (m := m118) (rs := [.t 4]) (by kernel_rfl) rfl (by kernel_rfl) (by kernel_rfl) (by kernel_rfl) (by kernel_rfl) (by kernel_rfl) ?_
  exact
   ini [(0, .d ((cLs (cXVariable cS cI) rfl).enc v0)), (1, .d ((cLs (cXRecord cI cI (cLs cI rfl)) rfl).enc v1))] rfl <| wpC_seq <| reg_s <| x_asg (sc cB false rfl) <| seqN [(0, .d ((cLs (cXVariable cS cI) rfl).enc v0)), (1, .d ((cLs (cXRecord cI cI (cLs cI rfl)) rfl).enc v1))] (by kernel_rfl) <|
    xn <| wpC_seq <| reg_s <| st rfl <| mvd rfl rfl <| bnd h fun x6 e7 h => st rfl <| o_call (a1 (c := (cLs (cXVariable cS cI) rfl)) (tLs (tXVariable tS tK)) rfl a0) (con_spec_sGood e7) (.inl (so1 sB so0)) <| st rfl <| mvd rfl rfl <| ite_k h (fun b8 h => gt' rfl b8 <| st rfl <| mvd rfl rfl <| gt' rfl b8 <| st rfl <| mvd rfl rfl <| gt' rfl b8 <| bnd h fun x9 e10 h => st rfl <| o_call (a1 (c := (cLs (cXVariable cS cI) rfl)) (tLs (tXVariable tS tK)) rfl (a1 (c := (cLs (cXRecord cI cI (cLs cI rfl)) rfl)) (tLs (tXRecord tK tK (tLs tK))) rfl a0)) (con_spec_dGood e10) (.inl (so1 sB so0)) <| st rfl <| pick1 rfl b8 (cd := cB) (v := x9) rfl rfl <| x_asg (ss rfl rfl) <| seqN [(4, .d (cB.enc x9))] (by kernel_rfl) <|
    xn <| wpC_ret <| re <| fin h (r1 (ss rfl rfl) <| r0) rfl)
    (fun b8 h => gf rfl b8 <| gf rfl b8 <| gf rfl b8 <| st rfl <| pick0 rfl b8 (cd := cB) (v := false) rfl rfl <| x_asg (ss rfl rfl) <| seqN [(4, .d (cB.enc false))] (by kernel_rfl) <|
    xn <| wpC_ret <| re <| fin h (r1 (ss rfl rfl) <| r0) rfl)

def rs_spec_gChildren (r : (List Int)) : List D := [(cLo cI).enc r]
def m143 : MC := .seq (.reg [⟨some 2, .box (.t 0), none⟩,
    ⟨some 4, .asg (.c (.slice true [])), none⟩] [1, 2])
  (.seq (.reg [⟨some 5, .asg (.c (.slice true [])), none⟩] [1, 2, 5])
  (.seq (.kp [5] (.seq (.reg [⟨some 8, .fa 2 0 0, none⟩,
    ⟨some 9, .ld 8 1 false, none⟩,
    ⟨some 10, .len false (.t 9), none⟩,
    ⟨some 11, .mv (.c (.int .i64 0)), none⟩] [1, 2, 5, 8, 9, 10, 11])
  (.blk 0 (.loop (.seq (.reg [⟨some 12, .bin .lss (.t 11) (.t 10), none⟩] [1, 2, 5, 8, 9, 10, 11, 12])
  (.seq (.kp [1, 2, 5, 8, 9, 10, 11] (.cond (.t 12) (.skip) (.exit 0)))
  (.seq (.kp [1, 2, 5, 8, 9, 10, 11] (.blk 1 (.seq (.reg [⟨some 13, .mv (.t 11), none⟩,
    ⟨some 14, .ia 9 (.t 11) 1, none⟩,
    ⟨some 15, .ld 14 1 false, none⟩,
    ⟨some 6, .asg (.t 13), none⟩,
    ⟨some 7, .asg (.t 15), none⟩] [1, 2, 5, 6, 7, 8, 9, 10, 11])
  (.seq (.reg [⟨some 16, .mv (.t 7), none⟩,
    ⟨some 17, .mv (.t 1), none⟩,
    ⟨some 18, .bin .eql (.t 16) (.t 17), none⟩] [1, 2, 5, 6, 8, 9, 10, 11, 18])
  (.cond (.t 18) (.reg [⟨some 19, .mv (.t 5), none⟩,
    ⟨some 20, .mv (.t 6), none⟩,
    ⟨some 21, .bsl [(.t 20)] 1, none⟩,
    ⟨some 22, .app (.t 19) (.t 21) 1, none⟩,
    ⟨some 5, .asg (.t 22), none⟩] [1, 2, 5, 8, 9, 10, 11]) (.skip))))))
  (.reg [⟨some 23, .bin .add (.t 11) (.c (.int .i64 1)), none⟩,
    ⟨some 11, .mv (.t 23), none⟩] [1, 2, 5, 8, 9, 10, 11]))))))))
  (.seq (.reg [⟨some 24, .mv (.t 5), none⟩,
    ⟨some 4, .asg (.t 24), none⟩] [4])
  (.ret))))
theorem con_spec_gChildren {v0 : XGeo} {v1 : Int} {r : (List Int)} (h : sh_spec_gChildren v0 v1 = some r) : Con Try.prog 143 [(cXGeo (cLs cI rfl)).enc v0, cI.enc v1] [] (rs_spec_gChildren r) := by
  delta sh_spec_gChildren at h
  refine top (out := none) (f := Try.f143) (m := m143) (rs := [.t 4]) (by kernel_rfl) rfl (by kernel_rfl) (by kernel_rfl) (by kernel_rfl) (by kernel_rfl) (by kernel_rfl) ?_
  exact
   ini [(0, .d ((cXGeo (cLs cI rfl)).enc v0)), (1, .d (cI.enc v1))] rfl <| wpC_seq <| reg_s <| x_box (ss rfl rfl) <| x_asg (sc (cLo cI) ([] : List Int) rfl) <| seqN [(1, .d (cI.enc v1)), (2, .box ((cXGeo (cLs cI rfl)).enc v0))] (by kernel_rfl) <|
    xn <| wpC_seq <| reg_s <| x_asg (sc (cLo cI) ([] : List Int) rfl) <| seqN [(1, .d (cI.enc v1)), (2, .box ((cXGeo (cLs cI rfl)).enc v0)), (5, .d ((cLo cI).enc ([] : List Int)))] (by kernel_rfl) <|
    xn <| wpC_seq <| wpC_kp <| wpC_seq <| reg_s <| st rfl <| fab rfl rfl rfl rfl <| st rfl <| lda rfl rfl rfl rfl rfl rfl <| stw rfl <| lens rfl fun l24 => st rfl <| mvc cI (0 : Int) rfl <| seqN [(1, .d (cI.enc v1)), (2, .box ((cXGeo (cLs cI rfl)).enc v0)), (5, .d ((cLo cI).enc ([] : List Int))), (8, .adr 2 [.fld 0]), (9, .d ((cLs cI rfl).enc v0.Parents)), (10, .d (cI.enc (v0.Parents.length : Int))), (11, .d (cI.enc (0 : Int)))] (by kernel_rfl) <|
    xn <| wpC_blk <| lpR (fun (k26 : Nat) (s25 : (List Int)) => [(1, .d (cI.enc v1)), (2, .box ((cXGeo (cLs cI rfl)).enc v0)), (5, .d ((cLo cI).enc s25)), (8, .adr 2 [.fld 0]), (9, .d ((cLs cI rfl).enc v0.Parents)), (10, .d (cI.enc (v0.Parents.length : Int))), (11, .d (cI.enc (k26 : Int)))]) ([] : List Int) rfl h
    (fun G40 s25 h => wpC_seq <| reg_s <| st rfl <| b_lss (k := .i64) rfl rfl <| seqN [(1, .d (cI.enc v1)), (2, .box ((cXGeo (cLs cI rfl)).enc v0)), (5, .d ((cLo cI).enc s25)), (8, .adr 2 [.fld 0]), (9, .d ((cLs cI rfl).enc v0.Parents)), (10, .d (cI.enc (v0.Parents.length : Int))), (11, .d (cI.enc (v0.Parents.length : Int))), (12, .d (cB.enc (decide ((v0.Parents.length : Int) < (v0.Parents.length : Int)))))] (by kernel_rfl) <|
    xn <| wpC_seq <| wpC_kp <| cnd0 rfl (dlf _) <| wpC_exit <| xt <| xt <| xt <| xb <| kpN [(5, .d ((cLo cI).enc s25))] (by kernel_rfl) <| xn <| wpC_seq <| reg_s <| st rfl <| mvo rfl rfl <| x_asg (sr rfl rfl) <| seqN [(4, .d ((cLo cI).enc s25))] (by kernel_rfl) <|
    xn <| wpC_ret <| re <| fin h (r1 (so rfl rfl) <| r0) rfl)
    (fun G40 nx38 k26 s25 x27 hk28 hx29 hn39 h => wpC_seq <| reg_s <| st rfl <| b_lss (k := .i64) rfl rfl <| seqN [(1, .d (cI.enc v1)), (2, .box ((cXGeo (cLs cI rfl)).enc v0)), (5, .d ((cLo cI).enc s25)), (8, .adr 2 [.fld 0]), (9, .d ((cLs cI rfl).enc v0.Parents)), (10, .d (cI.enc (v0.Parents.length : Int))), (11, .d (cI.enc (k26 : Int))), (12, .d (cB.enc (decide ((k26 : Int) < (v0.Parents.length : Int)))))] (by kernel_rfl) <|
    xn <| wpC_seq <| wpC_kp <| cnd1 rfl (dlt hk28) <| wpC_skip <| kpN [(1, .d (cI.enc v1)), (2, .box ((cXGeo (cLs cI rfl)).enc v0)), (5, .d ((cLo cI).enc s25)), (8, .adr 2 [.fld 0]), (9, .d ((cLs cI rfl).enc v0.Parents)), (10, .d (cI.enc (v0.Parents.length : Int))), (11, .d (cI.enc (k26 : Int)))] (by kernel_rfl) <| xn <| wpC_seq <| wpC_kp <| wpC_blk <| wpC_seq <| reg_s <| st rfl <| mvd rfl rfl <| st rfl <| ias rfl rfl (Int.natCast_nonneg _) hx29 rfl <| st rfl <| ldi rfl rfl rfl rfl <| x_asg (ss rfl rfl) <| x_asg (ss rfl rfl) <| seqN [(1, .d (cI.enc v1)), (2, .box ((cXGeo (cLs cI rfl)).enc v0)), (5, .d ((cLo cI).enc s25)), (6, .d (cI.enc (k26 : Int))), (7, .d (cI.enc x27)), (8, .adr 2 [.fld 0]), (9, .d ((cLs cI rfl).enc v0.Parents)), (10, .d (cI.enc (v0.Parents.length : Int))), (11, .d (cI.enc (k26 : Int)))] (by kernel_rfl) <|
    xn <| wpC_seq <| reg_s <| st rfl <| mvd rfl rfl <| st rfl <| mvd rfl rfl <| st rfl <| b_eql (k := .i64) rfl rfl <| seqN [(1, .d (cI.enc v1)), (2, .box ((cXGeo (cLs cI rfl)).enc v0)), (5, .d ((cLo cI).enc s25)), (6, .d (cI.enc (k26 : Int))), (8, .adr 2 [.fld 0]), (9, .d ((cLs cI rfl).enc v0.Parents)), (10, .d (cI.enc (v0.Parents.length : Int))), (11, .d (cI.enc (k26 : Int))), (18, .d (cB.enc (decide (x27 = v1))))] (by kernel_rfl) <|
    xn <| cnd rfl h (fun b43 h => reg_s <| st rfl <| mvo rfl rfl <| st rfl <| mvd rfl rfl <| x_bsl cI [(k26 : Int)] (t1 (ss rfl rfl) rfl t0) rfl rfl <| lnO_k h fun l44 h => x_app (sr rfl rfl) (to rfl rfl) l44 rfl <| x_asg (so rfl rfl) <| seqN [(1, .d (cI.enc v1)), (2, .box ((cXGeo (cLs cI rfl)).enc v0)), (5, .d ((cLo cI).enc (s25 ++ [(k26 : Int)]))), (8, .adr 2 [.fld 0]), (9, .d ((cLs cI rfl).enc v0.Parents)), (10, .d (cI.enc (v0.Parents.length : Int))), (11, .d (cI.enc (k26 : Int)))] (by kernel_rfl) <|
    xbb <| kpN [(1, .d (cI.enc v1)), (2, .box ((cXGeo (cLs cI rfl)).enc v0)), (5, .d ((cLo cI).enc (s25 ++ [(k26 : Int)]))), (8, .adr 2 [.fld 0]), (9, .d ((cLs cI rfl).enc v0.Parents)), (10, .d (cI.enc (v0.Parents.length : Int))), (11, .d (cI.enc (k26 : Int)))] (by kernel_rfl) <| xn <| reg_s <| st rfl <| b_inc rfl rfl l24 hk28 <| st rfl <| mvd rfl rfl <| seqN [(1, .d (cI.enc v1)), (2, .box ((cXGeo (cLs cI rfl)).enc v0)), (5, .d ((cLo cI).enc (s25 ++ [(k26 : Int)]))), (8, .adr 2 [.fld 0]), (9, .d ((cLs cI rfl).enc v0.Parents)), (10, .d (cI.enc (v0.Parents.length : Int))), (11, .d (cI.enc ((k26 + 1 : Nat) : Int)))] (by kernel_rfl) <|
    xn <| hn39 (s25 ++ [(k26 : Int)]) h)
    (fun b43 h => wpC_skip <| xbb <| kpN [(1, .d (cI.enc v1)), (2, .box ((cXGeo (cLs cI rfl)).enc v0)), (5, .d ((cLo cI).enc s25)), (8, .adr 2 [.fld 0]), (9, .d ((cLs cI rfl).enc v0.Parents)), (10, .d (cI.enc (v0.Parents.length : Int))), (11, .d (cI.enc (k26 : Int)))] (by kernel_rfl) <| xn <| reg_s <| st rfl <| b_inc rfl rfl l24 hk28 <| st rfl <| mvd rfl rfl <| seqN [(1, .d (cI.enc v1)), (2, .box ((cXGeo (cLs cI rfl)).enc v0)), (5, .d ((cLo cI).enc s25)), (8, .adr 2 [.fld 0]), (9, .d ((cLs cI rfl).enc v0.Parents)), (10, .d (cI.enc (v0.Parents.length : Int))), (11, .d (cI.enc ((k26 + 1 : Nat) : Int)))] (by kernel_rfl) <|
    xn <| hn39 s25 h))

def rs_spec_gLeaves (r : (List Int)) : List D := [(cLo cI).enc r]
def m119 : MC := .seq (.reg [⟨some 1, .box (.t 0), none⟩,
    ⟨some 2, .asg (.c (.slice true [])), none⟩] [1])
  (.seq (.reg [⟨some 3, .asg (.c (.slice true [])), none⟩] [1, 3])
  (.seq (.kp [3] (.seq (.reg [⟨some 5, .fa 1 0 0, none⟩,
    ⟨some 6, .ld 5 1 false, none⟩,
    ⟨some 7, .len false (.t 6), none⟩,
    ⟨some 8, .mv (.c (.int .i64 0)), none⟩] [1, 3, 7, 8])
  (.blk 0 (.loop (.seq (.reg [⟨some 9, .bin .lss (.t 8) (.t 7), none⟩] [1, 3, 7, 8, 9])
  (.seq (.kp [1, 3, 7, 8] (.cond (.t 9) (.skip) (.exit 0)))
  (.seq (.kp [1, 3, 7, 8] (.blk 1 (.seq (.reg [⟨some 10, .mv (.t 8), none⟩,
    ⟨some 4, .asg (.t 10), none⟩] [1, 3, 4, 7, 8])
  (.seq (.reg [⟨some 11, .ld 1 1 true, none⟩,
    ⟨some 12, .mv (.t 4), none⟩,
    ⟨some 13, .call 143 [(.t 11), (.t 12)], none⟩,
    ⟨some 14, .len false (.t 13), none⟩,
    ⟨some 15, .bin .eql (.t 14) (.c (.int .i64 0)), none⟩] [1, 3, 4, 7, 8, 15])
  (.cond (.t 15) (.reg [⟨some 16, .mv (.t 3), none⟩,
    ⟨some 17, .mv (.t 4), none⟩,
    ⟨some 18, .bsl [(.t 17)] 1, none⟩,
    ⟨some 19, .app (.t 16) (.t 18) 1, none⟩,
    ⟨some 3, .asg (.t 19), none⟩] [1, 3, 7, 8]) (.skip))))))
  (.reg [⟨some 20, .bin .add (.t 8) (.c (.int .i64 1)), none⟩,
    ⟨some 8, .mv (.t 20), none⟩] [1, 3, 7, 8]))))))))
  (.seq (.reg [⟨some 21, .mv (.t 3), none⟩,
    ⟨some 2, .asg (.t 21), none⟩] [2])
  (.ret))))
theorem con_spec_gLeaves {v0 : XGeo} {r : (List Int)} (h : sh_spec_gLeaves v0 = some r) : Con Try.prog 119 [(cXGeo (cLs cI rfl)).enc v0] [] (rs_spec_gLeaves r) := by
  delta sh_spec_gLeaves at h
  refine top (out := none) (f := Try.f119) (m := m119) (rs := [.t 2]) (by kernel_rfl) rfl (by kernel_rfl) (by kernel_rfl) (by kernel_rfl) (by kernel_rfl) (by kernel_rfl) ?_
  exact
   ini [(0, .d ((cXGeo (cLs cI rfl)).enc v0))] rfl <| wpC_seq <| reg_s <| x_box (ss rfl rfl) <| x_asg (sc (cLo cI) ([] : List Int) rfl) <| seqN [(1, .box ((cXGeo (cLs cI rfl)).enc v0))] (by kernel_rfl) <|
    xn <| wpC_seq <| reg_s <| x_asg (sc (cLo cI) ([] : List Int) rfl) <| seqN [(1, .box ((cXGeo (cLs cI rfl)).enc v0)), (3, .d ((cLo cI).enc ([] : List Int)))] (by kernel_rfl) <|
    xn <| wpC_seq <| wpC_kp <| wpC_seq <| reg_s <| st rfl <| fab rfl rfl rfl rfl <| st rfl <| lda rfl rfl rfl rfl rfl rfl <| stw rfl <| lens rfl fun l60 => st rfl <| mvc cI (0 : Int) rfl <| seqN [(1, .box ((cXGeo (cLs cI rfl)).enc v0)), (3, .d ((cLo cI).enc ([] : List Int))), (7, .d (cI.enc (v0.Parents.length : Int))), (8, .d (cI.enc (0 : Int)))] (by kernel_rfl) <|
    xn <| wpC_blk <| lpR (fun (k62 : Nat) (s61 : (List Int)) => [(1, .box ((cXGeo (cLs cI rfl)).enc v0)), (3, .d ((cLo cI).enc s61)), (7, .d (cI.enc (v0.Parents.length : Int))), (8, .d (cI.enc (k62 : Int)))]) ([] : List Int) rfl h
    (fun G100 s61 h => wpC_seq <| reg_s <| st rfl <| b_lss (k := .i64) rfl rfl <| seqN [(1, .box ((cXGeo (cLs cI rfl)).enc v0)), (3, .d ((cLo cI).enc s61)), (7, .d (cI.enc (v0.Parents.length : Int))), (8, .d (cI.enc (v0.Parents.length : Int))), (9, .d (cB.enc (decide ((v0.Parents.length : Int) < (v0.Parents.length : Int)))))] (by kernel_rfl) <|
    xn <| wpC_seq <| wpC_kp <| cnd0 rfl (dlf _) <| wpC_exit <| xt <| xt <| xt <| xb <| kpN [(3, .d ((cLo cI).enc s61))] (by kernel_rfl) <| xn <| wpC_seq <| reg_s <| st rfl <| mvo rfl rfl <| x_asg (sr rfl rfl) <| seqN [(2, .d ((cLo cI).enc s61))] (by kernel_rfl) <|
    xn <| wpC_ret <| re <| fin h (r1 (so rfl rfl) <| r0) rfl)
    (fun G100 nx98 k62 s61 x63 hk64 hx65 hn99 h => wpC_seq <| reg_s <| st rfl <| b_lss (k := .i64) rfl rfl <| seqN [(1, .box ((cXGeo (cLs cI rfl)).enc v0)), (3, .d ((cLo cI).enc s61)), (7, .d (cI.enc (v0.Parents.length : Int))), (8, .d (cI.enc (k62 : Int))), (9, .d (cB.enc (decide ((k62 : Int) < (v0.Parents.length : Int)))))] (by kernel_rfl) <|
    xn <| wpC_seq <| wpC_kp <| cnd1 rfl (dlt hk64) <| wpC_skip <| kpN [(1, .box ((cXGeo (cLs cI rfl)).enc v0)), (3, .d ((cLo cI).enc s61)), (7, .d (cI.enc (v0.Parents.length : Int))), (8, .d (cI.enc (k62 : Int)))] (by kernel_rfl) <| xn <| wpC_seq <| wpC_kp <| wpC_blk <| wpC_seq <| reg_s <| st rfl <| mvd rfl rfl <| x_asg (ss rfl rfl) <| seqN [(1, .box ((cXGeo (cLs cI rfl)).enc v0)), (3, .d ((cLo cI).enc s61)), (4, .d (cI.enc (k62 : Int))), (7, .d (cI.enc (v0.Parents.length : Int))), (8, .d (cI.enc (k62 : Int)))] (by kernel_rfl) <|
    xn <| wpC_seq <| reg_s <| st rfl <| ldb rfl rfl rfl rfl <| st rfl <| mvd rfl rfl <| bnd h fun x112 e113 h => st rfl <| o_call (a1 (c := (cXGeo (cLs cI rfl))) (tXGeo (tLs tK)) rfl (a1 (c := cI) tK rfl a0)) (con_spec_gChildren e113) (.inl (so1 (sLo sK) so0)) <| stw rfl <| leno rfl fun l114 => st rfl <| b_eql (k := .i64) rfl rfl <| seqN [(1, .box ((cXGeo (cLs cI rfl)).enc v0)), (3, .d ((cLo cI).enc s61)), (4, .d (cI.enc (k62 : Int))), (7, .d (cI.enc (v0.Parents.length : Int))), (8, .d (cI.enc (k62 : Int))), (15, .d (cB.enc (decide ((x112.length : Int) = (0 : Int)))))] (by kernel_rfl) <|
    xn <| cnd rfl h (fun b115 h => reg_s <| st rfl <| mvo rfl rfl <| st rfl <| mvd rfl rfl <| x_bsl cI [(k62 : Int)] (t1 (ss rfl rfl) rfl t0) rfl rfl <| lnO_k h fun l116 h => x_app (sr rfl rfl) (to rfl rfl) l116 rfl <| x_asg (so rfl rfl) <| seqN [(1, .box ((cXGeo (cLs cI rfl)).enc v0)), (3, .d ((cLo cI).enc (s61 ++ [(k62 : Int)]))), (7, .d (cI.enc (v0.Parents.length : Int))), (8, .d (cI.enc (k62 : Int)))] (by kernel_rfl) <|
    xbb <| kpN [(1, .box ((cXGeo (cLs cI rfl)).enc v0)), (3, .d ((cLo cI).enc (s61 ++ [(k62 : Int)]))), (7, .d (cI.enc (v0.Parents.length : Int))), (8, .d (cI.enc (k62 : Int)))] (by kernel_rfl) <| xn <| reg_s <| st rfl <| b_inc rfl rfl l60 hk64 <| st rfl <| mvd rfl rfl <| seqN [(1, .box ((cXGeo (cLs cI rfl)).enc v0)), (3, .d ((cLo cI).enc (s61 ++ [(k62 : Int)]))), (7, .d (cI.enc (v0.Parents.length : Int))), (8, .d (cI.enc ((k62 + 1 : Nat) : Int)))] (by kernel_rfl) <|
    xn <| hn99 (s61 ++ [(k62 : Int)]) h)
    (fun b115 h => wpC_skip <| xbb <| kpN [(1, .box ((cXGeo (cLs cI rfl)).enc v0)), (3, .d ((cLo cI).enc s61)), (7, .d (cI.enc (v0.Parents.length : Int))), (8, .d (cI.enc (k62 : Int)))] (by kernel_rfl) <| xn <| reg_s <| st rfl <| b_inc rfl rfl l60 hk64 <| st rfl <| mvd rfl rfl <| seqN [(1, .box ((cXGeo (cLs cI rfl)).enc v0)), (3, .d ((cLo cI).enc s61)), (7, .d (cI.enc (v0.Parents.length : Int))), (8, .d (cI.enc ((k62 + 1 : Nat) : Int)))] (by kernel_rfl) <|
    xn <| hn99 s61 h))

def rs_spec_l1Has (r : Bool) : List D := [cB.enc r]
def m120 : MC := .seq (.reg [⟨some 4, .asg (.c (.bool false)), none⟩] [0, 1])
  (.seq (.kp [] (.seq (.reg [⟨some 7, .mv (.t 0), none⟩,
    ⟨some 8, .len false (.t 7), none⟩,
    ⟨some 9, .mv (.c (.int .i64 0)), none⟩] [0, 1, 7, 8, 9])
  (.blk 0 (.loop (.seq (.reg [⟨some 10, .bin .lss (.t 9) (.t 8), none⟩] [0, 1, 7, 8, 9, 10])
  (.seq (.kp [0, 1, 7, 8, 9] (.cond (.t 10) (.skip) (.exit 0)))
  (.seq (.kp [0, 1, 7, 8, 9] (.blk 1 (.seq (.reg [⟨some 11, .ia 7 (.t 9) 1, none⟩,
    ⟨some 12, .ld 11 1 false, none⟩,
    ⟨some 6, .asg (.t 12), none⟩] [0, 1, 6, 7, 8, 9])
  (.seq (.reg [⟨some 13, .mv (.t 6), none⟩,
    ⟨some 14, .mv (.t 1), none⟩,
    ⟨some 15, .bin .eql (.t 13) (.t 14), none⟩] [0, 1, 7, 8, 9, 15])
  (.cond (.t 15) (.seq (.reg [⟨some 4, .asg (.c (.bool true)), none⟩] [4])
  (.ret)) (.skip))))))
  (.reg [⟨some 16, .bin .add (.t 9) (.c (.int .i64 1)), none⟩,
    ⟨some 9, .mv (.t 16), none⟩] [0, 1, 7, 8, 9]))))))))
  (.seq (.reg [⟨some 4, .asg (.c (.bool false)), none⟩] [4])
  (.ret)))
theorem con_spec_l1Has {v0 : (List Int)} {v1 : Int} {r : Bool} (h : sh_spec_l1Has v0 v1 = some r) : Con Try.prog 120 [(cLs cI rfl).enc v0, cI.enc v1] [] (rs_spec_l1Has r) := by
  delta sh_spec_l1Has at h
  refine top (out := none) (f := Try.f120) (m := m120) (rs := [.t 4]) (by kernel_rfl) rfl (by kernel_rfl) (by kernel_rfl) (by kernel_rfl) (by kernel_rfl) (by kernel_rfl) ?_
  exact
   ini [(0, .d ((cLs cI rfl).enc v0)), (1, .d (cI.enc v1))] rfl <| wpC_seq <| reg_s <| x_asg (sc cB false rfl) <| seqN [(0, .d ((cLs cI rfl).enc v0)), (1, .d (cI.enc v1))] (by kernel_rfl) <|
    xn <| wpC_seq <| wpC_kp <| wpC_seq <| reg_s <| st rfl <| mvd rfl rfl <| stw rfl <| lens rfl fun l16 => st rfl <| mvc cI (0 : Int) rfl <| seqN [(0, .d ((cLs cI rfl).enc v0)), (1, .d (cI.enc v1)), (7, .d ((cLs cI rfl).enc v0)), (8, .d (cI.enc (v0.length : Int))), (9, .d (cI.enc (0 : Int)))] (by kernel_rfl) <|
    xn <| wpC_blk <| lpR (fun (k18 : Nat) (s17 : Unit) => [(0, .d ((cLs cI rfl).enc v0)), (1, .d (cI.enc v1)), (7, .d ((cLs cI rfl).enc v0)), (8, .d (cI.enc (v0.length : Int))), (9, .d (cI.enc (k18 : Int)))]) () rfl h
    (fun G26 s17 h => wpC_seq <| reg_s <| st rfl <| b_lss (k := .i64) rfl rfl <| seqN [(0, .d ((cLs cI rfl).enc v0)), (1, .d (cI.enc v1)), (7, .d ((cLs cI rfl).enc v0)), (8, .d (cI.enc (v0.length : Int))), (9, .d (cI.enc (v0.length : Int))), (10, .d (cB.enc (decide ((v0.length : Int) < (v0.length : Int)))))] (by kernel_rfl) <|
    xn <| wpC_seq <| wpC_kp <| cnd0 rfl (dlf _) <| wpC_exit <| xt <| xt <| xt <| xb <| kpN [] (by kernel_rfl) <| xn <| wpC_seq <| reg_s <| x_asg (sc cB false rfl) <| seqN [(4, .d (cB.enc false))] (by kernel_rfl) <|
    xn <| wpC_ret <| re <| fin h (r1 (ss rfl rfl) <| r0) rfl)
    (fun G26 nx24 k18 s17 x19 hk20 hx21 hn25 h => wpC_seq <| reg_s <| st rfl <| b_lss (k := .i64) rfl rfl <| seqN [(0, .d ((cLs cI rfl).enc v0)), (1, .d (cI.enc v1)), (7, .d ((cLs cI rfl).enc v0)), (8, .d (cI.enc (v0.length : Int))), (9, .d (cI.enc (k18 : Int))), (10, .d (cB.enc (decide ((k18 : Int) < (v0.length : Int)))))] (by kernel_rfl) <|
    xn <| wpC_seq <| wpC_kp <| cnd1 rfl (dlt hk20) <| wpC_skip <| kpN [(0, .d ((cLs cI rfl).enc v0)), (1, .d (cI.enc v1)), (7, .d ((cLs cI rfl).enc v0)), (8, .d (cI.enc (v0.length : Int))), (9, .d (cI.enc (k18 : Int)))] (by kernel_rfl) <| xn <| wpC_seq <| wpC_kp <| wpC_blk <| wpC_seq <| reg_s <| st rfl <| ias rfl rfl (Int.natCast_nonneg _) hx21 rfl <| st rfl <| ldi rfl rfl rfl rfl <| x_asg (ss rfl rfl) <| seqN [(0, .d ((cLs cI rfl).enc v0)), (1, .d (cI.enc v1)), (6, .d (cI.enc x19)), (7, .d ((cLs cI rfl).enc v0)), (8, .d (cI.enc (v0.length : Int))), (9, .d (cI.enc (k18 : Int)))] (by kernel_rfl) <|
    xn <| wpC_seq <| reg_s <| st rfl <| mvd rfl rfl <| st rfl <| mvd rfl rfl <| st rfl <| b_eql (k := .i64) rfl rfl <| seqN [(0, .d ((cLs cI rfl).enc v0)), (1, .d (cI.enc v1)), (7, .d ((cLs cI rfl).enc v0)), (8, .d (cI.enc (v0.length : Int))), (9, .d (cI.enc (k18 : Int))), (15, .d (cB.enc (decide (x19 = v1))))] (by kernel_rfl) <|
    xn <| cnd rfl h (fun b28 h => wpC_seq <| reg_s <| x_asg (sc cB true rfl) <| seqN [(4, .d (cB.enc true))] (by kernel_rfl) <|
    xn <| wpC_ret <| rb <| rt <| rt <| rt <| rb <| rt <| rt <| re <| fin h (r1 (ss rfl rfl) <| r0) rfl)
    (fun b28 h => wpC_skip <| xbb <| kpN [(0, .d ((cLs cI rfl).enc v0)), (1, .d (cI.enc v1)), (7, .d ((cLs cI rfl).enc v0)), (8, .d (cI.enc (v0.length : Int))), (9, .d (cI.enc (k18 : Int)))] (by kernel_rfl) <| xn <| reg_s <| st rfl <| b_inc rfl rfl l16 hk20 <| st rfl <| mvd rfl rfl <| seqN [(0, .d ((cLs cI rfl).enc v0)), (1, .d (cI.enc v1)), (7, .d ((cLs cI rfl).enc v0)), (8, .d (cI.enc (v0.length : Int))), (9, .d (cI.enc ((k18 + 1 : Nat) : Int)))] (by kernel_rfl) <|
    xn <| hn25 () h))

def rs_spec_uSurvey (r : Bool) : List D := [cB.enc r]
def m85 : MC := .seq (.reg [⟨some 3, .box (.t 0), none⟩,
    ⟨some 6, .asg (.c (.bool false)), none⟩] [1, 2, 3])
  (.seq (.kp [2, 3] (.seq (.reg [⟨some 10, .ld 3 1 true, none⟩,
    ⟨some 11, .call 78 [(.t 10)], none⟩,
    ⟨some 12, .nt (.t 11), none⟩,
    ⟨some 13, .mv (.t 12), none⟩,
    ⟨some 14, .mv (.t 1), some (13, false)⟩,
    ⟨some 15, .mv (.t 2), some (13, false)⟩,
    ⟨some 16, .call 118 [(.t 14), (.t 15)], some (13, false)⟩,
    ⟨some 17, .nt (.t 16), some (13, false)⟩,
    ⟨some 18, .pick (.t 13) (.c (.bool true)) (.t 17), none⟩] [2, 3, 18])
  (.cond (.t 18) (.seq (.reg [⟨some 6, .asg (.c (.bool false)), none⟩] [6])
  (.ret)) (.skip))))
  (.seq (.reg [⟨some 19, .ld 3 1 true, none⟩,
    ⟨some 20, .call 119 [(.t 19)], none⟩,
    ⟨some 7, .asg (.t 20), none⟩] [2, 7])
  (.seq (.kp [] (.seq (.reg [⟨some 21, .mv (.t 2), none⟩,
    ⟨some 22, .len false (.t 21), none⟩,
    ⟨some 23, .mv (.c (.int .i64 0)), none⟩] [2, 7, 21, 22, 23])
  (.blk 0 (.loop (.seq (.reg [⟨some 24, .bin .lss (.t 23) (.t 22), none⟩] [2, 7, 21, 22, 23, 24])
  (.seq (.kp [2, 7, 21, 22, 23] (.cond (.t 24) (.skip) (.exit 0)))
  (.seq (.kp [2, 7, 21, 22, 23] (.blk 1 (.seq (.reg [⟨some 25, .ia 21 (.t 23) 3, none⟩,
    ⟨some 26, .ld 25 3 true, none⟩,
    ⟨some 9, .alloc (.agg [.int .i64 0, .int .i64 0, .slice true []]), none⟩,
    ⟨none, .st 9 (.t 26) 3, none⟩] [2, 7, 9, 21, 22, 23])
  (.seq (.reg [⟨some 27, .mv (.t 7), none⟩,
    ⟨some 28, .fa 9 0 0, none⟩,
    ⟨some 29, .ld 28 1 false, none⟩,
    ⟨some 30, .call 120 [(.t 27), (.t 29)], none⟩,
    ⟨some 31, .nt (.t 30), none⟩] [2, 7, 21, 22, 23, 31])
  (.cond (.t 31) (.seq (.reg [⟨some 6, .asg (.c (.bool false)), none⟩] [6])
  (.ret)) (.skip))))))
  (.reg [⟨some 32, .bin .add (.t 23) (.c (.int .i64 1)), none⟩,
    ⟨some 23, .mv (.t 32), none⟩] [2, 7, 21, 22, 23]))))))))
  (.seq (.reg [⟨some 6, .asg (.c (.bool true)), none⟩] [6])
  (.ret)))))
theorem con_spec_uSurvey {v0 : XGeo} {v1 : (List XVariable)} {v2 : (List XRecord)} {r : Bool} (h : sh_spec_uSurvey v0 v1 v2 = some r) : Con Try.prog 85 [(cXGeo (cLs cI rfl)).enc v0, (cLs (cXVariable cS cI) rfl).enc v1, (cLs (cXRecord cI cI (cLs cI rfl)) rfl).enc v2] [] (rs_spec_uSurvey r) := by
  delta sh_spec_uSurvey at h
  refine top (out := none) (f := Try.f85) (m := m85) (rs := [.t 6]) (by kernel_rfl) rfl (by kernel_rfl) (by kernel_rfl) (by kernel_rfl) (by kernel_rfl) (by kernel_rfl) ?_
  exact
   ini [(0, .d ((cXGeo (cLs cI rfl)).enc v0)), (1, .d ((cLs (cXVariable cS cI) rfl).enc v1)), (2, .d ((cLs (cXRecord cI cI (cLs cI rfl)) rfl).enc v2))] rfl <| wpC_seq <| reg_s <| x_box (ss rfl rfl) <| x_asg (sc cB false rfl) <| seqN [(1, .d ((cLs (cXVariable cS cI) rfl).enc v1)), (2, .d ((cLs (cXRecord cI cI (cLs cI rfl)) rfl).enc v2)), (3, .box ((cXGeo (cLs cI rfl)).enc v0))] (by kernel_rfl) <|
    xn <| wpC_seq <| wpC_kp <| wpC_seq <| reg_s <| st rfl <| ldb rfl rfl rfl rfl <| bnd h fun x17 e18 h => st rfl <| o_call (a1 (c := (cXGeo (cLs cI rfl))) (tXGeo (tLs tK)) rfl a0) (con_spec_gGood e18) (.inl (so1 sB so0)) <| st rfl <| o_nt rfl <| st rfl <| mvd rfl rfl <| ite_k h (fun b19 h => gf rfl b19 <| gf rfl b19 <| gf rfl b19 <| gf rfl b19 <| st rfl <| pick1 rfl b19 (cd := cB) (v := true) rfl rfl <| seqN [(2, .d ((cLs (cXRecord cI cI (cLs cI rfl)) rfl).enc v2)), (3, .box ((cXGeo (cLs cI rfl)).enc v0)), (18, .d (cB.enc true))] (by kernel_rfl) <|
    xn <| cnd1 rfl rfl <| wpC_seq <| reg_s <| x_asg (sc cB false rfl) <| seqN [(6, .d (cB.enc false))] (by kernel_rfl) <|
    xn <| wpC_ret <| rt <| rt <| re <| fin h (r1 (ss rfl rfl) <| r0) rfl)
    (fun b19 h => gt' rfl b19 <| st rfl <| mvd rfl rfl <| gt' rfl b19 <| st rfl <| mvd rfl rfl <| gt' rfl b19 <| bnd h fun x20 e21 h => st rfl <| o_call (a1 (c := (cLs (cXVariable cS cI) rfl)) (tLs (tXVariable tS tK)) rfl (a1 (c := (cLs (cXRecord cI cI (cLs cI rfl)) rfl)) (tLs (tXRecord tK tK (tLs tK))) rfl a0)) (con_spec_dInput e21) (.inl (so1 sB so0)) <| gt' rfl b19 <| st rfl <| o_nt rfl <| st rfl <| pick0 rfl b19 (cd := cB) (v := (!x20)) rfl rfl <| seqN [(2, .d ((cLs (cXRecord cI cI (cLs cI rfl)) rfl).enc v2)), (3, .box ((cXGeo (cLs cI rfl)).enc v0)), (18, .d (cB.enc (!x20)))] (by kernel_rfl) <|
    xn <| cnd rfl h (fun b22 h => wpC_seq <| reg_s <| x_asg (sc cB false rfl) <| seqN [(6, .d (cB.enc false))] (by kernel_rfl) <|
    xn <| wpC_ret <| rt <| rt <| re <| fin h (r1 (ss rfl rfl) <| r0) rfl)
    (fun b22 h => wpC_skip <| kpN [(2, .d ((cLs (cXRecord cI cI (cLs cI rfl)) rfl).enc v2)), (3, .box ((cXGeo (cLs cI rfl)).enc v0))] (by kernel_rfl) <| xn <| wpC_seq <| reg_s <| st rfl <| ldb rfl rfl rfl rfl <| bnd h fun x25 e26 h => st rfl <| o_call (a1 (c := (cXGeo (cLs cI rfl))) (tXGeo (tLs tK)) rfl a0) (con_spec_gLeaves e26) (.inl (so1 (sLo sK) so0)) <| x_asg (so rfl rfl) <| seqN [(2, .d ((cLs (cXRecord cI cI (cLs cI rfl)) rfl).enc v2)), (7, .d ((cLo cI).enc x25))] (by kernel_rfl) <|
    xn <| wpC_seq <| wpC_kp <| wpC_seq <| reg_s <| st rfl <| mvd rfl rfl <| stw rfl <| lens rfl fun l58 => st rfl <| mvc cI (0 : Int) rfl <| seqN [(2, .d ((cLs (cXRecord cI cI (cLs cI rfl)) rfl).enc v2)), (7, .d ((cLo cI).enc x25)), (21, .d ((cLs (cXRecord cI cI (cLs cI rfl)) rfl).enc v2)), (22, .d (cI.enc (v2.length : Int))), (23, .d (cI.enc (0 : Int)))] (by kernel_rfl) <|
    xn <| wpC_blk <| lpR (fun (k60 : Nat) (s59 : Unit) => [(2, .d ((cLs (cXRecord cI cI (cLs cI rfl)) rfl).enc v2)), (7, .d ((cLo cI).enc x25)), (21, .d ((cLs (cXRecord cI cI (cLs cI rfl)) rfl).enc v2)), (22, .d (cI.enc (v2.length : Int))), (23, .d (cI.enc (k60 : Int)))]) () rfl h
    (fun G76 s59 h => wpC_seq <| reg_s <| st rfl <| b_lss (k := .i64) rfl rfl <| seqN [(2, .d ((cLs (cXRecord cI cI (cLs cI rfl)) rfl).enc v2)), (7, .d ((cLo cI).enc x25)), (21, .d ((cLs (cXRecord cI cI (cLs cI rfl)) rfl).enc v2)), (22, .d (cI.enc (v2.length : Int))), (23, .d (cI.enc (v2.length : Int))), (24, .d (cB.enc (decide ((v2.length : Int) < (v2.length : Int)))))] (by kernel_rfl) <|
    xn <| wpC_seq <| wpC_kp <| cnd0 rfl (dlf _) <| wpC_exit <| xt <| xt <| xt <| xb <| kpN [] (by kernel_rfl) <| xn <| wpC_seq <| reg_s <| x_asg (sc cB true rfl) <| seqN [(6, .d (cB.enc true))] (by kernel_rfl) <|
    xn <| wpC_ret <| re <| fin h (r1 (ss rfl rfl) <| r0) rfl)
    (fun G76 nx74 k60 s59 x61 hk62 hx63 hn75 h => wpC_seq <| reg_s <| st rfl <| b_lss (k := .i64) rfl rfl <| seqN [(2, .d ((cLs (cXRecord cI cI (cLs cI rfl)) rfl).enc v2)), (7, .d ((cLo cI).enc x25)), (21, .d ((cLs (cXRecord cI cI (cLs cI rfl)) rfl).enc v2)), (22, .d (cI.enc (v2.length : Int))), (23, .d (cI.enc (k60 : Int))), (24, .d (cB.enc (decide ((k60 : Int) < (v2.length : Int)))))] (by kernel_rfl) <|
    xn <| wpC_seq <| wpC_kp <| cnd1 rfl (dlt hk62) <| wpC_skip <| kpN [(2, .d ((cLs (cXRecord cI cI (cLs cI rfl)) rfl).enc v2)), (7, .d ((cLo cI).enc x25)), (21, .d ((cLs (cXRecord cI cI (cLs cI rfl)) rfl).enc v2)), (22, .d (cI.enc (v2.length : Int))), (23, .d (cI.enc (k60 : Int)))] (by kernel_rfl) <| xn <| wpC_seq <| wpC_kp <| wpC_blk <| wpC_seq <| reg_s <| st rfl <| ias rfl rfl (Int.natCast_nonneg _) hx63 rfl <| st rfl <| ldi rfl rfl rfl rfl <| x_all (cXRecord cI cI (cLo cI)) (⟨(0 : Int), (0 : Int), ([] : List Int)⟩ : XRecord) rfl <| x_stb (ss rfl rfl) rfl (Cd.h_sz _ _) rfl <| seqN [(2, .d ((cLs (cXRecord cI cI (cLs cI rfl)) rfl).enc v2)), (7, .d ((cLo cI).enc x25)), (9, .box ((cXRecord cI cI (cLs cI rfl)).enc x61)), (21, .d ((cLs (cXRecord cI cI (cLs cI rfl)) rfl).enc v2)), (22, .d (cI.enc (v2.length : Int))), (23, .d (cI.enc (k60 : Int)))] (by kernel_rfl) <|
    xn <| wpC_seq <| reg_s <| st rfl <| mvo rfl rfl <| st rfl <| fab rfl rfl rfl rfl <| st rfl <| lda rfl rfl rfl rfl rfl rfl <| bnd h fun x84 e85 h => st rfl <| o_call (a1 (c := (cLo cI)) (tLo tK) rfl (a1 (c := cI) tK rfl a0)) (con_spec_l1Has e85) (.inl (so1 sB so0)) <| st rfl <| o_nt rfl <| seqN [(2, .d ((cLs (cXRecord cI cI (cLs cI rfl)) rfl).enc v2)), (7, .d ((cLo cI).enc x25)), (21, .d ((cLs (cXRecord cI cI (cLs cI rfl)) rfl).enc v2)), (22, .d (cI.enc (v2.length : Int))), (23, .d (cI.enc (k60 : Int))), (31, .d (cB.enc (!x84)))] (by kernel_rfl) <|
    xn <| cnd rfl h (fun b86 h => wpC_seq <| reg_s <| x_asg (sc cB false rfl) <| seqN [(6, .d (cB.enc false))] (by kernel_rfl) <|
    xn <| wpC_ret <| rb <| rt <| rt <| rt <| rb <| rt <| rt <| re <| fin h (r1 (ss rfl rfl) <| r0) rfl)
    (fun b86 h => wpC_skip <| xbb <| kpN [(2, .d ((cLs (cXRecord cI cI (cLs cI rfl)) rfl).enc v2)), (7, .d ((cLo cI).enc x25)), (21, .d ((cLs (cXRecord cI cI (cLs cI rfl)) rfl).enc v2)), (22, .d (cI.enc (v2.length : Int))), (23, .d (cI.enc (k60 : Int)))] (by kernel_rfl) <| xn <| reg_s <| st rfl <| b_inc rfl rfl l58 hk62 <| st rfl <| mvd rfl rfl <| seqN [(2, .d ((cLs (cXRecord cI cI (cLs cI rfl)) rfl).enc v2)), (7, .d ((cLo cI).enc x25)), (21, .d ((cLs (cXRecord cI cI (cLs cI rfl)) rfl).enc v2)), (22, .d (cI.enc (v2.length : Int))), (23, .d (cI.enc ((k60 + 1 : Nat) : Int)))] (by kernel_rfl) <|
    xn <| hn75 () h))))

def rs_spec_IsSurvey (r : (Bool × Bool)) : List D := [cB.enc r.1, cB.enc r.2]
def m34 : MC := .seq (.reg [⟨some 3, .box (.t 0), none⟩,
    ⟨some 6, .asg (.c (.bool false)), none⟩,
    ⟨some 7, .asg (.c (.bool false)), none⟩] [1, 2, 3])
  (.seq (.kp [1, 2, 3] (.seq (.reg [⟨some 8, .ld 3 1 true, none⟩,
    ⟨some 9, .call 78 [(.t 8)], none⟩,
    ⟨some 10, .nt (.t 9), none⟩,
    ⟨some 11, .mv (.t 10), none⟩,
    ⟨some 12, .mv (.t 1), some (11, false)⟩,
    ⟨some 13, .call 68 [(.t 12)], some (11, false)⟩,
    ⟨some 14, .nt (.t 13), some (11, false)⟩,
    ⟨some 15, .pick (.t 11) (.c (.bool true)) (.t 14), none⟩] [1, 2, 3, 15])
  (.cond (.t 15) (.seq (.reg [⟨some 6, .asg (.c (.bool false)), none⟩,
    ⟨some 7, .asg (.c (.bool false)), none⟩] [6, 7])
  (.ret)) (.skip))))
  (.seq (.reg [⟨some 16, .ld 3 1 true, none⟩,
    ⟨some 17, .mv (.t 1), none⟩,
    ⟨some 18, .mv (.t 2), none⟩,
    ⟨some 19, .call 85 [(.t 16), (.t 17), (.t 18)], none⟩,
    ⟨some 6, .asg (.t 19), none⟩,
    ⟨some 7, .asg (.c (.bool true)), none⟩] [6, 7])
  (.ret)))
theorem con_spec_IsSurvey {v0 : XGeo} {v1 : (List XVariable)} {v2 : (List XRecord)} {r : (Bool × Bool)} (h : sh_spec_IsSurvey v0 v1 v2 = some r) : Con Try.prog 34 [(cXGeo (cLs cI rfl)).enc v0, (cLs (cXVariable cS cI) rfl).enc v1, (cLs (cXRecord cI cI (cLs cI rfl)) rfl).enc v2] [] (rs_spec_IsSurvey r) := by
  delta sh_spec_IsSurvey at h
  refine top (out := none) (f := Try.f34) (m := m34) (rs := [.t 6, .t 7]) (by kernel_rfl) rfl (by kernel_rfl) (by kernel_rfl) (by kernel_rfl) (by kernel_rfl) (by kernel_rfl) ?_
  exact
   ini [(0, .d ((cXGeo (cLs cI rfl)).enc v0)), (1, .d ((cLs (cXVariable cS cI) rfl).enc v1)), (2, .d ((cLs (cXRecord cI cI (cLs cI rfl)) rfl).enc v2))] rfl <| wpC_seq <| reg_s <| x_box (ss rfl rfl) <| x_asg (sc cB false rfl) <| x_asg (sc cB false rfl) <| seqN [(1, .d ((cLs (cXVariable cS cI) rfl).enc v1)), (2, .d ((cLs (cXRecord cI cI (cLs cI rfl)) rfl).enc v2)), (3, .box ((cXGeo (cLs cI rfl)).enc v0))] (by kernel_rfl) <|
    xn <| wpC_seq <| wpC_kp <| wpC_seq <| reg_s <| st rfl <| ldb rfl rfl rfl rfl <| bnd h fun x17 e18 h => st rfl <| o_call (a1 (c := (cXGeo (cLs cI rfl))) (tXGeo (tLs tK)) rfl a0) (con_spec_gGood e18) (.inl (so1 sB so0)) <| st rfl <| o_nt rfl <| st rfl <| mvd rfl rfl <| ite_k h (fun b19 h => gf rfl b19 <| gf rfl b19 <| gf rfl b19 <| st rfl <| pick1 rfl b19 (cd := cB) (v := true) rfl rfl <| seqN [(1, .d ((cLs (cXVariable cS cI) rfl).enc v1)), (2, .d ((cLs (cXRecord cI cI (cLs cI rfl)) rfl).enc v2)), (3, .box ((cXGeo (cLs cI rfl)).enc v0)), (15, .d (cB.enc true))] (by kernel_rfl) <|
    xn <| cnd1 rfl rfl <| wpC_seq <| reg_s <| x_asg (sc cB false rfl) <| x_asg (sc cB false rfl) <| seqN [(6, .d (cB.enc false)), (7, .d (cB.enc false))] (by kernel_rfl) <|
    xn <| wpC_ret <| rt <| rt <| re <| fin h (r1 (ss rfl rfl) <| r1 (ss rfl rfl) <| r0) rfl)
    (fun b19 h => gt' rfl b19 <| st rfl <| mvd rfl rfl <| gt' rfl b19 <| bnd h fun x20 e21 h => st rfl <| o_call (a1 (c := (cLs (cXVariable cS cI) rfl)) (tLs (tXVariable tS tK)) rfl a0) (con_spec_sGood e21) (.inl (so1 sB so0)) <| gt' rfl b19 <| st rfl <| o_nt rfl <| st rfl <| pick0 rfl b19 (cd := cB) (v := (!x20)) rfl rfl <| seqN [(1, .d ((cLs (cXVariable cS cI) rfl).enc v1)), (2, .d ((cLs (cXRecord cI cI (cLs cI rfl)) rfl).enc v2)), (3, .box ((cXGeo (cLs cI rfl)).enc v0)), (15, .d (cB.enc (!x20)))] (by kernel_rfl) <|
    xn <| cnd rfl h (fun b22 h => wpC_seq <| reg_s <| x_asg (sc cB false rfl) <| x_asg (sc cB false rfl) <| seqN [(6, .d (cB.enc false)), (7, .d (cB.enc false))] (by kernel_rfl) <|
    xn <| wpC_ret <| rt <| rt <| re <| fin h (r1 (ss rfl rfl) <| r1 (ss rfl rfl) <| r0) rfl)
    (fun b22 h => wpC_skip <| kpN [(1, .d ((cLs (cXVariable cS cI) rfl).enc v1)), (2, .d ((cLs (cXRecord cI cI (cLs cI rfl)) rfl).enc v2)), (3, .box ((cXGeo (cLs cI rfl)).enc v0))] (by kernel_rfl) <| xn <| wpC_seq <| reg_s <| st rfl <| ldb rfl rfl rfl rfl <| st rfl <| mvd rfl rfl <| st rfl <| mvd rfl rfl <| bnd h fun x25 e26 h => st rfl <| o_call (a1 (c := (cXGeo (cLs cI rfl))) (tXGeo (tLs tK)) rfl (a1 (c := (cLs (cXVariable cS cI) rfl)) (tLs (tXVariable tS tK)) rfl (a1 (c := (cLs (cXRecord cI cI (cLs cI rfl)) rfl)) (tLs (tXRecord tK tK (tLs tK))) rfl a0))) (con_spec_uSurvey e26) (.inl (so1 sB so0)) <| x_asg (ss rfl rfl) <| x_asg (sc cB true rfl) <| seqN [(6, .d (cB.enc x25)), (7, .d (cB.enc true))] (by kernel_rfl) <|
    xn <| wpC_ret <| re <| fin h (r1 (ss rfl rfl) <| r1 (ss rfl rfl) <| r0) rfl))

def rs_impl_isData (r : Bool) : List D := [cB.enc r]
def m121 : MC := .seq (.reg [⟨some 4, .asg (.c (.bool false)), none⟩] [0, 1])
  (.seq (.kp [0, 1] (.seq (.reg [⟨some 7, .mv (.t 1), none⟩,
    ⟨some 8, .len false (.t 7), none⟩,
    ⟨some 9, .bin .gtr (.t 8) (.c (.int .i64 40)), none⟩] [0, 1, 9])
  (.cond (.t 9) (.seq (.reg [⟨some 4, .asg (.c (.bool false)), none⟩] [4])
  (.ret)) (.skip))))
  (.seq (.kp [] (.seq (.reg [⟨some 10, .mv (.t 1), none⟩,
    ⟨some 11, .len false (.t 10), none⟩,
    ⟨some 12, .mv (.c (.int .i64 0)), none⟩] [0, 1, 10, 11, 12])
  (.blk 0 (.loop (.seq (.reg [⟨some 13, .bin .lss (.t 12) (.t 11), none⟩] [0, 1, 10, 11, 12, 13])
  (.seq (.kp [0, 1, 10, 11, 12] (.cond (.t 13) (.skip) (.exit 0)))
  (.seq (.kp [0, 1, 10, 11, 12] (.blk 1 (.seq (.reg [⟨some 14, .ia 10 (.t 12) 3, none⟩,
    ⟨some 15, .ld 14 3 true, none⟩,
    ⟨some 6, .alloc (.agg [.int .i64 0, .int .i64 0, .slice true []]), none⟩,
    ⟨none, .st 6 (.t 15) 3, none⟩] [0, 1, 6, 10, 11, 12])
  (.seq (.reg [⟨some 16, .mv (.t 0), none⟩,
    ⟨some 17, .ld 6 3 true, none⟩,
    ⟨some 18, .call 75 [(.t 16), (.t 17)], none⟩,
    ⟨some 19, .nt (.t 18), none⟩] [0, 1, 10, 11, 12, 19])
  (.cond (.t 19) (.seq (.reg [⟨some 4, .asg (.c (.bool false)), none⟩] [4])
  (.ret)) (.skip))))))
  (.reg [⟨some 20, .bin .add (.t 12) (.c (.int .i64 1)), none⟩,
    ⟨some 12, .mv (.t 20), none⟩] [0, 1, 10, 11, 12]))))))))
  (.seq (.reg [⟨some 4, .asg (.c (.bool true)), none⟩] [4])
  (.ret))))
theorem con_impl_isData {v0 : (List XVariable)} {v1 : (List XRecord)} {r : Bool} (h : sh_impl_isData v0 v1 = some r) : Con Try.prog 121 [(cLs (cXVariable cS cI) rfl).enc v0, (cLs (cXRecord cI cI (cLs cI rfl)) rfl).enc v1] [] (rs_impl_isData r) := by
  delta sh_impl_isData at h
  refine top (out := none) (f := Try.f121) (m := m121) (rs := [.t 4]) (by kernel_rfl) rfl (by kernel_rfl) (by kernel_rfl) (by kernel_rfl) (by kernel_rfl) (by kernel_rfl) ?_
  exact
   ini [(0, .d ((cLs (cXVariable cS cI) rfl).enc v0)), (1, .d ((cLs (cXRecord cI cI (cLs cI rfl)) rfl).enc v1))] rfl <| wpC_seq <| reg_s <| x_asg (sc cB false rfl) <| seqN [(0, .d ((cLs (cXVariable cS cI) rfl).enc v0)), (1, .d ((cLs (cXRecord cI cI (cLs cI rfl)) rfl).enc v1))] (by kernel_rfl) <|
    xn <| wpC_seq <| wpC_kp <| wpC_seq <| reg_s <| st rfl <| mvd rfl rfl <| stw rfl <| lens rfl fun l5 => st rfl <| b_gtr (k := .i64) rfl rfl <| seqN [(0, .d ((cLs (cXVariable cS cI) rfl).enc v0)), (1, .d ((cLs (cXRecord cI cI (cLs cI rfl)) rfl).enc v1)), (9, .d (cB.enc (decide ((40 : Int) < (v1.length : Int)))))] (by kernel_rfl) <|
    xn <| cnd rfl h (fun b6 h => wpC_seq <| reg_s <| x_asg (sc cB false rfl) <| seqN [(4, .d (cB.enc false))] (by kernel_rfl) <|
    xn <| wpC_ret <| rt <| rt <| re <| fin h (r1 (ss rfl rfl) <| r0) rfl)
    (fun b6 h => wpC_skip <| kpN [(0, .d ((cLs (cXVariable cS cI) rfl).enc v0)), (1, .d ((cLs (cXRecord cI cI (cLs cI rfl)) rfl).enc v1))] (by kernel_rfl) <| xn <| wpC_seq <| wpC_kp <| wpC_seq <| reg_s <| st rfl <| mvd rfl rfl <| stw rfl <| lens rfl fun l38 => st rfl <| mvc cI (0 : Int) rfl <| seqN [(0, .d ((cLs (cXVariable cS cI) rfl).enc v0)), (1, .d ((cLs (cXRecord cI cI (cLs cI rfl)) rfl).enc v1)), (10, .d ((cLs (cXRecord cI cI (cLs cI rfl)) rfl).enc v1)), (11, .d (cI.enc (v1.length : Int))), (12, .d (cI.enc (0 : Int)))] (by kernel_rfl) <|
    xn <| wpC_blk <| lpR (fun (k40 : Nat) (s39 : Unit) => [(0, .d ((cLs (cXVariable cS cI) rfl).enc v0)), (1, .d ((cLs (cXRecord cI cI (cLs cI rfl)) rfl).enc v1)), (10, .d ((cLs (cXRecord cI cI (cLs cI rfl)) rfl).enc v1)), (11, .d (cI.enc (v1.length : Int))), (12, .d (cI.enc (k40 : Int)))]) () rfl h
    (fun G56 s39 h => wpC_seq <| reg_s <| st rfl <| b_lss (k := .i64) rfl rfl <| seqN [(0, .d ((cLs (cXVariable cS cI) rfl).enc v0)), (1, .d ((cLs (cXRecord cI cI (cLs cI rfl)) rfl).enc v1)), (10, .d ((cLs (cXRecord cI cI (cLs cI rfl)) rfl).enc v1)), (11, .d (cI.enc (v1.length : Int))), (12, .d (cI.enc (v1.length : Int))), (13, .d (cB.enc (decide ((v1.length : Int) < (v1.length : Int)))))] (by kernel_rfl) <|
    xn <| wpC_seq <| wpC_kp <| cnd0 rfl (dlf _) <| wpC_exit <| xt <| xt <| xt <| xb <| kpN [] (by kernel_rfl) <| xn <| wpC_seq <| reg_s <| x_asg (sc cB true rfl) <| seqN [(4, .d (cB.enc true))] (by kernel_rfl) <|
    xn <| wpC_ret <| re <| fin h (r1 (ss rfl rfl) <| r0) rfl)
    (fun G56 nx54 k40 s39 x41 hk42 hx43 hn55 h => wpC_seq <| reg_s <| st rfl <| b_lss (k := .i64) rfl rfl <| seqN [(0, .d ((cLs (cXVariable cS cI) rfl).enc v0)), (1, .d ((cLs (cXRecord cI cI (cLs cI rfl)) rfl).enc v1)), (10, .d ((cLs (cXRecord cI cI (cLs cI rfl)) rfl).enc v1)), (11, .d (cI.enc (v1.length : Int))), (12, .d (cI.enc (k40 : Int))), (13, .d (cB.enc (decide ((k40 : Int) < (v1.length : Int)))))] (by kernel_rfl) <|
    xn <| wpC_seq <| wpC_kp <| cnd1 rfl (dlt hk42) <| wpC_skip <| kpN [(0, .d ((cLs (cXVariable cS cI) rfl).enc v0)), (1, .d ((cLs (cXRecord cI cI (cLs cI rfl)) rfl).enc v1)), (10, .d ((cLs (cXRecord cI cI (cLs cI rfl)) rfl).enc v1)), (11, .d (cI.enc (v1.length : Int))), (12, .d (cI.enc (k40 : Int)))] (by kernel_rfl) <| xn <| wpC_seq <| wpC_kp <| wpC_blk <| wpC_seq <| reg_s <| st rfl <| ias rfl rfl (Int.natCast_nonneg _) hx43 rfl <| st rfl <| ldi rfl rfl rfl rfl <| x_all (cXRecord cI cI (cLo cI)) (⟨(0 : Int), (0 : Int), ([] : List Int)⟩ : XRecord) rfl <| x_stb (ss rfl rfl) rfl (Cd.h_sz _ _) rfl <| seqN [(0, .d ((cLs (cXVariable cS cI) rfl).enc v0)), (1, .d ((cLs (cXRecord cI cI (cLs cI rfl)) rfl).enc v1)), (6, .box ((cXRecord cI cI (cLs cI rfl)).enc x41)), (10, .d ((cLs (cXRecord cI cI (cLs cI rfl)) rfl).enc v1)), (11, .d (cI.enc (v1.length : Int))), (12, .d (cI.enc (k40 : Int)))] (by kernel_rfl) <|
    xn <| wpC_seq <| reg_s <| st rfl <| mvd rfl rfl <| st rfl <| ldb rfl rfl rfl rfl <| bnd h fun x64 e65 h => st rfl <| o_call (a1 (c := (cLs (cXVariable cS cI) rfl)) (tLs (tXVariable tS tK)) rfl (a1 (c := (cXRecord cI cI (cLs cI rfl))) (tXRecord tK tK (tLs tK)) rfl a0)) (con_impl_isRecord e65) (.inl (so1 sB so0)) <| st rfl <| o_nt rfl <| seqN [(0, .d ((cLs (cXVariable cS cI) rfl).enc v0)), (1, .d ((cLs (cXRecord cI cI (cLs cI rfl)) rfl).enc v1)), (10, .d ((cLs (cXRecord cI cI (cLs cI rfl)) rfl).enc v1)), (11, .d (cI.enc (v1.length : Int))), (12, .d (cI.enc (k40 : Int))), (19, .d (cB.enc (!x64)))] (by kernel_rfl) <|
    xn <| cnd rfl h (fun b66 h => wpC_seq <| reg_s <| x_asg (sc cB false rfl) <| seqN [(4, .d (cB.enc false))] (by kernel_rfl) <|
    xn <| wpC_ret <| rb <| rt <| rt <| rt <| rb <| rt <| rt <| re <| fin h (r1 (ss rfl rfl) <| r0) rfl)
    (fun b66 h => wpC_skip <| xbb <| kpN [(0, .d ((cLs (cXVariable cS cI) rfl).enc v0)), (1, .d ((cLs (cXRecord cI cI (cLs cI rfl)) rfl).enc v1)), (10, .d ((cLs (cXRecord cI cI (cLs cI rfl)) rfl).enc v1)), (11, .d (cI.enc (v1.length : Int))), (12, .d (cI.enc (k40 : Int)))] (by kernel_rfl) <| xn <| reg_s <| st rfl <| b_inc rfl rfl l38 hk42 <| st rfl <| mvd rfl rfl <| seqN [(0, .d ((cLs (cXVariable cS cI) rfl).enc v0)), (1, .d ((cLs (cXRecord cI cI (cLs cI rfl)) rfl).enc v1)), (10, .d ((cLs (cXRecord cI cI (cLs cI rfl)) rfl).enc v1)), (11, .d (cI.enc (v1.length : Int))), (12, .d (cI.enc ((k40 + 1 : Nat) : Int)))] (by kernel_rfl) <|
    xn <| hn55 () h)))

def rs_impl_isArea (r : Bool) : List D := [cB.enc r]
def m122 : MC := .seq (.reg [⟨some 2, .box (.t 0), none⟩,
    ⟨some 4, .asg (.c (.bool false)), none⟩] [1, 2])
  (.seq (.reg [⟨some 5, .mv (.t 1), none⟩,
    ⟨some 6, .bin .geq (.t 5) (.c (.int .i64 0)), none⟩,
    ⟨some 7, .mv (.t 6), none⟩,
    ⟨some 8, .mv (.t 1), some (7, true)⟩,
    ⟨some 9, .fa 2 0 0, some (7, true)⟩,
    ⟨some 10, .ld 9 1 false, some (7, true)⟩,
    ⟨some 11, .len false (.t 10), some (7, true)⟩,
    ⟨some 12, .bin .lss (.t 8) (.t 11), some (7, true)⟩,
    ⟨some 13, .pick (.t 7) (.t 12) (.c (.bool false)), none⟩,
    ⟨some 4, .asg (.t 13), none⟩] [4])
  (.ret))
theorem con_impl_isArea {v0 : XGeo} {v1 : Int} {r : Bool} (h : sh_impl_isArea v0 v1 = some r) : Con Try.prog 122 [(cXGeo (cLs cI rfl)).enc v0, cI.enc v1] [] (rs_impl_isArea r) := by
  delta sh_impl_isArea at h
  refine top (out := none) (f := Try.f122) (m := m122) (rs := [.t 4]) (by kernel_rfl) rfl (by kernel_rfl) (by kernel_rfl) (by kernel_rfl) (by kernel_rfl) (by kernel_rfl) ?_
  exact
   ini [(0, .d ((cXGeo (cLs cI rfl)).enc v0)), (1, .d (cI.enc v1))] rfl <| wpC_seq <| reg_s <| x_box (ss rfl rfl) <| x_asg (sc cB false rfl) <| seqN [(1, .d (cI.enc v1)), (2, .box ((cXGeo (cLs cI rfl)).enc v0))] (by kernel_rfl) <|
    xn <| wpC_seq <| reg_s <| st rfl <| mvd rfl rfl <| st rfl <| b_geq (k := .i64) rfl rfl <| st rfl <| mvd rfl rfl <| ite_k h (fun b3 h => gt' rfl b3 <| st rfl <| mvd rfl rfl <| gt' rfl b3 <| st rfl <| fab rfl rfl rfl rfl <| gt' rfl b3 <| st rfl <| lda rfl rfl rfl rfl rfl rfl <| gt' rfl b3 <| stw rfl <| lens rfl fun l4 => gt' rfl b3 <| st rfl <| b_lss (k := .i64) rfl rfl <| st rfl <| pick1 rfl b3 (cd := cB) (v := (decide (v1 < (v0.Parents.length : Int)))) rfl rfl <| x_asg (ss rfl rfl) <| seqN [(4, .d (cB.enc (decide (v1 < (v0.Parents.length : Int)))))] (by kernel_rfl) <|
    xn <| wpC_ret <| re <| fin h (r1 (ss rfl rfl) <| r0) rfl)
    (fun b3 h => gf rfl b3 <| gf rfl b3 <| gf rfl b3 <| gf rfl b3 <| gf rfl b3 <| st rfl <| pick0 rfl b3 (cd := cB) (v := false) rfl rfl <| x_asg (ss rfl rfl) <| seqN [(4, .d (cB.enc false))] (by kernel_rfl) <|
    xn <| wpC_ret <| re <| fin h (r1 (ss rfl rfl) <| r0) rfl)

def rs_slices_Index_int (r : Int) : List D := [cI.enc r]
def m150 : MC := .seq (.reg [⟨some 4, .asg (.c (.int .i64 0)), none⟩] [0, 1])
  (.seq (.kp [] (.seq (.reg [⟨some 6, .mv (.t 0), none⟩,
    ⟨some 7, .len false (.t 6), none⟩,
    ⟨some 8, .mv (.c (.int .i64 0)), none⟩] [0, 1, 7, 8])
  (.blk 0 (.loop (.seq (.reg [⟨some 9, .bin .lss (.t 8) (.t 7), none⟩] [0, 1, 7, 8, 9])
  (.seq (.kp [0, 1, 7, 8] (.cond (.t 9) (.skip) (.exit 0)))
  (.seq (.kp [0, 1, 7, 8] (.blk 1 (.seq (.reg [⟨some 10, .mv (.t 8), none⟩,
    ⟨some 5, .asg (.t 10), none⟩] [0, 1, 5, 7, 8])
  (.seq (.reg [⟨some 11, .mv (.t 1), none⟩,
    ⟨some 12, .mv (.t 0), none⟩,
    ⟨some 13, .mv (.t 5), none⟩,
    ⟨some 14, .ia 12 (.t 13) 1, none⟩,
    ⟨some 15, .ld 14 1 false, none⟩,
    ⟨some 16, .bin .eql (.t 11) (.t 15), none⟩] [0, 1, 5, 7, 8, 16])
  (.cond (.t 16) (.seq (.reg [⟨some 17, .mv (.t 5), none⟩,
    ⟨some 4, .asg (.t 17), none⟩] [4])
  (.ret)) (.skip))))))
  (.reg [⟨some 18, .bin .add (.t 8) (.c (.int .i64 1)), none⟩,
    ⟨some 8, .mv (.t 18), none⟩] [0, 1, 7, 8]))))))))
  (.seq (.reg [⟨some 4, .asg (.c (.int .i64 (-1))), none⟩] [4])
  (.ret)))
theorem con_slices_Index_int {v0 : (List Int)} {v1 : Int} {r : Int} (h : sh_slices_Index_int v0 v1 = some r) : Con Try.prog 150 [(cLs cI rfl).enc v0, cI.enc v1] [] (rs_slices_Index_int r) := by
  delta sh_slices_Index_int at h
  refine top (out := none) (f := Try.f150) (m := m150) (rs := [.t 4]) (by kernel_rfl) rfl (by kernel_rfl) (by kernel_rfl) (by kernel_rfl) (by kernel_rfl) (by kernel_rfl) ?_
  exact
   ini [(0, .d ((cLs cI rfl).enc v0)), (1, .d (cI.enc v1))] rfl <| wpC_seq <| reg_s <| x_asg (sc cI (0 : Int) rfl) <| seqN [(0, .d ((cLs cI rfl).enc v0)), (1, .d (cI.enc v1))] (by kernel_rfl) <|
    xn <| wpC_seq <| wpC_kp <| wpC_seq <| reg_s <| st rfl <| mvd rfl rfl <| stw rfl <| lens rfl fun l16 => st rfl <| mvc cI (0 : Int) rfl <| seqN [(0, .d ((cLs cI rfl).enc v0)), (1, .d (cI.enc v1)), (7, .d (cI.enc (v0.length : Int))), (8, .d (cI.enc (0 : Int)))] (by kernel_rfl) <|
    xn <| wpC_blk <| lpR (fun (k18 : Nat) (s17 : Unit) => [(0, .d ((cLs cI rfl).enc v0)), (1, .d (cI.enc v1)), (7, .d (cI.enc (v0.length : Int))), (8, .d (cI.enc (k18 : Int)))]) () rfl h
    (fun G26 s17 h => wpC_seq <| reg_s <| st rfl <| b_lss (k := .i64) rfl rfl <| seqN [(0, .d ((cLs cI rfl).enc v0)), (1, .d (cI.enc v1)), (7, .d (cI.enc (v0.length : Int))), (8, .d (cI.enc (v0.length : Int))), (9, .d (cB.enc (decide ((v0.length : Int) < (v0.length : Int)))))] (by kernel_rfl) <|
    xn <| wpC_seq <| wpC_kp <| cnd0 rfl (dlf _) <| wpC_exit <| xt <| xt <| xt <| xb <| kpN [] (by kernel_rfl) <| xn <| wpC_seq <| reg_s <| x_asg (sc cI (-1 : Int) rfl) <| seqN [(4, .d (cI.enc (-1 : Int)))] (by kernel_rfl) <|
    xn <| wpC_ret <| re <| fin h (r1 (ss rfl rfl) <| r0) rfl)
    (fun G26 nx24 k18 s17 x19 hk20 hx21 hn25 h => wpC_seq <| reg_s <| st rfl <| b_lss (k := .i64) rfl rfl <| seqN [(0, .d ((cLs cI rfl).enc v0)), (1, .d (cI.enc v1)), (7, .d (cI.enc (v0.length : Int))), (8, .d (cI.enc (k18 : Int))), (9, .d (cB.enc (decide ((k18 : Int) < (v0.length : Int)))))] (by kernel_rfl) <|
    xn <| wpC_seq <| wpC_kp <| cnd1 rfl (dlt hk20) <| wpC_skip <| kpN [(0, .d ((cLs cI rfl).enc v0)), (1, .d (cI.enc v1)), (7, .d (cI.enc (v0.length : Int))), (8, .d (cI.enc (k18 : Int)))] (by kernel_rfl) <| xn <| wpC_seq <| wpC_kp <| wpC_blk <| wpC_seq <| reg_s <| st rfl <| mvd rfl rfl <| x_asg (ss rfl rfl) <| seqN [(0, .d ((cLs cI rfl).enc v0)), (1, .d (cI.enc v1)), (5, .d (cI.enc (k18 : Int))), (7, .d (cI.enc (v0.length : Int))), (8, .d (cI.enc (k18 : Int)))] (by kernel_rfl) <|
    xn <| wpC_seq <| reg_s <| st rfl <| mvd rfl rfl <| st rfl <| mvd rfl rfl <| st rfl <| mvd rfl rfl <| st rfl <| ias rfl rfl (Int.natCast_nonneg _) hx21 rfl <| st rfl <| ldi rfl rfl rfl rfl <| st rfl <| b_eql (k := .i64) rfl rfl <| seqN [(0, .d ((cLs cI rfl).enc v0)), (1, .d (cI.enc v1)), (5, .d (cI.enc (k18 : Int))), (7, .d (cI.enc (v0.length : Int))), (8, .d (cI.enc (k18 : Int))), (16, .d (cB.enc (decide (v1 = x19))))] (by kernel_rfl) <|
    xn <| cnd rfl h (fun b28 h => wpC_seq <| reg_s <| st rfl <| mvd rfl rfl <| x_asg (ss rfl rfl) <| seqN [(4, .d (cI.enc (k18 : Int)))] (by kernel_rfl) <|
    xn <| wpC_ret <| rb <| rt <| rt <| rt <| rb <| rt <| rt <| re <| fin h (r1 (ss rfl rfl) <| r0) rfl)
    (fun b28 h => wpC_skip <| xbb <| kpN [(0, .d ((cLs cI rfl).enc v0)), (1, .d (cI.enc v1)), (7, .d (cI.enc (v0.length : Int))), (8, .d (cI.enc (k18 : Int)))] (by kernel_rfl) <| xn <| reg_s <| st rfl <| b_inc rfl rfl l16 hk20 <| st rfl <| mvd rfl rfl <| seqN [(0, .d ((cLs cI rfl).enc v0)), (1, .d (cI.enc v1)), (7, .d (cI.enc (v0.length : Int))), (8, .d (cI.enc ((k18 + 1 : Nat) : Int)))] (by kernel_rfl) <|
    xn <| hn25 () h))

def rs_slices_Contains_int (r : Bool) : List D := [cB.enc r]
def m141 : MC := .seq (.reg [⟨some 4, .asg (.c (.bool false)), none⟩] [0, 1])
  (.seq (.reg [⟨some 5, .mv (.t 0), none⟩,
    ⟨some 6, .mv (.t 1), none⟩,
    ⟨some 7, .call 150 [(.t 5), (.t 6)], none⟩,
    ⟨some 8, .bin .geq (.t 7) (.c (.int .i64 0)), none⟩,
    ⟨some 4, .asg (.t 8), none⟩] [4])
  (.ret))
theorem con_slices_Contains_int {v0 : (List Int)} {v1 : Int} {r : Bool} (h : sh_slices_Contains_int v0 v1 = some r) : Con Try.prog 141 [(cLs cI rfl).enc v0, cI.enc v1] [] (rs_slices_Contains_int r) := by
  delta sh_slices_Contains_int at h
  refine top (out := none) (f := Try.f141) (m := m141) (rs := [.t 4]) (by kernel_rfl) rfl (by kernel_rfl) (by kernel_rfl) (by kernel_rfl) (by kernel_rfl) (by kernel_rfl) ?_
  exact
   ini [(0, .d ((cLs cI rfl).enc v0)), (1, .d (cI.enc v1))] rfl <| wpC_seq <| reg_s <| x_asg (sc cB false rfl) <| seqN [(0, .d ((cLs cI rfl).enc v0)), (1, .d (cI.enc v1))] (by kernel_rfl) <|
    xn <| wpC_seq <| reg_s <| st rfl <| mvd rfl rfl <| st rfl <| mvd rfl rfl <| bnd h fun x3 e4 h => st rfl <| o_call (a1 (c := (cLs cI rfl)) (tLs tK) rfl (a1 (c := cI) tK rfl a0)) (con_slices_Index_int e4) (.inl (so1 sK so0)) <| st rfl <| b_geq (k := .i64) rfl rfl <| x_asg (ss rfl rfl) <| seqN [(4, .d (cB.enc (decide ((0 : Int) ≤ x3))))] (by kernel_rfl) <|
    xn <| wpC_ret <| re <| fin h (r1 (ss rfl rfl) <| r0) rfl

def rs_impl_isLeaf (r : Bool) : List D := [cB.enc r]
def m123 : MC := .seq (.reg [⟨some 2, .box (.t 0), none⟩,
    ⟨some 4, .asg (.c (.bool false)), none⟩] [1, 2])
  (.seq (.reg [⟨some 5, .fa 2 0 0, none⟩,
    ⟨some 6, .ld 5 1 false, none⟩,
    ⟨some 7, .mv (.t 1), none⟩,
    ⟨some 8, .call 141 [(.t 6), (.t 7)], none⟩,
    ⟨some 9, .nt (.t 8), none⟩,
    ⟨some 4, .asg (.t 9), none⟩] [4])
  (.ret))
theorem con_impl_isLeaf {v0 : XGeo} {v1 : Int} {r : Bool} (h : sh_impl_isLeaf v0 v1 = some r) : Con Try.prog 123 [(cXGeo (cLs cI rfl)).enc v0, cI.enc v1] [] (rs_impl_isLeaf r) := by
  delta sh_impl_isLeaf at h
  refine top (out := none) (f := Try.f123) (m := m123) (rs := [.t 4]) (by kernel_rfl) rfl (by kernel_rfl) (by kernel_rfl) (by kernel_rfl) (by kernel_rfl) (by kernel_rfl) ?_
  exact
   ini [(0, .d ((cXGeo (cLs cI rfl)).enc v0)), (1, .d (cI.enc v1))] rfl <| wpC_seq <| reg_s <| x_box (ss rfl rfl) <| x_asg (sc cB false rfl) <| seqN [(1, .d (cI.enc v1)), (2, .box ((cXGeo (cLs cI rfl)).enc v0))] (by kernel_rfl) <|
    xn <| wpC_seq <| reg_s <| st rfl <| fab rfl rfl rfl rfl <| st rfl <| lda rfl rfl rfl rfl rfl rfl <| st rfl <| mvd rfl rfl <| bnd h fun x3 e4 h => st rfl <| o_call (a1 (c := (cLs cI rfl)) (tLs tK) rfl (a1 (c := cI) tK rfl a0)) (con_slices_Contains_int e4) (.inl (so1 sB so0)) <| st rfl <| o_nt rfl <| x_asg (ss rfl rfl) <| seqN [(4, .d (cB.enc (!x3)))] (by kernel_rfl) <|
    xn <| wpC_ret <| re <| fin h (r1 (ss rfl rfl) <| r0) rfl

def rs_impl_isSurvey (r : Bool) : List D := [cB.enc r]
def m86 : MC := .seq (.reg [⟨some 3, .box (.t 0), none⟩,
    ⟨some 6, .asg (.c (.bool false)), none⟩] [1, 2, 3])
  (.seq (.kp [2, 3] (.seq (.reg [⟨some 9, .mv (.t 1), none⟩,
    ⟨some 10, .mv (.t 2), none⟩,
    ⟨some 11, .call 121 [(.t 9), (.t 10)], none⟩,
    ⟨some 12, .nt (.t 11), none⟩] [2, 3, 12])
  (.cond (.t 12) (.seq (.reg [⟨some 6, .asg (.c (.bool false)), none⟩] [6])
  (.ret)) (.skip))))
  (.seq (.kp [] (.seq (.reg [⟨some 13, .mv (.t 2), none⟩,
    ⟨some 14, .len false (.t 13), none⟩,
    ⟨some 15, .mv (.c (.int .i64 0)), none⟩] [2, 3, 13, 14, 15])
  (.blk 0 (.loop (.seq (.reg [⟨some 16, .bin .lss (.t 15) (.t 14), none⟩] [2, 3, 13, 14, 15, 16])
  (.seq (.kp [2, 3, 13, 14, 15] (.cond (.t 16) (.skip) (.exit 0)))
  (.seq (.kp [2, 3, 13, 14, 15] (.blk 1 (.seq (.reg [⟨some 17, .ia 13 (.t 15) 3, none⟩,
    ⟨some 18, .ld 17 3 true, none⟩,
    ⟨some 8, .alloc (.agg [.int .i64 0, .int .i64 0, .slice true []]), none⟩,
    ⟨none, .st 8 (.t 18) 3, none⟩] [2, 3, 8, 13, 14, 15])
  (.seq (.reg [⟨some 19, .ld 3 1 true, none⟩,
    ⟨some 20, .fa 8 0 0, none⟩,
    ⟨some 21, .ld 20 1 false, none⟩,
    ⟨some 22, .call 122 [(.t 19), (.t 21)], none⟩,
    ⟨some 23, .nt (.t 22), none⟩,
    ⟨some 24, .mv (.t 23), none⟩,
    ⟨some 25, .ld 3 1 true, some (24, false)⟩,
    ⟨some 26, .fa 8 0 0, some (24, false)⟩,
    ⟨some 27, .ld 26 1 false, some (24, false)⟩,
    ⟨some 28, .call 123 [(.t 25), (.t 27)], some (24, false)⟩,
    ⟨some 29, .nt (.t 28), some (24, false)⟩,
    ⟨some 30, .pick (.t 24) (.c (.bool true)) (.t 29), none⟩] [2, 3, 13, 14, 15, 30])
  (.cond (.t 30) (.seq (.reg [⟨some 6, .asg (.c (.bool false)), none⟩] [6])
  (.ret)) (.skip))))))
  (.reg [⟨some 31, .bin .add (.t 15) (.c (.int .i64 1)), none⟩,
    ⟨some 15, .mv (.t 31), none⟩] [2, 3, 13, 14, 15]))))))))
  (.seq (.reg [⟨some 6, .asg (.c (.bool true)), none⟩] [6])
  (.ret))))
theorem con_impl_isSurvey {v0 : XGeo} {v1 : (List XVariable)} {v2 : (List XRecord)} {r : Bool} (h : sh_impl_isSurvey v0 v1 v2 = some r) : Con Try.prog 86 [(cXGeo (cLs cI rfl)).enc v0, (cLs (cXVariable cS cI) rfl).enc v1, (cLs (cXRecord cI cI (cLs cI rfl)) rfl).enc v2] [] (rs_impl_isSurvey r) := by
  delta sh_impl_isSurvey at h
  refine top (out := none) (f := Try.f86) (m := m86) (rs := [.t 6]) (by kernel_rfl) rfl (by kernel_rfl) (by kernel_rfl) (by kernel_rfl) (by kernel_rfl) (by kernel_rfl) ?_
  exact
   ini [(0, .d ((cXGeo (cLs cI rfl)).enc v0)), (1, .d ((cLs (cXVariable cS cI) rfl).enc v1)), (2, .d ((cLs (cXRecord cI cI (cLs cI rfl)) rfl).enc v2))] rfl <| wpC_seq <| reg_s <| x_box (ss rfl rfl) <| x_asg (sc cB false rfl) <| seqN [(1, .d ((cLs (cXVariable cS cI) rfl).enc v1)), (2, .d ((cLs (cXRecord cI cI (cLs cI rfl)) rfl).enc v2)), (3, .box ((cXGeo (cLs cI rfl)).enc v0))] (by kernel_rfl) <|
    xn <| wpC_seq <| wpC_kp <| wpC_seq <| reg_s <| st rfl <| mvd rfl rfl <| st rfl <| mvd rfl rfl <| bnd h fun x8 e9 h => st rfl <| o_call (a1 (c := (cLs (cXVariable cS cI) rfl)) (tLs (tXVariable tS tK)) rfl (a1 (c := (cLs (cXRecord cI cI (cLs cI rfl)) rfl)) (tLs (tXRecord tK tK (tLs tK))) rfl a0)) (con_impl_isData e9) (.inl (so1 sB so0)) <| st rfl <| o_nt rfl <| seqN [(2, .d ((cLs (cXRecord cI cI (cLs cI rfl)) rfl).enc v2)), (3, .box ((cXGeo (cLs cI rfl)).enc v0)), (12, .d (cB.enc (!x8)))] (by kernel_rfl) <|
    xn <| cnd rfl h (fun b10 h => wpC_seq <| reg_s <| x_asg (sc cB false rfl) <| seqN [(6, .d (cB.enc false))] (by kernel_rfl) <|
    xn <| wpC_ret <| rt <| rt <| re <| fin h (r1 (ss rfl rfl) <| r0) rfl)
    (fun b10 h => wpC_skip <| kpN [(2, .d ((cLs (cXRecord cI cI (cLs cI rfl)) rfl).enc v2)), (3, .box ((cXGeo (cLs cI rfl)).enc v0))] (by kernel_rfl) <| xn <| wpC_seq <| wpC_kp <| wpC_seq <| reg_s <| st rfl <| mvd rfl rfl <| stw rfl <| lens rfl fun l66 => st rfl <| mvc cI (0 : Int) rfl <| seqN [(2, .d ((cLs (cXRecord cI cI (cLs cI rfl)) rfl).enc v2)), (3, .box ((cXGeo (cLs cI rfl)).enc v0)), (13, .d ((cLs (cXRecord cI cI (cLs cI rfl)) rfl).enc v2)), (14, .d (cI.enc (v2.length : Int))), (15, .d (cI.enc (0 : Int)))] (by kernel_rfl) <|
    xn <| wpC_blk <| lpR (fun (k68 : Nat) (s67 : Unit) => [(2, .d ((cLs (cXRecord cI cI (cLs cI rfl)) rfl).enc v2)), (3, .box ((cXGeo (cLs cI rfl)).enc v0)), (13, .d ((cLs (cXRecord cI cI (cLs cI rfl)) rfl).enc v2)), (14, .d (cI.enc (v2.length : Int))), (15, .d (cI.enc (k68 : Int)))]) () rfl h
    (fun G96 s67 h => wpC_seq <| reg_s <| st rfl <| b_lss (k := .i64) rfl rfl <| seqN [(2, .d ((cLs (cXRecord cI cI (cLs cI rfl)) rfl).enc v2)), (3, .box ((cXGeo (cLs cI rfl)).enc v0)), (13, .d ((cLs (cXRecord cI cI (cLs cI rfl)) rfl).enc v2)), (14, .d (cI.enc (v2.length : Int))), (15, .d (cI.enc (v2.length : Int))), (16, .d (cB.enc (decide ((v2.length : Int) < (v2.length : Int)))))] (by kernel_rfl) <|
    xn <| wpC_seq <| wpC_kp <| cnd0 rfl (dlf _) <| wpC_exit <| xt <| xt <| xt <| xb <| kpN [] (by kernel_rfl) <| xn <| wpC_seq <| reg_s <| x_asg (sc cB true rfl) <| seqN [(6, .d (cB.enc true))] (by kernel_rfl) <|
    xn <| wpC_ret <| re <| fin h (r1 (ss rfl rfl) <| r0) rfl)
    (fun G96 nx94 k68 s67 x69 hk70 hx71 hn95 h => wpC_seq <| reg_s <| st rfl <| b_lss (k := .i64) rfl rfl <| seqN [(2, .d ((cLs (cXRecord cI cI (cLs cI rfl)) rfl).enc v2)), (3, .box ((cXGeo (cLs cI rfl)).enc v0)), (13, .d ((cLs (cXRecord cI cI (cLs cI rfl)) rfl).enc v2)), (14, .d (cI.enc (v2.length : Int))), (15, .d (cI.enc (k68 : Int))), (16, .d (cB.enc (decide ((k68 : Int) < (v2.length : Int)))))] (by kernel_rfl) <|
    xn <| wpC_seq <| wpC_kp <| cnd1 rfl (dlt hk70) <| wpC_skip <| kpN [(2, .d ((cLs (cXRecord cI cI (cLs cI rfl)) rfl).enc v2)), (3, .box ((cXGeo (cLs cI rfl)).enc v0)), (13, .d ((cLs (cXRecord cI cI (cLs cI rfl)) rfl).enc v2)), (14, .d (cI.enc (v2.length : Int))), (15, .d (cI.enc (k68 : Int)))] (by kernel_rfl) <| xn <| wpC_seq <| wpC_kp <| wpC_blk <| wpC_seq <| reg_s <| st rfl <| ias rfl rfl (Int.natCast_nonneg _) hx71 rfl <| st rfl <| ldi rfl rfl rfl rfl <| x_all (cXRecord cI cI (cLo cI)) (⟨(0 : Int), (0 : Int), ([] : List Int)⟩ : XRecord) rfl <| x_stb (ss rfl rfl) rfl (Cd.h_sz _ _) rfl <| seqN [(2, .d ((cLs (cXRecord cI cI (cLs cI rfl)) rfl).enc v2)), (3, .box ((cXGeo (cLs cI rfl)).enc v0)), (8, .box ((cXRecord cI cI (cLs cI rfl)).enc x69)), (13, .d ((cLs (cXRecord cI cI (cLs cI rfl)) rfl).enc v2)), (14, .d (cI.enc (v2.length : Int))), (15, .d (cI.enc (k68 : Int)))] (by kernel_rfl) <|
    xn <| wpC_seq <| reg_s <| st rfl <| ldb rfl rfl rfl rfl <| st rfl <| fab rfl rfl rfl rfl <| st rfl <| lda rfl rfl rfl rfl rfl rfl <| bnd h fun x113 e114 h => st rfl <| o_call (a1 (c := (cXGeo (cLs cI rfl))) (tXGeo (tLs tK)) rfl (a1 (c := cI) tK rfl a0)) (con_impl_isArea e114) (.inl (so1 sB so0)) <| st rfl <| o_nt rfl <| st rfl <| mvd rfl rfl <| ite_k h (fun b115 h => gf rfl b115 <| gf rfl b115 <| gf rfl b115 <| gf rfl b115 <| gf rfl b115 <| st rfl <| pick1 rfl b115 (cd := cB) (v := true) rfl rfl <| seqN [(2, .d ((cLs (cXRecord cI cI (cLs cI rfl)) rfl).enc v2)), (3, .box ((cXGeo (cLs cI rfl)).enc v0)), (13, .d ((cLs (cXRecord cI cI (cLs cI rfl)) rfl).enc v2)), (14, .d (cI.enc (v2.length : Int))), (15, .d (cI.enc (k68 : Int))), (30, .d (cB.enc true))] (by kernel_rfl) <|
    xn <| cnd1 rfl rfl <| wpC_seq <| reg_s <| x_asg (sc cB false rfl) <| seqN [(6, .d (cB.enc false))] (by kernel_rfl) <|
    xn <| wpC_ret <| rb <| rt <| rt <| rt <| rb <| rt <| rt <| re <| fin h (r1 (ss rfl rfl) <| r0) rfl)
    (fun b115 h => gt' rfl b115 <| st rfl <| ldb rfl rfl rfl rfl <| gt' rfl b115 <| st rfl <| fab rfl rfl rfl rfl <| gt' rfl b115 <| st rfl <| lda rfl rfl rfl rfl rfl rfl <| gt' rfl b115 <| bnd h fun x116 e117 h => st rfl <| o_call (a1 (c := (cXGeo (cLs cI rfl))) (tXGeo (tLs tK)) rfl (a1 (c := cI) tK rfl a0)) (con_impl_isLeaf e117) (.inl (so1 sB so0)) <| gt' rfl b115 <| st rfl <| o_nt rfl <| st rfl <| pick0 rfl b115 (cd := cB) (v := (!x116)) rfl rfl <| seqN [(2, .d ((cLs (cXRecord cI cI (cLs cI rfl)) rfl).enc v2)), (3, .box ((cXGeo (cLs cI rfl)).enc v0)), (13, .d ((cLs (cXRecord cI cI (cLs cI rfl)) rfl).enc v2)), (14, .d (cI.enc (v2.length : Int))), (15, .d (cI.enc (k68 : Int))), (30, .d (cB.enc (!x116)))] (by kernel_rfl) <|
    xn <| cnd rfl h (fun b118 h => wpC_seq <| reg_s <| x_asg (sc cB false rfl) <| seqN [(6, .d (cB.enc false))] (by kernel_rfl) <|
    xn <| wpC_ret <| rb <| rt <| rt <| rt <| rb <| rt <| rt <| re <| fin h (r1 (ss rfl rfl) <| r0) rfl)
    (fun b118 h => wpC_skip <| xbb <| kpN [(2, .d ((cLs (cXRecord cI cI (cLs cI rfl)) rfl).enc v2)), (3, .box ((cXGeo (cLs cI rfl)).enc v0)), (13, .d ((cLs (cXRecord cI cI (cLs cI rfl)) rfl).enc v2)), (14, .d (cI.enc (v2.length : Int))), (15, .d (cI.enc (k68 : Int)))] (by kernel_rfl) <| xn <| reg_s <| st rfl <| b_inc rfl rfl l66 hk70 <| st rfl <| mvd rfl rfl <| seqN [(2, .d ((cLs (cXRecord cI cI (cLs cI rfl)) rfl).enc v2)), (3, .box ((cXGeo (cLs cI rfl)).enc v0)), (13, .d ((cLs (cXRecord cI cI (cLs cI rfl)) rfl).enc v2)), (14, .d (cI.enc (v2.length : Int))), (15, .d (cI.enc ((k68 + 1 : Nat) : Int)))] (by kernel_rfl) <|
    xn <| hn95 () h))))

def rs_impl_IsSurvey (r : (Bool × Bool)) : List D := [cB.enc r.1, cB.enc r.2]
def m36 : MC := .seq (.reg [⟨some 3, .box (.t 0), none⟩,
    ⟨some 6, .asg (.c (.bool false)), none⟩,
    ⟨some 7, .asg (.c (.bool false)), none⟩] [1, 2, 3])
  (.seq (.kp [1, 2, 3] (.seq (.reg [⟨some 8, .ld 3 1 true, none⟩,
    ⟨some 9, .call 80 [(.t 8)], none⟩,
    ⟨some 10, .nt (.t 9), none⟩,
    ⟨some 11, .mv (.t 10), none⟩,
    ⟨some 12, .mv (.t 1), some (11, false)⟩,
    ⟨some 13, .call 73 [(.t 12)], some (11, false)⟩,
    ⟨some 14, .nt (.t 13), some (11, false)⟩,
    ⟨some 15, .pick (.t 11) (.c (.bool true)) (.t 14), none⟩] [1, 2, 3, 15])
  (.cond (.t 15) (.seq (.reg [⟨some 6, .asg (.c (.bool false)), none⟩,
    ⟨some 7, .asg (.c (.bool false)), none⟩] [6, 7])
  (.ret)) (.skip))))
  (.seq (.reg [⟨some 16, .ld 3 1 true, none⟩,
    ⟨some 17, .mv (.t 1), none⟩,
    ⟨some 18, .mv (.t 2), none⟩,
    ⟨some 19, .call 86 [(.t 16), (.t 17), (.t 18)], none⟩,
    ⟨some 6, .asg (.t 19), none⟩,
    ⟨some 7, .asg (.c (.bool true)), none⟩] [6, 7])
  (.ret)))
theorem con_impl_IsSurvey {v0 : XGeo} {v1 : (List XVariable)} {v2 : (List XRecord)} {r : (Bool × Bool)} (h : sh_impl_IsSurvey v0 v1 v2 = some r) : Con Try.prog 36 [(cXGeo (cLs cI rfl)).enc v0, (cLs (cXVariable cS cI) rfl).enc v1, (cLs (cXRecord cI cI (cLs cI rfl)) rfl).enc v2] [] (rs_impl_IsSurvey r) := by
  delta sh_impl_IsSurvey at h
  refine top (out := none) (f := Try.f36) (m := m36) (rs := [.t 6, .t 7]) (by kernel_rfl) rfl (by kernel_rfl) (by kernel_rfl) (by kernel_rfl) (by kernel_rfl) (by kernel_rfl) ?_
  exact
   ini [(0, .d ((cXGeo (cLs cI rfl)).enc v0)), (1, .d ((cLs (cXVariable cS cI) rfl).enc v1)), (2, .d ((cLs (cXRecord cI cI (cLs cI rfl)) rfl).enc v2))] rfl <| wpC_seq <| reg_s <| x_box (ss rfl rfl) <| x_asg (sc cB false rfl) <| x_asg (sc cB false rfl) <| seqN [(1, .d ((cLs (cXVariable cS cI) rfl).enc v1)), (2, .d ((cLs (cXRecord cI cI (cLs cI rfl)) rfl).enc v2)), (3, .box ((cXGeo (cLs cI rfl)).enc v0))] (by kernel_rfl) <|
    xn <| wpC_seq <| wpC_kp <| wpC_seq <| reg_s <| st rfl <| ldb rfl rfl rfl rfl <| bnd h fun x17 e18 h => st rfl <| o_call (a1 (c := (cXGeo (cLs cI rfl))) (tXGeo (tLs tK)) rfl a0) (con_impl_IsGeo e18) (.inl (so1 sB so0)) <| st rfl <| o_nt rfl <| st rfl <| mvd rfl rfl <| ite_k h (fun b19 h => gf rfl b19 <| gf rfl b19 <| gf rfl b19 <| st rfl <| pick1 rfl b19 (cd := cB) (v := true) rfl rfl <| seqN [(1, .d ((cLs (cXVariable cS cI) rfl).enc v1)), (2, .d ((cLs (cXRecord cI cI (cLs cI rfl)) rfl).enc v2)), (3, .box ((cXGeo (cLs cI rfl)).enc v0)), (15, .d (cB.enc true))] (by kernel_rfl) <|
    xn <| cnd1 rfl rfl <| wpC_seq <| reg_s <| x_asg (sc cB false rfl) <| x_asg (sc cB false rfl) <| seqN [(6, .d (cB.enc false)), (7, .d (cB.enc false))] (by kernel_rfl) <|
    xn <| wpC_ret <| rt <| rt <| re <| fin h (r1 (ss rfl rfl) <| r1 (ss rfl rfl) <| r0) rfl)
    (fun b19 h => gt' rfl b19 <| st rfl <| mvd rfl rfl <| gt' rfl b19 <| bnd h fun x20 e21 h => st rfl <| o_call (a1 (c := (cLs (cXVariable cS cI) rfl)) (tLs (tXVariable tS tK)) rfl a0) (con_impl_IsSchema e21) (.inl (so1 sB so0)) <| gt' rfl b19 <| st rfl <| o_nt rfl <| st rfl <| pick0 rfl b19 (cd := cB) (v := (!x20)) rfl rfl <| seqN [(1, .d ((cLs (cXVariable cS cI) rfl).enc v1)), (2, .d ((cLs (cXRecord cI cI (cLs cI rfl)) rfl).enc v2)), (3, .box ((cXGeo (cLs cI rfl)).enc v0)), (15, .d (cB.enc (!x20)))] (by kernel_rfl) <|
    xn <| cnd rfl h (fun b22 h => wpC_seq <| reg_s <| x_asg (sc cB false rfl) <| x_asg (sc cB false rfl) <| seqN [(6, .d (cB.enc false)), (7, .d (cB.enc false))] (by kernel_rfl) <|
    xn <| wpC_ret <| rt <| rt <| re <| fin h (r1 (ss rfl rfl) <| r1 (ss rfl rfl) <| r0) rfl)
    (fun b22 h => wpC_skip <| kpN [(1, .d ((cLs (cXVariable cS cI) rfl).enc v1)), (2, .d ((cLs (cXRecord cI cI (cLs cI rfl)) rfl).enc v2)), (3, .box ((cXGeo (cLs cI rfl)).enc v0))] (by kernel_rfl) <| xn <| wpC_seq <| reg_s <| st rfl <| ldb rfl rfl rfl rfl <| st rfl <| mvd rfl rfl <| st rfl <| mvd rfl rfl <| bnd h fun x25 e26 h => st rfl <| o_call (a1 (c := (cXGeo (cLs cI rfl))) (tXGeo (tLs tK)) rfl (a1 (c := (cLs (cXVariable cS cI) rfl)) (tLs (tXVariable tS tK)) rfl (a1 (c := (cLs (cXRecord cI cI (cLs cI rfl)) rfl)) (tLs (tXRecord tK tK (tLs tK))) rfl a0))) (con_impl_isSurvey e26) (.inl (so1 sB so0)) <| x_asg (ss rfl rfl) <| x_asg (sc cB true rfl) <| seqN [(6, .d (cB.enc x25)), (7, .d (cB.enc true))] (by kernel_rfl) <|
    xn <| wpC_ret <| re <| fin h (r1 (ss rfl rfl) <| r1 (ss rfl rfl) <| r0) rfl))

def rs_laws_eqRecordS (r : Bool) : List D := [cB.enc r]
def m37 : MC := .seq (.reg [⟨some 4, .asg (.c (.bool false)), none⟩] [0, 1])
  (.seq (.kp [0, 1] (.seq (.reg [⟨some 6, .mv (.t 0), none⟩,
    ⟨some 7, .len false (.t 6), none⟩,
    ⟨some 8, .mv (.t 1), none⟩,
    ⟨some 9, .len false (.t 8), none⟩,
    ⟨some 10, .bin .neq (.t 7) (.t 9), none⟩] [0, 1, 10])
  (.cond (.t 10) (.seq (.reg [⟨some 4, .asg (.c (.bool false)), none⟩] [4])
  (.ret)) (.skip))))
  (.seq (.kp [] (.seq (.reg [⟨some 5, .asg (.c (.int .i64 0)), none⟩] [0, 1, 5])
  (.blk 0 (.loop (.seq (.kp [0, 1, 5] (.seq (.reg [⟨some 11, .mv (.t 5), none⟩,
    ⟨some 12, .mv (.t 0), none⟩,
    ⟨some 13, .len false (.t 12), none⟩,
    ⟨some 14, .bin .lss (.t 11) (.t 13), none⟩] [0, 1, 5, 14])
  (.cond (.t 14) (.skip) (.exit 0))))
  (.seq (.kp [0, 1, 5] (.blk 1 (.seq (.drw [⟨0, ⟨some 17, .mv (.t 0), none⟩, [18, 19, 20, 21, 22, 23, 24, 25, 26]⟩,
    ⟨1, ⟨some 18, .mv (.t 5), none⟩, [17, 19, 20, 21, 22, 23, 24, 25, 26]⟩,
    ⟨2, ⟨some 19, .ia 17 (.t 18) 3, none⟩, [20, 21, 22, 23, 24, 25, 26]⟩,
    ⟨3, ⟨some 20, .ld 19 3 true, none⟩, [21, 22, 23, 24, 25, 26]⟩,
    ⟨4, ⟨some 21, .mv (.t 1), none⟩, [17, 18, 19, 20, 22, 23, 24, 25, 26]⟩,
    ⟨5, ⟨some 22, .mv (.t 5), none⟩, [17, 18, 19, 20, 21, 23, 24, 25, 26]⟩,
    ⟨6, ⟨some 23, .ia 21 (.t 22) 3, none⟩, [17, 18, 19, 20, 24, 25, 26]⟩,
    ⟨7, ⟨some 24, .ld 23 3 true, none⟩, [17, 18, 19, 20, 25, 26]⟩,
    ⟨8, ⟨some 25, .call 25 [(.t 20), (.t 24)], none⟩, [26]⟩,
    ⟨9, ⟨some 26, .nt (.t 25), none⟩, []⟩]
    [] [0, 1, 5, 26])
  (.cond (.t 26) (.seq (.reg [⟨some 4, .asg (.c (.bool false)), none⟩] [4])
  (.ret)) (.skip)))))
  (.reg [⟨some 15, .mv (.t 5), none⟩,
    ⟨some 16, .bin .add (.t 15) (.c (.int .i64 1)), none⟩,
    ⟨some 5, .asg (.t 16), none⟩] [0, 1, 5])))))))
  (.seq (.reg [⟨some 4, .asg (.c (.bool true)), none⟩] [4])
  (.ret))))
theorem con_laws_eqRecordS {v0 : (List XRecord)} {v1 : (List XRecord)} {r : Bool} (h : sh_laws_eqRecordS v0 v1 = some r) : Con Try.prog 37 [(cLs (cXRecord cI cI (cLs cI rfl)) rfl).enc v0, (cLs (cXRecord cI cI (cLs cI rfl)) rfl).enc v1] [] (rs_laws_eqRecordS r) := by
  delta sh_laws_eqRecordS at h
  refine top (out := none) (f := Try.f37) (m := m37) (rs := [.t 4]) (by kernel_rfl) rfl (by kernel_rfl) (by kernel_rfl) (by kernel_rfl) (by kernel_rfl) (by kernel_rfl) ?_
  exact
   ini [(0, .d ((cLs (cXRecord cI cI (cLs cI rfl)) rfl).enc v0)), (1, .d ((cLs (cXRecord cI cI (cLs cI rfl)) rfl).enc v1))] rfl <| wpC_seq <| reg_s <| x_asg (sc cB false rfl) <| seqN [(0, .d ((cLs (cXRecord cI cI (cLs cI rfl)) rfl).enc v0)), (1, .d ((cLs (cXRecord cI cI (cLs cI rfl)) rfl).enc v1))] (by kernel_rfl) <|
    xn <| wpC_seq <| wpC_kp <| wpC_seq <| reg_s <| st rfl <| mvd rfl rfl <| stw rfl <| lens rfl fun l8 => st rfl <| mvd rfl rfl <| stw rfl <| lens rfl fun l9 => st rfl <| b_neq (k := .i64) rfl rfl <| seqN [(0, .d ((cLs (cXRecord cI cI (cLs cI rfl)) rfl).enc v0)), (1, .d ((cLs (cXRecord cI cI (cLs cI rfl)) rfl).enc v1)), (10, .d (cB.enc (decide ((v0.length : Int) ≠ (v1.length : Int)))))] (by kernel_rfl) <|
    xn <| cnd rfl h (fun b10 h => wpC_seq <| reg_s <| x_asg (sc cB false rfl) <| seqN [(4, .d (cB.enc false))] (by kernel_rfl) <|
    xn <| wpC_ret <| rt <| rt <| re <| fin h (r1 (ss rfl rfl) <| r0) rfl)
    (fun b10 h => wpC_skip <| kpN [(0, .d ((cLs (cXRecord cI cI (cLs cI rfl)) rfl).enc v0)), (1, .d ((cLs (cXRecord cI cI (cLs cI rfl)) rfl).enc v1))] (by kernel_rfl) <| xn <| wpC_seq <| wpC_kp <| wpC_seq <| reg_s <| x_asg (sc cI (0 : Int) rfl) <| seqN [(0, .d ((cLs (cXRecord cI cI (cLs cI rfl)) rfl).enc v0)), (1, .d ((cLs (cXRecord cI cI (cLs cI rfl)) rfl).enc v1)), (5, .d (cI.enc (0 : Int)))] (by kernel_rfl) <|
    xn <| wpC_blk <| lpF (fun (s142 : Int) => [(0, .d ((cLs (cXRecord cI cI (cLs cI rfl)) rfl).enc v0)), (1, .d ((cLs (cXRecord cI cI (cLs cI rfl)) rfl).enc v1)), (5, .d (cI.enc s142))]) (0 : Int) rfl h
    fun G231 nx229 s142 hn230 h => wpC_seq <| wpC_kp <| wpC_seq <| reg_s <| st rfl <| mvd rfl rfl <| st rfl <| mvd rfl rfl <| stw rfl <| lens rfl fun l236 => st rfl <| b_lss (k := .i64) rfl rfl <| seqN [(0, .d ((cLs (cXRecord cI cI (cLs cI rfl)) rfl).enc v0)), (1, .d ((cLs (cXRecord cI cI (cLs cI rfl)) rfl).enc v1)), (5, .d (cI.enc s142)), (14, .d (cB.enc (decide (s142 < (v0.length : Int)))))] (by kernel_rfl) <|
    xn <| cnd rfl h (fun b237 h => wpC_skip <| kpN [(0, .d ((cLs (cXRecord cI cI (cLs cI rfl)) rfl).enc v0)), (1, .d ((cLs (cXRecord cI cI (cLs cI rfl)) rfl).enc v1)), (5, .d (cI.enc s142))] (by kernel_rfl) <| xn <| wpC_seq <| wpC_kp <| wpC_blk <| wpC_seq <| drw_s <| pst rfl <| mvd rfl rfl ⟨rfl, pst rfl <| mvd rfl rfl ⟨rfl, getO_kp h fun x263 i264 g265 h => pst rfl <| ias rfl rfl i264 g265 rfl ⟨rfl, pst rfl <| ldi rfl rfl rfl rfl ⟨rfl, pst rfl <| mvd rfl rfl ⟨rfl, pst rfl <| mvd rfl rfl ⟨rfl, getO_kp h fun x266 i267 g268 h => pst rfl <| ias rfl rfl i267 g268 rfl ⟨rfl, pst rfl <| ldi rfl rfl rfl rfl ⟨rfl, bndp h fun x269 e270 h => pst rfl <| o_call (a1 (c := (cXRecord cI cI (cLs cI rfl))) (tXRecord tK tK (tLs tK)) rfl (a1 (c := (cXRecord cI cI (cLs cI rfl))) (tXRecord tK tK (tLs tK)) rfl a0)) (con_laws_eqRecord e270) (.inl (so1 sB so0)) ⟨rfl, pst rfl <| o_nt rfl ⟨rfl, preN <| seqN [(0, .d ((cLs (cXRecord cI cI (cLs cI rfl)) rfl).enc v0)), (1, .d ((cLs (cXRecord cI cI (cLs cI rfl)) rfl).enc v1)), (5, .d (cI.enc s142)), (26, .d (cB.enc (!x269)))] (by kernel_rfl) <|
    xn <| cnd rfl h (fun b271 h => wpC_seq <| reg_s <| x_asg (sc cB false rfl) <| seqN [(4, .d (cB.enc false))] (by kernel_rfl) <|
    xn <| wpC_ret <| rb <| rt <| rt <| rt <| rb <| rt <| rt <| re <| fin h (r1 (ss rfl rfl) <| r0) rfl)
    (fun b271 h => wpC_skip <| xbb <| kpN [(0, .d ((cLs (cXRecord cI cI (cLs cI rfl)) rfl).enc v0)), (1, .d ((cLs (cXRecord cI cI (cLs cI rfl)) rfl).enc v1)), (5, .d (cI.enc s142))] (by kernel_rfl) <| xn <| reg_s <| st rfl <| mvd rfl rfl <| ckI_k h fun i272 h => st rfl <| b_add (k := .i64) rfl rfl i272 <| x_asg (ss rfl rfl) <| seqN [(0, .d ((cLs (cXRecord cI cI (cLs cI rfl)) rfl).enc v0)), (1, .d ((cLs (cXRecord cI cI (cLs cI rfl)) rfl).enc v1)), (5, .d (cI.enc (s142 + (1 : Int))))] (by kernel_rfl) <|
    xn <| hn230 (s142 + (1 : Int)) h)⟩⟩⟩⟩⟩⟩⟩⟩⟩⟩)
    (fun b237 h => wpC_exit <| xt <| xt <| xt <| xb <| kpN [] (by kernel_rfl) <| xn <| wpC_seq <| reg_s <| x_asg (sc cB true rfl) <| seqN [(4, .d (cB.enc true))] (by kernel_rfl) <|
    xn <| wpC_ret <| re <| fin h (r1 (ss rfl rfl) <| r0) rfl))

def rs_laws_FnExactIsSurvey (r : Bool) : List D := [cB.enc r]
def m6 : MC := .seq (.reg [⟨some 3, .box (.t 0), none⟩,
    ⟨some 6, .asg (.c (.bool false)), none⟩] [1, 2, 3])
  (.seq (.reg [⟨some 7, .asg (.c (.int .i64 1048576)), none⟩] [1, 2, 3, 7])
  (.seq (.reg [⟨some 15, .ld 3 1 true, none⟩,
    ⟨some 16, .mv (.t 7), none⟩,
    ⟨some 17, .call 26 [(.t 15), (.t 16)], none⟩,
    ⟨some 7, .asg (.t 17), none⟩] [1, 2, 3, 7])
  (.seq (.kp [1, 2, 3, 7] (.seq (.reg [⟨some 18, .mv (.t 7), none⟩,
    ⟨some 19, .bin .lss (.t 18) (.c (.int .i64 0)), none⟩] [1, 2, 3, 7, 19])
  (.cond (.t 19) (.seq (.reg [⟨some 6, .asg (.c (.bool true)), none⟩] [6])
  (.ret)) (.skip))))
  (.seq (.reg [⟨some 20, .mv (.t 1), none⟩,
    ⟨some 21, .mv (.t 7), none⟩,
    ⟨some 22, .call 15 [(.t 20), (.t 21)], none⟩,
    ⟨some 7, .asg (.t 22), none⟩] [1, 2, 3, 7])
  (.seq (.kp [1, 2, 3, 7] (.seq (.reg [⟨some 23, .mv (.t 7), none⟩,
    ⟨some 24, .bin .lss (.t 23) (.c (.int .i64 0)), none⟩] [1, 2, 3, 7, 24])
  (.cond (.t 24) (.seq (.reg [⟨some 6, .asg (.c (.bool true)), none⟩] [6])
  (.ret)) (.skip))))
  (.seq (.reg [⟨some 25, .mv (.t 2), none⟩,
    ⟨some 26, .mv (.t 7), none⟩,
    ⟨some 27, .call 33 [(.t 25), (.t 26)], none⟩,
    ⟨some 7, .asg (.t 27), none⟩] [1, 2, 3, 7])
  (.seq (.kp [1, 2, 3] (.seq (.reg [⟨some 28, .mv (.t 7), none⟩,
    ⟨some 29, .bin .lss (.t 28) (.c (.int .i64 0)), none⟩] [1, 2, 3, 29])
  (.cond (.t 29) (.seq (.reg [⟨some 6, .asg (.c (.bool true)), none⟩] [6])
  (.ret)) (.skip))))
  (.seq (.reg [⟨some 31, .ld 3 1 true, none⟩,
    ⟨some 32, .call 28 [(.t 31)], none⟩,
    ⟨some 33, .mv (.t 1), none⟩,
    ⟨some 34, .call 19 [(.t 33)], none⟩,
    ⟨some 35, .mv (.t 2), none⟩,
    ⟨some 36, .call 35 [(.t 35)], none⟩,
    ⟨some 37, .call 34 [(.t 32), (.t 34), (.t 36)], none⟩,
    ⟨some 30, .mvt 37, none⟩,
    ⟨some 38, .ext 30 0, none⟩,
    ⟨some 39, .ext 30 1, none⟩,
    ⟨some 8, .asg (.t 38), none⟩,
    ⟨some 9, .asg (.t 39), none⟩] [1, 2, 3, 8, 9])
  (.seq (.reg [⟨some 40, .ld 3 1 true, none⟩,
    ⟨some 41, .call 28 [(.t 40)], none⟩,
    ⟨some 10, .alloc (.agg [.slice true []]), none⟩,
    ⟨none, .st 10 (.t 41) 1, none⟩] [1, 2, 3, 8, 9, 10])
  (.seq (.reg [⟨some 42, .mv (.t 1), none⟩,
    ⟨some 43, .call 19 [(.t 42)], none⟩,
    ⟨some 11, .asg (.t 43), none⟩] [1, 2, 3, 8, 9, 10, 11])
  (.seq (.reg [⟨some 44, .mv (.t 2), none⟩,
    ⟨some 45, .call 35 [(.t 44)], none⟩,
    ⟨some 12, .asg (.t 45), none⟩] [1, 2, 3, 8, 9, 10, 11, 12])
  (.seq (.reg [⟨some 47, .ld 10 1 true, none⟩,
    ⟨some 48, .mv (.t 11), none⟩,
    ⟨some 49, .mv (.t 12), none⟩,
    ⟨some 50, .call 36 [(.t 47), (.t 48), (.t 49)], none⟩,
    ⟨some 46, .mvt 50, none⟩,
    ⟨some 51, .ext 46 0, none⟩,
    ⟨some 52, .ext 46 1, none⟩,
    ⟨some 13, .asg (.t 51), none⟩,
    ⟨some 14, .asg (.t 52), none⟩] [1, 2, 3, 8, 9, 10, 11, 12, 13, 14])
  (.seq (.kp [1, 2, 3, 10, 11, 12] (.seq (.reg [⟨some 53, .mv (.t 13), none⟩,
    ⟨some 54, .mv (.t 8), none⟩,
    ⟨some 55, .eqb true (.t 53) (.t 54), none⟩,
    ⟨some 56, .mv (.t 55), none⟩,
    ⟨some 57, .mv (.t 14), some (56, false)⟩,
    ⟨some 58, .mv (.t 9), some (56, false)⟩,
    ⟨some 59, .eqb true (.t 57) (.t 58), some (56, false)⟩,
    ⟨some 60, .pick (.t 56) (.c (.bool true)) (.t 59), none⟩] [1, 2, 3, 10, 11, 12, 60])
  (.cond (.t 60) (.seq (.reg [⟨some 6, .asg (.c (.bool false)), none⟩] [6])
  (.ret)) (.skip))))
  (.seq (.kp [1, 2, 11, 12] (.seq (.drw [⟨0, ⟨some 61, .ld 10 1 true, none⟩, [62, 63, 64, 65]⟩,
    ⟨1, ⟨some 62, .ld 3 1 true, none⟩, [61, 63, 64, 65]⟩,
    ⟨2, ⟨some 63, .call 28 [(.t 62)], none⟩, [61, 64, 65]⟩,
    ⟨3, ⟨some 64, .call 30 [(.t 61), (.t 63)], none⟩, [65]⟩,
    ⟨4, ⟨some 65, .nt (.t 64), none⟩, []⟩]
    [] [1, 2, 11, 12, 65])
  (.cond (.t 65) (.seq (.reg [⟨some 6, .asg (.c (.bool false)), none⟩] [6])
  (.ret)) (.skip))))
  (.seq (.kp [2, 12] (.seq (.reg [⟨some 66, .mv (.t 11), none⟩,
    ⟨some 67, .mv (.t 1), none⟩,
    ⟨some 68, .call 19 [(.t 67)], none⟩,
    ⟨some 69, .call 23 [(.t 66), (.t 68)], none⟩,
    ⟨some 70, .nt (.t 69), none⟩] [2, 12, 70])
  (.cond (.t 70) (.seq (.reg [⟨some 6, .asg (.c (.bool false)), none⟩] [6])
  (.ret)) (.skip))))
  (.seq (.kp [] (.seq (.reg [⟨some 71, .mv (.t 12), none⟩,
    ⟨some 72, .mv (.t 2), none⟩,
    ⟨some 73, .call 35 [(.t 72)], none⟩,
    ⟨some 74, .call 37 [(.t 71), (.t 73)], none⟩,
    ⟨some 75, .nt (.t 74), none⟩] [75])
  (.cond (.t 75) (.seq (.reg [⟨some 6, .asg (.c (.bool false)), none⟩] [6])
  (.ret)) (.skip))))
  (.seq (.reg [⟨some 6, .asg (.c (.bool true)), none⟩] [6])
  (.ret))))))))))))))))))
theorem con_laws_FnExactIsSurvey {v0 : XGeo} {v1 : (List XVariable)} {v2 : (List XRecord)} {r : Bool} (h : sh_laws_FnExactIsSurvey v0 v1 v2 = some r) : Con Try.prog 6 [(cXGeo (cLs cI rfl)).enc v0, (cLs (cXVariable cS cI) rfl).enc v1, (cLs (cXRecord cI cI (cLs cI rfl)) rfl).enc v2] [] (rs_laws_FnExactIsSurvey r) := by
  delta sh_laws_FnExactIsSurvey at h
  refine top (out := none) (f := Try.f6) (m := m6) (rs := [.t 6]) (by kernel_rfl) rfl (by kernel_rfl) (by kernel_rfl) (by kernel_rfl) (by kernel_rfl) (by kernel_rfl) ?_
  exact
   ini [(0, .d ((cXGeo (cLs cI rfl)).enc v0)), (1, .d ((cLs (cXVariable cS cI) rfl).enc v1)), (2, .d ((cLs (cXRecord cI cI (cLs cI rfl)) rfl).enc v2))] rfl <| wpC_seq <| reg_s <| x_box (ss rfl rfl) <| x_asg (sc cB false rfl) <| seqN [(1, .d ((cLs (cXVariable cS cI) rfl).enc v1)), (2, .d ((cLs (cXRecord cI cI (cLs cI rfl)) rfl).enc v2)), (3, .box ((cXGeo (cLs cI rfl)).enc v0))] (by kernel_rfl) <|
    xn <| wpC_seq <| reg_s <| x_asg (sc cI (1048576 : Int) rfl) <| seqN [(1, .d ((cLs (cXVariable cS cI) rfl).enc v1)), (2, .d ((cLs (cXRecord cI cI (cLs cI rfl)) rfl).enc v2)), (3, .box ((cXGeo (cLs cI rfl)).enc v0)), (7, .d (cI.enc (1048576 : Int)))] (by kernel_rfl) <|
    xn <| wpC_seq <| reg_s <| st rfl <| ldb rfl rfl rfl rfl <| st rfl <| mvd rfl rfl <| bnd h fun x3 e4 h => st rfl <| o_call (a1 (c := (cXGeo (cLs cI rfl))) (tXGeo (tLs tK)) rfl (a1 (c := cI) tK rfl a0)) (con_laws_szGeo e4) (.inl (so1 sK so0)) <| x_asg (ss rfl rfl) <| seqN [(1, .d ((cLs (cXVariable cS cI) rfl).enc v1)), (2, .d ((cLs (cXRecord cI cI (cLs cI rfl)) rfl).enc v2)), (3, .box ((cXGeo (cLs cI rfl)).enc v0)), (7, .d (cI.enc x3))] (by kernel_rfl) <|
    xn <| wpC_seq <| wpC_kp <| wpC_seq <| reg_s <| st rfl <| mvd rfl rfl <| st rfl <| b_lss (k := .i64) rfl rfl <| seqN [(1, .d ((cLs (cXVariable cS cI) rfl).enc v1)), (2, .d ((cLs (cXRecord cI cI (cLs cI rfl)) rfl).enc v2)), (3, .box ((cXGeo (cLs cI rfl)).enc v0)), (7, .d (cI.enc x3)), (19, .d (cB.enc (decide (x3 < (0 : Int)))))] (by kernel_rfl) <|
    xn <| cnd rfl h (fun b6 h => wpC_seq <| reg_s <| x_asg (sc cB true rfl) <| seqN [(6, .d (cB.enc true))] (by kernel_rfl) <|
    xn <| wpC_ret <| rt <| rt <| re <| fin h (r1 (ss rfl rfl) <| r0) rfl)
    (fun b6 h => wpC_skip <| kpN [(1, .d ((cLs (cXVariable cS cI) rfl).enc v1)), (2, .d ((cLs (cXRecord cI cI (cLs cI rfl)) rfl).enc v2)), (3, .box ((cXGeo (cLs cI rfl)).enc v0)), (7, .d (cI.enc x3))] (by kernel_rfl) <| xn <| wpC_seq <| reg_s <| st rfl <| mvd rfl rfl <| st rfl <| mvd rfl rfl <| bnd h fun x9 e10 h => st rfl <| o_call (a1 (c := (cLs (cXVariable cS cI) rfl)) (tLs (tXVariable tS tK)) rfl (a1 (c := cI) tK rfl a0)) (con_laws_szVariableS e10) (.inl (so1 sK so0)) <| x_asg (ss rfl rfl) <| seqN [(1, .d ((cLs (cXVariable cS cI) rfl).enc v1)), (2, .d ((cLs (cXRecord cI cI (cLs cI rfl)) rfl).enc v2)), (3, .box ((cXGeo (cLs cI rfl)).enc v0)), (7, .d (cI.enc x9))] (by kernel_rfl) <|
    xn <| wpC_seq <| wpC_kp <| wpC_seq <| reg_s <| st rfl <| mvd rfl rfl <| st rfl <| b_lss (k := .i64) rfl rfl <| seqN [(1, .d ((cLs (cXVariable cS cI) rfl).enc v1)), (2, .d ((cLs (cXRecord cI cI (cLs cI rfl)) rfl).enc v2)), (3, .box ((cXGeo (cLs cI rfl)).enc v0)), (7, .d (cI.enc x9)), (24, .d (cB.enc (decide (x9 < (0 : Int)))))] (by kernel_rfl) <|
    xn <| cnd rfl h (fun b12 h => wpC_seq <| reg_s <| x_asg (sc cB true rfl) <| seqN [(6, .d (cB.enc true))] (by kernel_rfl) <|
    xn <| wpC_ret <| rt <| rt <| re <| fin h (r1 (ss rfl rfl) <| r0) rfl)
    (fun b12 h => wpC_skip <| kpN [(1, .d ((cLs (cXVariable cS cI) rfl).enc v1)), (2, .d ((cLs (cXRecord cI cI (cLs cI rfl)) rfl).enc v2)), (3, .box ((cXGeo (cLs cI rfl)).enc v0)), (7, .d (cI.enc x9))] (by kernel_rfl) <| xn <| wpC_seq <| reg_s <| st rfl <| mvd rfl rfl <| st rfl <| mvd rfl rfl <| bnd h fun x15 e16 h => st rfl <| o_call (a1 (c := (cLs (cXRecord cI cI (cLs cI rfl)) rfl)) (tLs (tXRecord tK tK (tLs tK))) rfl (a1 (c := cI) tK rfl a0)) (con_laws_szRecordS e16) (.inl (so1 sK so0)) <| x_asg (ss rfl rfl) <| seqN [(1, .d ((cLs (cXVariable cS cI) rfl).enc v1)), (2, .d ((cLs (cXRecord cI cI (cLs cI rfl)) rfl).enc v2)), (3, .box ((cXGeo (cLs cI rfl)).enc v0)), (7, .d (cI.enc x15))] (by kernel_rfl) <|
    xn <| wpC_seq <| wpC_kp <| wpC_seq <| reg_s <| st rfl <| mvd rfl rfl <| st rfl <| b_lss (k := .i64) rfl rfl <| seqN [(1, .d ((cLs (cXVariable cS cI) rfl).enc v1)), (2, .d ((cLs (cXRecord cI cI (cLs cI rfl)) rfl).enc v2)), (3, .box ((cXGeo (cLs cI rfl)).enc v0)), (29, .d (cB.enc (decide (x15 < (0 : Int)))))] (by kernel_rfl) <|
    xn <| cnd rfl h (fun b18 h => wpC_seq <| reg_s <| x_asg (sc cB true rfl) <| seqN [(6, .d (cB.enc true))] (by kernel_rfl) <|
    xn <| wpC_ret <| rt <| rt <| re <| fin h (r1 (ss rfl rfl) <| r0) rfl)
    (fun b18 h => wpC_skip <| kpN [(1, .d ((cLs (cXVariable cS cI) rfl).enc v1)), (2, .d ((cLs (cXRecord cI cI (cLs cI rfl)) rfl).enc v2)), (3, .box ((cXGeo (cLs cI rfl)).enc v0))] (by kernel_rfl) <| xn <| wpC_seq <| reg_s <| st rfl <| ldb rfl rfl rfl rfl <| bnd h fun x27 e28 h => st rfl <| o_call (a1 (c := (cXGeo (cLs cI rfl))) (tXGeo (tLs tK)) rfl a0) (con_laws_toGeo e28) (.inl (so1 (sXGeo (sLo sK)) so0)) <| st rfl <| mvd rfl rfl <| bnd h fun x29 e30 h => st rfl <| o_call (a1 (c := (cLs (cXVariable cS cI) rfl)) (tLs (tXVariable tS tK)) rfl a0) (con_laws_toVariableS e30) (.inl (so1 (sLo (sXVariable sS sK)) so0)) <| st rfl <| mvd rfl rfl <| bnd h fun x31 e32 h => st rfl <| o_call (a1 (c := (cLs (cXRecord cI cI (cLs cI rfl)) rfl)) (tLs (tXRecord tK tK (tLs tK))) rfl a0) (con_laws_toRecordS e32) (.inl (so1 (sLo (sXRecord sK sK (sLo sK))) so0)) <| bnd h fun x33 e34 h => st rfl <| o_call (a1 (c := (cXGeo (cLo cI))) (tXGeo (tLo tK)) rfl (a1 (c := (cLo (cXVariable cS cI))) (tLo (tXVariable tS tK)) rfl (a1 (c := (cLo (cXRecord cI cI (cLo cI)))) (tLo (tXRecord tK tK (tLo tK))) rfl a0))) (con_spec_IsSurvey e34) (.inl (so1 sB (so1 sB so0))) <| x_mvt rfl <| x_ext rfl rfl <| x_ext rfl rfl <| x_asg (ss rfl rfl) <| x_asg (ss rfl rfl) <| seqN [(1, .d ((cLs (cXVariable cS cI) rfl).enc v1)), (2, .d ((cLs (cXRecord cI cI (cLs cI rfl)) rfl).enc v2)), (3, .box ((cXGeo (cLs cI rfl)).enc v0)), (8, .d (cB.enc x33.1)), (9, .d (cB.enc x33.2))] (by kernel_rfl) <|
    xn <| wpC_seq <| reg_s <| st rfl <| ldb rfl rfl rfl rfl <| bnd h fun x37 e38 h => st rfl <| o_call (a1 (c := (cXGeo (cLs cI rfl))) (tXGeo (tLs tK)) rfl a0) (con_laws_toGeo e38) (.inl (so1 (sXGeo (sLo sK)) so0)) <| x_all (cXGeo (cLo cI)) (⟨([] : List Int)⟩ : XGeo) rfl <| x_stb (so rfl rfl) rfl (Cd.h_sz _ _) rfl <| seqN [(1, .d ((cLs (cXVariable cS cI) rfl).enc v1)), (2, .d ((cLs (cXRecord cI cI (cLs cI rfl)) rfl).enc v2)), (3, .box ((cXGeo (cLs cI rfl)).enc v0)), (8, .d (cB.enc x33.1)), (9, .d (cB.enc x33.2)), (10, .box ((cXGeo (cLo cI)).enc x37))] (by kernel_rfl) <|
    xn <| wpC_seq <| reg_s <| st rfl <| mvd rfl rfl <| bnd h fun x41 e42 h => st rfl <| o_call (a1 (c := (cLs (cXVariable cS cI) rfl)) (tLs (tXVariable tS tK)) rfl a0) (con_laws_toVariableS e42) (.inl (so1 (sLo (sXVariable sS sK)) so0)) <| x_asg (so rfl rfl) <| seqN [(1, .d ((cLs (cXVariable cS cI) rfl).enc v1)), (2, .d ((cLs (cXRecord cI cI (cLs cI rfl)) rfl).enc v2)), (3, .box ((cXGeo (cLs cI rfl)).enc v0)), (8, .d (cB.enc x33.1)), (9, .d (cB.enc x33.2)), (10, .box ((cXGeo (cLo cI)).enc x37)), (11, .d ((cLo (cXVariable cS cI)).enc x41))] (by kernel_rfl) <|
    xn <| wpC_seq <| reg_s <| st rfl <| mvd rfl rfl <| bnd h fun x45 e46 h => st rfl <| o_call (a1 (c := (cLs (cXRecord cI cI (cLs cI rfl)) rfl)) (tLs (tXRecord tK tK (tLs tK))) rfl a0) (con_laws_toRecordS e46) (.inl (so1 (sLo (sXRecord sK sK (sLo sK))) so0)) <| x_asg (so rfl rfl) <| seqN [(1, .d ((cLs (cXVariable cS cI) rfl).enc v1)), (2, .d ((cLs (cXRecord cI cI (cLs cI rfl)) rfl).enc v2)), (3, .box ((cXGeo (cLs cI rfl)).enc v0)), (8, .d (cB.enc x33.1)), (9, .d (cB.enc x33.2)), (10, .box ((cXGeo (cLo cI)).enc x37)), (11, .d ((cLo (cXVariable cS cI)).enc x41)), (12, .d ((cLo (cXRecord cI cI (cLo cI))).enc x45))] (by kernel_rfl) <|
    xn <| wpC_seq <| reg_s <| st rfl <| ldbo rfl rfl rfl rfl <| st rfl <| mvo rfl rfl <| st rfl <| mvo rfl rfl <| bnd h fun x49 e50 h => st rfl <| o_call (a1 (c := (cXGeo (cLo cI))) (tXGeo (tLo tK)) rfl (a1 (c := (cLo (cXVariable cS cI))) (tLo (tXVariable tS tK)) rfl (a1 (c := (cLo (cXRecord cI cI (cLo cI)))) (tLo (tXRecord tK tK (tLo tK))) rfl a0))) (con_impl_IsSurvey e50) (.inl (so1 sB (so1 sB so0))) <| x_mvt rfl <| x_ext rfl rfl <| x_ext rfl rfl <| x_asg (ss rfl rfl) <| x_asg (ss rfl rfl) <| seqN [(1, .d ((cLs (cXVariable cS cI) rfl).enc v1)), (2, .d ((cLs (cXRecord cI cI (cLs cI rfl)) rfl).enc v2)), (3, .box ((cXGeo (cLs cI rfl)).enc v0)), (8, .d (cB.enc x33.1)), (9, .d (cB.enc x33.2)), (10, .box ((cXGeo (cLo cI)).enc x37)), (11, .d ((cLo (cXVariable cS cI)).enc x41)), (12, .d ((cLo (cXRecord cI cI (cLo cI))).enc x45)), (13, .d (cB.enc x49.1)), (14, .d (cB.enc x49.2))] (by kernel_rfl) <|
    xn <| wpC_seq <| wpC_kp <| wpC_seq <| reg_s <| st rfl <| mvd rfl rfl <| st rfl <| mvd rfl rfl <| st rfl <| eqb1 rfl rfl <| st rfl <| mvd rfl rfl <| ite_k h (fun b55 h => gf rfl b55 <| gf rfl b55 <| gf rfl b55 <| st rfl <| pick1 rfl b55 (cd := cB) (v := true) rfl rfl <| seqN [(1, .d ((cLs (cXVariable cS cI) rfl).enc v1)), (2, .d ((cLs (cXRecord cI cI (cLs cI rfl)) rfl).enc v2)), (3, .box ((cXGeo (cLs cI rfl)).enc v0)), (10, .box ((cXGeo (cLo cI)).enc x37)), (11, .d ((cLo (cXVariable cS cI)).enc x41)), (12, .d ((cLo (cXRecord cI cI (cLo cI))).enc x45)), (60, .d (cB.enc true))] (by kernel_rfl) <|
    xn <| cnd1 rfl rfl <| wpC_seq <| reg_s <| x_asg (sc cB false rfl) <| seqN [(6, .d (cB.enc false))] (by kernel_rfl) <|
    xn <| wpC_ret <| rt <| rt <| re <| fin h (r1 (ss rfl rfl) <| r0) rfl)
    (fun b55 h => gt' rfl b55 <| st rfl <| mvd rfl rfl <| gt' rfl b55 <| st rfl <| mvd rfl rfl <| gt' rfl b55 <| st rfl <| eqb1 rfl rfl <| st rfl <| pick0 rfl b55 (cd := cB) (v := (x49.2 != x33.2)) rfl rfl <| seqN [(1, .d ((cLs (cXVariable cS cI) rfl).enc v1)), (2, .d ((cLs (cXRecord cI cI (cLs cI rfl)) rfl).enc v2)), (3, .box ((cXGeo (cLs cI rfl)).enc v0)), (10, .box ((cXGeo (cLo cI)).enc x37)), (11, .d ((cLo (cXVariable cS cI)).enc x41)), (12, .d ((cLo (cXRecord cI cI (cLo cI))).enc x45)), (60, .d (cB.enc (x49.2 != x33.2)))] (by kernel_rfl) <|
    xn <| cnd rfl h (fun b56 h => wpC_seq <| reg_s <| x_asg (sc cB false rfl) <| seqN [(6, .d (cB.enc false))] (by kernel_rfl) <|
    xn <| wpC_ret <| rt <| rt <| re <| fin h (r1 (ss rfl rfl) <| r0) rfl)
    (fun b56 h => wpC_skip <| kpN [(1, .d ((cLs (cXVariable cS cI) rfl).enc v1)), (2, .d ((cLs (cXRecord cI cI (cLs cI rfl)) rfl).enc v2)), (3, .box ((cXGeo (cLs cI rfl)).enc v0)), (10, .box ((cXGeo (cLo cI)).enc x37)), (11, .d ((cLo (cXVariable cS cI)).enc x41)), (12, .d ((cLo (cXRecord cI cI (cLo cI))).enc x45))] (by kernel_rfl) <| xn <| wpC_seq <| wpC_kp <| wpC_seq <| drw_s <| pst rfl <| ldbo rfl rfl rfl rfl ⟨rfl, pst rfl <| ldb rfl rfl rfl rfl ⟨rfl, bndp h fun x70 e71 h => pst rfl <| o_call (a1 (c := (cXGeo (cLs cI rfl))) (tXGeo (tLs tK)) rfl a0) (con_laws_toGeo e71) (.inl (so1 (sXGeo (sLo sK)) so0)) ⟨rfl, bndp h fun x72 e73 h => pst rfl <| o_call (a1 (c := (cXGeo (cLo cI))) (tXGeo (tLo tK)) rfl (a1 (c := (cXGeo (cLo cI))) (tXGeo (tLo tK)) rfl a0)) (con_laws_eqGeo e73) (.inl (so1 sB so0)) ⟨rfl, pst rfl <| o_nt rfl ⟨rfl, preN <| seqN [(1, .d ((cLs (cXVariable cS cI) rfl).enc v1)), (2, .d ((cLs (cXRecord cI cI (cLs cI rfl)) rfl).enc v2)), (11, .d ((cLo (cXVariable cS cI)).enc x41)), (12, .d ((cLo (cXRecord cI cI (cLo cI))).enc x45)), (65, .d (cB.enc (!x72)))] (by kernel_rfl) <|
    xn <| cnd rfl h (fun b74 h => wpC_seq <| reg_s <| x_asg (sc cB false rfl) <| seqN [(6, .d (cB.enc false))] (by kernel_rfl) <|
    xn <| wpC_ret <| rt <| rt <| re <| fin h (r1 (ss rfl rfl) <| r0) rfl)
    (fun b74 h => wpC_skip <| kpN [(1, .d ((cLs (cXVariable cS cI) rfl).enc v1)), (2, .d ((cLs (cXRecord cI cI (cLs cI rfl)) rfl).enc v2)), (11, .d ((cLo (cXVariable cS cI)).enc x41)), (12, .d ((cLo (cXRecord cI cI (cLo cI))).enc x45))] (by kernel_rfl) <| xn <| wpC_seq <| wpC_kp <| wpC_seq <| reg_s <| st rfl <| mvo rfl rfl <| st rfl <| mvd rfl rfl <| bnd h fun x88 e89 h => st rfl <| o_call (a1 (c := (cLs (cXVariable cS cI) rfl)) (tLs (tXVariable tS tK)) rfl a0) (con_laws_toVariableS e89) (.inl (so1 (sLo (sXVariable sS sK)) so0)) <| bnd h fun x90 e91 h => st rfl <| o_call (a1 (c := (cLo (cXVariable cS cI))) (tLo (tXVariable tS tK)) rfl (a1 (c := (cLo (cXVariable cS cI))) (tLo (tXVariable tS tK)) rfl a0)) (con_laws_eqVariableS e91) (.inl (so1 sB so0)) <| st rfl <| o_nt rfl <| seqN [(2, .d ((cLs (cXRecord cI cI (cLs cI rfl)) rfl).enc v2)), (12, .d ((cLo (cXRecord cI cI (cLo cI))).enc x45)), (70, .d (cB.enc (!x90)))] (by kernel_rfl) <|
    xn <| cnd rfl h (fun b92 h => wpC_seq <| reg_s <| x_asg (sc cB false rfl) <| seqN [(6, .d (cB.enc false))] (by kernel_rfl) <|
    xn <| wpC_ret <| rt <| rt <| re <| fin h (r1 (ss rfl rfl) <| r0) rfl)
    (fun b92 h => wpC_skip <| kpN [(2, .d ((cLs (cXRecord cI cI (cLs cI rfl)) rfl).enc v2)), (12, .d ((cLo (cXRecord cI cI (cLo cI))).enc x45))] (by kernel_rfl) <| xn <| wpC_seq <| wpC_kp <| wpC_seq <| reg_s <| st rfl <| mvo rfl rfl <| st rfl <| mvd rfl rfl <| bnd h fun x106 e107 h => st rfl <| o_call (a1 (c := (cLs (cXRecord cI cI (cLs cI rfl)) rfl)) (tLs (tXRecord tK tK (tLs tK))) rfl a0) (con_laws_toRecordS e107) (.inl (so1 (sLo (sXRecord sK sK (sLo sK))) so0)) <| bnd h fun x108 e109 h => st rfl <| o_call (a1 (c := (cLo (cXRecord cI cI (cLo cI)))) (tLo (tXRecord tK tK (tLo tK))) rfl (a1 (c := (cLo (cXRecord cI cI (cLo cI)))) (tLo (tXRecord tK tK (tLo tK))) rfl a0)) (con_laws_eqRecordS e109) (.inl (so1 sB so0)) <| st rfl <| o_nt rfl <| seqN [(75, .d (cB.enc (!x108)))] (by kernel_rfl) <|
    xn <| cnd rfl h (fun b110 h => wpC_seq <| reg_s <| x_asg (sc cB false rfl) <| seqN [(6, .d (cB.enc false))] (by kernel_rfl) <|
    xn <| wpC_ret <| rt <| rt <| re <| fin h (r1 (ss rfl rfl) <| r0) rfl)
    (fun b110 h => wpC_skip <| kpN [] (by kernel_rfl) <| xn <| wpC_seq <| reg_s <| x_asg (sc cB true rfl) <| seqN [(6, .d (cB.enc true))] (by kernel_rfl) <|
    xn <| wpC_ret <| re <| fin h (r1 (ss rfl rfl) <| r0) rfl)))⟩⟩⟩⟩⟩)))))
end AS.W
