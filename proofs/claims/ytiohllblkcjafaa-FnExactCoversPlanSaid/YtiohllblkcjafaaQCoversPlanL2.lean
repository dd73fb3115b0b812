/- The program computes the plain functions. No condition. -/
import Derived.Test.YtiohllblkcjafaaQCoversPlanS
import Derived.Test.YtiohllblkcjafaaProg
import Derived.Test.YtiohllblkcjafaaQCoversPlanL1
set_option maxRecDepth 100000
set_option linter.unusedVariables false
set_option linter.unusedSimpArgs false
namespace AS.W
open Go Go.Proofs
def rs_spec_lLevels (r : Bool) : List D := [cB.enc r]
def m93 : MC := .seq (.reg [⟨some 3, .box (.t 0), none⟩,
    ⟨some 4, .box (.t 1), none⟩,
    ⟨some 5, .box (.t 2), none⟩,
    ⟨some 6, .asg (.c (.bool false)), none⟩] [3, 4, 5])
  (.seq (.kp [3, 4, 5] (.seq (.reg [⟨some 9, .fa 4 0 0, none⟩,
    ⟨some 10, .ld 9 1 false, none⟩,
    ⟨some 11, .fa 5 0 0, none⟩,
    ⟨some 12, .ld 11 1 false, none⟩,
    ⟨some 13, .bin .geq (.t 10) (.t 12), none⟩] [3, 4, 5, 13])
  (.cond (.t 13) (.seq (.reg [⟨some 14, .fa 4 0 0, none⟩,
    ⟨some 15, .ld 14 1 false, none⟩,
    ⟨some 16, .fa 5 0 0, none⟩,
    ⟨some 17, .ld 16 1 false, none⟩,
    ⟨some 18, .bin .eql (.t 15) (.t 17), none⟩,
    ⟨some 6, .asg (.t 18), none⟩] [6])
  (.ret)) (.skip))))
  (.seq (.kp [] (.seq (.reg [⟨some 19, .ld 3 1 true, none⟩,
    ⟨some 20, .call 66 [(.t 19)], none⟩,
    ⟨some 21, .len false (.t 20), none⟩,
    ⟨some 22, .mv (.c (.int .i64 0)), none⟩] [3, 4, 5, 20, 21, 22])
  (.blk 0 (.loop (.seq (.reg [⟨some 23, .bin .lss (.t 22) (.t 21), none⟩] [3, 4, 5, 20, 21, 22, 23])
  (.seq (.kp [3, 4, 5, 20, 21, 22] (.cond (.t 23) (.skip) (.exit 0)))
  (.seq (.kp [3, 4, 5, 20, 21, 22] (.blk 1 (.seq (.reg [⟨some 24, .ia 20 (.t 22) 1, none⟩,
    ⟨some 25, .ld 24 1 false, none⟩,
    ⟨some 8, .asg (.t 25), none⟩] [3, 4, 5, 8, 20, 21, 22])
  (.seq (.reg [⟨some 26, .ld 3 1 true, none⟩,
    ⟨some 27, .mv (.t 8), none⟩,
    ⟨some 28, .fa 4 0 0, none⟩,
    ⟨some 29, .ld 28 1 false, none⟩,
    ⟨some 30, .call 107 [(.t 26), (.t 27), (.t 29)], none⟩,
    ⟨some 31, .bin .geq (.t 30) (.c (.int .i64 0)), none⟩,
    ⟨some 32, .mv (.t 31), none⟩,
    ⟨some 33, .ld 3 1 true, some (32, true)⟩,
    ⟨some 34, .mv (.t 8), some (32, true)⟩,
    ⟨some 35, .fa 5 0 0, some (32, true)⟩,
    ⟨some 36, .ld 35 1 false, some (32, true)⟩,
    ⟨some 37, .call 107 [(.t 33), (.t 34), (.t 36)], some (32, true)⟩,
    ⟨some 38, .bin .lss (.t 37) (.c (.int .i64 0)), some (32, true)⟩,
    ⟨some 39, .pick (.t 32) (.t 38) (.c (.bool false)), none⟩] [3, 4, 5, 20, 21, 22, 39])
  (.cond (.t 39) (.seq (.reg [⟨some 6, .asg (.c (.bool false)), none⟩] [6])
  (.ret)) (.skip))))))
  (.reg [⟨some 40, .bin .add (.t 22) (.c (.int .i64 1)), none⟩,
    ⟨some 22, .mv (.t 40), none⟩] [3, 4, 5, 20, 21, 22]))))))))
  (.seq (.reg [⟨some 6, .asg (.c (.bool true)), none⟩] [6])
  (.ret))))
theorem con_spec_lLevels {v0 : XGeo} {v1 : XTable} {v2 : XTable} {r : Bool} (h : sh_spec_lLevels v0 v1 v2 = some r) : Con Try.prog 93 [(cXGeo (cLs cI rfl)).enc v0, (cXTable cI (cLs cI rfl) (cLs cI rfl) cI).enc v1, (cXTable cI (cLs cI rfl) (cLs cI rfl) cI).enc v2] [] (rs_spec_lLevels r) := by
  delta sh_spec_lLevels at h
  refine top (out := none) (f := Try.f93) (m := m93) (rs := [.t 6]) (by kernel_rfl) rfl (by kernel_rfl) (by kernel_rfl) (by kernel_rfl) (by kernel_rfl) (by kernel_rfl) ?_
  exact
   ini [(0, .d ((cXGeo (cLs cI rfl)).enc v0)), (1, .d ((cXTable cI (cLs cI rfl) (cLs cI rfl) cI).enc v1)), (2, .d ((cXTable cI (cLs cI rfl) (cLs cI rfl) cI).enc v2))] rfl <| wpC_seq <| reg_s <| x_box (ss rfl rfl) <| x_box (ss rfl rfl) <| x_box (ss rfl rfl) <| x_asg (sc cB false rfl) <| seqN [(3, .box ((cXGeo (cLs cI rfl)).enc v0)), (4, .box ((cXTable cI (cLs cI rfl) (cLs cI rfl) cI).enc v1)), (5, .box ((cXTable cI (cLs cI rfl) (cLs cI rfl) cI).enc v2))] (by kernel_rfl) <|
    xn <| wpC_seq <| wpC_kp <| wpC_seq <| reg_s <| st rfl <| fab rfl rfl rfl rfl <| st rfl <| lda rfl rfl rfl rfl rfl rfl <| st rfl <| fab rfl rfl rfl rfl <| st rfl <| lda rfl rfl rfl rfl rfl rfl <| st rfl <| b_geq (k := .i64) rfl rfl <| seqN [(3, .box ((cXGeo (cLs cI rfl)).enc v0)), (4, .box ((cXTable cI (cLs cI rfl) (cLs cI rfl) cI).enc v1)), (5, .box ((cXTable cI (cLs cI rfl) (cLs cI rfl) cI).enc v2)), (13, .d (cB.enc (decide (v2.Level ≤ v1.Level))))] (by kernel_rfl) <|
    xn <| cnd rfl h (fun b2 h => wpC_seq <| reg_s <| st rfl <| fab rfl rfl rfl rfl <| st rfl <| lda rfl rfl rfl rfl rfl rfl <| st rfl <| fab rfl rfl rfl rfl <| st rfl <| lda rfl rfl rfl rfl rfl rfl <| st rfl <| b_eql (k := .i64) rfl rfl <| x_asg (ss rfl rfl) <| seqN [(6, .d (cB.enc (decide (v1.Level = v2.Level))))] (by kernel_rfl) <|
    xn <| wpC_ret <| rt <| rt <| re <| fin h (r1 (ss rfl rfl) <| r0) rfl)
    (fun b2 h => wpC_skip <| kpN [(3, .box ((cXGeo (cLs cI rfl)).enc v0)), (4, .box ((cXTable cI (cLs cI rfl) (cLs cI rfl) cI).enc v1)), (5, .box ((cXTable cI (cLs cI rfl) (cLs cI rfl) cI).enc v2))] (by kernel_rfl) <| xn <| wpC_seq <| wpC_kp <| wpC_seq <| reg_s <| st rfl <| ldb rfl rfl rfl rfl <| bnd h fun x64 e65 h => st rfl <| o_call (a1 (c := (cXGeo (cLs cI rfl))) (tXGeo (tLs tK)) rfl a0) (con_spec_gLeaves e65) (.inl (so1 (sLo sK) so0)) <| stw rfl <| leno rfl fun l66 => st rfl <| mvc cI (0 : Int) rfl <| seqN [(3, .box ((cXGeo (cLs cI rfl)).enc v0)), (4, .box ((cXTable cI (cLs cI rfl) (cLs cI rfl) cI).enc v1)), (5, .box ((cXTable cI (cLs cI rfl) (cLs cI rfl) cI).enc v2)), (20, .d ((cLo cI).enc x64)), (21, .d (cI.enc (x64.length : Int))), (22, .d (cI.enc (0 : Int)))] (by kernel_rfl) <|
    xn <| wpC_blk <| lpR (fun (k68 : Nat) (s67 : Unit) => [(3, .box ((cXGeo (cLs cI rfl)).enc v0)), (4, .box ((cXTable cI (cLs cI rfl) (cLs cI rfl) cI).enc v1)), (5, .box ((cXTable cI (cLs cI rfl) (cLs cI rfl) cI).enc v2)), (20, .d ((cLo cI).enc x64)), (21, .d (cI.enc (x64.length : Int))), (22, .d (cI.enc (k68 : Int)))]) () rfl h
    (fun G96 s67 h => wpC_seq <| reg_s <| st rfl <| b_lss (k := .i64) rfl rfl <| seqN [(3, .box ((cXGeo (cLs cI rfl)).enc v0)), (4, .box ((cXTable cI (cLs cI rfl) (cLs cI rfl) cI).enc v1)), (5, .box ((cXTable cI (cLs cI rfl) (cLs cI rfl) cI).enc v2)), (20, .d ((cLo cI).enc x64)), (21, .d (cI.enc (x64.length : Int))), (22, .d (cI.enc (x64.length : Int))), (23, .d (cB.enc (decide ((x64.length : Int) < (x64.length : Int)))))] (by kernel_rfl) <|
    xn <| wpC_seq <| wpC_kp <| cnd0 rfl (dlf _) <| wpC_exit <| xt <| xt <| xt <| xb <| kpN [] (by kernel_rfl) <| xn <| wpC_seq <| reg_s <| x_asg (sc cB true rfl) <| seqN [(6, .d (cB.enc true))] (by kernel_rfl) <|
    xn <| wpC_ret <| re <| fin h (r1 (ss rfl rfl) <| r0) rfl)
    (fun G96 nx94 k68 s67 x69 hk70 hx71 hn95 h => wpC_seq <| reg_s <| st rfl <| b_lss (k := .i64) rfl rfl <| seqN [(3, .box ((cXGeo (cLs cI rfl)).enc v0)), (4, .box ((cXTable cI (cLs cI rfl) (cLs cI rfl) cI).enc v1)), (5, .box ((cXTable cI (cLs cI rfl) (cLs cI rfl) cI).enc v2)), (20, .d ((cLo cI).enc x64)), (21, .d (cI.enc (x64.length : Int))), (22, .d (cI.enc (k68 : Int))), (23, .d (cB.enc (decide ((k68 : Int) < (x64.length : Int)))))] (by kernel_rfl) <|
    xn <| wpC_seq <| wpC_kp <| cnd1 rfl (dlt hk70) <| wpC_skip <| kpN [(3, .box ((cXGeo (cLs cI rfl)).enc v0)), (4, .box ((cXTable cI (cLs cI rfl) (cLs cI rfl) cI).enc v1)), (5, .box ((cXTable cI (cLs cI rfl) (cLs cI rfl) cI).enc v2)), (20, .d ((cLo cI).enc x64)), (21, .d (cI.enc (x64.length : Int))), (22, .d (cI.enc (k68 : Int)))] (by kernel_rfl) <| xn <| wpC_seq <| wpC_kp <| wpC_blk <| wpC_seq <| reg_s <| st rfl <| iao rfl rfl (Int.natCast_nonneg _) hx71 rfl <| st rfl <| lda rfl rfl (Gt.idx hx71 Gt.nil) rfl rfl rfl <| x_asg (ss rfl rfl) <| seqN [(3, .box ((cXGeo (cLs cI rfl)).enc v0)), (4, .box ((cXTable cI (cLs cI rfl) (cLs cI rfl) cI).enc v1)), (5, .box ((cXTable cI (cLs cI rfl) (cLs cI rfl) cI).enc v2)), (8, .d (cI.enc x69)), (20, .d ((cLo cI).enc x64)), (21, .d (cI.enc (x64.length : Int))), (22, .d (cI.enc (k68 : Int)))] (by kernel_rfl) <|
    xn <| wpC_seq <| reg_s <| st rfl <| ldb rfl rfl rfl rfl <| st rfl <| mvd rfl rfl <| st rfl <| fab rfl rfl rfl rfl <| st rfl <| lda rfl rfl rfl rfl rfl rfl <| bnd h fun x113 e114 h => st rfl <| o_call (a1 (c := (cXGeo (cLs cI rfl))) (tXGeo (tLs tK)) rfl (a1 (c := cI) tK rfl (a1 (c := cI) tK rfl a0))) (con_spec_gUp e114) (.inl (so1 sK so0)) <| st rfl <| b_geq (k := .i64) rfl rfl <| st rfl <| mvd rfl rfl <| ite_k h (fun b115 h => gt' rfl b115 <| st rfl <| ldb rfl rfl rfl rfl <| gt' rfl b115 <| st rfl <| mvd rfl rfl <| gt' rfl b115 <| st rfl <| fab rfl rfl rfl rfl <| gt' rfl b115 <| st rfl <| lda rfl rfl rfl rfl rfl rfl <| gt' rfl b115 <| bnd h fun x116 e117 h => st rfl <| o_call (a1 (c := (cXGeo (cLs cI rfl))) (tXGeo (tLs tK)) rfl (a1 (c := cI) tK rfl (a1 (c := cI) tK rfl a0))) (con_spec_gUp e117) (.inl (so1 sK so0)) <| gt' rfl b115 <| st rfl <| b_lss (k := .i64) rfl rfl <| st rfl <| pick1 rfl b115 (cd := cB) (v := (decide (x116 < (0 : Int)))) rfl rfl <| seqN [(3, .box ((cXGeo (cLs cI rfl)).enc v0)), (4, .box ((cXTable cI (cLs cI rfl) (cLs cI rfl) cI).enc v1)), (5, .box ((cXTable cI (cLs cI rfl) (cLs cI rfl) cI).enc v2)), (20, .d ((cLo cI).enc x64)), (21, .d (cI.enc (x64.length : Int))), (22, .d (cI.enc (k68 : Int))), (39, .d (cB.enc (decide (x116 < (0 : Int)))))] (by kernel_rfl) <|
    xn <| cnd rfl h (fun b118 h => wpC_seq <| reg_s <| x_asg (sc cB false rfl) <| seqN [(6, .d (cB.enc false))] (by kernel_rfl) <|
    xn <| wpC_ret <| rb <| rt <| rt <| rt <| rb <| rt <| rt <| re <| fin h (r1 (ss rfl rfl) <| r0) rfl)
    (fun b118 h => wpC_skip <| xbb <| kpN [(3, .box ((cXGeo (cLs cI rfl)).enc v0)), (4, .box ((cXTable cI (cLs cI rfl) (cLs cI rfl) cI).enc v1)), (5, .box ((cXTable cI (cLs cI rfl) (cLs cI rfl) cI).enc v2)), (20, .d ((cLo cI).enc x64)), (21, .d (cI.enc (x64.length : Int))), (22, .d (cI.enc (k68 : Int)))] (by kernel_rfl) <| xn <| reg_s <| st rfl <| b_inc rfl rfl l66 hk70 <| st rfl <| mvd rfl rfl <| seqN [(3, .box ((cXGeo (cLs cI rfl)).enc v0)), (4, .box ((cXTable cI (cLs cI rfl) (cLs cI rfl) cI).enc v1)), (5, .box ((cXTable cI (cLs cI rfl) (cLs cI rfl) cI).enc v2)), (20, .d ((cLo cI).enc x64)), (21, .d (cI.enc (x64.length : Int))), (22, .d (cI.enc ((k68 + 1 : Nat) : Int)))] (by kernel_rfl) <|
    xn <| hn95 () h))
    (fun b115 h => gf rfl b115 <| gf rfl b115 <| gf rfl b115 <| gf rfl b115 <| gf rfl b115 <| gf rfl b115 <| st rfl <| pick0 rfl b115 (cd := cB) (v := false) rfl rfl <| seqN [(3, .box ((cXGeo (cLs cI rfl)).enc v0)), (4, .box ((cXTable cI (cLs cI rfl) (cLs cI rfl) cI).enc v1)), (5, .box ((cXTable cI (cLs cI rfl) (cLs cI rfl) cI).enc v2)), (20, .d ((cLo cI).enc x64)), (21, .d (cI.enc (x64.length : Int))), (22, .d (cI.enc (k68 : Int))), (39, .d (cB.enc false))] (by kernel_rfl) <|
    xn <| cnd0 rfl rfl <| wpC_skip <| xbb <| kpN [(3, .box ((cXGeo (cLs cI rfl)).enc v0)), (4, .box ((cXTable cI (cLs cI rfl) (cLs cI rfl) cI).enc v1)), (5, .box ((cXTable cI (cLs cI rfl) (cLs cI rfl) cI).enc v2)), (20, .d ((cLo cI).enc x64)), (21, .d (cI.enc (x64.length : Int))), (22, .d (cI.enc (k68 : Int)))] (by kernel_rfl) <| xn <| reg_s <| st rfl <| b_inc rfl rfl l66 hk70 <| st rfl <| mvd rfl rfl <| seqN [(3, .box ((cXGeo (cLs cI rfl)).enc v0)), (4, .box ((cXTable cI (cLs cI rfl) (cLs cI rfl) cI).enc v1)), (5, .box ((cXTable cI (cLs cI rfl) (cLs cI rfl) cI).enc v2)), (20, .d ((cLo cI).enc x64)), (21, .d (cI.enc (x64.length : Int))), (22, .d (cI.enc ((k68 + 1 : Nat) : Int)))] (by kernel_rfl) <|
    xn <| hn95 () h)))

def rs_spec_eFull (r : Int) : List D := [cI.enc r]
def m135 : MC := .seq (.reg [⟨some 4, .asg (.c (.int .i64 0)), none⟩] [0, 1])
  (.seq (.reg [⟨some 5, .mv (.t 0), none⟩,
    ⟨some 6, .mv (.t 1), none⟩,
    ⟨some 7, .ia 5 (.t 6) 2, none⟩,
    ⟨some 8, .fa 7 1 1, none⟩,
    ⟨some 9, .ld 8 1 false, none⟩,
    ⟨some 10, .cvi .u64 (.t 9), none⟩,
    ⟨some 11, .bin .shl (.c (.int .i64 1)) (.t 10), none⟩,
    ⟨some 12, .bin .sub (.t 11) (.c (.int .i64 1)), none⟩,
    ⟨some 4, .asg (.t 12), none⟩] [4])
  (.ret))
theorem con_spec_eFull {v0 : (List XVariable)} {v1 : Int} {r : Int} (h : sh_spec_eFull v0 v1 = some r) : Con Try.prog 135 [(cLs (cXVariable cS cI) rfl).enc v0, cI.enc v1] [] (rs_spec_eFull r) := by
  delta sh_spec_eFull at h
  refine top (out := none) (f := Try.f135) (m := m135) (rs := [.t 4]) (by kernel_rfl) rfl (by kernel_rfl) (by kernel_rfl) (by kernel_rfl) (by kernel_rfl) (by kernel_rfl) ?_
  exact
   ini [(0, .d ((cLs (cXVariable cS cI) rfl).enc v0)), (1, .d (cI.enc v1))] rfl <| wpC_seq <| reg_s <| x_asg (sc cI (0 : Int) rfl) <| seqN [(0, .d ((cLs (cXVariable cS cI) rfl).enc v0)), (1, .d (cI.enc v1))] (by kernel_rfl) <|
    xn <| wpC_seq <| reg_s <| st rfl <| mvd rfl rfl <| st rfl <| mvd rfl rfl <| getO_k h fun x8 i9 g10 h => st rfl <| ias rfl rfl i9 g10 rfl <| st rfl <| fai rfl rfl rfl rfl <| st rfl <| ldi rfl rfl rfl rfl <| ckK_k h fun i11 h => st rfl <| o_cvi (k := .i64) (k' := .u64) rfl i11 <| ck_k h fun i12 h => ckI_k h fun i13 h => st rfl <| b_shl (k := .i64) (k' := .u64) rfl rfl i12 rfl i13 <| ckI_k h fun i14 h => st rfl <| b_sub (k := .i64) rfl rfl i14 <| x_asg (ss rfl rfl) <| seqN [(4, .d (cI.enc (((1 : Int) * 2 ^ (x8.Levels).toNat) - (1 : Int))))] (by kernel_rfl) <|
    xn <| wpC_ret <| re <| fin h (r1 (ss rfl rfl) <| r0) rfl

def rs_spec_lSet (r : Int) : List D := [cI.enc r]
def m94 : MC := .seq (.reg [⟨some 4, .box (.t 1), none⟩,
    ⟨some 6, .asg (.c (.int .i64 0)), none⟩] [0, 2, 4])
  (.seq (.kp [2, 4] (.seq (.reg [⟨some 7, .fa 4 2 2, none⟩,
    ⟨some 8, .ld 7 1 false, none⟩,
    ⟨some 9, .mv (.t 2), none⟩,
    ⟨some 10, .ia 8 (.t 9) 1, none⟩,
    ⟨some 11, .ld 10 1 false, none⟩,
    ⟨some 12, .bin .eql (.t 11) (.c (.int .i64 0)), none⟩] [0, 2, 4, 12])
  (.cond (.t 12) (.seq (.reg [⟨some 13, .mv (.t 0), none⟩,
    ⟨some 14, .mv (.t 2), none⟩,
    ⟨some 15, .call 135 [(.t 13), (.t 14)], none⟩,
    ⟨some 6, .asg (.t 15), none⟩] [6])
  (.ret)) (.skip))))
  (.seq (.reg [⟨some 16, .fa 4 2 2, none⟩,
    ⟨some 17, .ld 16 1 false, none⟩,
    ⟨some 18, .mv (.t 2), none⟩,
    ⟨some 19, .ia 17 (.t 18) 1, none⟩,
    ⟨some 20, .ld 19 1 false, none⟩,
    ⟨some 6, .asg (.t 20), none⟩] [6])
  (.ret)))
theorem con_spec_lSet {v0 : (List XVariable)} {v1 : XTable} {v2 : Int} {r : Int} (h : sh_spec_lSet v0 v1 v2 = some r) : Con Try.prog 94 [(cLs (cXVariable cS cI) rfl).enc v0, (cXTable cI (cLs cI rfl) (cLs cI rfl) cI).enc v1, cI.enc v2] [] (rs_spec_lSet r) := by
  delta sh_spec_lSet at h
  refine top (out := none) (f := Try.f94) (m := m94) (rs := [.t 6]) (by kernel_rfl) rfl (by kernel_rfl) (by kernel_rfl) (by kernel_rfl) (by kernel_rfl) (by kernel_rfl) ?_
  exact
   ini [(0, .d ((cLs (cXVariable cS cI) rfl).enc v0)), (1, .d ((cXTable cI (cLs cI rfl) (cLs cI rfl) cI).enc v1)), (2, .d (cI.enc v2))] rfl <| wpC_seq <| reg_s <| x_box (ss rfl rfl) <| x_asg (sc cI (0 : Int) rfl) <| seqN [(0, .d ((cLs (cXVariable cS cI) rfl).enc v0)), (2, .d (cI.enc v2)), (4, .box ((cXTable cI (cLs cI rfl) (cLs cI rfl) cI).enc v1))] (by kernel_rfl) <|
    xn <| wpC_seq <| wpC_kp <| wpC_seq <| reg_s <| st rfl <| fab rfl rfl rfl rfl <| st rfl <| lda rfl rfl rfl rfl rfl rfl <| st rfl <| mvd rfl rfl <| getO_k h fun x15 i16 g17 h => st rfl <| ias rfl rfl i16 g17 rfl <| st rfl <| ldi rfl rfl rfl rfl <| st rfl <| b_eql (k := .i64) rfl rfl <| seqN [(0, .d ((cLs (cXVariable cS cI) rfl).enc v0)), (2, .d (cI.enc v2)), (4, .box ((cXTable cI (cLs cI rfl) (cLs cI rfl) cI).enc v1)), (12, .d (cB.enc (decide (x15 = (0 : Int)))))] (by kernel_rfl) <|
    xn <| cnd rfl h (fun b18 h => wpC_seq <| reg_s <| st rfl <| mvd rfl rfl <| st rfl <| mvd rfl rfl <| bnd h fun x21 e22 h => st rfl <| o_call (a1 (c := (cLs (cXVariable cS cI) rfl)) (tLs (tXVariable tS tK)) rfl (a1 (c := cI) tK rfl a0)) (con_spec_eFull e22) (.inl (so1 sK so0)) <| x_asg (ss rfl rfl) <| seqN [(6, .d (cI.enc x21))] (by kernel_rfl) <|
    xn <| wpC_ret <| rt <| rt <| re <| fin h (r1 (ss rfl rfl) <| r0) rfl)
    (fun b18 h => wpC_skip <| kpN [(2, .d (cI.enc v2)), (4, .box ((cXTable cI (cLs cI rfl) (cLs cI rfl) cI).enc v1))] (by kernel_rfl) <| xn <| wpC_seq <| reg_s <| st rfl <| fab rfl rfl rfl rfl <| st rfl <| lda rfl rfl rfl rfl rfl rfl <| st rfl <| mvd rfl rfl <| st rfl <| ias rfl rfl i16 g17 rfl <| st rfl <| ldi rfl rfl rfl rfl <| x_asg (ss rfl rfl) <| seqN [(6, .d (cI.enc x15))] (by kernel_rfl) <|
    xn <| wpC_ret <| re <| fin h (r1 (ss rfl rfl) <| r0) rfl)

def rs_spec_lFollows (r : Bool) : List D := [cB.enc r]
def m55 : MC := .seq (.reg [⟨some 4, .box (.t 0), none⟩,
    ⟨some 6, .box (.t 2), none⟩,
    ⟨some 7, .box (.t 3), none⟩,
    ⟨some 8, .asg (.c (.bool false)), none⟩] [1, 4, 6, 7])
  (.seq (.kp [1, 6, 7] (.seq (.reg [⟨some 14, .ld 4 1 true, none⟩,
    ⟨some 15, .ld 6 4 true, none⟩,
    ⟨some 16, .ld 7 4 true, none⟩,
    ⟨some 17, .call 93 [(.t 14), (.t 15), (.t 16)], none⟩,
    ⟨some 18, .nt (.t 17), none⟩,
    ⟨some 19, .mv (.t 18), none⟩,
    ⟨some 20, .fa 6 3 3, some (19, false)⟩,
    ⟨some 21, .ld 20 1 false, some (19, false)⟩,
    ⟨some 22, .fa 7 3 3, some (19, false)⟩,
    ⟨some 23, .ld 22 1 false, some (19, false)⟩,
    ⟨some 24, .bin .neq (.t 21) (.t 23), some (19, false)⟩,
    ⟨some 25, .mv (.t 24), some (19, false)⟩,
    ⟨some 26, .fa 7 3 3, some (25, true)⟩,
    ⟨some 27, .ld 26 1 false, some (25, true)⟩,
    ⟨some 28, .bin .neq (.t 27) (.c (.int .i64 (-1))), some (25, true)⟩,
    ⟨some 29, .mv (.t 28), some (25, true)⟩,
    ⟨some 30, .fa 7 1 1, some (29, false)⟩,
    ⟨some 31, .ld 30 1 false, some (29, false)⟩,
    ⟨some 32, .fa 6 3 3, some (29, false)⟩,
    ⟨some 33, .ld 32 1 false, some (29, false)⟩,
    ⟨some 34, .call 65 [(.t 31), (.t 33)], some (29, false)⟩,
    ⟨some 35, .nt (.t 34), some (29, false)⟩,
    ⟨some 36, .pick (.t 29) (.c (.bool true)) (.t 35), some (25, true)⟩,
    ⟨some 37, .pick (.t 25) (.t 36) (.c (.bool false)), some (19, false)⟩,
    ⟨some 38, .pick (.t 19) (.c (.bool true)) (.t 37), none⟩] [1, 6, 7, 38])
  (.cond (.t 38) (.seq (.reg [⟨some 8, .asg (.c (.bool false)), none⟩] [8])
  (.ret)) (.skip))))
  (.seq (.kp [1, 6, 7] (.seq (.reg [⟨some 39, .fa 6 1 1, none⟩,
    ⟨some 40, .ld 39 1 false, none⟩,
    ⟨some 41, .len false (.t 40), none⟩,
    ⟨some 42, .mv (.c (.int .i64 0)), none⟩] [1, 6, 7, 39, 40, 41, 42])
  (.blk 0 (.loop (.seq (.reg [⟨some 43, .bin .lss (.t 42) (.t 41), none⟩] [1, 6, 7, 39, 40, 41, 42, 43])
  (.seq (.kp [1, 6, 7, 39, 40, 41, 42] (.cond (.t 43) (.skip) (.exit 0)))
  (.seq (.kp [1, 6, 7, 39, 40, 41, 42] (.blk 1 (.seq (.reg [⟨some 44, .ia 40 (.t 42) 1, none⟩,
    ⟨some 45, .ld 44 1 false, none⟩,
    ⟨some 10, .asg (.t 45), none⟩] [1, 6, 7, 10, 39, 40, 41, 42])
  (.seq (.reg [⟨some 46, .fa 7 1 1, none⟩,
    ⟨some 47, .ld 46 1 false, none⟩,
    ⟨some 48, .mv (.t 10), none⟩,
    ⟨some 49, .call 65 [(.t 47), (.t 48)], none⟩,
    ⟨some 50, .nt (.t 49), none⟩] [1, 6, 7, 39, 40, 41, 42, 50])
  (.cond (.t 50) (.seq (.reg [⟨some 8, .asg (.c (.bool false)), none⟩] [8])
  (.ret)) (.skip))))))
  (.reg [⟨some 51, .bin .add (.t 42) (.c (.int .i64 1)), none⟩,
    ⟨some 42, .mv (.t 51), none⟩] [1, 6, 7, 39, 40, 41, 42]))))))))
  (.seq (.kp [] (.seq (.reg [⟨some 52, .mv (.t 1), none⟩,
    ⟨some 53, .len false (.t 52), none⟩,
    ⟨some 54, .mv (.c (.int .i64 0)), none⟩] [1, 6, 7, 53, 54])
  (.blk 2 (.loop (.seq (.reg [⟨some 55, .bin .lss (.t 54) (.t 53), none⟩] [1, 6, 7, 53, 54, 55])
  (.seq (.kp [1, 6, 7, 53, 54] (.cond (.t 55) (.skip) (.exit 2)))
  (.seq (.kp [1, 6, 7, 53, 54] (.blk 3 (.seq (.reg [⟨some 56, .mv (.t 54), none⟩,
    ⟨some 11, .asg (.t 56), none⟩] [1, 6, 7, 11, 53, 54])
  (.seq (.drw [⟨0, ⟨some 57, .mv (.t 1), none⟩, [58, 59, 60, 61, 62, 63, 64]⟩,
    ⟨1, ⟨some 58, .ld 6 4 true, none⟩, [57, 59, 60, 61, 62, 63, 64]⟩,
    ⟨2, ⟨some 59, .mv (.t 11), none⟩, [57, 58, 60, 61, 62, 63, 64]⟩,
    ⟨3, ⟨some 60, .call 94 [(.t 57), (.t 58), (.t 59)], none⟩, [61, 62, 63, 64]⟩,
    ⟨4, ⟨some 61, .mv (.t 1), none⟩, [57, 58, 59, 60, 62, 63, 64]⟩,
    ⟨5, ⟨some 62, .ld 7 4 true, none⟩, [57, 58, 59, 60, 61, 63, 64]⟩,
    ⟨6, ⟨some 63, .mv (.t 11), none⟩, [57, 58, 59, 60, 61, 62, 64]⟩,
    ⟨7, ⟨some 64, .call 94 [(.t 61), (.t 62), (.t 63)], none⟩, []⟩]
    [(8, ⟨some 12, .asg (.t 60), none⟩),
    (9, ⟨some 13, .asg (.t 64), none⟩)] [1, 6, 7, 11, 12, 13, 53, 54])
  (.seq (.reg [⟨some 65, .mv (.t 12), none⟩,
    ⟨some 66, .mv (.t 13), none⟩,
    ⟨some 67, .bin .neq (.t 65) (.t 66), none⟩,
    ⟨some 68, .mv (.t 67), none⟩,
    ⟨some 69, .fa 7 1 1, some (68, true)⟩,
    ⟨some 70, .ld 69 1 false, some (68, true)⟩,
    ⟨some 71, .mv (.t 11), some (68, true)⟩,
    ⟨some 72, .call 65 [(.t 70), (.t 71)], some (68, true)⟩,
    ⟨some 73, .nt (.t 72), some (68, true)⟩,
    ⟨some 74, .mv (.t 73), some (68, true)⟩,
    ⟨some 75, .mv (.t 12), some (74, false)⟩,
    ⟨some 76, .mv (.t 13), some (74, false)⟩,
    ⟨some 77, .bin .and (.t 75) (.t 76), some (74, false)⟩,
    ⟨some 78, .mv (.t 12), some (74, false)⟩,
    ⟨some 79, .bin .neq (.t 77) (.t 78), some (74, false)⟩,
    ⟨some 80, .pick (.t 74) (.c (.bool true)) (.t 79), some (68, true)⟩,
    ⟨some 81, .pick (.t 68) (.t 80) (.c (.bool false)), none⟩] [1, 6, 7, 53, 54, 81])
  (.cond (.t 81) (.seq (.reg [⟨some 8, .asg (.c (.bool false)), none⟩] [8])
  (.ret)) (.skip)))))))
  (.reg [⟨some 82, .bin .add (.t 54) (.c (.int .i64 1)), none⟩,
    ⟨some 54, .mv (.t 82), none⟩] [1, 6, 7, 53, 54]))))))))
  (.seq (.reg [⟨some 8, .asg (.c (.bool true)), none⟩] [8])
  (.ret)))))
theorem con_spec_lFollows {v0 : XGeo} {v1 : (List XVariable)} {v2 : XTable} {v3 : XTable} {r : Bool} (h : sh_spec_lFollows v0 v1 v2 v3 = some r) : Con Try.prog 55 [(cXGeo (cLs cI rfl)).enc v0, (cLs (cXVariable cS cI) rfl).enc v1, (cXTable cI (cLs cI rfl) (cLs cI rfl) cI).enc v2, (cXTable cI (cLs cI rfl) (cLs cI rfl) cI).enc v3] [] (rs_spec_lFollows r) := by
  delta sh_spec_lFollows at h
  refine top (out := none) (f := Try.f55) (m := m55) (rs := [.t 8]) (by kernel_rfl) rfl (by kernel_rfl) (by kernel_rfl) (by kernel_rfl) (by kernel_rfl) (by kernel_rfl) ?_
  exact
   ini [(0, .d ((cXGeo (cLs cI rfl)).enc v0)), (1, .d ((cLs (cXVariable cS cI) rfl).enc v1)), (2, .d ((cXTable cI (cLs cI rfl) (cLs cI rfl) cI).enc v2)), (3, .d ((cXTable cI (cLs cI rfl) (cLs cI rfl) cI).enc v3))] rfl <| wpC_seq <| reg_s <| x_box (ss rfl rfl) <| x_box (ss rfl rfl) <| x_box (ss rfl rfl) <| x_asg (sc cB false rfl) <| seqN [(1, .d ((cLs (cXVariable cS cI) rfl).enc v1)), (4, .box ((cXGeo (cLs cI rfl)).enc v0)), (6, .box ((cXTable cI (cLs cI rfl) (cLs cI rfl) cI).enc v2)), (7, .box ((cXTable cI (cLs cI rfl) (cLs cI rfl) cI).enc v3))] (by kernel_rfl) <|
    xn <| wpC_seq <| wpC_kp <| wpC_seq <| jw (fun (s25 : Bool) => [(1, .d ((cLs (cXVariable cS cI) rfl).enc v1)), (6, .box ((cXTable cI (cLs cI rfl) (cLs cI rfl) cI).enc v2)), (7, .box ((cXTable cI (cLs cI rfl) (cLs cI rfl) cI).enc v3)), (38, .d (cB.enc s25))]) h (fun s25 h => xn <| cnd rfl h (fun b27 h => wpC_seq <| reg_s <| x_asg (sc cB false rfl) <| seqN [(8, .d (cB.enc false))] (by kernel_rfl) <|
    xn <| wpC_ret <| rt <| rt <| re <| fin h (r1 (ss rfl rfl) <| r0) rfl)
    (fun b27 h => wpC_skip <| kpN [(1, .d ((cLs (cXVariable cS cI) rfl).enc v1)), (6, .box ((cXTable cI (cLs cI rfl) (cLs cI rfl) cI).enc v2)), (7, .box ((cXTable cI (cLs cI rfl) (cLs cI rfl) cI).enc v3))] (by kernel_rfl) <| xn <| wpC_seq <| wpC_kp <| wpC_seq <| reg_s <| st rfl <| fab rfl rfl rfl rfl <| st rfl <| lda rfl rfl rfl rfl rfl rfl <| stw rfl <| lens rfl fun l59 => st rfl <| mvc cI (0 : Int) rfl <| seqN [(1, .d ((cLs (cXVariable cS cI) rfl).enc v1)), (6, .box ((cXTable cI (cLs cI rfl) (cLs cI rfl) cI).enc v2)), (7, .box ((cXTable cI (cLs cI rfl) (cLs cI rfl) cI).enc v3)), (39, .adr 6 [.fld 1]), (40, .d ((cLs cI rfl).enc v2.Vars)), (41, .d (cI.enc (v2.Vars.length : Int))), (42, .d (cI.enc (0 : Int)))] (by kernel_rfl) <|
    xn <| wpC_blk <| lpR (fun (k61 : Nat) (s60 : Unit) => [(1, .d ((cLs (cXVariable cS cI) rfl).enc v1)), (6, .box ((cXTable cI (cLs cI rfl) (cLs cI rfl) cI).enc v2)), (7, .box ((cXTable cI (cLs cI rfl) (cLs cI rfl) cI).enc v3)), (39, .adr 6 [.fld 1]), (40, .d ((cLs cI rfl).enc v2.Vars)), (41, .d (cI.enc (v2.Vars.length : Int))), (42, .d (cI.enc (k61 : Int)))]) () rfl h
    (fun G77 s60 h => wpC_seq <| reg_s <| st rfl <| b_lss (k := .i64) rfl rfl <| seqN [(1, .d ((cLs (cXVariable cS cI) rfl).enc v1)), (6, .box ((cXTable cI (cLs cI rfl) (cLs cI rfl) cI).enc v2)), (7, .box ((cXTable cI (cLs cI rfl) (cLs cI rfl) cI).enc v3)), (39, .adr 6 [.fld 1]), (40, .d ((cLs cI rfl).enc v2.Vars)), (41, .d (cI.enc (v2.Vars.length : Int))), (42, .d (cI.enc (v2.Vars.length : Int))), (43, .d (cB.enc (decide ((v2.Vars.length : Int) < (v2.Vars.length : Int)))))] (by kernel_rfl) <|
    xn <| wpC_seq <| wpC_kp <| cnd0 rfl (dlf _) <| wpC_exit <| xt <| xt <| xt <| xb <| kpN [(1, .d ((cLs (cXVariable cS cI) rfl).enc v1)), (6, .box ((cXTable cI (cLs cI rfl) (cLs cI rfl) cI).enc v2)), (7, .box ((cXTable cI (cLs cI rfl) (cLs cI rfl) cI).enc v3))] (by kernel_rfl) <| xn <| wpC_seq <| wpC_kp <| wpC_seq <| reg_s <| st rfl <| mvd rfl rfl <| stw rfl <| lens rfl fun l189 => st rfl <| mvc cI (0 : Int) rfl <| seqN [(1, .d ((cLs (cXVariable cS cI) rfl).enc v1)), (6, .box ((cXTable cI (cLs cI rfl) (cLs cI rfl) cI).enc v2)), (7, .box ((cXTable cI (cLs cI rfl) (cLs cI rfl) cI).enc v3)), (53, .d (cI.enc (v1.length : Int))), (54, .d (cI.enc (0 : Int)))] (by kernel_rfl) <|
    xn <| wpC_blk <| lpR (fun (k191 : Nat) (s190 : Unit) => [(1, .d ((cLs (cXVariable cS cI) rfl).enc v1)), (6, .box ((cXTable cI (cLs cI rfl) (cLs cI rfl) cI).enc v2)), (7, .box ((cXTable cI (cLs cI rfl) (cLs cI rfl) cI).enc v3)), (53, .d (cI.enc (v1.length : Int))), (54, .d (cI.enc (k191 : Int)))]) () rfl h
    (fun G247 s190 h => wpC_seq <| reg_s <| st rfl <| b_lss (k := .i64) rfl rfl <| seqN [(1, .d ((cLs (cXVariable cS cI) rfl).enc v1)), (6, .box ((cXTable cI (cLs cI rfl) (cLs cI rfl) cI).enc v2)), (7, .box ((cXTable cI (cLs cI rfl) (cLs cI rfl) cI).enc v3)), (53, .d (cI.enc (v1.length : Int))), (54, .d (cI.enc (v1.length : Int))), (55, .d (cB.enc (decide ((v1.length : Int) < (v1.length : Int)))))] (by kernel_rfl) <|
    xn <| wpC_seq <| wpC_kp <| cnd0 rfl (dlf _) <| wpC_exit <| xt <| xt <| xt <| xb <| kpN [] (by kernel_rfl) <| xn <| wpC_seq <| reg_s <| x_asg (sc cB true rfl) <| seqN [(8, .d (cB.enc true))] (by kernel_rfl) <|
    xn <| wpC_ret <| re <| fin h (r1 (ss rfl rfl) <| r0) rfl)
    (fun G247 nx245 k191 s190 x192 hk193 hx194 hn246 h => wpC_seq <| reg_s <| st rfl <| b_lss (k := .i64) rfl rfl <| seqN [(1, .d ((cLs (cXVariable cS cI) rfl).enc v1)), (6, .box ((cXTable cI (cLs cI rfl) (cLs cI rfl) cI).enc v2)), (7, .box ((cXTable cI (cLs cI rfl) (cLs cI rfl) cI).enc v3)), (53, .d (cI.enc (v1.length : Int))), (54, .d (cI.enc (k191 : Int))), (55, .d (cB.enc (decide ((k191 : Int) < (v1.length : Int)))))] (by kernel_rfl) <|
    xn <| wpC_seq <| wpC_kp <| cnd1 rfl (dlt hk193) <| wpC_skip <| kpN [(1, .d ((cLs (cXVariable cS cI) rfl).enc v1)), (6, .box ((cXTable cI (cLs cI rfl) (cLs cI rfl) cI).enc v2)), (7, .box ((cXTable cI (cLs cI rfl) (cLs cI rfl) cI).enc v3)), (53, .d (cI.enc (v1.length : Int))), (54, .d (cI.enc (k191 : Int)))] (by kernel_rfl) <| xn <| wpC_seq <| wpC_kp <| wpC_blk <| wpC_seq <| reg_s <| st rfl <| mvd rfl rfl <| x_asg (ss rfl rfl) <| seqN [(1, .d ((cLs (cXVariable cS cI) rfl).enc v1)), (6, .box ((cXTable cI (cLs cI rfl) (cLs cI rfl) cI).enc v2)), (7, .box ((cXTable cI (cLs cI rfl) (cLs cI rfl) cI).enc v3)), (11, .d (cI.enc (k191 : Int))), (53, .d (cI.enc (v1.length : Int))), (54, .d (cI.enc (k191 : Int)))] (by kernel_rfl) <|
    xn <| wpC_seq <| drw_s <| pst rfl <| mvd rfl rfl ⟨rfl, pst rfl <| ldb rfl rfl rfl rfl ⟨rfl, pst rfl <| mvd rfl rfl ⟨rfl, bndp h fun x277 e278 h => pst rfl <| o_call (a1 (c := (cLs (cXVariable cS cI) rfl)) (tLs (tXVariable tS tK)) rfl (a1 (c := (cXTable cI (cLs cI rfl) (cLs cI rfl) cI)) (tXTable tK (tLs tK) (tLs tK) tK) rfl (a1 (c := cI) tK rfl a0))) (con_spec_lSet e278) (.inl (so1 sK so0)) ⟨rfl, pst rfl <| mvd rfl rfl ⟨rfl, pst rfl <| ldb rfl rfl rfl rfl ⟨rfl, pst rfl <| mvd rfl rfl ⟨rfl, bndp h fun x279 e280 h => pst rfl <| o_call (a1 (c := (cLs (cXVariable cS cI) rfl)) (tLs (tXVariable tS tK)) rfl (a1 (c := (cXTable cI (cLs cI rfl) (cLs cI rfl) cI)) (tXTable tK (tLs tK) (tLs tK) tK) rfl (a1 (c := cI) tK rfl a0))) (con_spec_lSet e280) (.inl (so1 sK so0)) ⟨rfl, preN <| x_asg (ss rfl rfl) <| x_asg (ss rfl rfl) <| seqN [(1, .d ((cLs (cXVariable cS cI) rfl).enc v1)), (6, .box ((cXTable cI (cLs cI rfl) (cLs cI rfl) cI).enc v2)), (7, .box ((cXTable cI (cLs cI rfl) (cLs cI rfl) cI).enc v3)), (11, .d (cI.enc (k191 : Int))), (12, .d (cI.enc x277)), (13, .d (cI.enc x279)), (53, .d (cI.enc (v1.length : Int))), (54, .d (cI.enc (k191 : Int)))] (by kernel_rfl) <|
    xn <| wpC_seq <| reg_s <| st rfl <| mvd rfl rfl <| st rfl <| mvd rfl rfl <| st rfl <| b_neq (k := .i64) rfl rfl <| st rfl <| mvd rfl rfl <| ite_k h (fun b289 h => gt' rfl b289 <| st rfl <| fab rfl rfl rfl rfl <| gt' rfl b289 <| st rfl <| lda rfl rfl rfl rfl rfl rfl <| gt' rfl b289 <| st rfl <| mvd rfl rfl <| gt' rfl b289 <| bnd h fun x290 e291 h => st rfl <| o_call (a1 (c := (cLs cI rfl)) (tLs tK) rfl (a1 (c := cI) tK rfl a0)) (con_spec_l1Has e291) (.inl (so1 sB so0)) <| gt' rfl b289 <| st rfl <| o_nt rfl <| gt' rfl b289 <| st rfl <| mvd rfl rfl <| ite_k h (fun b292 h => gf rfl b292 <| gf rfl b292 <| gf rfl b292 <| gf rfl b292 <| gf rfl b292 <| gt' rfl b289 <| st rfl <| pick1 rfl b292 (cd := cB) (v := true) rfl rfl <| st rfl <| pick1 rfl b289 (cd := cB) (v := true) rfl rfl <| seqN [(1, .d ((cLs (cXVariable cS cI) rfl).enc v1)), (6, .box ((cXTable cI (cLs cI rfl) (cLs cI rfl) cI).enc v2)), (7, .box ((cXTable cI (cLs cI rfl) (cLs cI rfl) cI).enc v3)), (53, .d (cI.enc (v1.length : Int))), (54, .d (cI.enc (k191 : Int))), (81, .d (cB.enc true))] (by kernel_rfl) <|
    xn <| cnd1 rfl rfl <| wpC_seq <| reg_s <| x_asg (sc cB false rfl) <| seqN [(8, .d (cB.enc false))] (by kernel_rfl) <|
    xn <| wpC_ret <| rb <| rt <| rt <| rt <| rb <| rt <| rt <| re <| fin h (r1 (ss rfl rfl) <| r0) rfl)
    (fun b292 h => gt' rfl b292 <| st rfl <| mvd rfl rfl <| gt' rfl b292 <| st rfl <| mvd rfl rfl <| gt' rfl b292 <| ck_k h fun i293 h => ckK_k h fun i294 h => ck_k h fun i295 h => ckK_k h fun i296 h => st rfl <| b_and (k := .i64) rfl rfl ⟨i293, i294⟩ ⟨i295, i296⟩ <| gt' rfl b292 <| st rfl <| mvd rfl rfl <| gt' rfl b292 <| st rfl <| b_neq (k := .i64) rfl rfl <| gt' rfl b289 <| st rfl <| pick0 rfl b292 (cd := cB) (v := (decide (((x277.toNat &&& x279.toNat : Nat) : Int) ≠ x277))) rfl rfl <| st rfl <| pick1 rfl b289 (cd := cB) (v := (decide (((x277.toNat &&& x279.toNat : Nat) : Int) ≠ x277))) rfl rfl <| seqN [(1, .d ((cLs (cXVariable cS cI) rfl).enc v1)), (6, .box ((cXTable cI (cLs cI rfl) (cLs cI rfl) cI).enc v2)), (7, .box ((cXTable cI (cLs cI rfl) (cLs cI rfl) cI).enc v3)), (53, .d (cI.enc (v1.length : Int))), (54, .d (cI.enc (k191 : Int))), (81, .d (cB.enc (decide (((x277.toNat &&& x279.toNat : Nat) : Int) ≠ x277))))] (by kernel_rfl) <|
    xn <| cnd rfl h (fun b297 h => wpC_seq <| reg_s <| x_asg (sc cB false rfl) <| seqN [(8, .d (cB.enc false))] (by kernel_rfl) <|
    xn <| wpC_ret <| rb <| rt <| rt <| rt <| rb <| rt <| rt <| re <| fin h (r1 (ss rfl rfl) <| r0) rfl)
    (fun b297 h => wpC_skip <| xbb <| kpN [(1, .d ((cLs (cXVariable cS cI) rfl).enc v1)), (6, .box ((cXTable cI (cLs cI rfl) (cLs cI rfl) cI).enc v2)), (7, .box ((cXTable cI (cLs cI rfl) (cLs cI rfl) cI).enc v3)), (53, .d (cI.enc (v1.length : Int))), (54, .d (cI.enc (k191 : Int)))] (by kernel_rfl) <| xn <| reg_s <| st rfl <| b_inc rfl rfl l189 hk193 <| st rfl <| mvd rfl rfl <| seqN [(1, .d ((cLs (cXVariable cS cI) rfl).enc v1)), (6, .box ((cXTable cI (cLs cI rfl) (cLs cI rfl) cI).enc v2)), (7, .box ((cXTable cI (cLs cI rfl) (cLs cI rfl) cI).enc v3)), (53, .d (cI.enc (v1.length : Int))), (54, .d (cI.enc ((k191 + 1 : Nat) : Int)))] (by kernel_rfl) <|
    xn <| hn246 () h)))
    (fun b289 h => gf rfl b289 <| gf rfl b289 <| gf rfl b289 <| gf rfl b289 <| gf rfl b289 <| gf rfl b289 <| gu rfl <| gu rfl <| gu rfl <| gu rfl <| gu rfl <| gf rfl b289 <| st rfl <| pick0 rfl b289 (cd := cB) (v := false) rfl rfl <| seqN [(1, .d ((cLs (cXVariable cS cI) rfl).enc v1)), (6, .box ((cXTable cI (cLs cI rfl) (cLs cI rfl) cI).enc v2)), (7, .box ((cXTable cI (cLs cI rfl) (cLs cI rfl) cI).enc v3)), (53, .d (cI.enc (v1.length : Int))), (54, .d (cI.enc (k191 : Int))), (81, .d (cB.enc false))] (by kernel_rfl) <|
    xn <| cnd0 rfl rfl <| wpC_skip <| xbb <| kpN [(1, .d ((cLs (cXVariable cS cI) rfl).enc v1)), (6, .box ((cXTable cI (cLs cI rfl) (cLs cI rfl) cI).enc v2)), (7, .box ((cXTable cI (cLs cI rfl) (cLs cI rfl) cI).enc v3)), (53, .d (cI.enc (v1.length : Int))), (54, .d (cI.enc (k191 : Int)))] (by kernel_rfl) <| xn <| reg_s <| st rfl <| b_inc rfl rfl l189 hk193 <| st rfl <| mvd rfl rfl <| seqN [(1, .d ((cLs (cXVariable cS cI) rfl).enc v1)), (6, .box ((cXTable cI (cLs cI rfl) (cLs cI rfl) cI).enc v2)), (7, .box ((cXTable cI (cLs cI rfl) (cLs cI rfl) cI).enc v3)), (53, .d (cI.enc (v1.length : Int))), (54, .d (cI.enc ((k191 + 1 : Nat) : Int)))] (by kernel_rfl) <|
    xn <| hn246 () h)⟩⟩⟩⟩⟩⟩⟩⟩))
    (fun G77 nx75 k61 s60 x62 hk63 hx64 hn76 h => wpC_seq <| reg_s <| st rfl <| b_lss (k := .i64) rfl rfl <| seqN [(1, .d ((cLs (cXVariable cS cI) rfl).enc v1)), (6, .box ((cXTable cI (cLs cI rfl) (cLs cI rfl) cI).enc v2)), (7, .box ((cXTable cI (cLs cI rfl) (cLs cI rfl) cI).enc v3)), (39, .adr 6 [.fld 1]), (40, .d ((cLs cI rfl).enc v2.Vars)), (41, .d (cI.enc (v2.Vars.length : Int))), (42, .d (cI.enc (k61 : Int))), (43, .d (cB.enc (decide ((k61 : Int) < (v2.Vars.length : Int)))))] (by kernel_rfl) <|
    xn <| wpC_seq <| wpC_kp <| cnd1 rfl (dlt hk63) <| wpC_skip <| kpN [(1, .d ((cLs (cXVariable cS cI) rfl).enc v1)), (6, .box ((cXTable cI (cLs cI rfl) (cLs cI rfl) cI).enc v2)), (7, .box ((cXTable cI (cLs cI rfl) (cLs cI rfl) cI).enc v3)), (39, .adr 6 [.fld 1]), (40, .d ((cLs cI rfl).enc v2.Vars)), (41, .d (cI.enc (v2.Vars.length : Int))), (42, .d (cI.enc (k61 : Int)))] (by kernel_rfl) <| xn <| wpC_seq <| wpC_kp <| wpC_blk <| wpC_seq <| reg_s <| st rfl <| ias rfl rfl (Int.natCast_nonneg _) hx64 rfl <| st rfl <| ldi rfl rfl rfl rfl <| x_asg (ss rfl rfl) <| seqN [(1, .d ((cLs (cXVariable cS cI) rfl).enc v1)), (6, .box ((cXTable cI (cLs cI rfl) (cLs cI rfl) cI).enc v2)), (7, .box ((cXTable cI (cLs cI rfl) (cLs cI rfl) cI).enc v3)), (10, .d (cI.enc x62)), (39, .adr 6 [.fld 1]), (40, .d ((cLs cI rfl).enc v2.Vars)), (41, .d (cI.enc (v2.Vars.length : Int))), (42, .d (cI.enc (k61 : Int)))] (by kernel_rfl) <|
    xn <| wpC_seq <| reg_s <| st rfl <| fab rfl rfl rfl rfl <| st rfl <| lda rfl rfl rfl rfl rfl rfl <| st rfl <| mvd rfl rfl <| bnd h fun x305 e306 h => st rfl <| o_call (a1 (c := (cLs cI rfl)) (tLs tK) rfl (a1 (c := cI) tK rfl a0)) (con_spec_l1Has e306) (.inl (so1 sB so0)) <| st rfl <| o_nt rfl <| seqN [(1, .d ((cLs (cXVariable cS cI) rfl).enc v1)), (6, .box ((cXTable cI (cLs cI rfl) (cLs cI rfl) cI).enc v2)), (7, .box ((cXTable cI (cLs cI rfl) (cLs cI rfl) cI).enc v3)), (39, .adr 6 [.fld 1]), (40, .d ((cLs cI rfl).enc v2.Vars)), (41, .d (cI.enc (v2.Vars.length : Int))), (42, .d (cI.enc (k61 : Int))), (50, .d (cB.enc (!x305)))] (by kernel_rfl) <|
    xn <| cnd rfl h (fun b307 h => wpC_seq <| reg_s <| x_asg (sc cB false rfl) <| seqN [(8, .d (cB.enc false))] (by kernel_rfl) <|
    xn <| wpC_ret <| rb <| rt <| rt <| rt <| rb <| rt <| rt <| re <| fin h (r1 (ss rfl rfl) <| r0) rfl)
    (fun b307 h => wpC_skip <| xbb <| kpN [(1, .d ((cLs (cXVariable cS cI) rfl).enc v1)), (6, .box ((cXTable cI (cLs cI rfl) (cLs cI rfl) cI).enc v2)), (7, .box ((cXTable cI (cLs cI rfl) (cLs cI rfl) cI).enc v3)), (39, .adr 6 [.fld 1]), (40, .d ((cLs cI rfl).enc v2.Vars)), (41, .d (cI.enc (v2.Vars.length : Int))), (42, .d (cI.enc (k61 : Int)))] (by kernel_rfl) <| xn <| reg_s <| st rfl <| b_inc rfl rfl l59 hk63 <| st rfl <| mvd rfl rfl <| seqN [(1, .d ((cLs (cXVariable cS cI) rfl).enc v1)), (6, .box ((cXTable cI (cLs cI rfl) (cLs cI rfl) cI).enc v2)), (7, .box ((cXTable cI (cLs cI rfl) (cLs cI rfl) cI).enc v3)), (39, .adr 6 [.fld 1]), (40, .d ((cLs cI rfl).enc v2.Vars)), (41, .d (cI.enc (v2.Vars.length : Int))), (42, .d (cI.enc ((k61 + 1 : Nat) : Int)))] (by kernel_rfl) <|
    xn <| hn76 () h))))
    fun s25' q26 h => reg_s <| st rfl <| ldb rfl rfl rfl rfl <| st rfl <| ldb rfl rfl rfl rfl <| st rfl <| ldb rfl rfl rfl rfl <| bnd h fun x308 e309 h => st rfl <| o_call (a1 (c := (cXGeo (cLs cI rfl))) (tXGeo (tLs tK)) rfl (a1 (c := (cXTable cI (cLs cI rfl) (cLs cI rfl) cI)) (tXTable tK (tLs tK) (tLs tK) tK) rfl (a1 (c := (cXTable cI (cLs cI rfl) (cLs cI rfl) cI)) (tXTable tK (tLs tK) (tLs tK) tK) rfl a0))) (con_spec_lLevels e309) (.inl (so1 sB so0)) <| st rfl <| o_nt rfl <| st rfl <| mvd rfl rfl <| ite_k h (fun b310 h => gf rfl b310 <| gf rfl b310 <| gf rfl b310 <| gf rfl b310 <| gf rfl b310 <| gf rfl b310 <| gu rfl <| gu rfl <| gu rfl <| gu rfl <| gu rfl <| gu rfl <| gu rfl <| gu rfl <| gu rfl <| gu rfl <| gu rfl <| gf rfl b310 <| st rfl <| pick1 rfl b310 (cd := cB) (v := true) rfl rfl <| seqN [(1, .d ((cLs (cXVariable cS cI) rfl).enc v1)), (6, .box ((cXTable cI (cLs cI rfl) (cLs cI rfl) cI).enc v2)), (7, .box ((cXTable cI (cLs cI rfl) (cLs cI rfl) cI).enc v3)), (38, .d (cB.enc true))] (by kernel_rfl) <|
    lfn (S := (fun (s25 : Bool) => [(1, .d ((cLs (cXVariable cS cI) rfl).enc v1)), (6, .box ((cXTable cI (cLs cI rfl) (cLs cI rfl) cI).enc v2)), (7, .box ((cXTable cI (cLs cI rfl) (cLs cI rfl) cI).enc v3)), (38, .d (cB.enc s25))])) h q26 rfl)
    (fun b310 h => gt' rfl b310 <| st rfl <| fab rfl rfl rfl rfl <| gt' rfl b310 <| st rfl <| lda rfl rfl rfl rfl rfl rfl <| gt' rfl b310 <| st rfl <| fab rfl rfl rfl rfl <| gt' rfl b310 <| st rfl <| lda rfl rfl rfl rfl rfl rfl <| gt' rfl b310 <| st rfl <| b_neq (k := .i64) rfl rfl <| gt' rfl b310 <| st rfl <| mvd rfl rfl <| ite_k h (fun b311 h => gt' rfl b311 <| st rfl <| fab rfl rfl rfl rfl <| gt' rfl b311 <| st rfl <| lda rfl rfl rfl rfl rfl rfl <| gt' rfl b311 <| st rfl <| b_neq (k := .i64) rfl rfl <| gt' rfl b311 <| st rfl <| mvd rfl rfl <| ite_k h (fun b312 h => gf rfl b312 <| gf rfl b312 <| gf rfl b312 <| gf rfl b312 <| gf rfl b312 <| gf rfl b312 <| gt' rfl b311 <| st rfl <| pick1 rfl b312 (cd := cB) (v := true) rfl rfl <| gt' rfl b310 <| st rfl <| pick1 rfl b311 (cd := cB) (v := true) rfl rfl <| st rfl <| pick0 rfl b310 (cd := cB) (v := true) rfl rfl <| seqN [(1, .d ((cLs (cXVariable cS cI) rfl).enc v1)), (6, .box ((cXTable cI (cLs cI rfl) (cLs cI rfl) cI).enc v2)), (7, .box ((cXTable cI (cLs cI rfl) (cLs cI rfl) cI).enc v3)), (38, .d (cB.enc true))] (by kernel_rfl) <|
    lfn (S := (fun (s25 : Bool) => [(1, .d ((cLs (cXVariable cS cI) rfl).enc v1)), (6, .box ((cXTable cI (cLs cI rfl) (cLs cI rfl) cI).enc v2)), (7, .box ((cXTable cI (cLs cI rfl) (cLs cI rfl) cI).enc v3)), (38, .d (cB.enc s25))])) h q26 rfl)
    (fun b312 h => gt' rfl b312 <| st rfl <| fab rfl rfl rfl rfl <| gt' rfl b312 <| st rfl <| lda rfl rfl rfl rfl rfl rfl <| gt' rfl b312 <| st rfl <| fab rfl rfl rfl rfl <| gt' rfl b312 <| st rfl <| lda rfl rfl rfl rfl rfl rfl <| gt' rfl b312 <| bnd h fun x313 e314 h => st rfl <| o_call (a1 (c := (cLs cI rfl)) (tLs tK) rfl (a1 (c := cI) tK rfl a0)) (con_spec_l1Has e314) (.inl (so1 sB so0)) <| gt' rfl b312 <| st rfl <| o_nt rfl <| gt' rfl b311 <| st rfl <| pick0 rfl b312 (cd := cB) (v := (!x313)) rfl rfl <| gt' rfl b310 <| st rfl <| pick1 rfl b311 (cd := cB) (v := (!x313)) rfl rfl <| st rfl <| pick0 rfl b310 (cd := cB) (v := (!x313)) rfl rfl <| seqN [(1, .d ((cLs (cXVariable cS cI) rfl).enc v1)), (6, .box ((cXTable cI (cLs cI rfl) (cLs cI rfl) cI).enc v2)), (7, .box ((cXTable cI (cLs cI rfl) (cLs cI rfl) cI).enc v3)), (38, .d (cB.enc (!x313)))] (by kernel_rfl) <|
    lfn (S := (fun (s25 : Bool) => [(1, .d ((cLs (cXVariable cS cI) rfl).enc v1)), (6, .box ((cXTable cI (cLs cI rfl) (cLs cI rfl) cI).enc v2)), (7, .box ((cXTable cI (cLs cI rfl) (cLs cI rfl) cI).enc v3)), (38, .d (cB.enc s25))])) h q26 rfl))
    (fun b311 h => gf rfl b311 <| gf rfl b311 <| gf rfl b311 <| gf rfl b311 <| gu rfl <| gu rfl <| gu rfl <| gu rfl <| gu rfl <| gu rfl <| gf rfl b311 <| gt' rfl b310 <| st rfl <| pick0 rfl b311 (cd := cB) (v := false) rfl rfl <| st rfl <| pick0 rfl b310 (cd := cB) (v := false) rfl rfl <| seqN [(1, .d ((cLs (cXVariable cS cI) rfl).enc v1)), (6, .box ((cXTable cI (cLs cI rfl) (cLs cI rfl) cI).enc v2)), (7, .box ((cXTable cI (cLs cI rfl) (cLs cI rfl) cI).enc v3)), (38, .d (cB.enc false))] (by kernel_rfl) <|
    lfn (S := (fun (s25 : Bool) => [(1, .d ((cLs (cXVariable cS cI) rfl).enc v1)), (6, .box ((cXTable cI (cLs cI rfl) (cLs cI rfl) cI).enc v2)), (7, .box ((cXTable cI (cLs cI rfl) (cLs cI rfl) cI).enc v3)), (38, .d (cB.enc s25))])) h q26 rfl))

def rs_impl_isPlan (r : Bool) : List D := [cB.enc r]
def m58 : MC := .seq (.reg [⟨some 3, .box (.t 0), none⟩,
    ⟨some 6, .asg (.c (.bool false)), none⟩] [1, 2, 3])
  (.seq (.kp [1, 2, 3] (.seq (.reg [⟨some 9, .ld 3 1 true, none⟩,
    ⟨some 10, .call 95 [(.t 9)], none⟩,
    ⟨some 11, .nt (.t 10), none⟩,
    ⟨some 12, .mv (.t 11), none⟩,
    ⟨some 13, .mv (.t 1), some (12, false)⟩,
    ⟨some 14, .call 96 [(.t 13)], some (12, false)⟩,
    ⟨some 15, .nt (.t 14), some (12, false)⟩,
    ⟨some 16, .pick (.t 12) (.c (.bool true)) (.t 15), none⟩,
    ⟨some 17, .mv (.t 16), none⟩,
    ⟨some 18, .mv (.t 2), some (17, false)⟩,
    ⟨some 19, .len false (.t 18), some (17, false)⟩,
    ⟨some 20, .bin .gtr (.t 19) (.c (.int .i64 20)), some (17, false)⟩,
    ⟨some 21, .pick (.t 17) (.c (.bool true)) (.t 20), none⟩] [1, 2, 3, 21])
  (.cond (.t 21) (.seq (.reg [⟨some 6, .asg (.c (.bool false)), none⟩] [6])
  (.ret)) (.skip))))
  (.seq (.kp [] (.seq (.reg [⟨some 22, .mv (.t 2), none⟩,
    ⟨some 23, .len false (.t 22), none⟩,
    ⟨some 24, .mv (.c (.int .i64 0)), none⟩] [1, 2, 3, 22, 23, 24])
  (.blk 0 (.loop (.seq (.reg [⟨some 25, .bin .lss (.t 24) (.t 23), none⟩] [1, 2, 3, 22, 23, 24, 25])
  (.seq (.kp [1, 2, 3, 22, 23, 24] (.cond (.t 25) (.skip) (.exit 0)))
  (.seq (.kp [1, 2, 3, 22, 23, 24] (.blk 1 (.seq (.reg [⟨some 26, .ia 22 (.t 24) 4, none⟩,
    ⟨some 27, .ld 26 4 true, none⟩,
    ⟨some 8, .alloc (.agg [.int .i64 0, .slice true [], .slice true [], .int .i64 0]), none⟩,
    ⟨none, .st 8 (.t 27) 4, none⟩] [1, 2, 3, 8, 22, 23, 24])
  (.seq (.reg [⟨some 28, .ld 3 1 true, none⟩,
    ⟨some 29, .mv (.t 1), none⟩,
    ⟨some 30, .ld 8 4 true, none⟩,
    ⟨some 31, .call 81 [(.t 28), (.t 29), (.t 30)], none⟩,
    ⟨some 32, .nt (.t 31), none⟩] [1, 2, 3, 22, 23, 24, 32])
  (.cond (.t 32) (.seq (.reg [⟨some 6, .asg (.c (.bool false)), none⟩] [6])
  (.ret)) (.skip))))))
  (.reg [⟨some 33, .bin .add (.t 24) (.c (.int .i64 1)), none⟩,
    ⟨some 24, .mv (.t 33), none⟩] [1, 2, 3, 22, 23, 24]))))))))
  (.seq (.reg [⟨some 6, .asg (.c (.bool true)), none⟩] [6])
  (.ret))))
theorem con_impl_isPlan {v0 : XGeo} {v1 : (List XVariable)} {v2 : (List XTable)} {r : Bool} (h : sh_impl_isPlan v0 v1 v2 = some r) : Con Try.prog 58 [(cXGeo (cLs cI rfl)).enc v0, (cLs (cXVariable cS cI) rfl).enc v1, (cLs (cXTable cI (cLs cI rfl) (cLs cI rfl) cI) rfl).enc v2] [] (rs_impl_isPlan r) := by
  delta sh_impl_isPlan at h
  refine top (out := none) (f := Try.f58) (m := m58) (rs := [.t 6]) (by kernel_rfl) rfl (by kernel_rfl) (by kernel_rfl) (by kernel_rfl) (by kernel_rfl) (by kernel_rfl) ?_
  exact
   ini [(0, .d ((cXGeo (cLs cI rfl)).enc v0)), (1, .d ((cLs (cXVariable cS cI) rfl).enc v1)), (2, .d ((cLs (cXTable cI (cLs cI rfl) (cLs cI rfl) cI) rfl).enc v2))] rfl <| wpC_seq <| reg_s <| x_box (ss rfl rfl) <| x_asg (sc cB false rfl) <| seqN [(1, .d ((cLs (cXVariable cS cI) rfl).enc v1)), (2, .d ((cLs (cXTable cI (cLs cI rfl) (cLs cI rfl) cI) rfl).enc v2)), (3, .box ((cXGeo (cLs cI rfl)).enc v0))] (by kernel_rfl) <|
    xn <| wpC_seq <| wpC_kp <| wpC_seq <| reg_s <| st rfl <| ldb rfl rfl rfl rfl <| bnd h fun x23 e24 h => st rfl <| o_call (a1 (c := (cXGeo (cLs cI rfl))) (tXGeo (tLs tK)) rfl a0) (con_impl_IsGeo e24) (.inl (so1 sB so0)) <| st rfl <| o_nt rfl <| st rfl <| mvd rfl rfl <| ite_k h (fun b25 h => gf rfl b25 <| gf rfl b25 <| gf rfl b25 <| st rfl <| pick1 rfl b25 (cd := cB) (v := true) rfl rfl <| st rfl <| mvd rfl rfl <| gf rfl rfl <| gf rfl rfl <| gf rfl rfl <| st rfl <| pick1 rfl rfl (cd := cB) (v := true) rfl rfl <| seqN [(1, .d ((cLs (cXVariable cS cI) rfl).enc v1)), (2, .d ((cLs (cXTable cI (cLs cI rfl) (cLs cI rfl) cI) rfl).enc v2)), (3, .box ((cXGeo (cLs cI rfl)).enc v0)), (21, .d (cB.enc true))] (by kernel_rfl) <|
    xn <| cnd1 rfl rfl <| wpC_seq <| reg_s <| x_asg (sc cB false rfl) <| seqN [(6, .d (cB.enc false))] (by kernel_rfl) <|
    xn <| wpC_ret <| rt <| rt <| re <| fin h (r1 (ss rfl rfl) <| r0) rfl)
    (fun b25 h => gt' rfl b25 <| st rfl <| mvd rfl rfl <| gt' rfl b25 <| bnd h fun x26 e27 h => st rfl <| o_call (a1 (c := (cLs (cXVariable cS cI) rfl)) (tLs (tXVariable tS tK)) rfl a0) (con_impl_IsSchema e27) (.inl (so1 sB so0)) <| gt' rfl b25 <| st rfl <| o_nt rfl <| st rfl <| pick0 rfl b25 (cd := cB) (v := (!x26)) rfl rfl <| st rfl <| mvd rfl rfl <| ite_k h (fun b28 h => gf rfl b28 <| gf rfl b28 <| gf rfl b28 <| st rfl <| pick1 rfl b28 (cd := cB) (v := true) rfl rfl <| seqN [(1, .d ((cLs (cXVariable cS cI) rfl).enc v1)), (2, .d ((cLs (cXTable cI (cLs cI rfl) (cLs cI rfl) cI) rfl).enc v2)), (3, .box ((cXGeo (cLs cI rfl)).enc v0)), (21, .d (cB.enc true))] (by kernel_rfl) <|
    xn <| cnd1 rfl rfl <| wpC_seq <| reg_s <| x_asg (sc cB false rfl) <| seqN [(6, .d (cB.enc false))] (by kernel_rfl) <|
    xn <| wpC_ret <| rt <| rt <| re <| fin h (r1 (ss rfl rfl) <| r0) rfl)
    (fun b28 h => gt' rfl b28 <| st rfl <| mvd rfl rfl <| gt' rfl b28 <| stw rfl <| lens rfl fun l29 => gt' rfl b28 <| st rfl <| b_gtr (k := .i64) rfl rfl <| st rfl <| pick0 rfl b28 (cd := cB) (v := (decide ((20 : Int) < (v2.length : Int)))) rfl rfl <| seqN [(1, .d ((cLs (cXVariable cS cI) rfl).enc v1)), (2, .d ((cLs (cXTable cI (cLs cI rfl) (cLs cI rfl) cI) rfl).enc v2)), (3, .box ((cXGeo (cLs cI rfl)).enc v0)), (21, .d (cB.enc (decide ((20 : Int) < (v2.length : Int)))))] (by kernel_rfl) <|
    xn <| cnd rfl h (fun b30 h => wpC_seq <| reg_s <| x_asg (sc cB false rfl) <| seqN [(6, .d (cB.enc false))] (by kernel_rfl) <|
    xn <| wpC_ret <| rt <| rt <| re <| fin h (r1 (ss rfl rfl) <| r0) rfl)
    (fun b30 h => wpC_skip <| kpN [(1, .d ((cLs (cXVariable cS cI) rfl).enc v1)), (2, .d ((cLs (cXTable cI (cLs cI rfl) (cLs cI rfl) cI) rfl).enc v2)), (3, .box ((cXGeo (cLs cI rfl)).enc v0))] (by kernel_rfl) <| xn <| wpC_seq <| wpC_kp <| wpC_seq <| reg_s <| st rfl <| mvd rfl rfl <| stw rfl <| lens rfl fun l62 => st rfl <| mvc cI (0 : Int) rfl <| seqN [(1, .d ((cLs (cXVariable cS cI) rfl).enc v1)), (2, .d ((cLs (cXTable cI (cLs cI rfl) (cLs cI rfl) cI) rfl).enc v2)), (3, .box ((cXGeo (cLs cI rfl)).enc v0)), (22, .d ((cLs (cXTable cI (cLs cI rfl) (cLs cI rfl) cI) rfl).enc v2)), (23, .d (cI.enc (v2.length : Int))), (24, .d (cI.enc (0 : Int)))] (by kernel_rfl) <|
    xn <| wpC_blk <| lpR (fun (k64 : Nat) (s63 : Unit) => [(1, .d ((cLs (cXVariable cS cI) rfl).enc v1)), (2, .d ((cLs (cXTable cI (cLs cI rfl) (cLs cI rfl) cI) rfl).enc v2)), (3, .box ((cXGeo (cLs cI rfl)).enc v0)), (22, .d ((cLs (cXTable cI (cLs cI rfl) (cLs cI rfl) cI) rfl).enc v2)), (23, .d (cI.enc (v2.length : Int))), (24, .d (cI.enc (k64 : Int)))]) () rfl h
    (fun G80 s63 h => wpC_seq <| reg_s <| st rfl <| b_lss (k := .i64) rfl rfl <| seqN [(1, .d ((cLs (cXVariable cS cI) rfl).enc v1)), (2, .d ((cLs (cXTable cI (cLs cI rfl) (cLs cI rfl) cI) rfl).enc v2)), (3, .box ((cXGeo (cLs cI rfl)).enc v0)), (22, .d ((cLs (cXTable cI (cLs cI rfl) (cLs cI rfl) cI) rfl).enc v2)), (23, .d (cI.enc (v2.length : Int))), (24, .d (cI.enc (v2.length : Int))), (25, .d (cB.enc (decide ((v2.length : Int) < (v2.length : Int)))))] (by kernel_rfl) <|
    xn <| wpC_seq <| wpC_kp <| cnd0 rfl (dlf _) <| wpC_exit <| xt <| xt <| xt <| xb <| kpN [] (by kernel_rfl) <| xn <| wpC_seq <| reg_s <| x_asg (sc cB true rfl) <| seqN [(6, .d (cB.enc true))] (by kernel_rfl) <|
    xn <| wpC_ret <| re <| fin h (r1 (ss rfl rfl) <| r0) rfl)
    (fun G80 nx78 k64 s63 x65 hk66 hx67 hn79 h => wpC_seq <| reg_s <| st rfl <| b_lss (k := .i64) rfl rfl <| seqN [(1, .d ((cLs (cXVariable cS cI) rfl).enc v1)), (2, .d ((cLs (cXTable cI (cLs cI rfl) (cLs cI rfl) cI) rfl).enc v2)), (3, .box ((cXGeo (cLs cI rfl)).enc v0)), (22, .d ((cLs (cXTable cI (cLs cI rfl) (cLs cI rfl) cI) rfl).enc v2)), (23, .d (cI.enc (v2.length : Int))), (24, .d (cI.enc (k64 : Int))), (25, .d (cB.enc (decide ((k64 : Int) < (v2.length : Int)))))] (by kernel_rfl) <|
    xn <| wpC_seq <| wpC_kp <| cnd1 rfl (dlt hk66) <| wpC_skip <| kpN [(1, .d ((cLs (cXVariable cS cI) rfl).enc v1)), (2, .d ((cLs (cXTable cI (cLs cI rfl) (cLs cI rfl) cI) rfl).enc v2)), (3, .box ((cXGeo (cLs cI rfl)).enc v0)), (22, .d ((cLs (cXTable cI (cLs cI rfl) (cLs cI rfl) cI) rfl).enc v2)), (23, .d (cI.enc (v2.length : Int))), (24, .d (cI.enc (k64 : Int)))] (by kernel_rfl) <| xn <| wpC_seq <| wpC_kp <| wpC_blk <| wpC_seq <| reg_s <| st rfl <| ias rfl rfl (Int.natCast_nonneg _) hx67 rfl <| st rfl <| ldi rfl rfl rfl rfl <| x_all (cXTable cI (cLo cI) (cLo cI) cI) (⟨(0 : Int), ([] : List Int), ([] : List Int), (0 : Int)⟩ : XTable) rfl <| x_stb (ss rfl rfl) rfl (Cd.h_sz _ _) rfl <| seqN [(1, .d ((cLs (cXVariable cS cI) rfl).enc v1)), (2, .d ((cLs (cXTable cI (cLs cI rfl) (cLs cI rfl) cI) rfl).enc v2)), (3, .box ((cXGeo (cLs cI rfl)).enc v0)), (8, .box ((cXTable cI (cLs cI rfl) (cLs cI rfl) cI).enc x65)), (22, .d ((cLs (cXTable cI (cLs cI rfl) (cLs cI rfl) cI) rfl).enc v2)), (23, .d (cI.enc (v2.length : Int))), (24, .d (cI.enc (k64 : Int)))] (by kernel_rfl) <|
    xn <| wpC_seq <| reg_s <| st rfl <| ldb rfl rfl rfl rfl <| st rfl <| mvd rfl rfl <| st rfl <| ldb rfl rfl rfl rfl <| bnd h fun x88 e89 h => st rfl <| o_call (a1 (c := (cXGeo (cLs cI rfl))) (tXGeo (tLs tK)) rfl (a1 (c := (cLs (cXVariable cS cI) rfl)) (tLs (tXVariable tS tK)) rfl (a1 (c := (cXTable cI (cLs cI rfl) (cLs cI rfl) cI)) (tXTable tK (tLs tK) (tLs tK) tK) rfl a0))) (con_impl_isTable e89) (.inl (so1 sB so0)) <| st rfl <| o_nt rfl <| seqN [(1, .d ((cLs (cXVariable cS cI) rfl).enc v1)), (2, .d ((cLs (cXTable cI (cLs cI rfl) (cLs cI rfl) cI) rfl).enc v2)), (3, .box ((cXGeo (cLs cI rfl)).enc v0)), (22, .d ((cLs (cXTable cI (cLs cI rfl) (cLs cI rfl) cI) rfl).enc v2)), (23, .d (cI.enc (v2.length : Int))), (24, .d (cI.enc (k64 : Int))), (32, .d (cB.enc (!x88)))] (by kernel_rfl) <|
    xn <| cnd rfl h (fun b90 h => wpC_seq <| reg_s <| x_asg (sc cB false rfl) <| seqN [(6, .d (cB.enc false))] (by kernel_rfl) <|
    xn <| wpC_ret <| rb <| rt <| rt <| rt <| rb <| rt <| rt <| re <| fin h (r1 (ss rfl rfl) <| r0) rfl)
    (fun b90 h => wpC_skip <| xbb <| kpN [(1, .d ((cLs (cXVariable cS cI) rfl).enc v1)), (2, .d ((cLs (cXTable cI (cLs cI rfl) (cLs cI rfl) cI) rfl).enc v2)), (3, .box ((cXGeo (cLs cI rfl)).enc v0)), (22, .d ((cLs (cXTable cI (cLs cI rfl) (cLs cI rfl) cI) rfl).enc v2)), (23, .d (cI.enc (v2.length : Int))), (24, .d (cI.enc (k64 : Int)))] (by kernel_rfl) <| xn <| reg_s <| st rfl <| b_inc rfl rfl l62 hk66 <| st rfl <| mvd rfl rfl <| seqN [(1, .d ((cLs (cXVariable cS cI) rfl).enc v1)), (2, .d ((cLs (cXTable cI (cLs cI rfl) (cLs cI rfl) cI) rfl).enc v2)), (3, .box ((cXGeo (cLs cI rfl)).enc v0)), (22, .d ((cLs (cXTable cI (cLs cI rfl) (cLs cI rfl) cI) rfl).enc v2)), (23, .d (cI.enc (v2.length : Int))), (24, .d (cI.enc ((k64 + 1 : Nat) : Int)))] (by kernel_rfl) <|
    xn <| hn79 () h)))))

def rs_impl_leavesOf (r : (List Int)) : List D := [(cLo cI).enc r]
def m98 : MC := .seq (.reg [⟨some 1, .box (.t 0), none⟩,
    ⟨some 2, .asg (.c (.slice true [])), none⟩] [1])
  (.seq (.reg [⟨some 3, .asg (.c (.slice true [])), none⟩] [1, 3])
  (.seq (.kp [3] (.seq (.reg [⟨some 5, .fa 1 0 0, none⟩,
    ⟨some 6, .ld 5 1 false, none⟩,
    ⟨some 7, .len false (.t 6), none⟩,
    ⟨some 8, .mv (.c (.int .i64 0)), none⟩] [1, 3, 7, 8])
  (.blk 0 (.loop (.seq (.reg [⟨some 9, .bin .lss (.t 8) (.t 7), none⟩] [1, 3, 7, 8, 9])
  (.seq (.kp [1, 3, 7, 8] (.cond (.t 9) (.skip) (.exit 0)))
  (.seq (.kp [1, 3, 7, 8] (.blk 1 (.seq (.reg [⟨some 10, .mv (.t 8), none⟩,
    ⟨some 4, .asg (.t 10), none⟩] [1, 3, 4, 7, 8])
  (.seq (.reg [⟨some 11, .ld 1 1 true, none⟩,
    ⟨some 12, .mv (.t 4), none⟩,
    ⟨some 13, .call 71 [(.t 11), (.t 12)], none⟩] [1, 3, 4, 7, 8, 13])
  (.cond (.t 13) (.reg [⟨some 14, .mv (.t 3), none⟩,
    ⟨some 15, .mv (.t 4), none⟩,
    ⟨some 16, .bsl [(.t 15)] 1, none⟩,
    ⟨some 17, .app (.t 14) (.t 16) 1, none⟩,
    ⟨some 3, .asg (.t 17), none⟩] [1, 3, 7, 8]) (.skip))))))
  (.reg [⟨some 18, .bin .add (.t 8) (.c (.int .i64 1)), none⟩,
    ⟨some 8, .mv (.t 18), none⟩] [1, 3, 7, 8]))))))))
  (.seq (.reg [⟨some 19, .mv (.t 3), none⟩,
    ⟨some 2, .asg (.t 19), none⟩] [2])
  (.ret))))
theorem con_impl_leavesOf {v0 : XGeo} {r : (List Int)} (h : sh_impl_leavesOf v0 = some r) : Con Try.prog 98 [(cXGeo (cLs cI rfl)).enc v0] [] (rs_impl_leavesOf r) := by
  delta sh_impl_leavesOf at h
  refine top (out := none) (f := Try.f98) (m := m98) (rs := [.t 2]) (by kernel_rfl) rfl (by kernel_rfl) (by kernel_rfl) (by kernel_rfl) (by kernel_rfl) (by kernel_rfl) ?_
  exact
   ini [(0, .d ((cXGeo (cLs cI rfl)).enc v0))] rfl <| wpC_seq <| reg_s <| x_box (ss rfl rfl) <| x_asg (sc (cLo cI) ([] : List Int) rfl) <| seqN [(1, .box ((cXGeo (cLs cI rfl)).enc v0))] (by kernel_rfl) <|
    xn <| wpC_seq <| reg_s <| x_asg (sc (cLo cI) ([] : List Int) rfl) <| seqN [(1, .box ((cXGeo (cLs cI rfl)).enc v0)), (3, .d ((cLo cI).enc ([] : List Int)))] (by kernel_rfl) <|
    xn <| wpC_seq <| wpC_kp <| wpC_seq <| reg_s <| st rfl <| fab rfl rfl rfl rfl <| st rfl <| lda rfl rfl rfl rfl rfl rfl <| stw rfl <| lens rfl fun l48 => st rfl <| mvc cI (0 : Int) rfl <| seqN [(1, .box ((cXGeo (cLs cI rfl)).enc v0)), (3, .d ((cLo cI).enc ([] : List Int))), (7, .d (cI.enc (v0.Parents.length : Int))), (8, .d (cI.enc (0 : Int)))] (by kernel_rfl) <|
    xn <| wpC_blk <| lpR (fun (k50 : Nat) (s49 : (List Int)) => [(1, .box ((cXGeo (cLs cI rfl)).enc v0)), (3, .d ((cLo cI).enc s49)), (7, .d (cI.enc (v0.Parents.length : Int))), (8, .d (cI.enc (k50 : Int)))]) ([] : List Int) rfl h
    (fun G80 s49 h => wpC_seq <| reg_s <| st rfl <| b_lss (k := .i64) rfl rfl <| seqN [(1, .box ((cXGeo (cLs cI rfl)).enc v0)), (3, .d ((cLo cI).enc s49)), (7, .d (cI.enc (v0.Parents.length : Int))), (8, .d (cI.enc (v0.Parents.length : Int))), (9, .d (cB.enc (decide ((v0.Parents.length : Int) < (v0.Parents.length : Int)))))] (by kernel_rfl) <|
    xn <| wpC_seq <| wpC_kp <| cnd0 rfl (dlf _) <| wpC_exit <| xt <| xt <| xt <| xb <| kpN [(3, .d ((cLo cI).enc s49))] (by kernel_rfl) <| xn <| wpC_seq <| reg_s <| st rfl <| mvo rfl rfl <| x_asg (sr rfl rfl) <| seqN [(2, .d ((cLo cI).enc s49))] (by kernel_rfl) <|
    xn <| wpC_ret <| re <| fin h (r1 (so rfl rfl) <| r0) rfl)
    (fun G80 nx78 k50 s49 x51 hk52 hx53 hn79 h => wpC_seq <| reg_s <| st rfl <| b_lss (k := .i64) rfl rfl <| seqN [(1, .box ((cXGeo (cLs cI rfl)).enc v0)), (3, .d ((cLo cI).enc s49)), (7, .d (cI.enc (v0.Parents.length : Int))), (8, .d (cI.enc (k50 : Int))), (9, .d (cB.enc (decide ((k50 : Int) < (v0.Parents.length : Int)))))] (by kernel_rfl) <|
    xn <| wpC_seq <| wpC_kp <| cnd1 rfl (dlt hk52) <| wpC_skip <| kpN [(1, .box ((cXGeo (cLs cI rfl)).enc v0)), (3, .d ((cLo cI).enc s49)), (7, .d (cI.enc (v0.Parents.length : Int))), (8, .d (cI.enc (k50 : Int)))] (by kernel_rfl) <| xn <| wpC_seq <| wpC_kp <| wpC_blk <| wpC_seq <| reg_s <| st rfl <| mvd rfl rfl <| x_asg (ss rfl rfl) <| seqN [(1, .box ((cXGeo (cLs cI rfl)).enc v0)), (3, .d ((cLo cI).enc s49)), (4, .d (cI.enc (k50 : Int))), (7, .d (cI.enc (v0.Parents.length : Int))), (8, .d (cI.enc (k50 : Int)))] (by kernel_rfl) <|
    xn <| wpC_seq <| reg_s <| st rfl <| ldb rfl rfl rfl rfl <| st rfl <| mvd rfl rfl <| bnd h fun x89 e90 h => st rfl <| o_call (a1 (c := (cXGeo (cLs cI rfl))) (tXGeo (tLs tK)) rfl (a1 (c := cI) tK rfl a0)) (con_impl_isLeaf e90) (.inl (so1 sB so0)) <| seqN [(1, .box ((cXGeo (cLs cI rfl)).enc v0)), (3, .d ((cLo cI).enc s49)), (4, .d (cI.enc (k50 : Int))), (7, .d (cI.enc (v0.Parents.length : Int))), (8, .d (cI.enc (k50 : Int))), (13, .d (cB.enc x89))] (by kernel_rfl) <|
    xn <| cnd rfl h (fun b91 h => reg_s <| st rfl <| mvo rfl rfl <| st rfl <| mvd rfl rfl <| x_bsl cI [(k50 : Int)] (t1 (ss rfl rfl) rfl t0) rfl rfl <| lnO_k h fun l92 h => x_app (sr rfl rfl) (to rfl rfl) l92 rfl <| x_asg (so rfl rfl) <| seqN [(1, .box ((cXGeo (cLs cI rfl)).enc v0)), (3, .d ((cLo cI).enc (s49 ++ [(k50 : Int)]))), (7, .d (cI.enc (v0.Parents.length : Int))), (8, .d (cI.enc (k50 : Int)))] (by kernel_rfl) <|
    xbb <| kpN [(1, .box ((cXGeo (cLs cI rfl)).enc v0)), (3, .d ((cLo cI).enc (s49 ++ [(k50 : Int)]))), (7, .d (cI.enc (v0.Parents.length : Int))), (8, .d (cI.enc (k50 : Int)))] (by kernel_rfl) <| xn <| reg_s <| st rfl <| b_inc rfl rfl l48 hk52 <| st rfl <| mvd rfl rfl <| seqN [(1, .box ((cXGeo (cLs cI rfl)).enc v0)), (3, .d ((cLo cI).enc (s49 ++ [(k50 : Int)]))), (7, .d (cI.enc (v0.Parents.length : Int))), (8, .d (cI.enc ((k50 + 1 : Nat) : Int)))] (by kernel_rfl) <|
    xn <| hn79 (s49 ++ [(k50 : Int)]) h)
    (fun b91 h => wpC_skip <| xbb <| kpN [(1, .box ((cXGeo (cLs cI rfl)).enc v0)), (3, .d ((cLo cI).enc s49)), (7, .d (cI.enc (v0.Parents.length : Int))), (8, .d (cI.enc (k50 : Int)))] (by kernel_rfl) <| xn <| reg_s <| st rfl <| b_inc rfl rfl l48 hk52 <| st rfl <| mvd rfl rfl <| seqN [(1, .box ((cXGeo (cLs cI rfl)).enc v0)), (3, .d ((cLo cI).enc s49)), (7, .d (cI.enc (v0.Parents.length : Int))), (8, .d (cI.enc ((k50 + 1 : Nat) : Int)))] (by kernel_rfl) <|
    xn <| hn79 s49 h))

def rs_impl_conditionOf (r : Int) : List D := [cI.enc r]
def m82 : MC := .seq (.reg [⟨some 4, .box (.t 1), none⟩,
    ⟨some 6, .asg (.c (.int .i64 0)), none⟩] [0, 2, 4])
  (.seq (.kp [2, 4] (.seq (.reg [⟨some 7, .fa 4 2 2, none⟩,
    ⟨some 8, .ld 7 1 false, none⟩,
    ⟨some 9, .mv (.t 2), none⟩,
    ⟨some 10, .ia 8 (.t 9) 1, none⟩,
    ⟨some 11, .ld 10 1 false, none⟩,
    ⟨some 12, .bin .eql (.t 11) (.c (.int .i64 0)), none⟩] [0, 2, 4, 12])
  (.cond (.t 12) (.seq (.reg [⟨some 13, .mv (.t 0), none⟩,
    ⟨some 14, .mv (.t 2), none⟩,
    ⟨some 15, .ia 13 (.t 14) 2, none⟩,
    ⟨some 16, .ld 15 2 true, none⟩,
    ⟨some 17, .call 83 [(.t 16)], none⟩,
    ⟨some 6, .asg (.t 17), none⟩] [6])
  (.ret)) (.skip))))
  (.seq (.reg [⟨some 18, .fa 4 2 2, none⟩,
    ⟨some 19, .ld 18 1 false, none⟩,
    ⟨some 20, .mv (.t 2), none⟩,
    ⟨some 21, .ia 19 (.t 20) 1, none⟩,
    ⟨some 22, .ld 21 1 false, none⟩,
    ⟨some 6, .asg (.t 22), none⟩] [6])
  (.ret)))
theorem con_impl_conditionOf {v0 : (List XVariable)} {v1 : XTable} {v2 : Int} {r : Int} (h : sh_impl_conditionOf v0 v1 v2 = some r) : Con Try.prog 82 [(cLs (cXVariable cS cI) rfl).enc v0, (cXTable cI (cLs cI rfl) (cLs cI rfl) cI).enc v1, cI.enc v2] [] (rs_impl_conditionOf r) := by
  delta sh_impl_conditionOf at h
  refine top (out := none) (f := Try.f82) (m := m82) (rs := [.t 6]) (by kernel_rfl) rfl (by kernel_rfl) (by kernel_rfl) (by kernel_rfl) (by kernel_rfl) (by kernel_rfl) ?_
  exact
   ini [(0, .d ((cLs (cXVariable cS cI) rfl).enc v0)), (1, .d ((cXTable cI (cLs cI rfl) (cLs cI rfl) cI).enc v1)), (2, .d (cI.enc v2))] rfl <| wpC_seq <| reg_s <| x_box (ss rfl rfl) <| x_asg (sc cI (0 : Int) rfl) <| seqN [(0, .d ((cLs (cXVariable cS cI) rfl).enc v0)), (2, .d (cI.enc v2)), (4, .box ((cXTable cI (cLs cI rfl) (cLs cI rfl) cI).enc v1))] (by kernel_rfl) <|
    xn <| wpC_seq <| wpC_kp <| wpC_seq <| reg_s <| st rfl <| fab rfl rfl rfl rfl <| st rfl <| lda rfl rfl rfl rfl rfl rfl <| st rfl <| mvd rfl rfl <| getO_k h fun x21 i22 g23 h => st rfl <| ias rfl rfl i22 g23 rfl <| st rfl <| ldi rfl rfl rfl rfl <| st rfl <| b_eql (k := .i64) rfl rfl <| seqN [(0, .d ((cLs (cXVariable cS cI) rfl).enc v0)), (2, .d (cI.enc v2)), (4, .box ((cXTable cI (cLs cI rfl) (cLs cI rfl) cI).enc v1)), (12, .d (cB.enc (decide (x21 = (0 : Int)))))] (by kernel_rfl) <|
    xn <| cnd rfl h (fun b24 h => wpC_seq <| reg_s <| st rfl <| mvd rfl rfl <| st rfl <| mvd rfl rfl <| getO_k h fun x30 i31 g32 h => st rfl <| ias rfl rfl i31 g32 rfl <| st rfl <| ldi rfl rfl rfl rfl <| bnd h fun x33 e34 h => st rfl <| o_call (a1 (c := (cXVariable cS cI)) (tXVariable tS tK) rfl a0) (con_impl_fullSet e34) (.inl (so1 sK so0)) <| x_asg (ss rfl rfl) <| seqN [(6, .d (cI.enc x33))] (by kernel_rfl) <|
    xn <| wpC_ret <| rt <| rt <| re <| fin h (r1 (ss rfl rfl) <| r0) rfl)
    (fun b24 h => wpC_skip <| kpN [(2, .d (cI.enc v2)), (4, .box ((cXTable cI (cLs cI rfl) (cLs cI rfl) cI).enc v1))] (by kernel_rfl) <| xn <| wpC_seq <| reg_s <| st rfl <| fab rfl rfl rfl rfl <| st rfl <| lda rfl rfl rfl rfl rfl rfl <| st rfl <| mvd rfl rfl <| st rfl <| ias rfl rfl i22 g23 rfl <| st rfl <| ldi rfl rfl rfl rfl <| x_asg (ss rfl rfl) <| seqN [(6, .d (cI.enc x21))] (by kernel_rfl) <|
    xn <| wpC_ret <| re <| fin h (r1 (ss rfl rfl) <| r0) rfl)
def rs_impl_followsFrom (r : Bool) : List D := [cB.enc r]
def m61 : MC := .seq (.reg [⟨some 4, .box (.t 0), none⟩,
    ⟨some 6, .box (.t 2), none⟩,
    ⟨some 7, .box (.t 3), none⟩,
    ⟨some 8, .asg (.c (.bool false)), none⟩] [1, 4, 6, 7])
  (.seq (.kp [1, 6, 7] (.seq (.reg [⟨some 17, .fa 6 0 0, none⟩,
    ⟨some 18, .ld 17 1 false, none⟩,
    ⟨some 19, .fa 7 0 0, none⟩,
    ⟨some 20, .ld 19 1 false, none⟩,
    ⟨some 21, .bin .neq (.t 18) (.t 20), none⟩] [1, 4, 6, 7, 21])
  (.cond (.t 21) (.seq (.kp [1, 4, 6, 7] (.seq (.reg [⟨some 22, .fa 7 0 0, none⟩,
    ⟨some 23, .ld 22 1 false, none⟩,
    ⟨some 24, .fa 6 0 0, none⟩,
    ⟨some 25, .ld 24 1 false, none⟩,
    ⟨some 26, .bin .lss (.t 23) (.t 25), none⟩] [1, 4, 6, 7, 26])
  (.cond (.t 26) (.seq (.reg [⟨some 8, .asg (.c (.bool false)), none⟩] [8])
  (.ret)) (.skip))))
  (.seq (.reg [⟨some 27, .ld 4 1 true, none⟩,
    ⟨some 28, .call 98 [(.t 27)], none⟩,
    ⟨some 29, .len false (.t 28), none⟩,
    ⟨some 30, .mv (.c (.int .i64 0)), none⟩] [1, 4, 6, 7, 28, 29, 30])
  (.blk 0 (.loop (.seq (.reg [⟨some 31, .bin .lss (.t 30) (.t 29), none⟩] [1, 4, 6, 7, 28, 29, 30, 31])
  (.seq (.kp [1, 4, 6, 7, 28, 29, 30] (.cond (.t 31) (.skip) (.exit 0)))
  (.seq (.kp [1, 4, 6, 7, 28, 29, 30] (.blk 1 (.seq (.reg [⟨some 32, .ia 28 (.t 30) 1, none⟩,
    ⟨some 33, .ld 32 1 false, none⟩,
    ⟨some 10, .asg (.t 33), none⟩] [1, 4, 6, 7, 10, 28, 29, 30])
  (.seq (.reg [⟨some 34, .ld 4 1 true, none⟩,
    ⟨some 35, .mv (.t 10), none⟩,
    ⟨some 36, .call 99 [(.t 34), (.t 35)], none⟩,
    ⟨some 11, .asg (.t 36), none⟩] [1, 4, 6, 7, 11, 28, 29, 30])
  (.seq (.reg [⟨some 37, .mv (.t 11), none⟩,
    ⟨some 38, .fa 6 0 0, none⟩,
    ⟨some 39, .ld 38 1 false, none⟩,
    ⟨some 40, .bin .geq (.t 37) (.t 39), none⟩,
    ⟨some 41, .mv (.t 40), none⟩,
    ⟨some 42, .mv (.t 11), some (41, true)⟩,
    ⟨some 43, .fa 7 0 0, some (41, true)⟩,
    ⟨some 44, .ld 43 1 false, some (41, true)⟩,
    ⟨some 45, .bin .lss (.t 42) (.t 44), some (41, true)⟩,
    ⟨some 46, .pick (.t 41) (.t 45) (.c (.bool false)), none⟩] [1, 4, 6, 7, 28, 29, 30, 46])
  (.cond (.t 46) (.seq (.reg [⟨some 8, .asg (.c (.bool false)), none⟩] [8])
  (.ret)) (.skip)))))))
  (.reg [⟨some 47, .bin .add (.t 30) (.c (.int .i64 1)), none⟩,
    ⟨some 30, .mv (.t 47), none⟩] [1, 4, 6, 7, 28, 29, 30])))))))) (.skip))))
  (.seq (.kp [1, 6, 7] (.seq (.reg [⟨some 48, .fa 6 1 1, none⟩,
    ⟨some 49, .ld 48 1 false, none⟩,
    ⟨some 50, .len false (.t 49), none⟩,
    ⟨some 51, .mv (.c (.int .i64 0)), none⟩] [1, 6, 7, 48, 49, 50, 51])
  (.blk 2 (.loop (.seq (.reg [⟨some 52, .bin .lss (.t 51) (.t 50), none⟩] [1, 6, 7, 48, 49, 50, 51, 52])
  (.seq (.kp [1, 6, 7, 48, 49, 50, 51] (.cond (.t 52) (.skip) (.exit 2)))
  (.seq (.kp [1, 6, 7, 48, 49, 50, 51] (.blk 3 (.seq (.reg [⟨some 53, .ia 49 (.t 51) 1, none⟩,
    ⟨some 54, .ld 53 1 false, none⟩,
    ⟨some 13, .asg (.t 54), none⟩] [1, 6, 7, 13, 48, 49, 50, 51])
  (.seq (.reg [⟨some 55, .fa 7 1 1, none⟩,
    ⟨some 56, .ld 55 1 false, none⟩,
    ⟨some 57, .mv (.t 13), none⟩,
    ⟨some 58, .call 84 [(.t 56), (.t 57)], none⟩,
    ⟨some 59, .nt (.t 58), none⟩] [1, 6, 7, 48, 49, 50, 51, 59])
  (.cond (.t 59) (.seq (.reg [⟨some 8, .asg (.c (.bool false)), none⟩] [8])
  (.ret)) (.skip))))))
  (.reg [⟨some 60, .bin .add (.t 51) (.c (.int .i64 1)), none⟩,
    ⟨some 51, .mv (.t 60), none⟩] [1, 6, 7, 48, 49, 50, 51]))))))))
  (.seq (.kp [6, 7] (.seq (.reg [⟨some 61, .mv (.t 1), none⟩,
    ⟨some 62, .len false (.t 61), none⟩,
    ⟨some 63, .mv (.c (.int .i64 0)), none⟩] [1, 6, 7, 62, 63])
  (.blk 4 (.loop (.seq (.reg [⟨some 64, .bin .lss (.t 63) (.t 62), none⟩] [1, 6, 7, 62, 63, 64])
  (.seq (.kp [1, 6, 7, 62, 63] (.cond (.t 64) (.skip) (.exit 4)))
  (.seq (.kp [1, 6, 7, 62, 63] (.blk 5 (.seq (.reg [⟨some 65, .mv (.t 63), none⟩,
    ⟨some 14, .asg (.t 65), none⟩] [1, 6, 7, 14, 62, 63])
  (.seq (.drw [⟨0, ⟨some 66, .mv (.t 1), none⟩, [67, 68, 69, 70, 71, 72, 73]⟩,
    ⟨1, ⟨some 67, .ld 6 4 true, none⟩, [66, 68, 69, 70, 71, 72, 73]⟩,
    ⟨2, ⟨some 68, .mv (.t 14), none⟩, [66, 67, 69, 70, 71, 72, 73]⟩,
    ⟨3, ⟨some 69, .call 82 [(.t 66), (.t 67), (.t 68)], none⟩, [70, 71, 72, 73]⟩,
    ⟨4, ⟨some 70, .mv (.t 1), none⟩, [66, 67, 68, 69, 71, 72, 73]⟩,
    ⟨5, ⟨some 71, .ld 7 4 true, none⟩, [66, 67, 68, 69, 70, 72, 73]⟩,
    ⟨6, ⟨some 72, .mv (.t 14), none⟩, [66, 67, 68, 69, 70, 71, 73]⟩,
    ⟨7, ⟨some 73, .call 82 [(.t 70), (.t 71), (.t 72)], none⟩, []⟩]
    [(8, ⟨some 15, .asg (.t 69), none⟩),
    (9, ⟨some 16, .asg (.t 73), none⟩)] [1, 6, 7, 14, 15, 16, 62, 63])
  (.seq (.reg [⟨some 74, .fa 7 1 1, none⟩,
    ⟨some 75, .ld 74 1 false, none⟩,
    ⟨some 76, .mv (.t 14), none⟩,
    ⟨some 77, .call 84 [(.t 75), (.t 76)], none⟩,
    ⟨some 78, .mv (.t 77), none⟩,
    ⟨some 79, .mv (.t 15), some (78, true)⟩,
    ⟨some 80, .mv (.t 16), some (78, true)⟩,
    ⟨some 81, .bin .andNot (.t 79) (.t 80), some (78, true)⟩,
    ⟨some 82, .bin .neq (.t 81) (.c (.int .i64 0)), some (78, true)⟩,
    ⟨some 83, .pick (.t 78) (.t 82) (.c (.bool false)), none⟩,
    ⟨some 84, .mv (.t 83), none⟩,
    ⟨some 85, .fa 7 1 1, some (84, false)⟩,
    ⟨some 86, .ld 85 1 false, some (84, false)⟩,
    ⟨some 87, .mv (.t 14), some (84, false)⟩,
    ⟨some 88, .call 84 [(.t 86), (.t 87)], some (84, false)⟩,
    ⟨some 89, .nt (.t 88), some (84, false)⟩,
    ⟨some 90, .mv (.t 89), some (84, false)⟩,
    ⟨some 91, .mv (.t 15), some (90, true)⟩,
    ⟨some 92, .mv (.t 16), some (90, true)⟩,
    ⟨some 93, .bin .neq (.t 91) (.t 92), some (90, true)⟩,
    ⟨some 94, .pick (.t 90) (.t 93) (.c (.bool false)), some (84, false)⟩,
    ⟨some 95, .pick (.t 84) (.c (.bool true)) (.t 94), none⟩] [1, 6, 7, 62, 63, 95])
  (.cond (.t 95) (.seq (.reg [⟨some 8, .asg (.c (.bool false)), none⟩] [8])
  (.ret)) (.skip)))))))
  (.reg [⟨some 96, .bin .add (.t 63) (.c (.int .i64 1)), none⟩,
    ⟨some 63, .mv (.t 96), none⟩] [1, 6, 7, 62, 63]))))))))
  (.seq (.reg [⟨some 97, .fa 6 3 3, none⟩,
    ⟨some 98, .ld 97 1 false, none⟩,
    ⟨some 99, .fa 7 3 3, none⟩,
    ⟨some 100, .ld 99 1 false, none⟩,
    ⟨some 101, .bin .eql (.t 98) (.t 100), none⟩,
    ⟨some 102, .mv (.t 101), none⟩,
    ⟨some 103, .fa 7 3 3, some (102, false)⟩,
    ⟨some 104, .ld 103 1 false, some (102, false)⟩,
    ⟨some 105, .bin .eql (.t 104) (.c (.int .i64 (-1))), some (102, false)⟩,
    ⟨some 106, .mv (.t 105), some (102, false)⟩,
    ⟨some 107, .fa 7 1 1, some (106, true)⟩,
    ⟨some 108, .ld 107 1 false, some (106, true)⟩,
    ⟨some 109, .fa 6 3 3, some (106, true)⟩,
    ⟨some 110, .ld 109 1 false, some (106, true)⟩,
    ⟨some 111, .call 84 [(.t 108), (.t 110)], some (106, true)⟩,
    ⟨some 112, .pick (.t 106) (.t 111) (.c (.bool false)), some (102, false)⟩,
    ⟨some 113, .pick (.t 102) (.c (.bool true)) (.t 112), none⟩,
    ⟨some 8, .asg (.t 113), none⟩] [8])
  (.ret)))))
theorem con_impl_followsFrom {v0 : XGeo} {v1 : (List XVariable)} {v2 : XTable} {v3 : XTable} {r : Bool} (h : sh_impl_followsFrom v0 v1 v2 v3 = some r) : Con Try.prog 61 [(cXGeo (cLs cI rfl)).enc v0, (cLs (cXVariable cS cI) rfl).enc v1, (cXTable cI (cLs cI rfl) (cLs cI rfl) cI).enc v2, (cXTable cI (cLs cI rfl) (cLs cI rfl) cI).enc v3] [] (rs_impl_followsFrom r) := by
  delta sh_impl_followsFrom at h
  refine top (out := none) (f := Try.f61) (m := m61) (rs := [.t 8]) (by kernel_rfl) rfl (by kernel_rfl) (by kernel_rfl) (by kernel_rfl) (by kernel_rfl) (by kernel_rfl) ?_
  exact
   ini [(0, .d ((cXGeo (cLs cI rfl)).enc v0)), (1, .d ((cLs (cXVariable cS cI) rfl).enc v1)), (2, .d ((cXTable cI (cLs cI rfl) (cLs cI rfl) cI).enc v2)), (3, .d ((cXTable cI (cLs cI rfl) (cLs cI rfl) cI).enc v3))] rfl <| wpC_seq <| reg_s <| x_box (ss rfl rfl) <| x_box (ss rfl rfl) <| x_box (ss rfl rfl) <| x_asg (sc cB false rfl) <| seqN [(1, .d ((cLs (cXVariable cS cI) rfl).enc v1)), (4, .box ((cXGeo (cLs cI rfl)).enc v0)), (6, .box ((cXTable cI (cLs cI rfl) (cLs cI rfl) cI).enc v2)), (7, .box ((cXTable cI (cLs cI rfl) (cLs cI rfl) cI).enc v3))] (by kernel_rfl) <|
    xn <| sqj (fun (s46 : Unit) => [(1, .d ((cLs (cXVariable cS cI) rfl).enc v1)), (6, .box ((cXTable cI (cLs cI rfl) (cLs cI rfl) cI).enc v2)), (7, .box ((cXTable cI (cLs cI rfl) (cLs cI rfl) cI).enc v3))]) h (fun s46 h => wpC_seq <| wpC_kp <| wpC_seq <| reg_s <| st rfl <| fab rfl rfl rfl rfl <| st rfl <| lda rfl rfl rfl rfl rfl rfl <| stw rfl <| lens rfl fun l80 => st rfl <| mvc cI (0 : Int) rfl <| seqN [(1, .d ((cLs (cXVariable cS cI) rfl).enc v1)), (6, .box ((cXTable cI (cLs cI rfl) (cLs cI rfl) cI).enc v2)), (7, .box ((cXTable cI (cLs cI rfl) (cLs cI rfl) cI).enc v3)), (48, .adr 6 [.fld 1]), (49, .d ((cLs cI rfl).enc v2.Vars)), (50, .d (cI.enc (v2.Vars.length : Int))), (51, .d (cI.enc (0 : Int)))] (by kernel_rfl) <|
    xn <| wpC_blk <| lpR (fun (k82 : Nat) (s81 : Unit) => [(1, .d ((cLs (cXVariable cS cI) rfl).enc v1)), (6, .box ((cXTable cI (cLs cI rfl) (cLs cI rfl) cI).enc v2)), (7, .box ((cXTable cI (cLs cI rfl) (cLs cI rfl) cI).enc v3)), (48, .adr 6 [.fld 1]), (49, .d ((cLs cI rfl).enc v2.Vars)), (50, .d (cI.enc (v2.Vars.length : Int))), (51, .d (cI.enc (k82 : Int)))]) () rfl h
    (fun G98 s81 h => wpC_seq <| reg_s <| st rfl <| b_lss (k := .i64) rfl rfl <| seqN [(1, .d ((cLs (cXVariable cS cI) rfl).enc v1)), (6, .box ((cXTable cI (cLs cI rfl) (cLs cI rfl) cI).enc v2)), (7, .box ((cXTable cI (cLs cI rfl) (cLs cI rfl) cI).enc v3)), (48, .adr 6 [.fld 1]), (49, .d ((cLs cI rfl).enc v2.Vars)), (50, .d (cI.enc (v2.Vars.length : Int))), (51, .d (cI.enc (v2.Vars.length : Int))), (52, .d (cB.enc (decide ((v2.Vars.length : Int) < (v2.Vars.length : Int)))))] (by kernel_rfl) <|
    xn <| wpC_seq <| wpC_kp <| cnd0 rfl (dlf _) <| wpC_exit <| xt <| xt <| xt <| xb <| kpN [(1, .d ((cLs (cXVariable cS cI) rfl).enc v1)), (6, .box ((cXTable cI (cLs cI rfl) (cLs cI rfl) cI).enc v2)), (7, .box ((cXTable cI (cLs cI rfl) (cLs cI rfl) cI).enc v3))] (by kernel_rfl) <| xn <| wpC_seq <| wpC_kp <| wpC_seq <| reg_s <| st rfl <| mvd rfl rfl <| stw rfl <| lens rfl fun l266 => st rfl <| mvc cI (0 : Int) rfl <| seqN [(1, .d ((cLs (cXVariable cS cI) rfl).enc v1)), (6, .box ((cXTable cI (cLs cI rfl) (cLs cI rfl) cI).enc v2)), (7, .box ((cXTable cI (cLs cI rfl) (cLs cI rfl) cI).enc v3)), (62, .d (cI.enc (v1.length : Int))), (63, .d (cI.enc (0 : Int)))] (by kernel_rfl) <|
    xn <| wpC_blk <| lpR (fun (k268 : Nat) (s267 : Unit) => [(1, .d ((cLs (cXVariable cS cI) rfl).enc v1)), (6, .box ((cXTable cI (cLs cI rfl) (cLs cI rfl) cI).enc v2)), (7, .box ((cXTable cI (cLs cI rfl) (cLs cI rfl) cI).enc v3)), (62, .d (cI.enc (v1.length : Int))), (63, .d (cI.enc (k268 : Int)))]) () rfl h
    (fun G352 s267 h => wpC_seq <| reg_s <| st rfl <| b_lss (k := .i64) rfl rfl <| seqN [(1, .d ((cLs (cXVariable cS cI) rfl).enc v1)), (6, .box ((cXTable cI (cLs cI rfl) (cLs cI rfl) cI).enc v2)), (7, .box ((cXTable cI (cLs cI rfl) (cLs cI rfl) cI).enc v3)), (62, .d (cI.enc (v1.length : Int))), (63, .d (cI.enc (v1.length : Int))), (64, .d (cB.enc (decide ((v1.length : Int) < (v1.length : Int)))))] (by kernel_rfl) <|
    xn <| wpC_seq <| wpC_kp <| cnd0 rfl (dlf _) <| wpC_exit <| xt <| xt <| xt <| xb <| kpN [(6, .box ((cXTable cI (cLs cI rfl) (cLs cI rfl) cI).enc v2)), (7, .box ((cXTable cI (cLs cI rfl) (cLs cI rfl) cI).enc v3))] (by kernel_rfl) <| xn <| wpC_seq <| reg_s <| st rfl <| fab rfl rfl rfl rfl <| st rfl <| lda rfl rfl rfl rfl rfl rfl <| st rfl <| fab rfl rfl rfl rfl <| st rfl <| lda rfl rfl rfl rfl rfl rfl <| st rfl <| b_eql (k := .i64) rfl rfl <| st rfl <| mvd rfl rfl <| ite_k h (fun b357 h => gf rfl b357 <| gf rfl b357 <| gf rfl b357 <| gf rfl b357 <| gu rfl <| gu rfl <| gu rfl <| gu rfl <| gu rfl <| gf rfl b357 <| st rfl <| pick1 rfl b357 (cd := cB) (v := true) rfl rfl <| x_asg (ss rfl rfl) <| seqN [(8, .d (cB.enc true))] (by kernel_rfl) <|
    xn <| wpC_ret <| re <| fin h (r1 (ss rfl rfl) <| r0) rfl)
    (fun b357 h => gt' rfl b357 <| st rfl <| fab rfl rfl rfl rfl <| gt' rfl b357 <| st rfl <| lda rfl rfl rfl rfl rfl rfl <| gt' rfl b357 <| st rfl <| b_eql (k := .i64) rfl rfl <| gt' rfl b357 <| st rfl <| mvd rfl rfl <| ite_k h (fun b358 h => gt' rfl b358 <| st rfl <| fab rfl rfl rfl rfl <| gt' rfl b358 <| st rfl <| lda rfl rfl rfl rfl rfl rfl <| gt' rfl b358 <| st rfl <| fab rfl rfl rfl rfl <| gt' rfl b358 <| st rfl <| lda rfl rfl rfl rfl rfl rfl <| gt' rfl b358 <| bnd h fun x359 e360 h => st rfl <| o_call (a1 (c := (cLs cI rfl)) (tLs tK) rfl (a1 (c := cI) tK rfl a0)) (con_slices_Contains_int e360) (.inl (so1 sB so0)) <| gt' rfl b357 <| st rfl <| pick1 rfl b358 (cd := cB) (v := x359) rfl rfl <| st rfl <| pick0 rfl b357 (cd := cB) (v := x359) rfl rfl <| x_asg (ss rfl rfl) <| seqN [(8, .d (cB.enc x359))] (by kernel_rfl) <|
    xn <| wpC_ret <| re <| fin h (r1 (ss rfl rfl) <| r0) rfl)
    (fun b358 h => gf rfl b358 <| gf rfl b358 <| gf rfl b358 <| gf rfl b358 <| gf rfl b358 <| gt' rfl b357 <| st rfl <| pick0 rfl b358 (cd := cB) (v := false) rfl rfl <| st rfl <| pick0 rfl b357 (cd := cB) (v := false) rfl rfl <| x_asg (ss rfl rfl) <| seqN [(8, .d (cB.enc false))] (by kernel_rfl) <|
    xn <| wpC_ret <| re <| fin h (r1 (ss rfl rfl) <| r0) rfl)))
    (fun G352 nx350 k268 s267 x269 hk270 hx271 hn351 h => wpC_seq <| reg_s <| st rfl <| b_lss (k := .i64) rfl rfl <| seqN [(1, .d ((cLs (cXVariable cS cI) rfl).enc v1)), (6, .box ((cXTable cI (cLs cI rfl) (cLs cI rfl) cI).enc v2)), (7, .box ((cXTable cI (cLs cI rfl) (cLs cI rfl) cI).enc v3)), (62, .d (cI.enc (v1.length : Int))), (63, .d (cI.enc (k268 : Int))), (64, .d (cB.enc (decide ((k268 : Int) < (v1.length : Int)))))] (by kernel_rfl) <|
    xn <| wpC_seq <| wpC_kp <| cnd1 rfl (dlt hk270) <| wpC_skip <| kpN [(1, .d ((cLs (cXVariable cS cI) rfl).enc v1)), (6, .box ((cXTable cI (cLs cI rfl) (cLs cI rfl) cI).enc v2)), (7, .box ((cXTable cI (cLs cI rfl) (cLs cI rfl) cI).enc v3)), (62, .d (cI.enc (v1.length : Int))), (63, .d (cI.enc (k268 : Int)))] (by kernel_rfl) <| xn <| wpC_seq <| wpC_kp <| wpC_blk <| wpC_seq <| reg_s <| st rfl <| mvd rfl rfl <| x_asg (ss rfl rfl) <| seqN [(1, .d ((cLs (cXVariable cS cI) rfl).enc v1)), (6, .box ((cXTable cI (cLs cI rfl) (cLs cI rfl) cI).enc v2)), (7, .box ((cXTable cI (cLs cI rfl) (cLs cI rfl) cI).enc v3)), (14, .d (cI.enc (k268 : Int))), (62, .d (cI.enc (v1.length : Int))), (63, .d (cI.enc (k268 : Int)))] (by kernel_rfl) <|
    xn <| wpC_seq <| drw_s <| pst rfl <| mvd rfl rfl ⟨rfl, pst rfl <| ldb rfl rfl rfl rfl ⟨rfl, pst rfl <| mvd rfl rfl ⟨rfl, bndp h fun x404 e405 h => pst rfl <| o_call (a1 (c := (cLs (cXVariable cS cI) rfl)) (tLs (tXVariable tS tK)) rfl (a1 (c := (cXTable cI (cLs cI rfl) (cLs cI rfl) cI)) (tXTable tK (tLs tK) (tLs tK) tK) rfl (a1 (c := cI) tK rfl a0))) (con_impl_conditionOf e405) (.inl (so1 sK so0)) ⟨rfl, pst rfl <| mvd rfl rfl ⟨rfl, pst rfl <| ldb rfl rfl rfl rfl ⟨rfl, pst rfl <| mvd rfl rfl ⟨rfl, bndp h fun x406 e407 h => pst rfl <| o_call (a1 (c := (cLs (cXVariable cS cI) rfl)) (tLs (tXVariable tS tK)) rfl (a1 (c := (cXTable cI (cLs cI rfl) (cLs cI rfl) cI)) (tXTable tK (tLs tK) (tLs tK) tK) rfl (a1 (c := cI) tK rfl a0))) (con_impl_conditionOf e407) (.inl (so1 sK so0)) ⟨rfl, preN <| x_asg (ss rfl rfl) <| x_asg (ss rfl rfl) <| seqN [(1, .d ((cLs (cXVariable cS cI) rfl).enc v1)), (6, .box ((cXTable cI (cLs cI rfl) (cLs cI rfl) cI).enc v2)), (7, .box ((cXTable cI (cLs cI rfl) (cLs cI rfl) cI).enc v3)), (14, .d (cI.enc (k268 : Int))), (15, .d (cI.enc x404)), (16, .d (cI.enc x406)), (62, .d (cI.enc (v1.length : Int))), (63, .d (cI.enc (k268 : Int)))] (by kernel_rfl) <|
    xn <| wpC_seq <| jw (fun (s422 : Bool) => [(1, .d ((cLs (cXVariable cS cI) rfl).enc v1)), (6, .box ((cXTable cI (cLs cI rfl) (cLs cI rfl) cI).enc v2)), (7, .box ((cXTable cI (cLs cI rfl) (cLs cI rfl) cI).enc v3)), (62, .d (cI.enc (v1.length : Int))), (63, .d (cI.enc (k268 : Int))), (95, .d (cB.enc s422))]) h (fun s422 h => xn <| cnd rfl h (fun b424 h => wpC_seq <| reg_s <| x_asg (sc cB false rfl) <| seqN [(8, .d (cB.enc false))] (by kernel_rfl) <|
    xn <| wpC_ret <| rb <| rt <| rt <| rt <| rb <| rt <| rt <| re <| fin h (r1 (ss rfl rfl) <| r0) rfl)
    (fun b424 h => wpC_skip <| xbb <| kpN [(1, .d ((cLs (cXVariable cS cI) rfl).enc v1)), (6, .box ((cXTable cI (cLs cI rfl) (cLs cI rfl) cI).enc v2)), (7, .box ((cXTable cI (cLs cI rfl) (cLs cI rfl) cI).enc v3)), (62, .d (cI.enc (v1.length : Int))), (63, .d (cI.enc (k268 : Int)))] (by kernel_rfl) <| xn <| reg_s <| st rfl <| b_inc rfl rfl l266 hk270 <| st rfl <| mvd rfl rfl <| seqN [(1, .d ((cLs (cXVariable cS cI) rfl).enc v1)), (6, .box ((cXTable cI (cLs cI rfl) (cLs cI rfl) cI).enc v2)), (7, .box ((cXTable cI (cLs cI rfl) (cLs cI rfl) cI).enc v3)), (62, .d (cI.enc (v1.length : Int))), (63, .d (cI.enc ((k268 + 1 : Nat) : Int)))] (by kernel_rfl) <|
    xn <| hn351 () h))
    fun s422' q423 h => reg_s <| st rfl <| fab rfl rfl rfl rfl <| st rfl <| lda rfl rfl rfl rfl rfl rfl <| st rfl <| mvd rfl rfl <| bnd h fun x425 e426 h => st rfl <| o_call (a1 (c := (cLs cI rfl)) (tLs tK) rfl (a1 (c := cI) tK rfl a0)) (con_slices_Contains_int e426) (.inl (so1 sB so0)) <| st rfl <| mvd rfl rfl <| ite_k h (fun b427 h => gt' rfl b427 <| st rfl <| mvd rfl rfl <| gt' rfl b427 <| st rfl <| mvd rfl rfl <| gt' rfl b427 <| ck_k h fun i428 h => ckK_k h fun i429 h => ck_k h fun i430 h => ckK_k h fun i431 h => st rfl <| b_andNot (k := .i64) rfl rfl ⟨i428, i429⟩ ⟨i430, i431⟩ <| gt' rfl b427 <| st rfl <| b_neq (k := .i64) rfl rfl <| st rfl <| pick1 rfl b427 (cd := cB) (v := (decide ((((x404.toNat &&& x406.toNat) ^^^ x404.toNat : Nat) : Int) ≠ (0 : Int)))) rfl rfl <| st rfl <| mvd rfl rfl <| ite_k h (fun b432 h => gf rfl b432 <| gf rfl b432 <| gf rfl b432 <| gf rfl b432 <| gf rfl b432 <| gf rfl b432 <| gu rfl <| gu rfl <| gu rfl <| gf rfl b432 <| st rfl <| pick1 rfl b432 (cd := cB) (v := true) rfl rfl <| seqN [(1, .d ((cLs (cXVariable cS cI) rfl).enc v1)), (6, .box ((cXTable cI (cLs cI rfl) (cLs cI rfl) cI).enc v2)), (7, .box ((cXTable cI (cLs cI rfl) (cLs cI rfl) cI).enc v3)), (62, .d (cI.enc (v1.length : Int))), (63, .d (cI.enc (k268 : Int))), (95, .d (cB.enc true))] (by kernel_rfl) <|
    lfn (S := (fun (s422 : Bool) => [(1, .d ((cLs (cXVariable cS cI) rfl).enc v1)), (6, .box ((cXTable cI (cLs cI rfl) (cLs cI rfl) cI).enc v2)), (7, .box ((cXTable cI (cLs cI rfl) (cLs cI rfl) cI).enc v3)), (62, .d (cI.enc (v1.length : Int))), (63, .d (cI.enc (k268 : Int))), (95, .d (cB.enc s422))])) h q423 rfl)
    (fun b432 h => gt' rfl b432 <| st rfl <| fab rfl rfl rfl rfl <| gt' rfl b432 <| st rfl <| lda rfl rfl rfl rfl rfl rfl <| gt' rfl b432 <| st rfl <| mvd rfl rfl <| gt' rfl b432 <| bnd h fun x433 e434 h => st rfl <| o_call (a1 (c := (cLs cI rfl)) (tLs tK) rfl (a1 (c := cI) tK rfl a0)) (con_slices_Contains_int e434) (.inl (so1 sB so0)) <| gt' rfl b432 <| st rfl <| o_nt rfl <| gt' rfl b432 <| st rfl <| mvd rfl rfl <| ite_k h (fun b435 h => gt' rfl b435 <| st rfl <| mvd rfl rfl <| gt' rfl b435 <| st rfl <| mvd rfl rfl <| gt' rfl b435 <| st rfl <| b_neq (k := .i64) rfl rfl <| gt' rfl b432 <| st rfl <| pick1 rfl b435 (cd := cB) (v := (decide (x404 ≠ x406))) rfl rfl <| st rfl <| pick0 rfl b432 (cd := cB) (v := (decide (x404 ≠ x406))) rfl rfl <| seqN [(1, .d ((cLs (cXVariable cS cI) rfl).enc v1)), (6, .box ((cXTable cI (cLs cI rfl) (cLs cI rfl) cI).enc v2)), (7, .box ((cXTable cI (cLs cI rfl) (cLs cI rfl) cI).enc v3)), (62, .d (cI.enc (v1.length : Int))), (63, .d (cI.enc (k268 : Int))), (95, .d (cB.enc (decide (x404 ≠ x406))))] (by kernel_rfl) <|
    lfn (S := (fun (s422 : Bool) => [(1, .d ((cLs (cXVariable cS cI) rfl).enc v1)), (6, .box ((cXTable cI (cLs cI rfl) (cLs cI rfl) cI).enc v2)), (7, .box ((cXTable cI (cLs cI rfl) (cLs cI rfl) cI).enc v3)), (62, .d (cI.enc (v1.length : Int))), (63, .d (cI.enc (k268 : Int))), (95, .d (cB.enc s422))])) h q423 rfl)
    (fun b435 h => gf rfl b435 <| gf rfl b435 <| gf rfl b435 <| gt' rfl b432 <| st rfl <| pick0 rfl b435 (cd := cB) (v := false) rfl rfl <| st rfl <| pick0 rfl b432 (cd := cB) (v := false) rfl rfl <| seqN [(1, .d ((cLs (cXVariable cS cI) rfl).enc v1)), (6, .box ((cXTable cI (cLs cI rfl) (cLs cI rfl) cI).enc v2)), (7, .box ((cXTable cI (cLs cI rfl) (cLs cI rfl) cI).enc v3)), (62, .d (cI.enc (v1.length : Int))), (63, .d (cI.enc (k268 : Int))), (95, .d (cB.enc false))] (by kernel_rfl) <|
    lfn (S := (fun (s422 : Bool) => [(1, .d ((cLs (cXVariable cS cI) rfl).enc v1)), (6, .box ((cXTable cI (cLs cI rfl) (cLs cI rfl) cI).enc v2)), (7, .box ((cXTable cI (cLs cI rfl) (cLs cI rfl) cI).enc v3)), (62, .d (cI.enc (v1.length : Int))), (63, .d (cI.enc (k268 : Int))), (95, .d (cB.enc s422))])) h q423 rfl)))
    (fun b427 h => gf rfl b427 <| gf rfl b427 <| gf rfl b427 <| gf rfl b427 <| st rfl <| pick0 rfl b427 (cd := cB) (v := false) rfl rfl <| st rfl <| mvd rfl rfl <| gt' rfl rfl <| st rfl <| fab rfl rfl rfl rfl <| gt' rfl rfl <| st rfl <| lda rfl rfl rfl rfl rfl rfl <| gt' rfl rfl <| st rfl <| mvd rfl rfl <| gt' rfl rfl <| bnd h fun x436 e437 h => st rfl <| o_call (a1 (c := (cLs cI rfl)) (tLs tK) rfl (a1 (c := cI) tK rfl a0)) (con_slices_Contains_int e437) (.inl (so1 sB so0)) <| gt' rfl rfl <| st rfl <| o_nt rfl <| gt' rfl rfl <| st rfl <| mvd rfl rfl <| ite_k h (fun b438 h => gt' rfl b438 <| st rfl <| mvd rfl rfl <| gt' rfl b438 <| st rfl <| mvd rfl rfl <| gt' rfl b438 <| st rfl <| b_neq (k := .i64) rfl rfl <| gt' rfl rfl <| st rfl <| pick1 rfl b438 (cd := cB) (v := (decide (x404 ≠ x406))) rfl rfl <| st rfl <| pick0 rfl rfl (cd := cB) (v := (decide (x404 ≠ x406))) rfl rfl <| seqN [(1, .d ((cLs (cXVariable cS cI) rfl).enc v1)), (6, .box ((cXTable cI (cLs cI rfl) (cLs cI rfl) cI).enc v2)), (7, .box ((cXTable cI (cLs cI rfl) (cLs cI rfl) cI).enc v3)), (62, .d (cI.enc (v1.length : Int))), (63, .d (cI.enc (k268 : Int))), (95, .d (cB.enc (decide (x404 ≠ x406))))] (by kernel_rfl) <|
    lfn (S := (fun (s422 : Bool) => [(1, .d ((cLs (cXVariable cS cI) rfl).enc v1)), (6, .box ((cXTable cI (cLs cI rfl) (cLs cI rfl) cI).enc v2)), (7, .box ((cXTable cI (cLs cI rfl) (cLs cI rfl) cI).enc v3)), (62, .d (cI.enc (v1.length : Int))), (63, .d (cI.enc (k268 : Int))), (95, .d (cB.enc s422))])) h q423 rfl)
    (fun b438 h => gf rfl b438 <| gf rfl b438 <| gf rfl b438 <| gt' rfl rfl <| st rfl <| pick0 rfl b438 (cd := cB) (v := false) rfl rfl <| st rfl <| pick0 rfl rfl (cd := cB) (v := false) rfl rfl <| seqN [(1, .d ((cLs (cXVariable cS cI) rfl).enc v1)), (6, .box ((cXTable cI (cLs cI rfl) (cLs cI rfl) cI).enc v2)), (7, .box ((cXTable cI (cLs cI rfl) (cLs cI rfl) cI).enc v3)), (62, .d (cI.enc (v1.length : Int))), (63, .d (cI.enc (k268 : Int))), (95, .d (cB.enc false))] (by kernel_rfl) <|
    lfn (S := (fun (s422 : Bool) => [(1, .d ((cLs (cXVariable cS cI) rfl).enc v1)), (6, .box ((cXTable cI (cLs cI rfl) (cLs cI rfl) cI).enc v2)), (7, .box ((cXTable cI (cLs cI rfl) (cLs cI rfl) cI).enc v3)), (62, .d (cI.enc (v1.length : Int))), (63, .d (cI.enc (k268 : Int))), (95, .d (cB.enc s422))])) h q423 rfl))⟩⟩⟩⟩⟩⟩⟩⟩))
    (fun G98 nx96 k82 s81 x83 hk84 hx85 hn97 h => wpC_seq <| reg_s <| st rfl <| b_lss (k := .i64) rfl rfl <| seqN [(1, .d ((cLs (cXVariable cS cI) rfl).enc v1)), (6, .box ((cXTable cI (cLs cI rfl) (cLs cI rfl) cI).enc v2)), (7, .box ((cXTable cI (cLs cI rfl) (cLs cI rfl) cI).enc v3)), (48, .adr 6 [.fld 1]), (49, .d ((cLs cI rfl).enc v2.Vars)), (50, .d (cI.enc (v2.Vars.length : Int))), (51, .d (cI.enc (k82 : Int))), (52, .d (cB.enc (decide ((k82 : Int) < (v2.Vars.length : Int)))))] (by kernel_rfl) <|
    xn <| wpC_seq <| wpC_kp <| cnd1 rfl (dlt hk84) <| wpC_skip <| kpN [(1, .d ((cLs (cXVariable cS cI) rfl).enc v1)), (6, .box ((cXTable cI (cLs cI rfl) (cLs cI rfl) cI).enc v2)), (7, .box ((cXTable cI (cLs cI rfl) (cLs cI rfl) cI).enc v3)), (48, .adr 6 [.fld 1]), (49, .d ((cLs cI rfl).enc v2.Vars)), (50, .d (cI.enc (v2.Vars.length : Int))), (51, .d (cI.enc (k82 : Int)))] (by kernel_rfl) <| xn <| wpC_seq <| wpC_kp <| wpC_blk <| wpC_seq <| reg_s <| st rfl <| ias rfl rfl (Int.natCast_nonneg _) hx85 rfl <| st rfl <| ldi rfl rfl rfl rfl <| x_asg (ss rfl rfl) <| seqN [(1, .d ((cLs (cXVariable cS cI) rfl).enc v1)), (6, .box ((cXTable cI (cLs cI rfl) (cLs cI rfl) cI).enc v2)), (7, .box ((cXTable cI (cLs cI rfl) (cLs cI rfl) cI).enc v3)), (13, .d (cI.enc x83)), (48, .adr 6 [.fld 1]), (49, .d ((cLs cI rfl).enc v2.Vars)), (50, .d (cI.enc (v2.Vars.length : Int))), (51, .d (cI.enc (k82 : Int)))] (by kernel_rfl) <|
    xn <| wpC_seq <| reg_s <| st rfl <| fab rfl rfl rfl rfl <| st rfl <| lda rfl rfl rfl rfl rfl rfl <| st rfl <| mvd rfl rfl <| bnd h fun x446 e447 h => st rfl <| o_call (a1 (c := (cLs cI rfl)) (tLs tK) rfl (a1 (c := cI) tK rfl a0)) (con_slices_Contains_int e447) (.inl (so1 sB so0)) <| st rfl <| o_nt rfl <| seqN [(1, .d ((cLs (cXVariable cS cI) rfl).enc v1)), (6, .box ((cXTable cI (cLs cI rfl) (cLs cI rfl) cI).enc v2)), (7, .box ((cXTable cI (cLs cI rfl) (cLs cI rfl) cI).enc v3)), (48, .adr 6 [.fld 1]), (49, .d ((cLs cI rfl).enc v2.Vars)), (50, .d (cI.enc (v2.Vars.length : Int))), (51, .d (cI.enc (k82 : Int))), (59, .d (cB.enc (!x446)))] (by kernel_rfl) <|
    xn <| cnd rfl h (fun b448 h => wpC_seq <| reg_s <| x_asg (sc cB false rfl) <| seqN [(8, .d (cB.enc false))] (by kernel_rfl) <|
    xn <| wpC_ret <| rb <| rt <| rt <| rt <| rb <| rt <| rt <| re <| fin h (r1 (ss rfl rfl) <| r0) rfl)
    (fun b448 h => wpC_skip <| xbb <| kpN [(1, .d ((cLs (cXVariable cS cI) rfl).enc v1)), (6, .box ((cXTable cI (cLs cI rfl) (cLs cI rfl) cI).enc v2)), (7, .box ((cXTable cI (cLs cI rfl) (cLs cI rfl) cI).enc v3)), (48, .adr 6 [.fld 1]), (49, .d ((cLs cI rfl).enc v2.Vars)), (50, .d (cI.enc (v2.Vars.length : Int))), (51, .d (cI.enc (k82 : Int)))] (by kernel_rfl) <| xn <| reg_s <| st rfl <| b_inc rfl rfl l80 hk84 <| st rfl <| mvd rfl rfl <| seqN [(1, .d ((cLs (cXVariable cS cI) rfl).enc v1)), (6, .box ((cXTable cI (cLs cI rfl) (cLs cI rfl) cI).enc v2)), (7, .box ((cXTable cI (cLs cI rfl) (cLs cI rfl) cI).enc v3)), (48, .adr 6 [.fld 1]), (49, .d ((cLs cI rfl).enc v2.Vars)), (50, .d (cI.enc (v2.Vars.length : Int))), (51, .d (cI.enc ((k82 + 1 : Nat) : Int)))] (by kernel_rfl) <|
    xn <| hn97 () h)))
    fun m48 h => wpC_kp <| wpC_seq <| reg_s <| st rfl <| fab rfl rfl rfl rfl <| st rfl <| lda rfl rfl rfl rfl rfl rfl <| st rfl <| fab rfl rfl rfl rfl <| st rfl <| lda rfl rfl rfl rfl rfl rfl <| st rfl <| b_neq (k := .i64) rfl rfl <| seqN [(1, .d ((cLs (cXVariable cS cI) rfl).enc v1)), (4, .box ((cXGeo (cLs cI rfl)).enc v0)), (6, .box ((cXTable cI (cLs cI rfl) (cLs cI rfl) cI).enc v2)), (7, .box ((cXTable cI (cLs cI rfl) (cLs cI rfl) cI).enc v3)), (21, .d (cB.enc (decide (v2.Level ≠ v3.Level))))] (by kernel_rfl) <|
    xn <| cnd rfl h (fun b449 h => wpC_seq <| wpC_kp <| wpC_seq <| reg_s <| st rfl <| fab rfl rfl rfl rfl <| st rfl <| lda rfl rfl rfl rfl rfl rfl <| st rfl <| fab rfl rfl rfl rfl <| st rfl <| lda rfl rfl rfl rfl rfl rfl <| st rfl <| b_lss (k := .i64) rfl rfl <| seqN [(1, .d ((cLs (cXVariable cS cI) rfl).enc v1)), (4, .box ((cXGeo (cLs cI rfl)).enc v0)), (6, .box ((cXTable cI (cLs cI rfl) (cLs cI rfl) cI).enc v2)), (7, .box ((cXTable cI (cLs cI rfl) (cLs cI rfl) cI).enc v3)), (26, .d (cB.enc (decide (v3.Level < v2.Level))))] (by kernel_rfl) <|
    xn <| cnd rfl h (fun b451 h => wpC_seq <| reg_s <| x_asg (sc cB false rfl) <| seqN [(8, .d (cB.enc false))] (by kernel_rfl) <|
    xn <| wpC_ret <| rt <| rt <| rt <| rt <| re <| fin h (r1 (ss rfl rfl) <| r0) rfl)
    (fun b451 h => wpC_skip <| kpN [(1, .d ((cLs (cXVariable cS cI) rfl).enc v1)), (4, .box ((cXGeo (cLs cI rfl)).enc v0)), (6, .box ((cXTable cI (cLs cI rfl) (cLs cI rfl) cI).enc v2)), (7, .box ((cXTable cI (cLs cI rfl) (cLs cI rfl) cI).enc v3))] (by kernel_rfl) <| xn <| wpC_seq <| reg_s <| st rfl <| ldb rfl rfl rfl rfl <| bnd h fun x455 e456 h => st rfl <| o_call (a1 (c := (cXGeo (cLs cI rfl))) (tXGeo (tLs tK)) rfl a0) (con_impl_leavesOf e456) (.inl (so1 (sLo sK) so0)) <| stw rfl <| leno rfl fun l457 => st rfl <| mvc cI (0 : Int) rfl <| seqN [(1, .d ((cLs (cXVariable cS cI) rfl).enc v1)), (4, .box ((cXGeo (cLs cI rfl)).enc v0)), (6, .box ((cXTable cI (cLs cI rfl) (cLs cI rfl) cI).enc v2)), (7, .box ((cXTable cI (cLs cI rfl) (cLs cI rfl) cI).enc v3)), (28, .d ((cLo cI).enc x455)), (29, .d (cI.enc (x455.length : Int))), (30, .d (cI.enc (0 : Int)))] (by kernel_rfl) <|
    xn <| wpC_blk <| lpR (fun (k459 : Nat) (s458 : Unit) => [(1, .d ((cLs (cXVariable cS cI) rfl).enc v1)), (4, .box ((cXGeo (cLs cI rfl)).enc v0)), (6, .box ((cXTable cI (cLs cI rfl) (cLs cI rfl) cI).enc v2)), (7, .box ((cXTable cI (cLs cI rfl) (cLs cI rfl) cI).enc v3)), (28, .d ((cLo cI).enc x455)), (29, .d (cI.enc (x455.length : Int))), (30, .d (cI.enc (k459 : Int)))]) () rfl h
    (fun G479 s458 h => wpC_seq <| reg_s <| st rfl <| b_lss (k := .i64) rfl rfl <| seqN [(1, .d ((cLs (cXVariable cS cI) rfl).enc v1)), (4, .box ((cXGeo (cLs cI rfl)).enc v0)), (6, .box ((cXTable cI (cLs cI rfl) (cLs cI rfl) cI).enc v2)), (7, .box ((cXTable cI (cLs cI rfl) (cLs cI rfl) cI).enc v3)), (28, .d ((cLo cI).enc x455)), (29, .d (cI.enc (x455.length : Int))), (30, .d (cI.enc (x455.length : Int))), (31, .d (cB.enc (decide ((x455.length : Int) < (x455.length : Int)))))] (by kernel_rfl) <|
    xn <| wpC_seq <| wpC_kp <| cnd0 rfl (dlf _) <| wpC_exit <| xt <| xt <| xt <| xb <| kpN [(1, .d ((cLs (cXVariable cS cI) rfl).enc v1)), (6, .box ((cXTable cI (cLs cI rfl) (cLs cI rfl) cI).enc v2)), (7, .box ((cXTable cI (cLs cI rfl) (cLs cI rfl) cI).enc v3))] (by kernel_rfl) <| m48 () h)
    (fun G479 nx477 k459 s458 x460 hk461 hx462 hn478 h => wpC_seq <| reg_s <| st rfl <| b_lss (k := .i64) rfl rfl <| seqN [(1, .d ((cLs (cXVariable cS cI) rfl).enc v1)), (4, .box ((cXGeo (cLs cI rfl)).enc v0)), (6, .box ((cXTable cI (cLs cI rfl) (cLs cI rfl) cI).enc v2)), (7, .box ((cXTable cI (cLs cI rfl) (cLs cI rfl) cI).enc v3)), (28, .d ((cLo cI).enc x455)), (29, .d (cI.enc (x455.length : Int))), (30, .d (cI.enc (k459 : Int))), (31, .d (cB.enc (decide ((k459 : Int) < (x455.length : Int)))))] (by kernel_rfl) <|
    xn <| wpC_seq <| wpC_kp <| cnd1 rfl (dlt hk461) <| wpC_skip <| kpN [(1, .d ((cLs (cXVariable cS cI) rfl).enc v1)), (4, .box ((cXGeo (cLs cI rfl)).enc v0)), (6, .box ((cXTable cI (cLs cI rfl) (cLs cI rfl) cI).enc v2)), (7, .box ((cXTable cI (cLs cI rfl) (cLs cI rfl) cI).enc v3)), (28, .d ((cLo cI).enc x455)), (29, .d (cI.enc (x455.length : Int))), (30, .d (cI.enc (k459 : Int)))] (by kernel_rfl) <| xn <| wpC_seq <| wpC_kp <| wpC_blk <| wpC_seq <| reg_s <| st rfl <| iao rfl rfl (Int.natCast_nonneg _) hx462 rfl <| st rfl <| lda rfl rfl (Gt.idx hx462 Gt.nil) rfl rfl rfl <| x_asg (ss rfl rfl) <| seqN [(1, .d ((cLs (cXVariable cS cI) rfl).enc v1)), (4, .box ((cXGeo (cLs cI rfl)).enc v0)), (6, .box ((cXTable cI (cLs cI rfl) (cLs cI rfl) cI).enc v2)), (7, .box ((cXTable cI (cLs cI rfl) (cLs cI rfl) cI).enc v3)), (10, .d (cI.enc x460)), (28, .d ((cLo cI).enc x455)), (29, .d (cI.enc (x455.length : Int))), (30, .d (cI.enc (k459 : Int)))] (by kernel_rfl) <|
    xn <| wpC_seq <| reg_s <| st rfl <| ldb rfl rfl rfl rfl <| st rfl <| mvd rfl rfl <| bnd h fun x489 e490 h => st rfl <| o_call (a1 (c := (cXGeo (cLs cI rfl))) (tXGeo (tLs tK)) rfl (a1 (c := cI) tK rfl a0)) (con_impl_depthOf e490) (.inl (so1 sK so0)) <| x_asg (ss rfl rfl) <| seqN [(1, .d ((cLs (cXVariable cS cI) rfl).enc v1)), (4, .box ((cXGeo (cLs cI rfl)).enc v0)), (6, .box ((cXTable cI (cLs cI rfl) (cLs cI rfl) cI).enc v2)), (7, .box ((cXTable cI (cLs cI rfl) (cLs cI rfl) cI).enc v3)), (11, .d (cI.enc x489)), (28, .d ((cLo cI).enc x455)), (29, .d (cI.enc (x455.length : Int))), (30, .d (cI.enc (k459 : Int)))] (by kernel_rfl) <|
    xn <| wpC_seq <| reg_s <| st rfl <| mvd rfl rfl <| st rfl <| fab rfl rfl rfl rfl <| st rfl <| lda rfl rfl rfl rfl rfl rfl <| st rfl <| b_geq (k := .i64) rfl rfl <| st rfl <| mvd rfl rfl <| ite_k h (fun b492 h => gt' rfl b492 <| st rfl <| mvd rfl rfl <| gt' rfl b492 <| st rfl <| fab rfl rfl rfl rfl <| gt' rfl b492 <| st rfl <| lda rfl rfl rfl rfl rfl rfl <| gt' rfl b492 <| st rfl <| b_lss (k := .i64) rfl rfl <| st rfl <| pick1 rfl b492 (cd := cB) (v := (decide (x489 < v3.Level))) rfl rfl <| seqN [(1, .d ((cLs (cXVariable cS cI) rfl).enc v1)), (4, .box ((cXGeo (cLs cI rfl)).enc v0)), (6, .box ((cXTable cI (cLs cI rfl) (cLs cI rfl) cI).enc v2)), (7, .box ((cXTable cI (cLs cI rfl) (cLs cI rfl) cI).enc v3)), (28, .d ((cLo cI).enc x455)), (29, .d (cI.enc (x455.length : Int))), (30, .d (cI.enc (k459 : Int))), (46, .d (cB.enc (decide (x489 < v3.Level))))] (by kernel_rfl) <|
    xn <| cnd rfl h (fun b493 h => wpC_seq <| reg_s <| x_asg (sc cB false rfl) <| seqN [(8, .d (cB.enc false))] (by kernel_rfl) <|
    xn <| wpC_ret <| rb <| rt <| rt <| rt <| rb <| rt <| rt <| re <| fin h (r1 (ss rfl rfl) <| r0) rfl)
    (fun b493 h => wpC_skip <| xbb <| kpN [(1, .d ((cLs (cXVariable cS cI) rfl).enc v1)), (4, .box ((cXGeo (cLs cI rfl)).enc v0)), (6, .box ((cXTable cI (cLs cI rfl) (cLs cI rfl) cI).enc v2)), (7, .box ((cXTable cI (cLs cI rfl) (cLs cI rfl) cI).enc v3)), (28, .d ((cLo cI).enc x455)), (29, .d (cI.enc (x455.length : Int))), (30, .d (cI.enc (k459 : Int)))] (by kernel_rfl) <| xn <| reg_s <| st rfl <| b_inc rfl rfl l457 hk461 <| st rfl <| mvd rfl rfl <| seqN [(1, .d ((cLs (cXVariable cS cI) rfl).enc v1)), (4, .box ((cXGeo (cLs cI rfl)).enc v0)), (6, .box ((cXTable cI (cLs cI rfl) (cLs cI rfl) cI).enc v2)), (7, .box ((cXTable cI (cLs cI rfl) (cLs cI rfl) cI).enc v3)), (28, .d ((cLo cI).enc x455)), (29, .d (cI.enc (x455.length : Int))), (30, .d (cI.enc ((k459 + 1 : Nat) : Int)))] (by kernel_rfl) <|
    xn <| hn478 () h))
    (fun b492 h => gf rfl b492 <| gf rfl b492 <| gf rfl b492 <| gf rfl b492 <| st rfl <| pick0 rfl b492 (cd := cB) (v := false) rfl rfl <| seqN [(1, .d ((cLs (cXVariable cS cI) rfl).enc v1)), (4, .box ((cXGeo (cLs cI rfl)).enc v0)), (6, .box ((cXTable cI (cLs cI rfl) (cLs cI rfl) cI).enc v2)), (7, .box ((cXTable cI (cLs cI rfl) (cLs cI rfl) cI).enc v3)), (28, .d ((cLo cI).enc x455)), (29, .d (cI.enc (x455.length : Int))), (30, .d (cI.enc (k459 : Int))), (46, .d (cB.enc false))] (by kernel_rfl) <|
    xn <| cnd0 rfl rfl <| wpC_skip <| xbb <| kpN [(1, .d ((cLs (cXVariable cS cI) rfl).enc v1)), (4, .box ((cXGeo (cLs cI rfl)).enc v0)), (6, .box ((cXTable cI (cLs cI rfl) (cLs cI rfl) cI).enc v2)), (7, .box ((cXTable cI (cLs cI rfl) (cLs cI rfl) cI).enc v3)), (28, .d ((cLo cI).enc x455)), (29, .d (cI.enc (x455.length : Int))), (30, .d (cI.enc (k459 : Int)))] (by kernel_rfl) <| xn <| reg_s <| st rfl <| b_inc rfl rfl l457 hk461 <| st rfl <| mvd rfl rfl <| seqN [(1, .d ((cLs (cXVariable cS cI) rfl).enc v1)), (4, .box ((cXGeo (cLs cI rfl)).enc v0)), (6, .box ((cXTable cI (cLs cI rfl) (cLs cI rfl) cI).enc v2)), (7, .box ((cXTable cI (cLs cI rfl) (cLs cI rfl) cI).enc v3)), (28, .d ((cLo cI).enc x455)), (29, .d (cI.enc (x455.length : Int))), (30, .d (cI.enc ((k459 + 1 : Nat) : Int)))] (by kernel_rfl) <|
    xn <| hn478 () h))))
    (fun b449 h => wpC_skip <| kpN [(1, .d ((cLs (cXVariable cS cI) rfl).enc v1)), (6, .box ((cXTable cI (cLs cI rfl) (cLs cI rfl) cI).enc v2)), (7, .box ((cXTable cI (cLs cI rfl) (cLs cI rfl) cI).enc v3))] (by kernel_rfl) <| m48 () h)

def rs_laws_eqTableS (r : Bool) : List D := [cB.enc r]
def m20 : MC := .seq (.reg [⟨some 4, .asg (.c (.bool false)), none⟩] [0, 1])
  (.seq (.kp [0, 1] (.seq (.reg [⟨some 6, .mv (.t 0), none⟩,
    ⟨some 7, .len false (.t 6), none⟩,
    ⟨some 8, .mv (.t 1), none⟩,
    ⟨some 9, .len false (.t 8), none⟩,
    ⟨some 10, .bin .neq (.t 7) (.t 9), none⟩] [0, 1, 10])
  (.cond (.t 10) (.seq (.reg [⟨some 4, .asg (.c (.bool false)), none⟩] [4])
  (.ret)) (.skip))))
  (.seq (.kp [] (.seq (.reg [⟨some 5, .asg (.c (.int .i64 0)), none⟩] [0, 1, 5])
  (.blk 0 (.loop (.seq (.kp [0, 1, 5] (.seq (.reg [⟨some 11, .mv (.t 5), none⟩,
    ⟨some 12, .mv (.t 0), none⟩,
    ⟨some 13, .len false (.t 12), none⟩,
    ⟨some 14, .bin .lss (.t 11) (.t 13), none⟩] [0, 1, 5, 14])
  (.cond (.t 14) (.skip) (.exit 0))))
  (.seq (.kp [0, 1, 5] (.blk 1 (.seq (.drw [⟨0, ⟨some 17, .mv (.t 0), none⟩, [18, 19, 20, 21, 22, 23, 24, 25, 26]⟩,
    ⟨1, ⟨some 18, .mv (.t 5), none⟩, [17, 19, 20, 21, 22, 23, 24, 25, 26]⟩,
    ⟨2, ⟨some 19, .ia 17 (.t 18) 4, none⟩, [20, 21, 22, 23, 24, 25, 26]⟩,
    ⟨3, ⟨some 20, .ld 19 4 true, none⟩, [21, 22, 23, 24, 25, 26]⟩,
    ⟨4, ⟨some 21, .mv (.t 1), none⟩, [17, 18, 19, 20, 22, 23, 24, 25, 26]⟩,
    ⟨5, ⟨some 22, .mv (.t 5), none⟩, [17, 18, 19, 20, 21, 23, 24, 25, 26]⟩,
    ⟨6, ⟨some 23, .ia 21 (.t 22) 4, none⟩, [17, 18, 19, 20, 24, 25, 26]⟩,
    ⟨7, ⟨some 24, .ld 23 4 true, none⟩, [17, 18, 19, 20, 25, 26]⟩,
    ⟨8, ⟨some 25, .call 27 [(.t 20), (.t 24)], none⟩, [26]⟩,
    ⟨9, ⟨some 26, .nt (.t 25), none⟩, []⟩]
    [] [0, 1, 5, 26])
  (.cond (.t 26) (.seq (.reg [⟨some 4, .asg (.c (.bool false)), none⟩] [4])
  (.ret)) (.skip)))))
  (.reg [⟨some 15, .mv (.t 5), none⟩,
    ⟨some 16, .bin .add (.t 15) (.c (.int .i64 1)), none⟩,
    ⟨some 5, .asg (.t 16), none⟩] [0, 1, 5])))))))
  (.seq (.reg [⟨some 4, .asg (.c (.bool true)), none⟩] [4])
  (.ret))))
theorem con_laws_eqTableS {v0 : (List XTable)} {v1 : (List XTable)} {r : Bool} (h : sh_laws_eqTableS v0 v1 = some r) : Con Try.prog 20 [(cLs (cXTable cI (cLs cI rfl) (cLs cI rfl) cI) rfl).enc v0, (cLs (cXTable cI (cLs cI rfl) (cLs cI rfl) cI) rfl).enc v1] [] (rs_laws_eqTableS r) := by
  delta sh_laws_eqTableS at h
  refine top (out := none) (f := Try.f20) (m := m20) (rs := [.t 4]) (by kernel_rfl) rfl (by kernel_rfl) (by kernel_rfl) (by kernel_rfl) (by kernel_rfl) (by kernel_rfl) ?_
  exact
   ini [(0, .d ((cLs (cXTable cI (cLs cI rfl) (cLs cI rfl) cI) rfl).enc v0)), (1, .d ((cLs (cXTable cI (cLs cI rfl) (cLs cI rfl) cI) rfl).enc v1))] rfl <| wpC_seq <| reg_s <| x_asg (sc cB false rfl) <| seqN [(0, .d ((cLs (cXTable cI (cLs cI rfl) (cLs cI rfl) cI) rfl).enc v0)), (1, .d ((cLs (cXTable cI (cLs cI rfl) (cLs cI rfl) cI) rfl).enc v1))] (by kernel_rfl) <|
    xn <| wpC_seq <| wpC_kp <| wpC_seq <| reg_s <| st rfl <| mvd rfl rfl <| stw rfl <| lens rfl fun l8 => st rfl <| mvd rfl rfl <| stw rfl <| lens rfl fun l9 => st rfl <| b_neq (k := .i64) rfl rfl <| seqN [(0, .d ((cLs (cXTable cI (cLs cI rfl) (cLs cI rfl) cI) rfl).enc v0)), (1, .d ((cLs (cXTable cI (cLs cI rfl) (cLs cI rfl) cI) rfl).enc v1)), (10, .d (cB.enc (decide ((v0.length : Int) ≠ (v1.length : Int)))))] (by kernel_rfl) <|
    xn <| cnd rfl h (fun b10 h => wpC_seq <| reg_s <| x_asg (sc cB false rfl) <| seqN [(4, .d (cB.enc false))] (by kernel_rfl) <|
    xn <| wpC_ret <| rt <| rt <| re <| fin h (r1 (ss rfl rfl) <| r0) rfl)
    (fun b10 h => wpC_skip <| kpN [(0, .d ((cLs (cXTable cI (cLs cI rfl) (cLs cI rfl) cI) rfl).enc v0)), (1, .d ((cLs (cXTable cI (cLs cI rfl) (cLs cI rfl) cI) rfl).enc v1))] (by kernel_rfl) <| xn <| wpC_seq <| wpC_kp <| wpC_seq <| reg_s <| x_asg (sc cI (0 : Int) rfl) <| seqN [(0, .d ((cLs (cXTable cI (cLs cI rfl) (cLs cI rfl) cI) rfl).enc v0)), (1, .d ((cLs (cXTable cI (cLs cI rfl) (cLs cI rfl) cI) rfl).enc v1)), (5, .d (cI.enc (0 : Int)))] (by kernel_rfl) <|
    xn <| wpC_blk <| lpF (fun (s142 : Int) => [(0, .d ((cLs (cXTable cI (cLs cI rfl) (cLs cI rfl) cI) rfl).enc v0)), (1, .d ((cLs (cXTable cI (cLs cI rfl) (cLs cI rfl) cI) rfl).enc v1)), (5, .d (cI.enc s142))]) (0 : Int) rfl h
    fun G231 nx229 s142 hn230 h => wpC_seq <| wpC_kp <| wpC_seq <| reg_s <| st rfl <| mvd rfl rfl <| st rfl <| mvd rfl rfl <| stw rfl <| lens rfl fun l236 => st rfl <| b_lss (k := .i64) rfl rfl <| seqN [(0, .d ((cLs (cXTable cI (cLs cI rfl) (cLs cI rfl) cI) rfl).enc v0)), (1, .d ((cLs (cXTable cI (cLs cI rfl) (cLs cI rfl) cI) rfl).enc v1)), (5, .d (cI.enc s142)), (14, .d (cB.enc (decide (s142 < (v0.length : Int)))))] (by kernel_rfl) <|
    xn <| cnd rfl h (fun b237 h => wpC_skip <| kpN [(0, .d ((cLs (cXTable cI (cLs cI rfl) (cLs cI rfl) cI) rfl).enc v0)), (1, .d ((cLs (cXTable cI (cLs cI rfl) (cLs cI rfl) cI) rfl).enc v1)), (5, .d (cI.enc s142))] (by kernel_rfl) <| xn <| wpC_seq <| wpC_kp <| wpC_blk <| wpC_seq <| drw_s <| pst rfl <| mvd rfl rfl ⟨rfl, pst rfl <| mvd rfl rfl ⟨rfl, getO_kp h fun x263 i264 g265 h => pst rfl <| ias rfl rfl i264 g265 rfl ⟨rfl, pst rfl <| ldi rfl rfl rfl rfl ⟨rfl, pst rfl <| mvd rfl rfl ⟨rfl, pst rfl <| mvd rfl rfl ⟨rfl, getO_kp h fun x266 i267 g268 h => pst rfl <| ias rfl rfl i267 g268 rfl ⟨rfl, pst rfl <| ldi rfl rfl rfl rfl ⟨rfl, bndp h fun x269 e270 h => pst rfl <| o_call (a1 (c := (cXTable cI (cLs cI rfl) (cLs cI rfl) cI)) (tXTable tK (tLs tK) (tLs tK) tK) rfl (a1 (c := (cXTable cI (cLs cI rfl) (cLs cI rfl) cI)) (tXTable tK (tLs tK) (tLs tK) tK) rfl a0)) (con_laws_eqTable e270) (.inl (so1 sB so0)) ⟨rfl, pst rfl <| o_nt rfl ⟨rfl, preN <| seqN [(0, .d ((cLs (cXTable cI (cLs cI rfl) (cLs cI rfl) cI) rfl).enc v0)), (1, .d ((cLs (cXTable cI (cLs cI rfl) (cLs cI rfl) cI) rfl).enc v1)), (5, .d (cI.enc s142)), (26, .d (cB.enc (!x269)))] (by kernel_rfl) <|
    xn <| cnd rfl h (fun b271 h => wpC_seq <| reg_s <| x_asg (sc cB false rfl) <| seqN [(4, .d (cB.enc false))] (by kernel_rfl) <|
    xn <| wpC_ret <| rb <| rt <| rt <| rt <| rb <| rt <| rt <| re <| fin h (r1 (ss rfl rfl) <| r0) rfl)
    (fun b271 h => wpC_skip <| xbb <| kpN [(0, .d ((cLs (cXTable cI (cLs cI rfl) (cLs cI rfl) cI) rfl).enc v0)), (1, .d ((cLs (cXTable cI (cLs cI rfl) (cLs cI rfl) cI) rfl).enc v1)), (5, .d (cI.enc s142))] (by kernel_rfl) <| xn <| reg_s <| st rfl <| mvd rfl rfl <| ckI_k h fun i272 h => st rfl <| b_add (k := .i64) rfl rfl i272 <| x_asg (ss rfl rfl) <| seqN [(0, .d ((cLs (cXTable cI (cLs cI rfl) (cLs cI rfl) cI) rfl).enc v0)), (1, .d ((cLs (cXTable cI (cLs cI rfl) (cLs cI rfl) cI) rfl).enc v1)), (5, .d (cI.enc (s142 + (1 : Int))))] (by kernel_rfl) <|
    xn <| hn230 (s142 + (1 : Int)) h)⟩⟩⟩⟩⟩⟩⟩⟩⟩⟩)
    (fun b237 h => wpC_exit <| xt <| xt <| xt <| xb <| kpN [] (by kernel_rfl) <| xn <| wpC_seq <| reg_s <| x_asg (sc cB true rfl) <| seqN [(4, .d (cB.enc true))] (by kernel_rfl) <|
    xn <| wpC_ret <| re <| fin h (r1 (ss rfl rfl) <| r0) rfl))

def rs_spec_CoversPlan (r : (Bool × Bool)) : List D := [cB.enc r.1, cB.enc r.2]
def m13 : MC := .seq (.reg [⟨some 4, .box (.t 0), none⟩,
    ⟨some 8, .asg (.c (.bool false)), none⟩,
    ⟨some 9, .asg (.c (.bool false)), none⟩] [1, 2, 3, 4])
  (.seq (.kp [1, 2, 3, 4] (.seq (.reg [⟨some 15, .ld 4 1 true, none⟩,
    ⟨some 16, .mv (.t 1), none⟩,
    ⟨some 17, .mv (.t 2), none⟩,
    ⟨some 18, .call 54 [(.t 15), (.t 16), (.t 17)], none⟩,
    ⟨some 19, .nt (.t 18), none⟩,
    ⟨some 20, .mv (.t 19), none⟩,
    ⟨some 21, .ld 4 1 true, some (20, false)⟩,
    ⟨some 22, .mv (.t 1), some (20, false)⟩,
    ⟨some 23, .mv (.t 3), some (20, false)⟩,
    ⟨some 24, .call 54 [(.t 21), (.t 22), (.t 23)], some (20, false)⟩,
    ⟨some 25, .nt (.t 24), some (20, false)⟩,
    ⟨some 26, .pick (.t 20) (.c (.bool true)) (.t 25), none⟩] [1, 2, 3, 4, 26])
  (.cond (.t 26) (.seq (.reg [⟨some 8, .asg (.c (.bool false)), none⟩,
    ⟨some 9, .asg (.c (.bool false)), none⟩] [8, 9])
  (.ret)) (.skip))))
  (.seq (.kp [] (.seq (.reg [⟨some 27, .mv (.t 3), none⟩,
    ⟨some 28, .len false (.t 27), none⟩,
    ⟨some 29, .mv (.c (.int .i64 0)), none⟩] [1, 2, 3, 4, 27, 28, 29])
  (.blk 0 (.loop (.seq (.reg [⟨some 30, .bin .lss (.t 29) (.t 28), none⟩] [1, 2, 3, 4, 27, 28, 29, 30])
  (.seq (.kp [1, 2, 3, 4, 27, 28, 29] (.cond (.t 30) (.skip) (.exit 0)))
  (.seq (.kp [1, 2, 3, 4, 27, 28, 29] (.blk 1 (.seq (.reg [⟨some 31, .ia 27 (.t 29) 4, none⟩,
    ⟨some 32, .ld 31 4 true, none⟩,
    ⟨some 11, .alloc (.agg [.int .i64 0, .slice true [], .slice true [], .int .i64 0]), none⟩,
    ⟨none, .st 11 (.t 32) 4, none⟩] [1, 2, 3, 4, 11, 27, 28, 29])
  (.seq (.reg [⟨some 12, .asg (.c (.bool false)), none⟩] [1, 2, 3, 4, 11, 12, 27, 28, 29])
  (.seq (.kp [1, 2, 3, 4, 12, 27, 28, 29] (.seq (.reg [⟨some 33, .mv (.t 2), none⟩,
    ⟨some 34, .len false (.t 33), none⟩,
    ⟨some 35, .mv (.c (.int .i64 0)), none⟩] [1, 2, 3, 4, 11, 12, 27, 28, 29, 33, 34, 35])
  (.blk 2 (.loop (.seq (.reg [⟨some 36, .bin .lss (.t 35) (.t 34), none⟩] [1, 2, 3, 4, 11, 12, 27, 28, 29, 33, 34, 35, 36])
  (.seq (.kp [1, 2, 3, 4, 11, 12, 27, 28, 29, 33, 34, 35] (.cond (.t 36) (.skip) (.exit 2)))
  (.seq (.kp [1, 2, 3, 4, 11, 12, 27, 28, 29, 33, 34, 35] (.blk 3 (.seq (.reg [⟨some 37, .ia 33 (.t 35) 4, none⟩,
    ⟨some 38, .ld 37 4 true, none⟩,
    ⟨some 14, .alloc (.agg [.int .i64 0, .slice true [], .slice true [], .int .i64 0]), none⟩,
    ⟨none, .st 14 (.t 38) 4, none⟩] [1, 2, 3, 4, 11, 12, 14, 27, 28, 29, 33, 34, 35])
  (.reg [⟨some 39, .mv (.t 12), none⟩,
    ⟨some 40, .mv (.t 39), none⟩,
    ⟨some 41, .ld 4 1 true, some (40, false)⟩,
    ⟨some 42, .mv (.t 1), some (40, false)⟩,
    ⟨some 43, .ld 11 4 true, some (40, false)⟩,
    ⟨some 44, .ld 14 4 true, some (40, false)⟩,
    ⟨some 45, .call 55 [(.t 41), (.t 42), (.t 43), (.t 44)], some (40, false)⟩,
    ⟨some 46, .pick (.t 40) (.c (.bool true)) (.t 45), none⟩,
    ⟨some 12, .asg (.t 46), none⟩] [1, 2, 3, 4, 11, 12, 27, 28, 29, 33, 34, 35]))))
  (.reg [⟨some 47, .bin .add (.t 35) (.c (.int .i64 1)), none⟩,
    ⟨some 35, .mv (.t 47), none⟩] [1, 2, 3, 4, 11, 12, 27, 28, 29, 33, 34, 35]))))))))
  (.seq (.reg [⟨some 48, .mv (.t 12), none⟩,
    ⟨some 49, .nt (.t 48), none⟩] [1, 2, 3, 4, 27, 28, 29, 49])
  (.cond (.t 49) (.seq (.reg [⟨some 8, .asg (.c (.bool false)), none⟩,
    ⟨some 9, .asg (.c (.bool true)), none⟩] [8, 9])
  (.ret)) (.skip))))))))
  (.reg [⟨some 50, .bin .add (.t 29) (.c (.int .i64 1)), none⟩,
    ⟨some 29, .mv (.t 50), none⟩] [1, 2, 3, 4, 27, 28, 29]))))))))
  (.seq (.reg [⟨some 8, .asg (.c (.bool true)), none⟩,
    ⟨some 9, .asg (.c (.bool true)), none⟩] [8, 9])
  (.ret))))
theorem con_spec_CoversPlan {v0 : XGeo} {v1 : (List XVariable)} {v2 : (List XTable)} {v3 : (List XTable)} {r : (Bool × Bool)} (h : sh_spec_CoversPlan v0 v1 v2 v3 = some r) : Con Try.prog 13 [(cXGeo (cLs cI rfl)).enc v0, (cLs (cXVariable cS cI) rfl).enc v1, (cLs (cXTable cI (cLs cI rfl) (cLs cI rfl) cI) rfl).enc v2, (cLs (cXTable cI (cLs cI rfl) (cLs cI rfl) cI) rfl).enc v3] [] (rs_spec_CoversPlan r) := by
  delta sh_spec_CoversPlan at h
  refine top (out := none) (f := Try.f13) (m := m13) (rs := [.t 8, .t 9]) (by kernel_rfl) rfl (by kernel_rfl) (by kernel_rfl) (by kernel_rfl) (by kernel_rfl) (by kernel_rfl) ?_
  exact
   ini [(0, .d ((cXGeo (cLs cI rfl)).enc v0)), (1, .d ((cLs (cXVariable cS cI) rfl).enc v1)), (2, .d ((cLs (cXTable cI (cLs cI rfl) (cLs cI rfl) cI) rfl).enc v2)), (3, .d ((cLs (cXTable cI (cLs cI rfl) (cLs cI rfl) cI) rfl).enc v3))] rfl <| wpC_seq <| reg_s <| x_box (ss rfl rfl) <| x_asg (sc cB false rfl) <| x_asg (sc cB false rfl) <| seqN [(1, .d ((cLs (cXVariable cS cI) rfl).enc v1)), (2, .d ((cLs (cXTable cI (cLs cI rfl) (cLs cI rfl) cI) rfl).enc v2)), (3, .d ((cLs (cXTable cI (cLs cI rfl) (cLs cI rfl) cI) rfl).enc v3)), (4, .box ((cXGeo (cLs cI rfl)).enc v0))] (by kernel_rfl) <|
    xn <| wpC_seq <| wpC_kp <| wpC_seq <| reg_s <| st rfl <| ldb rfl rfl rfl rfl <| st rfl <| mvd rfl rfl <| st rfl <| mvd rfl rfl <| bnd h fun x17 e18 h => st rfl <| o_call (a1 (c := (cXGeo (cLs cI rfl))) (tXGeo (tLs tK)) rfl (a1 (c := (cLs (cXVariable cS cI) rfl)) (tLs (tXVariable tS tK)) rfl (a1 (c := (cLs (cXTable cI (cLs cI rfl) (cLs cI rfl) cI) rfl)) (tLs (tXTable tK (tLs tK) (tLs tK) tK)) rfl a0))) (con_spec_nPlan e18) (.inl (so1 sB so0)) <| st rfl <| o_nt rfl <| st rfl <| mvd rfl rfl <| ite_k h (fun b19 h => gf rfl b19 <| gf rfl b19 <| gf rfl b19 <| gf rfl b19 <| gf rfl b19 <| st rfl <| pick1 rfl b19 (cd := cB) (v := true) rfl rfl <| seqN [(1, .d ((cLs (cXVariable cS cI) rfl).enc v1)), (2, .d ((cLs (cXTable cI (cLs cI rfl) (cLs cI rfl) cI) rfl).enc v2)), (3, .d ((cLs (cXTable cI (cLs cI rfl) (cLs cI rfl) cI) rfl).enc v3)), (4, .box ((cXGeo (cLs cI rfl)).enc v0)), (26, .d (cB.enc true))] (by kernel_rfl) <|
    xn <| cnd1 rfl rfl <| wpC_seq <| reg_s <| x_asg (sc cB false rfl) <| x_asg (sc cB false rfl) <| seqN [(8, .d (cB.enc false)), (9, .d (cB.enc false))] (by kernel_rfl) <|
    xn <| wpC_ret <| rt <| rt <| re <| fin h (r1 (ss rfl rfl) <| r1 (ss rfl rfl) <| r0) rfl)
    (fun b19 h => gt' rfl b19 <| st rfl <| ldb rfl rfl rfl rfl <| gt' rfl b19 <| st rfl <| mvd rfl rfl <| gt' rfl b19 <| st rfl <| mvd rfl rfl <| gt' rfl b19 <| bnd h fun x20 e21 h => st rfl <| o_call (a1 (c := (cXGeo (cLs cI rfl))) (tXGeo (tLs tK)) rfl (a1 (c := (cLs (cXVariable cS cI) rfl)) (tLs (tXVariable tS tK)) rfl (a1 (c := (cLs (cXTable cI (cLs cI rfl) (cLs cI rfl) cI) rfl)) (tLs (tXTable tK (tLs tK) (tLs tK) tK)) rfl a0))) (con_spec_nPlan e21) (.inl (so1 sB so0)) <| gt' rfl b19 <| st rfl <| o_nt rfl <| st rfl <| pick0 rfl b19 (cd := cB) (v := (!x20)) rfl rfl <| seqN [(1, .d ((cLs (cXVariable cS cI) rfl).enc v1)), (2, .d ((cLs (cXTable cI (cLs cI rfl) (cLs cI rfl) cI) rfl).enc v2)), (3, .d ((cLs (cXTable cI (cLs cI rfl) (cLs cI rfl) cI) rfl).enc v3)), (4, .box ((cXGeo (cLs cI rfl)).enc v0)), (26, .d (cB.enc (!x20)))] (by kernel_rfl) <|
    xn <| cnd rfl h (fun b22 h => wpC_seq <| reg_s <| x_asg (sc cB false rfl) <| x_asg (sc cB false rfl) <| seqN [(8, .d (cB.enc false)), (9, .d (cB.enc false))] (by kernel_rfl) <|
    xn <| wpC_ret <| rt <| rt <| re <| fin h (r1 (ss rfl rfl) <| r1 (ss rfl rfl) <| r0) rfl)
    (fun b22 h => wpC_skip <| kpN [(1, .d ((cLs (cXVariable cS cI) rfl).enc v1)), (2, .d ((cLs (cXTable cI (cLs cI rfl) (cLs cI rfl) cI) rfl).enc v2)), (3, .d ((cLs (cXTable cI (cLs cI rfl) (cLs cI rfl) cI) rfl).enc v3)), (4, .box ((cXGeo (cLs cI rfl)).enc v0))] (by kernel_rfl) <| xn <| wpC_seq <| wpC_kp <| wpC_seq <| reg_s <| st rfl <| mvd rfl rfl <| stw rfl <| lens rfl fun l246 => st rfl <| mvc cI (0 : Int) rfl <| seqN [(1, .d ((cLs (cXVariable cS cI) rfl).enc v1)), (2, .d ((cLs (cXTable cI (cLs cI rfl) (cLs cI rfl) cI) rfl).enc v2)), (3, .d ((cLs (cXTable cI (cLs cI rfl) (cLs cI rfl) cI) rfl).enc v3)), (4, .box ((cXGeo (cLs cI rfl)).enc v0)), (27, .d ((cLs (cXTable cI (cLs cI rfl) (cLs cI rfl) cI) rfl).enc v3)), (28, .d (cI.enc (v3.length : Int))), (29, .d (cI.enc (0 : Int)))] (by kernel_rfl) <|
    xn <| wpC_blk <| lpR (fun (k248 : Nat) (s247 : Unit) => [(1, .d ((cLs (cXVariable cS cI) rfl).enc v1)), (2, .d ((cLs (cXTable cI (cLs cI rfl) (cLs cI rfl) cI) rfl).enc v2)), (3, .d ((cLs (cXTable cI (cLs cI rfl) (cLs cI rfl) cI) rfl).enc v3)), (4, .box ((cXGeo (cLs cI rfl)).enc v0)), (27, .d ((cLs (cXTable cI (cLs cI rfl) (cLs cI rfl) cI) rfl).enc v3)), (28, .d (cI.enc (v3.length : Int))), (29, .d (cI.enc (k248 : Int)))]) () rfl h
    (fun G360 s247 h => wpC_seq <| reg_s <| st rfl <| b_lss (k := .i64) rfl rfl <| seqN [(1, .d ((cLs (cXVariable cS cI) rfl).enc v1)), (2, .d ((cLs (cXTable cI (cLs cI rfl) (cLs cI rfl) cI) rfl).enc v2)), (3, .d ((cLs (cXTable cI (cLs cI rfl) (cLs cI rfl) cI) rfl).enc v3)), (4, .box ((cXGeo (cLs cI rfl)).enc v0)), (27, .d ((cLs (cXTable cI (cLs cI rfl) (cLs cI rfl) cI) rfl).enc v3)), (28, .d (cI.enc (v3.length : Int))), (29, .d (cI.enc (v3.length : Int))), (30, .d (cB.enc (decide ((v3.length : Int) < (v3.length : Int)))))] (by kernel_rfl) <|
    xn <| wpC_seq <| wpC_kp <| cnd0 rfl (dlf _) <| wpC_exit <| xt <| xt <| xt <| xb <| kpN [] (by kernel_rfl) <| xn <| wpC_seq <| reg_s <| x_asg (sc cB true rfl) <| x_asg (sc cB true rfl) <| seqN [(8, .d (cB.enc true)), (9, .d (cB.enc true))] (by kernel_rfl) <|
    xn <| wpC_ret <| re <| fin h (r1 (ss rfl rfl) <| r1 (ss rfl rfl) <| r0) rfl)
    (fun G360 nx358 k248 s247 x249 hk250 hx251 hn359 h => wpC_seq <| reg_s <| st rfl <| b_lss (k := .i64) rfl rfl <| seqN [(1, .d ((cLs (cXVariable cS cI) rfl).enc v1)), (2, .d ((cLs (cXTable cI (cLs cI rfl) (cLs cI rfl) cI) rfl).enc v2)), (3, .d ((cLs (cXTable cI (cLs cI rfl) (cLs cI rfl) cI) rfl).enc v3)), (4, .box ((cXGeo (cLs cI rfl)).enc v0)), (27, .d ((cLs (cXTable cI (cLs cI rfl) (cLs cI rfl) cI) rfl).enc v3)), (28, .d (cI.enc (v3.length : Int))), (29, .d (cI.enc (k248 : Int))), (30, .d (cB.enc (decide ((k248 : Int) < (v3.length : Int)))))] (by kernel_rfl) <|
    xn <| wpC_seq <| wpC_kp <| cnd1 rfl (dlt hk250) <| wpC_skip <| kpN [(1, .d ((cLs (cXVariable cS cI) rfl).enc v1)), (2, .d ((cLs (cXTable cI (cLs cI rfl) (cLs cI rfl) cI) rfl).enc v2)), (3, .d ((cLs (cXTable cI (cLs cI rfl) (cLs cI rfl) cI) rfl).enc v3)), (4, .box ((cXGeo (cLs cI rfl)).enc v0)), (27, .d ((cLs (cXTable cI (cLs cI rfl) (cLs cI rfl) cI) rfl).enc v3)), (28, .d (cI.enc (v3.length : Int))), (29, .d (cI.enc (k248 : Int)))] (by kernel_rfl) <| xn <| wpC_seq <| wpC_kp <| wpC_blk <| wpC_seq <| reg_s <| st rfl <| ias rfl rfl (Int.natCast_nonneg _) hx251 rfl <| st rfl <| ldi rfl rfl rfl rfl <| x_all (cXTable cI (cLo cI) (cLo cI) cI) (⟨(0 : Int), ([] : List Int), ([] : List Int), (0 : Int)⟩ : XTable) rfl <| x_stb (ss rfl rfl) rfl (Cd.h_sz _ _) rfl <| seqN [(1, .d ((cLs (cXVariable cS cI) rfl).enc v1)), (2, .d ((cLs (cXTable cI (cLs cI rfl) (cLs cI rfl) cI) rfl).enc v2)), (3, .d ((cLs (cXTable cI (cLs cI rfl) (cLs cI rfl) cI) rfl).enc v3)), (4, .box ((cXGeo (cLs cI rfl)).enc v0)), (11, .box ((cXTable cI (cLs cI rfl) (cLs cI rfl) cI).enc x249)), (27, .d ((cLs (cXTable cI (cLs cI rfl) (cLs cI rfl) cI) rfl).enc v3)), (28, .d (cI.enc (v3.length : Int))), (29, .d (cI.enc (k248 : Int)))] (by kernel_rfl) <|
    xn <| wpC_seq <| reg_s <| x_asg (sc cB false rfl) <| seqN [(1, .d ((cLs (cXVariable cS cI) rfl).enc v1)), (2, .d ((cLs (cXTable cI (cLs cI rfl) (cLs cI rfl) cI) rfl).enc v2)), (3, .d ((cLs (cXTable cI (cLs cI rfl) (cLs cI rfl) cI) rfl).enc v3)), (4, .box ((cXGeo (cLs cI rfl)).enc v0)), (11, .box ((cXTable cI (cLs cI rfl) (cLs cI rfl) cI).enc x249)), (12, .d (cB.enc false)), (27, .d ((cLs (cXTable cI (cLs cI rfl) (cLs cI rfl) cI) rfl).enc v3)), (28, .d (cI.enc (v3.length : Int))), (29, .d (cI.enc (k248 : Int)))] (by kernel_rfl) <|
    xn <| wpC_seq <| wpC_kp <| wpC_seq <| reg_s <| st rfl <| mvd rfl rfl <| stw rfl <| lens rfl fun l441 => st rfl <| mvc cI (0 : Int) rfl <| seqN [(1, .d ((cLs (cXVariable cS cI) rfl).enc v1)), (2, .d ((cLs (cXTable cI (cLs cI rfl) (cLs cI rfl) cI) rfl).enc v2)), (3, .d ((cLs (cXTable cI (cLs cI rfl) (cLs cI rfl) cI) rfl).enc v3)), (4, .box ((cXGeo (cLs cI rfl)).enc v0)), (11, .box ((cXTable cI (cLs cI rfl) (cLs cI rfl) cI).enc x249)), (12, .d (cB.enc false)), (27, .d ((cLs (cXTable cI (cLs cI rfl) (cLs cI rfl) cI) rfl).enc v3)), (28, .d (cI.enc (v3.length : Int))), (29, .d (cI.enc (k248 : Int))), (33, .d ((cLs (cXTable cI (cLs cI rfl) (cLs cI rfl) cI) rfl).enc v2)), (34, .d (cI.enc (v2.length : Int))), (35, .d (cI.enc (0 : Int)))] (by kernel_rfl) <|
    xn <| wpC_blk <| lpR (fun (k443 : Nat) (s442 : Bool) => [(1, .d ((cLs (cXVariable cS cI) rfl).enc v1)), (2, .d ((cLs (cXTable cI (cLs cI rfl) (cLs cI rfl) cI) rfl).enc v2)), (3, .d ((cLs (cXTable cI (cLs cI rfl) (cLs cI rfl) cI) rfl).enc v3)), (4, .box ((cXGeo (cLs cI rfl)).enc v0)), (11, .box ((cXTable cI (cLs cI rfl) (cLs cI rfl) cI).enc x249)), (12, .d (cB.enc s442)), (27, .d ((cLs (cXTable cI (cLs cI rfl) (cLs cI rfl) cI) rfl).enc v3)), (28, .d (cI.enc (v3.length : Int))), (29, .d (cI.enc (k248 : Int))), (33, .d ((cLs (cXTable cI (cLs cI rfl) (cLs cI rfl) cI) rfl).enc v2)), (34, .d (cI.enc (v2.length : Int))), (35, .d (cI.enc (k443 : Int)))]) false rfl h
    (fun G459 s442 h => wpC_seq <| reg_s <| st rfl <| b_lss (k := .i64) rfl rfl <| seqN [(1, .d ((cLs (cXVariable cS cI) rfl).enc v1)), (2, .d ((cLs (cXTable cI (cLs cI rfl) (cLs cI rfl) cI) rfl).enc v2)), (3, .d ((cLs (cXTable cI (cLs cI rfl) (cLs cI rfl) cI) rfl).enc v3)), (4, .box ((cXGeo (cLs cI rfl)).enc v0)), (11, .box ((cXTable cI (cLs cI rfl) (cLs cI rfl) cI).enc x249)), (12, .d (cB.enc s442)), (27, .d ((cLs (cXTable cI (cLs cI rfl) (cLs cI rfl) cI) rfl).enc v3)), (28, .d (cI.enc (v3.length : Int))), (29, .d (cI.enc (k248 : Int))), (33, .d ((cLs (cXTable cI (cLs cI rfl) (cLs cI rfl) cI) rfl).enc v2)), (34, .d (cI.enc (v2.length : Int))), (35, .d (cI.enc (v2.length : Int))), (36, .d (cB.enc (decide ((v2.length : Int) < (v2.length : Int)))))] (by kernel_rfl) <|
    xn <| wpC_seq <| wpC_kp <| cnd0 rfl (dlf _) <| wpC_exit <| xt <| xt <| xt <| xb <| kpN [(1, .d ((cLs (cXVariable cS cI) rfl).enc v1)), (2, .d ((cLs (cXTable cI (cLs cI rfl) (cLs cI rfl) cI) rfl).enc v2)), (3, .d ((cLs (cXTable cI (cLs cI rfl) (cLs cI rfl) cI) rfl).enc v3)), (4, .box ((cXGeo (cLs cI rfl)).enc v0)), (12, .d (cB.enc s442)), (27, .d ((cLs (cXTable cI (cLs cI rfl) (cLs cI rfl) cI) rfl).enc v3)), (28, .d (cI.enc (v3.length : Int))), (29, .d (cI.enc (k248 : Int)))] (by kernel_rfl) <| xn <| wpC_seq <| reg_s <| st rfl <| mvd rfl rfl <| st rfl <| o_nt rfl <| seqN [(1, .d ((cLs (cXVariable cS cI) rfl).enc v1)), (2, .d ((cLs (cXTable cI (cLs cI rfl) (cLs cI rfl) cI) rfl).enc v2)), (3, .d ((cLs (cXTable cI (cLs cI rfl) (cLs cI rfl) cI) rfl).enc v3)), (4, .box ((cXGeo (cLs cI rfl)).enc v0)), (27, .d ((cLs (cXTable cI (cLs cI rfl) (cLs cI rfl) cI) rfl).enc v3)), (28, .d (cI.enc (v3.length : Int))), (29, .d (cI.enc (k248 : Int))), (49, .d (cB.enc (!s442)))] (by kernel_rfl) <|
    xn <| cnd rfl h (fun b460 h => wpC_seq <| reg_s <| x_asg (sc cB false rfl) <| x_asg (sc cB true rfl) <| seqN [(8, .d (cB.enc false)), (9, .d (cB.enc true))] (by kernel_rfl) <|
    xn <| wpC_ret <| rb <| rt <| rt <| rt <| rb <| rt <| rt <| re <| fin h (r1 (ss rfl rfl) <| r1 (ss rfl rfl) <| r0) rfl)
    (fun b460 h => wpC_skip <| xbb <| kpN [(1, .d ((cLs (cXVariable cS cI) rfl).enc v1)), (2, .d ((cLs (cXTable cI (cLs cI rfl) (cLs cI rfl) cI) rfl).enc v2)), (3, .d ((cLs (cXTable cI (cLs cI rfl) (cLs cI rfl) cI) rfl).enc v3)), (4, .box ((cXGeo (cLs cI rfl)).enc v0)), (27, .d ((cLs (cXTable cI (cLs cI rfl) (cLs cI rfl) cI) rfl).enc v3)), (28, .d (cI.enc (v3.length : Int))), (29, .d (cI.enc (k248 : Int)))] (by kernel_rfl) <| xn <| reg_s <| st rfl <| b_inc rfl rfl l246 hk250 <| st rfl <| mvd rfl rfl <| seqN [(1, .d ((cLs (cXVariable cS cI) rfl).enc v1)), (2, .d ((cLs (cXTable cI (cLs cI rfl) (cLs cI rfl) cI) rfl).enc v2)), (3, .d ((cLs (cXTable cI (cLs cI rfl) (cLs cI rfl) cI) rfl).enc v3)), (4, .box ((cXGeo (cLs cI rfl)).enc v0)), (27, .d ((cLs (cXTable cI (cLs cI rfl) (cLs cI rfl) cI) rfl).enc v3)), (28, .d (cI.enc (v3.length : Int))), (29, .d (cI.enc ((k248 + 1 : Nat) : Int)))] (by kernel_rfl) <|
    xn <| hn359 () h))
    (fun G459 nx457 k443 s442 x444 hk445 hx446 hn458 h => wpC_seq <| reg_s <| st rfl <| b_lss (k := .i64) rfl rfl <| seqN [(1, .d ((cLs (cXVariable cS cI) rfl).enc v1)), (2, .d ((cLs (cXTable cI (cLs cI rfl) (cLs cI rfl) cI) rfl).enc v2)), (3, .d ((cLs (cXTable cI (cLs cI rfl) (cLs cI rfl) cI) rfl).enc v3)), (4, .box ((cXGeo (cLs cI rfl)).enc v0)), (11, .box ((cXTable cI (cLs cI rfl) (cLs cI rfl) cI).enc x249)), (12, .d (cB.enc s442)), (27, .d ((cLs (cXTable cI (cLs cI rfl) (cLs cI rfl) cI) rfl).enc v3)), (28, .d (cI.enc (v3.length : Int))), (29, .d (cI.enc (k248 : Int))), (33, .d ((cLs (cXTable cI (cLs cI rfl) (cLs cI rfl) cI) rfl).enc v2)), (34, .d (cI.enc (v2.length : Int))), (35, .d (cI.enc (k443 : Int))), (36, .d (cB.enc (decide ((k443 : Int) < (v2.length : Int)))))] (by kernel_rfl) <|
    xn <| wpC_seq <| wpC_kp <| cnd1 rfl (dlt hk445) <| wpC_skip <| kpN [(1, .d ((cLs (cXVariable cS cI) rfl).enc v1)), (2, .d ((cLs (cXTable cI (cLs cI rfl) (cLs cI rfl) cI) rfl).enc v2)), (3, .d ((cLs (cXTable cI (cLs cI rfl) (cLs cI rfl) cI) rfl).enc v3)), (4, .box ((cXGeo (cLs cI rfl)).enc v0)), (11, .box ((cXTable cI (cLs cI rfl) (cLs cI rfl) cI).enc x249)), (12, .d (cB.enc s442)), (27, .d ((cLs (cXTable cI (cLs cI rfl) (cLs cI rfl) cI) rfl).enc v3)), (28, .d (cI.enc (v3.length : Int))), (29, .d (cI.enc (k248 : Int))), (33, .d ((cLs (cXTable cI (cLs cI rfl) (cLs cI rfl) cI) rfl).enc v2)), (34, .d (cI.enc (v2.length : Int))), (35, .d (cI.enc (k443 : Int)))] (by kernel_rfl) <| xn <| wpC_seq <| wpC_kp <| wpC_blk <| wpC_seq <| reg_s <| st rfl <| ias rfl rfl (Int.natCast_nonneg _) hx446 rfl <| st rfl <| ldi rfl rfl rfl rfl <| x_all (cXTable cI (cLo cI) (cLo cI) cI) (⟨(0 : Int), ([] : List Int), ([] : List Int), (0 : Int)⟩ : XTable) rfl <| x_stb (ss rfl rfl) rfl (Cd.h_sz _ _) rfl <| seqN [(1, .d ((cLs (cXVariable cS cI) rfl).enc v1)), (2, .d ((cLs (cXTable cI (cLs cI rfl) (cLs cI rfl) cI) rfl).enc v2)), (3, .d ((cLs (cXTable cI (cLs cI rfl) (cLs cI rfl) cI) rfl).enc v3)), (4, .box ((cXGeo (cLs cI rfl)).enc v0)), (11, .box ((cXTable cI (cLs cI rfl) (cLs cI rfl) cI).enc x249)), (12, .d (cB.enc s442)), (14, .box ((cXTable cI (cLs cI rfl) (cLs cI rfl) cI).enc x444)), (27, .d ((cLs (cXTable cI (cLs cI rfl) (cLs cI rfl) cI) rfl).enc v3)), (28, .d (cI.enc (v3.length : Int))), (29, .d (cI.enc (k248 : Int))), (33, .d ((cLs (cXTable cI (cLs cI rfl) (cLs cI rfl) cI) rfl).enc v2)), (34, .d (cI.enc (v2.length : Int))), (35, .d (cI.enc (k443 : Int)))] (by kernel_rfl) <|
    xn <| reg_s <| st rfl <| mvd rfl rfl <| st rfl <| mvd rfl rfl <| ite_k h (fun b464 h => gf rfl b464 <| gf rfl b464 <| gf rfl b464 <| gf rfl b464 <| gf rfl b464 <| st rfl <| pick1 rfl b464 (cd := cB) (v := true) rfl rfl <| x_asg (ss rfl rfl) <| seqN [(1, .d ((cLs (cXVariable cS cI) rfl).enc v1)), (2, .d ((cLs (cXTable cI (cLs cI rfl) (cLs cI rfl) cI) rfl).enc v2)), (3, .d ((cLs (cXTable cI (cLs cI rfl) (cLs cI rfl) cI) rfl).enc v3)), (4, .box ((cXGeo (cLs cI rfl)).enc v0)), (11, .box ((cXTable cI (cLs cI rfl) (cLs cI rfl) cI).enc x249)), (12, .d (cB.enc true)), (27, .d ((cLs (cXTable cI (cLs cI rfl) (cLs cI rfl) cI) rfl).enc v3)), (28, .d (cI.enc (v3.length : Int))), (29, .d (cI.enc (k248 : Int))), (33, .d ((cLs (cXTable cI (cLs cI rfl) (cLs cI rfl) cI) rfl).enc v2)), (34, .d (cI.enc (v2.length : Int))), (35, .d (cI.enc (k443 : Int)))] (by kernel_rfl) <|
    xbb <| kpN [(1, .d ((cLs (cXVariable cS cI) rfl).enc v1)), (2, .d ((cLs (cXTable cI (cLs cI rfl) (cLs cI rfl) cI) rfl).enc v2)), (3, .d ((cLs (cXTable cI (cLs cI rfl) (cLs cI rfl) cI) rfl).enc v3)), (4, .box ((cXGeo (cLs cI rfl)).enc v0)), (11, .box ((cXTable cI (cLs cI rfl) (cLs cI rfl) cI).enc x249)), (12, .d (cB.enc true)), (27, .d ((cLs (cXTable cI (cLs cI rfl) (cLs cI rfl) cI) rfl).enc v3)), (28, .d (cI.enc (v3.length : Int))), (29, .d (cI.enc (k248 : Int))), (33, .d ((cLs (cXTable cI (cLs cI rfl) (cLs cI rfl) cI) rfl).enc v2)), (34, .d (cI.enc (v2.length : Int))), (35, .d (cI.enc (k443 : Int)))] (by kernel_rfl) <| xn <| reg_s <| st rfl <| b_inc rfl rfl l441 hk445 <| st rfl <| mvd rfl rfl <| seqN [(1, .d ((cLs (cXVariable cS cI) rfl).enc v1)), (2, .d ((cLs (cXTable cI (cLs cI rfl) (cLs cI rfl) cI) rfl).enc v2)), (3, .d ((cLs (cXTable cI (cLs cI rfl) (cLs cI rfl) cI) rfl).enc v3)), (4, .box ((cXGeo (cLs cI rfl)).enc v0)), (11, .box ((cXTable cI (cLs cI rfl) (cLs cI rfl) cI).enc x249)), (12, .d (cB.enc true)), (27, .d ((cLs (cXTable cI (cLs cI rfl) (cLs cI rfl) cI) rfl).enc v3)), (28, .d (cI.enc (v3.length : Int))), (29, .d (cI.enc (k248 : Int))), (33, .d ((cLs (cXTable cI (cLs cI rfl) (cLs cI rfl) cI) rfl).enc v2)), (34, .d (cI.enc (v2.length : Int))), (35, .d (cI.enc ((k443 + 1 : Nat) : Int)))] (by kernel_rfl) <|
    xn <| hn458 true h)
    (fun b464 h => gt' rfl b464 <| st rfl <| ldb rfl rfl rfl rfl <| gt' rfl b464 <| st rfl <| mvd rfl rfl <| gt' rfl b464 <| st rfl <| ldb rfl rfl rfl rfl <| gt' rfl b464 <| st rfl <| ldb rfl rfl rfl rfl <| gt' rfl b464 <| bnd h fun x465 e466 h => st rfl <| o_call (a1 (c := (cXGeo (cLs cI rfl))) (tXGeo (tLs tK)) rfl (a1 (c := (cLs (cXVariable cS cI) rfl)) (tLs (tXVariable tS tK)) rfl (a1 (c := (cXTable cI (cLs cI rfl) (cLs cI rfl) cI)) (tXTable tK (tLs tK) (tLs tK) tK) rfl (a1 (c := (cXTable cI (cLs cI rfl) (cLs cI rfl) cI)) (tXTable tK (tLs tK) (tLs tK) tK) rfl a0)))) (con_spec_lFollows e466) (.inl (so1 sB so0)) <| st rfl <| pick0 rfl b464 (cd := cB) (v := x465) rfl rfl <| x_asg (ss rfl rfl) <| seqN [(1, .d ((cLs (cXVariable cS cI) rfl).enc v1)), (2, .d ((cLs (cXTable cI (cLs cI rfl) (cLs cI rfl) cI) rfl).enc v2)), (3, .d ((cLs (cXTable cI (cLs cI rfl) (cLs cI rfl) cI) rfl).enc v3)), (4, .box ((cXGeo (cLs cI rfl)).enc v0)), (11, .box ((cXTable cI (cLs cI rfl) (cLs cI rfl) cI).enc x249)), (12, .d (cB.enc x465)), (27, .d ((cLs (cXTable cI (cLs cI rfl) (cLs cI rfl) cI) rfl).enc v3)), (28, .d (cI.enc (v3.length : Int))), (29, .d (cI.enc (k248 : Int))), (33, .d ((cLs (cXTable cI (cLs cI rfl) (cLs cI rfl) cI) rfl).enc v2)), (34, .d (cI.enc (v2.length : Int))), (35, .d (cI.enc (k443 : Int)))] (by kernel_rfl) <|
    xbb <| kpN [(1, .d ((cLs (cXVariable cS cI) rfl).enc v1)), (2, .d ((cLs (cXTable cI (cLs cI rfl) (cLs cI rfl) cI) rfl).enc v2)), (3, .d ((cLs (cXTable cI (cLs cI rfl) (cLs cI rfl) cI) rfl).enc v3)), (4, .box ((cXGeo (cLs cI rfl)).enc v0)), (11, .box ((cXTable cI (cLs cI rfl) (cLs cI rfl) cI).enc x249)), (12, .d (cB.enc x465)), (27, .d ((cLs (cXTable cI (cLs cI rfl) (cLs cI rfl) cI) rfl).enc v3)), (28, .d (cI.enc (v3.length : Int))), (29, .d (cI.enc (k248 : Int))), (33, .d ((cLs (cXTable cI (cLs cI rfl) (cLs cI rfl) cI) rfl).enc v2)), (34, .d (cI.enc (v2.length : Int))), (35, .d (cI.enc (k443 : Int)))] (by kernel_rfl) <| xn <| reg_s <| st rfl <| b_inc rfl rfl l441 hk445 <| st rfl <| mvd rfl rfl <| seqN [(1, .d ((cLs (cXVariable cS cI) rfl).enc v1)), (2, .d ((cLs (cXTable cI (cLs cI rfl) (cLs cI rfl) cI) rfl).enc v2)), (3, .d ((cLs (cXTable cI (cLs cI rfl) (cLs cI rfl) cI) rfl).enc v3)), (4, .box ((cXGeo (cLs cI rfl)).enc v0)), (11, .box ((cXTable cI (cLs cI rfl) (cLs cI rfl) cI).enc x249)), (12, .d (cB.enc x465)), (27, .d ((cLs (cXTable cI (cLs cI rfl) (cLs cI rfl) cI) rfl).enc v3)), (28, .d (cI.enc (v3.length : Int))), (29, .d (cI.enc (k248 : Int))), (33, .d ((cLs (cXTable cI (cLs cI rfl) (cLs cI rfl) cI) rfl).enc v2)), (34, .d (cI.enc (v2.length : Int))), (35, .d (cI.enc ((k443 + 1 : Nat) : Int)))] (by kernel_rfl) <|
    xn <| hn458 x465 h)))))

def rs_impl_CoversPlan_1 (r : Bool) : List D := [cB.enc r]
def m60 : MC := .seq (.reg [⟨some 4, .box (.t 0), none⟩,
    ⟨some 5, .asg (.c (.bool false)), none⟩] [1, 2, 3, 4])
  (.seq (.reg [⟨some 6, .ld 1 1 true, none⟩,
    ⟨some 7, .ld 2 1 false, none⟩,
    ⟨some 8, .ld 3 4 true, none⟩,
    ⟨some 9, .ld 4 4 true, none⟩,
    ⟨some 10, .call 61 [(.t 6), (.t 7), (.t 8), (.t 9)], none⟩,
    ⟨some 5, .asg (.t 10), none⟩] [5])
  (.ret))
theorem con_impl_CoversPlan_1 {v0 : XTable} {v1 : XGeo} {v2 : (List XVariable)} {v3 : XTable} {r : Bool} (h : sh_impl_CoversPlan_1 v0 v1 v2 v3 = some r) : Con Try.prog 60 [(cXTable cI (cLs cI rfl) (cLs cI rfl) cI).enc v0, (cP false (cXGeo (cLs cI rfl))).enc v1, (cP false (cLs (cXVariable cS cI) rfl)).enc v2, (cP false (cXTable cI (cLs cI rfl) (cLs cI rfl) cI)).enc v3] [] (rs_impl_CoversPlan_1 r) := by
  delta sh_impl_CoversPlan_1 at h
  refine top (out := none) (f := Try.f60) (m := m60) (rs := [.t 5]) (by kernel_rfl) rfl (by kernel_rfl) (by kernel_rfl) (by kernel_rfl) (by kernel_rfl) (by kernel_rfl) ?_
  exact
   ini [(0, .d ((cXTable cI (cLs cI rfl) (cLs cI rfl) cI).enc v0)), (1, .ima ((cXGeo (cLs cI rfl)).enc v1)), (2, .ima ((cLs (cXVariable cS cI) rfl).enc v2)), (3, .ima ((cXTable cI (cLs cI rfl) (cLs cI rfl) cI).enc v3))] rfl <| wpC_seq <| reg_s <| x_box (ss rfl rfl) <| x_asg (sc cB false rfl) <| seqN [(1, .ima ((cXGeo (cLs cI rfl)).enc v1)), (2, .ima ((cLs (cXVariable cS cI) rfl).enc v2)), (3, .ima ((cXTable cI (cLs cI rfl) (cLs cI rfl) cI).enc v3)), (4, .box ((cXTable cI (cLs cI rfl) (cLs cI rfl) cI).enc v0))] (by kernel_rfl) <|
    xn <| wpC_seq <| reg_s <| st rfl <| ldi rfl rfl rfl rfl <| st rfl <| ldi rfl rfl rfl rfl <| st rfl <| ldi rfl rfl rfl rfl <| st rfl <| ldb rfl rfl rfl rfl <| bnd h fun x3 e4 h => st rfl <| o_call (a1 (c := (cXGeo (cLs cI rfl))) (tXGeo (tLs tK)) rfl (a1 (c := (cLs (cXVariable cS cI) rfl)) (tLs (tXVariable tS tK)) rfl (a1 (c := (cXTable cI (cLs cI rfl) (cLs cI rfl) cI)) (tXTable tK (tLs tK) (tLs tK) tK) rfl (a1 (c := (cXTable cI (cLs cI rfl) (cLs cI rfl) cI)) (tXTable tK (tLs tK) (tLs tK) tK) rfl a0)))) (con_impl_followsFrom e4) (.inl (so1 sB so0)) <| x_asg (ss rfl rfl) <| seqN [(5, .d (cB.enc x3))] (by kernel_rfl) <|
    xn <| wpC_ret <| re <| fin h (r1 (ss rfl rfl) <| r0) rfl

def rs_slices_IndexFunc_impl_Table_impl_Table_impl_CoversPlan_1 (r : Int) : List D := [cI.enc r]
def m97_60 : MC := .seq (.reg [⟨some 4, .asg (.c (.int .i64 0)), none⟩] [0, 1])
  (.seq (.kp [] (.seq (.reg [⟨some 6, .mv (.t 0), none⟩,
    ⟨some 7, .len false (.t 6), none⟩,
    ⟨some 8, .mv (.c (.int .i64 0)), none⟩] [0, 1, 7, 8])
  (.blk 0 (.loop (.seq (.reg [⟨some 9, .bin .lss (.t 8) (.t 7), none⟩] [0, 1, 7, 8, 9])
  (.seq (.kp [0, 1, 7, 8] (.cond (.t 9) (.skip) (.exit 0)))
  (.seq (.kp [0, 1, 7, 8] (.blk 1 (.seq (.reg [⟨some 10, .mv (.t 8), none⟩,
    ⟨some 5, .asg (.t 10), none⟩] [0, 1, 5, 7, 8])
  (.seq (.reg [⟨some 11, .mv (.t 1), none⟩,
    ⟨some 12, .mv (.t 0), none⟩,
    ⟨some 13, .mv (.t 5), none⟩,
    ⟨some 14, .ia 12 (.t 13) 4, none⟩,
    ⟨some 15, .ld 14 4 true, none⟩,
    ⟨some 16, .callf 11 [(false, (.t 15))], none⟩] [0, 1, 5, 7, 8, 16])
  (.cond (.t 16) (.seq (.reg [⟨some 17, .mv (.t 5), none⟩,
    ⟨some 4, .asg (.t 17), none⟩] [4])
  (.ret)) (.skip))))))
  (.reg [⟨some 18, .bin .add (.t 8) (.c (.int .i64 1)), none⟩,
    ⟨some 8, .mv (.t 18), none⟩] [0, 1, 7, 8]))))))))
  (.seq (.reg [⟨some 4, .asg (.c (.int .i64 (-1))), none⟩] [4])
  (.ret)))
theorem con_slices_IndexFunc_impl_Table_impl_Table_impl_CoversPlan_1 {v0 : (List XTable)} {v1 : (XGeo × (List XVariable) × XTable)} {r : Int} (h : sh_slices_IndexFunc_impl_Table_impl_Table_impl_CoversPlan_1 v0 v1 = some r) : Con Try.prog 97 [(cLs (cXTable cI (cLs cI rfl) (cLs cI rfl) cI) rfl).enc v0, (cFn 60 (fun (v : (XGeo × (List XVariable) × XTable)) => [.ptr false ((cXGeo (cLs cI rfl)).enc v.1), .ptr false ((cLs (cXVariable cS cI) rfl).enc v.2.1), .ptr false ((cXTable cI (cLs cI rfl) (cLs cI rfl) cI).enc v.2.2)]) true (fun _ => (im1 rfl (im1 rfl (im1 rfl im0))))).enc v1] [] (rs_slices_IndexFunc_impl_Table_impl_Table_impl_CoversPlan_1 r) := by
  delta sh_slices_IndexFunc_impl_Table_impl_Table_impl_CoversPlan_1 at h
  refine top (out := none) (f := Try.f97) (m := m97_60) (rs := [.t 4]) (by kernel_rfl) rfl (by kernel_rfl) (by kernel_rfl) (by kernel_rfl) (by kernel_rfl) (by kernel_rfl) ?_
  exact
   ini [(0, .d ((cLs (cXTable cI (cLs cI rfl) (cLs cI rfl) cI) rfl).enc v0)), (1, .d ((cFn 60 (fun (v : (XGeo × (List XVariable) × XTable)) => [.ptr false ((cXGeo (cLs cI rfl)).enc v.1), .ptr false ((cLs (cXVariable cS cI) rfl).enc v.2.1), .ptr false ((cXTable cI (cLs cI rfl) (cLs cI rfl) cI).enc v.2.2)]) true (fun _ => (im1 rfl (im1 rfl (im1 rfl im0))))).enc (v1.1, v1.2.1, v1.2.2)))] rfl <| wpC_seq <| reg_s <| x_asg (sc cI (0 : Int) rfl) <| seqN [(0, .d ((cLs (cXTable cI (cLs cI rfl) (cLs cI rfl) cI) rfl).enc v0)), (1, .d ((cFn 60 (fun (v : (XGeo × (List XVariable) × XTable)) => [.ptr false ((cXGeo (cLs cI rfl)).enc v.1), .ptr false ((cLs (cXVariable cS cI) rfl).enc v.2.1), .ptr false ((cXTable cI (cLs cI rfl) (cLs cI rfl) cI).enc v.2.2)]) true (fun _ => (im1 rfl (im1 rfl (im1 rfl im0))))).enc (v1.1, v1.2.1, v1.2.2)))] (by kernel_rfl) <|
    xn <| wpC_seq <| wpC_kp <| wpC_seq <| reg_s <| st rfl <| mvd rfl rfl <| stw rfl <| lens rfl fun l32 => st rfl <| mvc cI (0 : Int) rfl <| seqN [(0, .d ((cLs (cXTable cI (cLs cI rfl) (cLs cI rfl) cI) rfl).enc v0)), (1, .d ((cFn 60 (fun (v : (XGeo × (List XVariable) × XTable)) => [.ptr false ((cXGeo (cLs cI rfl)).enc v.1), .ptr false ((cLs (cXVariable cS cI) rfl).enc v.2.1), .ptr false ((cXTable cI (cLs cI rfl) (cLs cI rfl) cI).enc v.2.2)]) true (fun _ => (im1 rfl (im1 rfl (im1 rfl im0))))).enc (v1.1, v1.2.1, v1.2.2))), (7, .d (cI.enc (v0.length : Int))), (8, .d (cI.enc (0 : Int)))] (by kernel_rfl) <|
    xn <| wpC_blk <| lpR (fun (k34 : Nat) (s33 : Unit) => [(0, .d ((cLs (cXTable cI (cLs cI rfl) (cLs cI rfl) cI) rfl).enc v0)), (1, .d ((cFn 60 (fun (v : (XGeo × (List XVariable) × XTable)) => [.ptr false ((cXGeo (cLs cI rfl)).enc v.1), .ptr false ((cLs (cXVariable cS cI) rfl).enc v.2.1), .ptr false ((cXTable cI (cLs cI rfl) (cLs cI rfl) cI).enc v.2.2)]) true (fun _ => (im1 rfl (im1 rfl (im1 rfl im0))))).enc (v1.1, v1.2.1, v1.2.2))), (7, .d (cI.enc (v0.length : Int))), (8, .d (cI.enc (k34 : Int)))]) () rfl h
    (fun G50 s33 h => wpC_seq <| reg_s <| st rfl <| b_lss (k := .i64) rfl rfl <| seqN [(0, .d ((cLs (cXTable cI (cLs cI rfl) (cLs cI rfl) cI) rfl).enc v0)), (1, .d ((cFn 60 (fun (v : (XGeo × (List XVariable) × XTable)) => [.ptr false ((cXGeo (cLs cI rfl)).enc v.1), .ptr false ((cLs (cXVariable cS cI) rfl).enc v.2.1), .ptr false ((cXTable cI (cLs cI rfl) (cLs cI rfl) cI).enc v.2.2)]) true (fun _ => (im1 rfl (im1 rfl (im1 rfl im0))))).enc (v1.1, v1.2.1, v1.2.2))), (7, .d (cI.enc (v0.length : Int))), (8, .d (cI.enc (v0.length : Int))), (9, .d (cB.enc (decide ((v0.length : Int) < (v0.length : Int)))))] (by kernel_rfl) <|
    xn <| wpC_seq <| wpC_kp <| cnd0 rfl (dlf _) <| wpC_exit <| xt <| xt <| xt <| xb <| kpN [] (by kernel_rfl) <| xn <| wpC_seq <| reg_s <| x_asg (sc cI (-1 : Int) rfl) <| seqN [(4, .d (cI.enc (-1 : Int)))] (by kernel_rfl) <|
    xn <| wpC_ret <| re <| fin h (r1 (ss rfl rfl) <| r0) rfl)
    (fun G50 nx48 k34 s33 x35 hk36 hx37 hn49 h => wpC_seq <| reg_s <| st rfl <| b_lss (k := .i64) rfl rfl <| seqN [(0, .d ((cLs (cXTable cI (cLs cI rfl) (cLs cI rfl) cI) rfl).enc v0)), (1, .d ((cFn 60 (fun (v : (XGeo × (List XVariable) × XTable)) => [.ptr false ((cXGeo (cLs cI rfl)).enc v.1), .ptr false ((cLs (cXVariable cS cI) rfl).enc v.2.1), .ptr false ((cXTable cI (cLs cI rfl) (cLs cI rfl) cI).enc v.2.2)]) true (fun _ => (im1 rfl (im1 rfl (im1 rfl im0))))).enc (v1.1, v1.2.1, v1.2.2))), (7, .d (cI.enc (v0.length : Int))), (8, .d (cI.enc (k34 : Int))), (9, .d (cB.enc (decide ((k34 : Int) < (v0.length : Int)))))] (by kernel_rfl) <|
    xn <| wpC_seq <| wpC_kp <| cnd1 rfl (dlt hk36) <| wpC_skip <| kpN [(0, .d ((cLs (cXTable cI (cLs cI rfl) (cLs cI rfl) cI) rfl).enc v0)), (1, .d ((cFn 60 (fun (v : (XGeo × (List XVariable) × XTable)) => [.ptr false ((cXGeo (cLs cI rfl)).enc v.1), .ptr false ((cLs (cXVariable cS cI) rfl).enc v.2.1), .ptr false ((cXTable cI (cLs cI rfl) (cLs cI rfl) cI).enc v.2.2)]) true (fun _ => (im1 rfl (im1 rfl (im1 rfl im0))))).enc (v1.1, v1.2.1, v1.2.2))), (7, .d (cI.enc (v0.length : Int))), (8, .d (cI.enc (k34 : Int)))] (by kernel_rfl) <| xn <| wpC_seq <| wpC_kp <| wpC_blk <| wpC_seq <| reg_s <| st rfl <| mvd rfl rfl <| x_asg (ss rfl rfl) <| seqN [(0, .d ((cLs (cXTable cI (cLs cI rfl) (cLs cI rfl) cI) rfl).enc v0)), (1, .d ((cFn 60 (fun (v : (XGeo × (List XVariable) × XTable)) => [.ptr false ((cXGeo (cLs cI rfl)).enc v.1), .ptr false ((cLs (cXVariable cS cI) rfl).enc v.2.1), .ptr false ((cXTable cI (cLs cI rfl) (cLs cI rfl) cI).enc v.2.2)]) true (fun _ => (im1 rfl (im1 rfl (im1 rfl im0))))).enc (v1.1, v1.2.1, v1.2.2))), (5, .d (cI.enc (k34 : Int))), (7, .d (cI.enc (v0.length : Int))), (8, .d (cI.enc (k34 : Int)))] (by kernel_rfl) <|
    xn <| wpC_seq <| reg_s <| st rfl <| mvd rfl rfl <| st rfl <| mvd rfl rfl <| st rfl <| mvd rfl rfl <| st rfl <| ias rfl rfl (Int.natCast_nonneg _) hx37 rfl <| st rfl <| ldi rfl rfl rfl rfl <| bnd h fun x58 e59 h => x_cf (cFn 60 (fun (v : (XGeo × (List XVariable) × XTable)) => [.ptr false ((cXGeo (cLs cI rfl)).enc v.1), .ptr false ((cLs (cXVariable cS cI) rfl).enc v.2.1), .ptr false ((cXTable cI (cLs cI rfl) (cLs cI rfl) cI).enc v.2.2)]) true (fun _ => (im1 rfl (im1 rfl (im1 rfl im0))))) (v1.1, v1.2.1, v1.2.2) (fad rfl rfl) k0 (m2 (tXTable tK (tLs tK) (tLs tK) tK) rfl m0) rfl (con_impl_CoversPlan_1 e59) (cls rfl (cls rfl (cls rfl cl0))) (so1 sB so0) <| seqN [(0, .d ((cLs (cXTable cI (cLs cI rfl) (cLs cI rfl) cI) rfl).enc v0)), (1, .d ((cFn 60 (fun (v : (XGeo × (List XVariable) × XTable)) => [.ptr false ((cXGeo (cLs cI rfl)).enc v.1), .ptr false ((cLs (cXVariable cS cI) rfl).enc v.2.1), .ptr false ((cXTable cI (cLs cI rfl) (cLs cI rfl) cI).enc v.2.2)]) true (fun _ => (im1 rfl (im1 rfl (im1 rfl im0))))).enc (v1.1, v1.2.1, v1.2.2))), (5, .d (cI.enc (k34 : Int))), (7, .d (cI.enc (v0.length : Int))), (8, .d (cI.enc (k34 : Int))), (16, .d (cB.enc x58))] (by kernel_rfl) <|
    xn <| cnd rfl h (fun b60 h => wpC_seq <| reg_s <| st rfl <| mvd rfl rfl <| x_asg (ss rfl rfl) <| seqN [(4, .d (cI.enc (k34 : Int)))] (by kernel_rfl) <|
    xn <| wpC_ret <| rb <| rt <| rt <| rt <| rb <| rt <| rt <| re <| fin h (r1 (ss rfl rfl) <| r0) rfl)
    (fun b60 h => wpC_skip <| xbb <| kpN [(0, .d ((cLs (cXTable cI (cLs cI rfl) (cLs cI rfl) cI) rfl).enc v0)), (1, .d ((cFn 60 (fun (v : (XGeo × (List XVariable) × XTable)) => [.ptr false ((cXGeo (cLs cI rfl)).enc v.1), .ptr false ((cLs (cXVariable cS cI) rfl).enc v.2.1), .ptr false ((cXTable cI (cLs cI rfl) (cLs cI rfl) cI).enc v.2.2)]) true (fun _ => (im1 rfl (im1 rfl (im1 rfl im0))))).enc (v1.1, v1.2.1, v1.2.2))), (7, .d (cI.enc (v0.length : Int))), (8, .d (cI.enc (k34 : Int)))] (by kernel_rfl) <| xn <| reg_s <| st rfl <| b_inc rfl rfl l32 hk36 <| st rfl <| mvd rfl rfl <| seqN [(0, .d ((cLs (cXTable cI (cLs cI rfl) (cLs cI rfl) cI) rfl).enc v0)), (1, .d ((cFn 60 (fun (v : (XGeo × (List XVariable) × XTable)) => [.ptr false ((cXGeo (cLs cI rfl)).enc v.1), .ptr false ((cLs (cXVariable cS cI) rfl).enc v.2.1), .ptr false ((cXTable cI (cLs cI rfl) (cLs cI rfl) cI).enc v.2.2)]) true (fun _ => (im1 rfl (im1 rfl (im1 rfl im0))))).enc (v1.1, v1.2.1, v1.2.2))), (7, .d (cI.enc (v0.length : Int))), (8, .d (cI.enc ((k34 + 1 : Nat) : Int)))] (by kernel_rfl) <|
    xn <| hn49 () h))

def rs_slices_ContainsFunc_impl_Table_impl_Table_impl_CoversPlan_1 (r : Bool) : List D := [cB.enc r]
def m59_60 : MC := .seq (.reg [⟨some 4, .asg (.c (.bool false)), none⟩] [0, 1])
  (.seq (.reg [⟨some 5, .mv (.t 0), none⟩,
    ⟨some 6, .mv (.t 1), none⟩,
    ⟨some 7, .call 97 [(.t 5), (.t 6)], none⟩,
    ⟨some 8, .bin .geq (.t 7) (.c (.int .i64 0)), none⟩,
    ⟨some 4, .asg (.t 8), none⟩] [4])
  (.ret))
theorem con_slices_ContainsFunc_impl_Table_impl_Table_impl_CoversPlan_1 {v0 : (List XTable)} {v1 : (XGeo × (List XVariable) × XTable)} {r : Bool} (h : sh_slices_ContainsFunc_impl_Table_impl_Table_impl_CoversPlan_1 v0 v1 = some r) : Con Try.prog 59 [(cLs (cXTable cI (cLs cI rfl) (cLs cI rfl) cI) rfl).enc v0, (cFn 60 (fun (v : (XGeo × (List XVariable) × XTable)) => [.ptr false ((cXGeo (cLs cI rfl)).enc v.1), .ptr false ((cLs (cXVariable cS cI) rfl).enc v.2.1), .ptr false ((cXTable cI (cLs cI rfl) (cLs cI rfl) cI).enc v.2.2)]) true (fun _ => (im1 rfl (im1 rfl (im1 rfl im0))))).enc v1] [] (rs_slices_ContainsFunc_impl_Table_impl_Table_impl_CoversPlan_1 r) := by
  delta sh_slices_ContainsFunc_impl_Table_impl_Table_impl_CoversPlan_1 at h
  refine top (out := none) (f := Try.f59) (m := m59_60) (rs := [.t 4]) (by kernel_rfl) rfl (by kernel_rfl) (by kernel_rfl) (by kernel_rfl) (by kernel_rfl) (by kernel_rfl) ?_
  exact
   ini [(0, .d ((cLs (cXTable cI (cLs cI rfl) (cLs cI rfl) cI) rfl).enc v0)), (1, .d ((cFn 60 (fun (v : (XGeo × (List XVariable) × XTable)) => [.ptr false ((cXGeo (cLs cI rfl)).enc v.1), .ptr false ((cLs (cXVariable cS cI) rfl).enc v.2.1), .ptr false ((cXTable cI (cLs cI rfl) (cLs cI rfl) cI).enc v.2.2)]) true (fun _ => (im1 rfl (im1 rfl (im1 rfl im0))))).enc (v1.1, v1.2.1, v1.2.2)))] rfl <| wpC_seq <| reg_s <| x_asg (sc cB false rfl) <| seqN [(0, .d ((cLs (cXTable cI (cLs cI rfl) (cLs cI rfl) cI) rfl).enc v0)), (1, .d ((cFn 60 (fun (v : (XGeo × (List XVariable) × XTable)) => [.ptr false ((cXGeo (cLs cI rfl)).enc v.1), .ptr false ((cLs (cXVariable cS cI) rfl).enc v.2.1), .ptr false ((cXTable cI (cLs cI rfl) (cLs cI rfl) cI).enc v.2.2)]) true (fun _ => (im1 rfl (im1 rfl (im1 rfl im0))))).enc (v1.1, v1.2.1, v1.2.2)))] (by kernel_rfl) <|
    xn <| wpC_seq <| reg_s <| st rfl <| mvd rfl rfl <| st rfl <| mvd rfl rfl <| bnd h fun x3 e4 h => st rfl <| o_call (a1 (c := (cLs (cXTable cI (cLs cI rfl) (cLs cI rfl) cI) rfl)) (tLs (tXTable tK (tLs tK) (tLs tK) tK)) rfl (a1 (c := (cFn 60 (fun (v : (XGeo × (List XVariable) × XTable)) => [.ptr false ((cXGeo (cLs cI rfl)).enc v.1), .ptr false ((cLs (cXVariable cS cI) rfl).enc v.2.1), .ptr false ((cXTable cI (cLs cI rfl) (cLs cI rfl) cI).enc v.2.2)]) true (fun _ => (im1 rfl (im1 rfl (im1 rfl im0)))))) (tFn (fun _ => (ti1 (tXGeo (tLs tK)) (ti1 (tLs (tXVariable tS tK)) (ti1 (tXTable tK (tLs tK) (tLs tK) tK) ti0))))) rfl a0)) (con_slices_IndexFunc_impl_Table_impl_Table_impl_CoversPlan_1 e4) (.inl (so1 sK so0)) <| st rfl <| b_geq (k := .i64) rfl rfl <| x_asg (ss rfl rfl) <| seqN [(4, .d (cB.enc (decide ((0 : Int) ≤ x3))))] (by kernel_rfl) <|
    xn <| wpC_ret <| re <| fin h (r1 (ss rfl rfl) <| r0) rfl

end AS.W
