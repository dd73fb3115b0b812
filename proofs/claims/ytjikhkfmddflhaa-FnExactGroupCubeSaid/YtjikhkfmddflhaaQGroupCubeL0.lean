/- The program computes the plain functions. No condition. -/
import Derived.Test.YtjikhkfmddflhaaQGroupCubeS
import Derived.Test.YtjikhkfmddflhaaProg
set_option maxRecDepth 100000
set_option linter.unusedVariables false
set_option linter.unusedSimpArgs false
namespace AS.W
open Go Go.Proofs
def rs_spec_l1In (r : Bool) : List D := [cB.enc r]
def m111 : MC := .seq (.reg [⟨some 6, .asg (.c (.bool false)), none⟩] [0, 1, 2])
  (.seq (.reg [⟨some 7, .mv (.t 0), none⟩,
    ⟨some 8, .mv (.t 1), none⟩,
    ⟨some 9, .bin .geq (.t 7) (.t 8), none⟩,
    ⟨some 10, .mv (.t 9), none⟩,
    ⟨some 11, .mv (.t 0), some (10, true)⟩,
    ⟨some 12, .mv (.t 2), some (10, true)⟩,
    ⟨some 13, .bin .leq (.t 11) (.t 12), some (10, true)⟩,
    ⟨some 14, .pick (.t 10) (.t 13) (.c (.bool false)), none⟩,
    ⟨some 6, .asg (.t 14), none⟩] [6])
  (.ret))
theorem con_spec_l1In {v0 : Int} {v1 : Int} {v2 : Int} {r : Bool} (h : sh_spec_l1In v0 v1 v2 = some r) : Con Try.prog 111 [cI.enc v0, cI.enc v1, cI.enc v2] [] (rs_spec_l1In r) := by
  delta sh_spec_l1In at h
  refine top (out := none) (f := Try.f111) (m := m111) (rs := [.t 6]) (by kernel_rfl) rfl (by kernel_rfl) (by kernel_rfl) (by kernel_rfl) (by kernel_rfl) (by kernel_rfl) ?_
  exact
   ini [(0, .d (cI.enc v0)), (1, .d (cI.enc v1)), (2, .d (cI.enc v2))] rfl <| wpC_seq <| reg_s <| x_asg (sc cB false rfl) <| seqN [(0, .d (cI.enc v0)), (1, .d (cI.enc v1)), (2, .d (cI.enc v2))] (by kernel_rfl) <|
    xn <| wpC_seq <| reg_s <| st rfl <| mvd rfl rfl <| st rfl <| mvd rfl rfl <| st rfl <| b_geq (k := .i64) rfl rfl <| st rfl <| mvd rfl rfl <| ite_k h (fun b2 h => gt' rfl b2 <| st rfl <| mvd rfl rfl <| gt' rfl b2 <| st rfl <| mvd rfl rfl <| gt' rfl b2 <| st rfl <| b_leq (k := .i64) rfl rfl <| st rfl <| pick1 rfl b2 (cd := cB) (v := (decide (v0 ≤ v2))) rfl rfl <| x_asg (ss rfl rfl) <| seqN [(6, .d (cB.enc (decide (v0 ≤ v2))))] (by kernel_rfl) <|
    xn <| wpC_ret <| re <| fin h (r1 (ss rfl rfl) <| r0) rfl)
    (fun b2 h => gf rfl b2 <| gf rfl b2 <| gf rfl b2 <| st rfl <| pick0 rfl b2 (cd := cB) (v := false) rfl rfl <| x_asg (ss rfl rfl) <| seqN [(6, .d (cB.enc false))] (by kernel_rfl) <|
    xn <| wpC_ret <| re <| fin h (r1 (ss rfl rfl) <| r0) rfl)

def rs_spec_l1All (r : Bool) : List D := [cB.enc r]
def m144 : MC := .seq (.reg [⟨some 6, .asg (.c (.bool false)), none⟩] [0, 1, 2])
  (.seq (.kp [] (.seq (.reg [⟨some 9, .mv (.t 0), none⟩,
    ⟨some 10, .len false (.t 9), none⟩,
    ⟨some 11, .mv (.c (.int .i64 0)), none⟩] [0, 1, 2, 9, 10, 11])
  (.blk 0 (.loop (.seq (.reg [⟨some 12, .bin .lss (.t 11) (.t 10), none⟩] [0, 1, 2, 9, 10, 11, 12])
  (.seq (.kp [0, 1, 2, 9, 10, 11] (.cond (.t 12) (.skip) (.exit 0)))
  (.seq (.kp [0, 1, 2, 9, 10, 11] (.blk 1 (.seq (.reg [⟨some 13, .ia 9 (.t 11) 1, none⟩,
    ⟨some 14, .ld 13 1 false, none⟩,
    ⟨some 8, .asg (.t 14), none⟩] [0, 1, 2, 8, 9, 10, 11])
  (.seq (.reg [⟨some 15, .mv (.t 8), none⟩,
    ⟨some 16, .mv (.t 1), none⟩,
    ⟨some 17, .mv (.t 2), none⟩,
    ⟨some 18, .call 111 [(.t 15), (.t 16), (.t 17)], none⟩,
    ⟨some 19, .nt (.t 18), none⟩] [0, 1, 2, 9, 10, 11, 19])
  (.cond (.t 19) (.seq (.reg [⟨some 6, .asg (.c (.bool false)), none⟩] [6])
  (.ret)) (.skip))))))
  (.reg [⟨some 20, .bin .add (.t 11) (.c (.int .i64 1)), none⟩,
    ⟨some 11, .mv (.t 20), none⟩] [0, 1, 2, 9, 10, 11]))))))))
  (.seq (.reg [⟨some 6, .asg (.c (.bool true)), none⟩] [6])
  (.ret)))
theorem con_spec_l1All {v0 : (List Int)} {v1 : Int} {v2 : Int} {r : Bool} (h : sh_spec_l1All v0 v1 v2 = some r) : Con Try.prog 144 [(cLs cI rfl).enc v0, cI.enc v1, cI.enc v2] [] (rs_spec_l1All r) := by
  delta sh_spec_l1All at h
  refine top (out := none) (f := Try.f144) (m := m144) (rs := [.t 6]) (by kernel_rfl) rfl (by kernel_rfl) (by kernel_rfl) (by kernel_rfl) (by kernel_rfl) (by kernel_rfl) ?_
  exact
   ini [(0, .d ((cLs cI rfl).enc v0)), (1, .d (cI.enc v1)), (2, .d (cI.enc v2))] rfl <| wpC_seq <| reg_s <| x_asg (sc cB false rfl) <| seqN [(0, .d ((cLs cI rfl).enc v0)), (1, .d (cI.enc v1)), (2, .d (cI.enc v2))] (by kernel_rfl) <|
    xn <| wpC_seq <| wpC_kp <| wpC_seq <| reg_s <| st rfl <| mvd rfl rfl <| stw rfl <| lens rfl fun l32 => st rfl <| mvc cI (0 : Int) rfl <| seqN [(0, .d ((cLs cI rfl).enc v0)), (1, .d (cI.enc v1)), (2, .d (cI.enc v2)), (9, .d ((cLs cI rfl).enc v0)), (10, .d (cI.enc (v0.length : Int))), (11, .d (cI.enc (0 : Int)))] (by kernel_rfl) <|
    xn <| wpC_blk <| lpR (fun (k34 : Nat) (s33 : Unit) => [(0, .d ((cLs cI rfl).enc v0)), (1, .d (cI.enc v1)), (2, .d (cI.enc v2)), (9, .d ((cLs cI rfl).enc v0)), (10, .d (cI.enc (v0.length : Int))), (11, .d (cI.enc (k34 : Int)))]) () rfl h
    (fun G50 s33 h => wpC_seq <| reg_s <| st rfl <| b_lss (k := .i64) rfl rfl <| seqN [(0, .d ((cLs cI rfl).enc v0)), (1, .d (cI.enc v1)), (2, .d (cI.enc v2)), (9, .d ((cLs cI rfl).enc v0)), (10, .d (cI.enc (v0.length : Int))), (11, .d (cI.enc (v0.length : Int))), (12, .d (cB.enc (decide ((v0.length : Int) < (v0.length : Int)))))] (by kernel_rfl) <|
    xn <| wpC_seq <| wpC_kp <| cnd0 rfl (dlf _) <| wpC_exit <| xt <| xt <| xt <| xb <| kpN [] (by kernel_rfl) <| xn <| wpC_seq <| reg_s <| x_asg (sc cB true rfl) <| seqN [(6, .d (cB.enc true))] (by kernel_rfl) <|
    xn <| wpC_ret <| re <| fin h (r1 (ss rfl rfl) <| r0) rfl)
    (fun G50 nx48 k34 s33 x35 hk36 hx37 hn49 h => wpC_seq <| reg_s <| st rfl <| b_lss (k := .i64) rfl rfl <| seqN [(0, .d ((cLs cI rfl).enc v0)), (1, .d (cI.enc v1)), (2, .d (cI.enc v2)), (9, .d ((cLs cI rfl).enc v0)), (10, .d (cI.enc (v0.length : Int))), (11, .d (cI.enc (k34 : Int))), (12, .d (cB.enc (decide ((k34 : Int) < (v0.length : Int)))))] (by kernel_rfl) <|
    xn <| wpC_seq <| wpC_kp <| cnd1 rfl (dlt hk36) <| wpC_skip <| kpN [(0, .d ((cLs cI rfl).enc v0)), (1, .d (cI.enc v1)), (2, .d (cI.enc v2)), (9, .d ((cLs cI rfl).enc v0)), (10, .d (cI.enc (v0.length : Int))), (11, .d (cI.enc (k34 : Int)))] (by kernel_rfl) <| xn <| wpC_seq <| wpC_kp <| wpC_blk <| wpC_seq <| reg_s <| st rfl <| ias rfl rfl (Int.natCast_nonneg _) hx37 rfl <| st rfl <| ldi rfl rfl rfl rfl <| x_asg (ss rfl rfl) <| seqN [(0, .d ((cLs cI rfl).enc v0)), (1, .d (cI.enc v1)), (2, .d (cI.enc v2)), (8, .d (cI.enc x35)), (9, .d ((cLs cI rfl).enc v0)), (10, .d (cI.enc (v0.length : Int))), (11, .d (cI.enc (k34 : Int)))] (by kernel_rfl) <|
    xn <| wpC_seq <| reg_s <| st rfl <| mvd rfl rfl <| st rfl <| mvd rfl rfl <| st rfl <| mvd rfl rfl <| bnd h fun x58 e59 h => st rfl <| o_call (a1 (c := cI) tK rfl (a1 (c := cI) tK rfl (a1 (c := cI) tK rfl a0))) (con_spec_l1In e59) (.inl (so1 sB so0)) <| st rfl <| o_nt rfl <| seqN [(0, .d ((cLs cI rfl).enc v0)), (1, .d (cI.enc v1)), (2, .d (cI.enc v2)), (9, .d ((cLs cI rfl).enc v0)), (10, .d (cI.enc (v0.length : Int))), (11, .d (cI.enc (k34 : Int))), (19, .d (cB.enc (!x58)))] (by kernel_rfl) <|
    xn <| cnd rfl h (fun b60 h => wpC_seq <| reg_s <| x_asg (sc cB false rfl) <| seqN [(6, .d (cB.enc false))] (by kernel_rfl) <|
    xn <| wpC_ret <| rb <| rt <| rt <| rt <| rb <| rt <| rt <| re <| fin h (r1 (ss rfl rfl) <| r0) rfl)
    (fun b60 h => wpC_skip <| xbb <| kpN [(0, .d ((cLs cI rfl).enc v0)), (1, .d (cI.enc v1)), (2, .d (cI.enc v2)), (9, .d ((cLs cI rfl).enc v0)), (10, .d (cI.enc (v0.length : Int))), (11, .d (cI.enc (k34 : Int)))] (by kernel_rfl) <| xn <| reg_s <| st rfl <| b_inc rfl rfl l32 hk36 <| st rfl <| mvd rfl rfl <| seqN [(0, .d ((cLs cI rfl).enc v0)), (1, .d (cI.enc v1)), (2, .d (cI.enc v2)), (9, .d ((cLs cI rfl).enc v0)), (10, .d (cI.enc (v0.length : Int))), (11, .d (cI.enc ((k34 + 1 : Nat) : Int)))] (by kernel_rfl) <|
    xn <| hn49 () h))

def rs_spec_cbCount (r : Int) : List D := [cI.enc r]
def m113 : MC := .seq (.reg [⟨some 2, .asg (.c (.int .i64 0)), none⟩] [0])
  (.seq (.kp [0] (.seq (.reg [⟨some 6, .mv (.t 0), none⟩,
    ⟨some 7, .len false (.t 6), none⟩,
    ⟨some 8, .bin .gtr (.t 7) (.c (.int .i64 4)), none⟩,
    ⟨some 9, .mv (.t 8), none⟩,
    ⟨some 10, .mv (.t 0), some (9, false)⟩,
    ⟨some 11, .call 144 [(.t 10), (.c (.int .i64 1)), (.c (.int .i64 30))], some (9, false)⟩,
    ⟨some 12, .nt (.t 11), some (9, false)⟩,
    ⟨some 13, .pick (.t 9) (.c (.bool true)) (.t 12), none⟩] [0, 13])
  (.cond (.t 13) (.seq (.reg [⟨some 2, .asg (.c (.int .i64 0)), none⟩] [2])
  (.ret)) (.skip))))
  (.seq (.reg [⟨some 3, .asg (.c (.int .i64 1)), none⟩] [0, 3])
  (.seq (.kp [3] (.seq (.reg [⟨some 14, .mv (.t 0), none⟩,
    ⟨some 15, .len false (.t 14), none⟩,
    ⟨some 16, .mv (.c (.int .i64 0)), none⟩] [0, 3, 14, 15, 16])
  (.blk 0 (.loop (.seq (.reg [⟨some 17, .bin .lss (.t 16) (.t 15), none⟩] [0, 3, 14, 15, 16, 17])
  (.seq (.kp [0, 3, 14, 15, 16] (.cond (.t 17) (.skip) (.exit 0)))
  (.seq (.kp [0, 3, 14, 15, 16] (.blk 1 (.seq (.reg [⟨some 18, .ia 14 (.t 16) 1, none⟩,
    ⟨some 19, .ld 18 1 false, none⟩,
    ⟨some 5, .asg (.t 19), none⟩] [0, 3, 5, 14, 15, 16])
  (.reg [⟨some 20, .mv (.t 3), none⟩,
    ⟨some 21, .mv (.t 5), none⟩,
    ⟨some 22, .bin .add (.t 21) (.c (.int .i64 1)), none⟩,
    ⟨some 23, .bin .mul (.t 20) (.t 22), none⟩,
    ⟨some 3, .asg (.t 23), none⟩] [0, 3, 14, 15, 16]))))
  (.reg [⟨some 24, .bin .add (.t 16) (.c (.int .i64 1)), none⟩,
    ⟨some 16, .mv (.t 24), none⟩] [0, 3, 14, 15, 16]))))))))
  (.seq (.kp [3] (.seq (.reg [⟨some 25, .mv (.t 3), none⟩,
    ⟨some 26, .bin .gtr (.t 25) (.c (.int .i64 2000)), none⟩] [3, 26])
  (.cond (.t 26) (.seq (.reg [⟨some 2, .asg (.c (.int .i64 0)), none⟩] [2])
  (.ret)) (.skip))))
  (.seq (.reg [⟨some 27, .mv (.t 3), none⟩,
    ⟨some 2, .asg (.t 27), none⟩] [2])
  (.ret))))))
theorem con_spec_cbCount {v0 : (List Int)} {r : Int} (h : sh_spec_cbCount v0 = some r) : Con Try.prog 113 [(cLs cI rfl).enc v0] [] (rs_spec_cbCount r) := by
  delta sh_spec_cbCount at h
  refine top (out := none) (f := Try.f113) (m := m113) (rs := [.t 2]) (by kernel_rfl) rfl (by kernel_rfl) (by kernel_rfl) (by kernel_rfl) (by kernel_rfl) (by kernel_rfl) ?_
  exact
   ini [(0, .d ((cLs cI rfl).enc v0))] rfl <| wpC_seq <| reg_s <| x_asg (sc cI (0 : Int) rfl) <| seqN [(0, .d ((cLs cI rfl).enc v0))] (by kernel_rfl) <|
    xn <| wpC_seq <| wpC_kp <| wpC_seq <| reg_s <| st rfl <| mvd rfl rfl <| stw rfl <| lens rfl fun l14 => st rfl <| b_gtr (k := .i64) rfl rfl <| st rfl <| mvd rfl rfl <| ite_k h (fun b15 h => gf rfl b15 <| gf rfl b15 <| gf rfl b15 <| st rfl <| pick1 rfl b15 (cd := cB) (v := true) rfl rfl <| seqN [(0, .d ((cLs cI rfl).enc v0)), (13, .d (cB.enc true))] (by kernel_rfl) <|
    xn <| cnd1 rfl rfl <| wpC_seq <| reg_s <| x_asg (sc cI (0 : Int) rfl) <| seqN [(2, .d (cI.enc (0 : Int)))] (by kernel_rfl) <|
    xn <| wpC_ret <| rt <| rt <| re <| fin h (r1 (ss rfl rfl) <| r0) rfl)
    (fun b15 h => gt' rfl b15 <| st rfl <| mvd rfl rfl <| gt' rfl b15 <| bnd h fun x16 e17 h => st rfl <| o_call (a1 (c := (cLs cI rfl)) (tLs tK) rfl (a1 (c := cI) tK rfl (a1 (c := cI) tK rfl a0))) (con_spec_l1All e17) (.inl (so1 sB so0)) <| gt' rfl b15 <| st rfl <| o_nt rfl <| st rfl <| pick0 rfl b15 (cd := cB) (v := (!x16)) rfl rfl <| seqN [(0, .d ((cLs cI rfl).enc v0)), (13, .d (cB.enc (!x16)))] (by kernel_rfl) <|
    xn <| cnd rfl h (fun b18 h => wpC_seq <| reg_s <| x_asg (sc cI (0 : Int) rfl) <| seqN [(2, .d (cI.enc (0 : Int)))] (by kernel_rfl) <|
    xn <| wpC_ret <| rt <| rt <| re <| fin h (r1 (ss rfl rfl) <| r0) rfl)
    (fun b18 h => wpC_skip <| kpN [(0, .d ((cLs cI rfl).enc v0))] (by kernel_rfl) <| xn <| wpC_seq <| reg_s <| x_asg (sc cI (1 : Int) rfl) <| seqN [(0, .d ((cLs cI rfl).enc v0)), (3, .d (cI.enc (1 : Int)))] (by kernel_rfl) <|
    xn <| wpC_seq <| wpC_kp <| wpC_seq <| reg_s <| st rfl <| mvd rfl rfl <| stw rfl <| lens rfl fun l42 => st rfl <| mvc cI (0 : Int) rfl <| seqN [(0, .d ((cLs cI rfl).enc v0)), (3, .d (cI.enc (1 : Int))), (14, .d ((cLs cI rfl).enc v0)), (15, .d (cI.enc (v0.length : Int))), (16, .d (cI.enc (0 : Int)))] (by kernel_rfl) <|
    xn <| wpC_blk <| lpR (fun (k44 : Nat) (s43 : Int) => [(0, .d ((cLs cI rfl).enc v0)), (3, .d (cI.enc s43)), (14, .d ((cLs cI rfl).enc v0)), (15, .d (cI.enc (v0.length : Int))), (16, .d (cI.enc (k44 : Int)))]) (1 : Int) rfl h
    (fun G58 s43 h => wpC_seq <| reg_s <| st rfl <| b_lss (k := .i64) rfl rfl <| seqN [(0, .d ((cLs cI rfl).enc v0)), (3, .d (cI.enc s43)), (14, .d ((cLs cI rfl).enc v0)), (15, .d (cI.enc (v0.length : Int))), (16, .d (cI.enc (v0.length : Int))), (17, .d (cB.enc (decide ((v0.length : Int) < (v0.length : Int)))))] (by kernel_rfl) <|
    xn <| wpC_seq <| wpC_kp <| cnd0 rfl (dlf _) <| wpC_exit <| xt <| xt <| xt <| xb <| kpN [(3, .d (cI.enc s43))] (by kernel_rfl) <| xn <| wpC_seq <| wpC_kp <| wpC_seq <| reg_s <| st rfl <| mvd rfl rfl <| st rfl <| b_gtr (k := .i64) rfl rfl <| seqN [(3, .d (cI.enc s43)), (26, .d (cB.enc (decide ((2000 : Int) < s43))))] (by kernel_rfl) <|
    xn <| cnd rfl h (fun b60 h => wpC_seq <| reg_s <| x_asg (sc cI (0 : Int) rfl) <| seqN [(2, .d (cI.enc (0 : Int)))] (by kernel_rfl) <|
    xn <| wpC_ret <| rt <| rt <| re <| fin h (r1 (ss rfl rfl) <| r0) rfl)
    (fun b60 h => wpC_skip <| kpN [(3, .d (cI.enc s43))] (by kernel_rfl) <| xn <| wpC_seq <| reg_s <| st rfl <| mvd rfl rfl <| x_asg (ss rfl rfl) <| seqN [(2, .d (cI.enc s43))] (by kernel_rfl) <|
    xn <| wpC_ret <| re <| fin h (r1 (ss rfl rfl) <| r0) rfl))
    (fun G58 nx56 k44 s43 x45 hk46 hx47 hn57 h => wpC_seq <| reg_s <| st rfl <| b_lss (k := .i64) rfl rfl <| seqN [(0, .d ((cLs cI rfl).enc v0)), (3, .d (cI.enc s43)), (14, .d ((cLs cI rfl).enc v0)), (15, .d (cI.enc (v0.length : Int))), (16, .d (cI.enc (k44 : Int))), (17, .d (cB.enc (decide ((k44 : Int) < (v0.length : Int)))))] (by kernel_rfl) <|
    xn <| wpC_seq <| wpC_kp <| cnd1 rfl (dlt hk46) <| wpC_skip <| kpN [(0, .d ((cLs cI rfl).enc v0)), (3, .d (cI.enc s43)), (14, .d ((cLs cI rfl).enc v0)), (15, .d (cI.enc (v0.length : Int))), (16, .d (cI.enc (k44 : Int)))] (by kernel_rfl) <| xn <| wpC_seq <| wpC_kp <| wpC_blk <| wpC_seq <| reg_s <| st rfl <| ias rfl rfl (Int.natCast_nonneg _) hx47 rfl <| st rfl <| ldi rfl rfl rfl rfl <| x_asg (ss rfl rfl) <| seqN [(0, .d ((cLs cI rfl).enc v0)), (3, .d (cI.enc s43)), (5, .d (cI.enc x45)), (14, .d ((cLs cI rfl).enc v0)), (15, .d (cI.enc (v0.length : Int))), (16, .d (cI.enc (k44 : Int)))] (by kernel_rfl) <|
    xn <| reg_s <| st rfl <| mvd rfl rfl <| st rfl <| mvd rfl rfl <| ckI_k h fun i63 h => st rfl <| b_add (k := .i64) rfl rfl i63 <| ckI_k h fun i64 h => st rfl <| b_mul (k := .i64) rfl rfl i64 <| x_asg (ss rfl rfl) <| seqN [(0, .d ((cLs cI rfl).enc v0)), (3, .d (cI.enc (s43 * (x45 + (1 : Int))))), (14, .d ((cLs cI rfl).enc v0)), (15, .d (cI.enc (v0.length : Int))), (16, .d (cI.enc (k44 : Int)))] (by kernel_rfl) <|
    xbb <| kpN [(0, .d ((cLs cI rfl).enc v0)), (3, .d (cI.enc (s43 * (x45 + (1 : Int))))), (14, .d ((cLs cI rfl).enc v0)), (15, .d (cI.enc (v0.length : Int))), (16, .d (cI.enc (k44 : Int)))] (by kernel_rfl) <| xn <| reg_s <| st rfl <| b_inc rfl rfl l42 hk46 <| st rfl <| mvd rfl rfl <| seqN [(0, .d ((cLs cI rfl).enc v0)), (3, .d (cI.enc (s43 * (x45 + (1 : Int))))), (14, .d ((cLs cI rfl).enc v0)), (15, .d (cI.enc (v0.length : Int))), (16, .d (cI.enc ((k44 + 1 : Nat) : Int)))] (by kernel_rfl) <|
    xn <| hn57 (s43 * (x45 + (1 : Int))) h)))

def rs_spec_cbIndices (r : (List Int)) : List D := [(cLo cI).enc r]
def m114 : MC := .seq (.reg [⟨some 4, .asg (.c (.slice true [])), none⟩] [0, 1])
  (.seq (.reg [⟨some 7, .mv (.t 0), none⟩,
    ⟨some 8, .len false (.t 7), none⟩,
    ⟨some 9, .mk (.int .i64 0) (.t 8), none⟩,
    ⟨some 5, .asg (.t 9), none⟩] [0, 1, 5])
  (.seq (.kp [5] (.seq (.reg [⟨some 10, .mv (.t 0), none⟩,
    ⟨some 11, .len false (.t 10), none⟩,
    ⟨some 12, .bin .sub (.t 11) (.c (.int .i64 1)), none⟩,
    ⟨some 6, .asg (.t 12), none⟩] [0, 1, 5, 6])
  (.blk 0 (.loop (.seq (.kp [0, 1, 5, 6] (.seq (.reg [⟨some 13, .mv (.t 6), none⟩,
    ⟨some 14, .bin .geq (.t 13) (.c (.int .i64 0)), none⟩] [0, 1, 5, 6, 14])
  (.cond (.t 14) (.skip) (.exit 0))))
  (.seq (.kp [0, 1, 5, 6] (.blk 1 (.seq (.reg [⟨some 17, .mv (.t 5), none⟩,
    ⟨some 18, .mv (.t 6), none⟩,
    ⟨some 19, .mv (.t 1), none⟩,
    ⟨some 20, .mv (.t 0), none⟩,
    ⟨some 21, .mv (.t 6), none⟩,
    ⟨some 22, .ia 20 (.t 21) 1, none⟩,
    ⟨some 23, .ld 22 1 false, none⟩,
    ⟨some 24, .bin .add (.t 23) (.c (.int .i64 1)), none⟩,
    ⟨some 25, .bin .rem (.t 19) (.t 24), none⟩,
    ⟨some 26, .ia 17 (.t 18) 1, none⟩,
    ⟨none, .st 26 (.t 25) 1, none⟩] [0, 1, 5, 6])
  (.reg [⟨some 27, .mv (.t 1), none⟩,
    ⟨some 28, .mv (.t 0), none⟩,
    ⟨some 29, .mv (.t 6), none⟩,
    ⟨some 30, .ia 28 (.t 29) 1, none⟩,
    ⟨some 31, .ld 30 1 false, none⟩,
    ⟨some 32, .bin .add (.t 31) (.c (.int .i64 1)), none⟩,
    ⟨some 33, .bin .quo (.t 27) (.t 32), none⟩,
    ⟨some 1, .asg (.t 33), none⟩] [0, 1, 5, 6]))))
  (.reg [⟨some 15, .mv (.t 6), none⟩,
    ⟨some 16, .bin .sub (.t 15) (.c (.int .i64 1)), none⟩,
    ⟨some 6, .asg (.t 16), none⟩] [0, 1, 5, 6])))))))
  (.seq (.reg [⟨some 34, .mv (.t 5), none⟩,
    ⟨some 4, .asg (.t 34), none⟩] [4])
  (.ret))))
theorem con_spec_cbIndices {v0 : (List Int)} {v1 : Int} {r : (List Int)} (h : sh_spec_cbIndices v0 v1 = some r) : Con Try.prog 114 [(cLs cI rfl).enc v0, cI.enc v1] [] (rs_spec_cbIndices r) := by
  delta sh_spec_cbIndices at h
  refine top (out := none) (f := Try.f114) (m := m114) (rs := [.t 4]) (by kernel_rfl) rfl (by kernel_rfl) (by kernel_rfl) (by kernel_rfl) (by kernel_rfl) (by kernel_rfl) ?_
  exact
   ini [(0, .d ((cLs cI rfl).enc v0)), (1, .d (cI.enc v1))] rfl <| wpC_seq <| reg_s <| x_asg (sc (cLo cI) ([] : List Int) rfl) <| seqN [(0, .d ((cLs cI rfl).enc v0)), (1, .d (cI.enc v1))] (by kernel_rfl) <|
    xn <| wpC_seq <| reg_s <| st rfl <| mvd rfl rfl <| stw rfl <| lens rfl fun l4 => mkO_k h fun i5 l6 h => st rfl <| o_mk (c := cI) (a0 := (0 : Int)) rfl (k := .i64) rfl i5 l6 <| x_asg (so rfl rfl) <| seqN [(0, .d ((cLs cI rfl).enc v0)), (1, .d (cI.enc v1)), (5, .d ((cLo cI).enc (List.replicate ((v0.length : Int)).toNat (0 : Int))))] (by kernel_rfl) <|
    xn <| wpC_seq <| wpC_kp <| wpC_seq <| reg_s <| st rfl <| mvd rfl rfl <| stw rfl <| lens rfl fun l144 => ckI_k h fun i145 h => st rfl <| b_sub (k := .i64) rfl rfl i145 <| x_asg (ss rfl rfl) <| seqN [(0, .d ((cLs cI rfl).enc v0)), (1, .d (cI.enc v1)), (5, .d ((cLo cI).enc (List.replicate ((v0.length : Int)).toNat (0 : Int)))), (6, .d (cI.enc ((v0.length : Int) - (1 : Int))))] (by kernel_rfl) <|
    xn <| wpC_blk <| lpF (fun (s146 : (Int × (List Int) × Int)) => [(0, .d ((cLs cI rfl).enc v0)), (1, .d (cI.enc s146.1)), (5, .d ((cLo cI).enc s146.2.1)), (6, .d (cI.enc s146.2.2))]) (v1, (List.replicate ((v0.length : Int)).toNat (0 : Int)), ((v0.length : Int) - (1 : Int))) rfl h
    fun G235 nx233 s146 hn234 h => wpC_seq <| wpC_kp <| wpC_seq <| reg_s <| st rfl <| mvd rfl rfl <| st rfl <| b_geq (k := .i64) rfl rfl <| seqN [(0, .d ((cLs cI rfl).enc v0)), (1, .d (cI.enc s146.1)), (5, .d ((cLo cI).enc s146.2.1)), (6, .d (cI.enc s146.2.2)), (14, .d (cB.enc (decide ((0 : Int) ≤ s146.2.2))))] (by kernel_rfl) <|
    xn <| cnd rfl h (fun b237 h => wpC_skip <| kpN [(0, .d ((cLs cI rfl).enc v0)), (1, .d (cI.enc s146.1)), (5, .d ((cLo cI).enc s146.2.1)), (6, .d (cI.enc s146.2.2))] (by kernel_rfl) <| xn <| wpC_seq <| wpC_kp <| wpC_blk <| wpC_seq <| reg_s <| st rfl <| mvo rfl rfl <| st rfl <| mvd rfl rfl <| st rfl <| mvd rfl rfl <| st rfl <| mvd rfl rfl <| st rfl <| mvd rfl rfl <| getO_k h fun x265 i266 g267 h => st rfl <| ias rfl rfl i266 g267 rfl <| st rfl <| ldi rfl rfl rfl rfl <| ckI_k h fun i268 h => st rfl <| b_add (k := .i64) rfl rfl i268 <| ck_k h fun i269 h => st rfl <| b_rem (k := .i64) rfl rfl i269 <| getO_k h fun x270 i271 g272 h => st rfl <| iar rfl rfl rfl rfl i271 g272 rfl <| x_sta ((cLo cI).enc (s146.2.1.set (s146.2.2).toNat (s146.1.tmod (x265 + (1 : Int))))) (ss rfl rfl) rfl rfl (Ln.idx g272 Ln.nil) (Cd.h_sz cI _) rfl <| seqN [(0, .d ((cLs cI rfl).enc v0)), (1, .d (cI.enc s146.1)), (5, .d ((cLo cI).enc (s146.2.1.set (s146.2.2).toNat (s146.1.tmod (x265 + (1 : Int)))))), (6, .d (cI.enc s146.2.2))] (by kernel_rfl) <|
    xn <| reg_s <| st rfl <| mvd rfl rfl <| st rfl <| mvd rfl rfl <| st rfl <| mvd rfl rfl <| st rfl <| ias rfl rfl i266 g267 rfl <| st rfl <| ldi rfl rfl rfl rfl <| ckI_k h fun i273 h => st rfl <| b_add (k := .i64) rfl rfl i273 <| ck_k h fun i274 h => ckI_k h fun i275 h => st rfl <| b_quo (k := .i64) rfl rfl i274 i275 <| x_asg (ss rfl rfl) <| seqN [(0, .d ((cLs cI rfl).enc v0)), (1, .d (cI.enc (s146.1.tdiv (x265 + (1 : Int))))), (5, .d ((cLo cI).enc (s146.2.1.set (s146.2.2).toNat (s146.1.tmod (x265 + (1 : Int)))))), (6, .d (cI.enc s146.2.2))] (by kernel_rfl) <|
    xbb <| kpN [(0, .d ((cLs cI rfl).enc v0)), (1, .d (cI.enc (s146.1.tdiv (x265 + (1 : Int))))), (5, .d ((cLo cI).enc (s146.2.1.set (s146.2.2).toNat (s146.1.tmod (x265 + (1 : Int)))))), (6, .d (cI.enc s146.2.2))] (by kernel_rfl) <| xn <| reg_s <| st rfl <| mvd rfl rfl <| ckI_k h fun i276 h => st rfl <| b_sub (k := .i64) rfl rfl i276 <| x_asg (ss rfl rfl) <| seqN [(0, .d ((cLs cI rfl).enc v0)), (1, .d (cI.enc (s146.1.tdiv (x265 + (1 : Int))))), (5, .d ((cLo cI).enc (s146.2.1.set (s146.2.2).toNat (s146.1.tmod (x265 + (1 : Int)))))), (6, .d (cI.enc (s146.2.2 - (1 : Int))))] (by kernel_rfl) <|
    xn <| hn234 ((s146.1.tdiv (x265 + (1 : Int))), (s146.2.1.set (s146.2.2).toNat (s146.1.tmod (x265 + (1 : Int)))), (s146.2.2 - (1 : Int))) h)
    (fun b237 h => wpC_exit <| xt <| xt <| xt <| xb <| kpN [(5, .d ((cLo cI).enc s146.2.1))] (by kernel_rfl) <| xn <| wpC_seq <| reg_s <| st rfl <| mvo rfl rfl <| x_asg (sr rfl rfl) <| seqN [(4, .d ((cLo cI).enc s146.2.1))] (by kernel_rfl) <|
    xn <| wpC_ret <| re <| fin h (r1 (so rfl rfl) <| r0) rfl)

def rs_spec_cbAt (r : Int) : List D := [cI.enc r]
def m115 : MC := .seq (.reg [⟨some 4, .asg (.c (.int .i64 0)), none⟩] [0, 1])
  (.seq (.reg [⟨some 5, .asg (.c (.int .i64 0)), none⟩] [0, 1, 5])
  (.seq (.kp [5] (.seq (.reg [⟨some 8, .mv (.t 0), none⟩,
    ⟨some 9, .len false (.t 8), none⟩,
    ⟨some 10, .mv (.c (.int .i64 0)), none⟩] [0, 1, 5, 8, 9, 10])
  (.blk 0 (.loop (.seq (.reg [⟨some 11, .bin .lss (.t 10) (.t 9), none⟩] [0, 1, 5, 8, 9, 10, 11])
  (.seq (.kp [0, 1, 5, 8, 9, 10] (.cond (.t 11) (.skip) (.exit 0)))
  (.seq (.kp [0, 1, 5, 8, 9, 10] (.blk 1 (.seq (.reg [⟨some 12, .mv (.t 10), none⟩,
    ⟨some 13, .ia 8 (.t 10) 1, none⟩,
    ⟨some 14, .ld 13 1 false, none⟩,
    ⟨some 6, .asg (.t 12), none⟩,
    ⟨some 7, .asg (.t 14), none⟩] [0, 1, 5, 6, 7, 8, 9, 10])
  (.reg [⟨some 15, .mv (.t 5), none⟩,
    ⟨some 16, .mv (.t 7), none⟩,
    ⟨some 17, .bin .add (.t 16) (.c (.int .i64 1)), none⟩,
    ⟨some 18, .bin .mul (.t 15) (.t 17), none⟩,
    ⟨some 19, .mv (.t 1), none⟩,
    ⟨some 20, .mv (.t 6), none⟩,
    ⟨some 21, .ia 19 (.t 20) 1, none⟩,
    ⟨some 22, .ld 21 1 false, none⟩,
    ⟨some 23, .bin .add (.t 18) (.t 22), none⟩,
    ⟨some 5, .asg (.t 23), none⟩] [0, 1, 5, 8, 9, 10]))))
  (.reg [⟨some 24, .bin .add (.t 10) (.c (.int .i64 1)), none⟩,
    ⟨some 10, .mv (.t 24), none⟩] [0, 1, 5, 8, 9, 10]))))))))
  (.seq (.reg [⟨some 25, .mv (.t 5), none⟩,
    ⟨some 4, .asg (.t 25), none⟩] [4])
  (.ret))))
theorem con_spec_cbAt {v0 : (List Int)} {v1 : (List Int)} {r : Int} (h : sh_spec_cbAt v0 v1 = some r) : Con Try.prog 115 [(cLs cI rfl).enc v0, (cLs cI rfl).enc v1] [] (rs_spec_cbAt r) := by
  delta sh_spec_cbAt at h
  refine top (out := none) (f := Try.f115) (m := m115) (rs := [.t 4]) (by kernel_rfl) rfl (by kernel_rfl) (by kernel_rfl) (by kernel_rfl) (by kernel_rfl) (by kernel_rfl) ?_
  exact
   ini [(0, .d ((cLs cI rfl).enc v0)), (1, .d ((cLs cI rfl).enc v1))] rfl <| wpC_seq <| reg_s <| x_asg (sc cI (0 : Int) rfl) <| seqN [(0, .d ((cLs cI rfl).enc v0)), (1, .d ((cLs cI rfl).enc v1))] (by kernel_rfl) <|
    xn <| wpC_seq <| reg_s <| x_asg (sc cI (0 : Int) rfl) <| seqN [(0, .d ((cLs cI rfl).enc v0)), (1, .d ((cLs cI rfl).enc v1)), (5, .d (cI.enc (0 : Int)))] (by kernel_rfl) <|
    xn <| wpC_seq <| wpC_kp <| wpC_seq <| reg_s <| st rfl <| mvd rfl rfl <| stw rfl <| lens rfl fun l48 => st rfl <| mvc cI (0 : Int) rfl <| seqN [(0, .d ((cLs cI rfl).enc v0)), (1, .d ((cLs cI rfl).enc v1)), (5, .d (cI.enc (0 : Int))), (8, .d ((cLs cI rfl).enc v0)), (9, .d (cI.enc (v0.length : Int))), (10, .d (cI.enc (0 : Int)))] (by kernel_rfl) <|
    xn <| wpC_blk <| lpR (fun (k50 : Nat) (s49 : Int) => [(0, .d ((cLs cI rfl).enc v0)), (1, .d ((cLs cI rfl).enc v1)), (5, .d (cI.enc s49)), (8, .d ((cLs cI rfl).enc v0)), (9, .d (cI.enc (v0.length : Int))), (10, .d (cI.enc (k50 : Int)))]) (0 : Int) rfl h
    (fun G80 s49 h => wpC_seq <| reg_s <| st rfl <| b_lss (k := .i64) rfl rfl <| seqN [(0, .d ((cLs cI rfl).enc v0)), (1, .d ((cLs cI rfl).enc v1)), (5, .d (cI.enc s49)), (8, .d ((cLs cI rfl).enc v0)), (9, .d (cI.enc (v0.length : Int))), (10, .d (cI.enc (v0.length : Int))), (11, .d (cB.enc (decide ((v0.length : Int) < (v0.length : Int)))))] (by kernel_rfl) <|
    xn <| wpC_seq <| wpC_kp <| cnd0 rfl (dlf _) <| wpC_exit <| xt <| xt <| xt <| xb <| kpN [(5, .d (cI.enc s49))] (by kernel_rfl) <| xn <| wpC_seq <| reg_s <| st rfl <| mvd rfl rfl <| x_asg (ss rfl rfl) <| seqN [(4, .d (cI.enc s49))] (by kernel_rfl) <|
    xn <| wpC_ret <| re <| fin h (r1 (ss rfl rfl) <| r0) rfl)
    (fun G80 nx78 k50 s49 x51 hk52 hx53 hn79 h => wpC_seq <| reg_s <| st rfl <| b_lss (k := .i64) rfl rfl <| seqN [(0, .d ((cLs cI rfl).enc v0)), (1, .d ((cLs cI rfl).enc v1)), (5, .d (cI.enc s49)), (8, .d ((cLs cI rfl).enc v0)), (9, .d (cI.enc (v0.length : Int))), (10, .d (cI.enc (k50 : Int))), (11, .d (cB.enc (decide ((k50 : Int) < (v0.length : Int)))))] (by kernel_rfl) <|
    xn <| wpC_seq <| wpC_kp <| cnd1 rfl (dlt hk52) <| wpC_skip <| kpN [(0, .d ((cLs cI rfl).enc v0)), (1, .d ((cLs cI rfl).enc v1)), (5, .d (cI.enc s49)), (8, .d ((cLs cI rfl).enc v0)), (9, .d (cI.enc (v0.length : Int))), (10, .d (cI.enc (k50 : Int)))] (by kernel_rfl) <| xn <| wpC_seq <| wpC_kp <| wpC_blk <| wpC_seq <| reg_s <| st rfl <| mvd rfl rfl <| st rfl <| ias rfl rfl (Int.natCast_nonneg _) hx53 rfl <| st rfl <| ldi rfl rfl rfl rfl <| x_asg (ss rfl rfl) <| x_asg (ss rfl rfl) <| seqN [(0, .d ((cLs cI rfl).enc v0)), (1, .d ((cLs cI rfl).enc v1)), (5, .d (cI.enc s49)), (6, .d (cI.enc (k50 : Int))), (7, .d (cI.enc x51)), (8, .d ((cLs cI rfl).enc v0)), (9, .d (cI.enc (v0.length : Int))), (10, .d (cI.enc (k50 : Int)))] (by kernel_rfl) <|
    xn <| reg_s <| st rfl <| mvd rfl rfl <| st rfl <| mvd rfl rfl <| ckI_k h fun i87 h => st rfl <| b_add (k := .i64) rfl rfl i87 <| ckI_k h fun i88 h => st rfl <| b_mul (k := .i64) rfl rfl i88 <| st rfl <| mvd rfl rfl <| st rfl <| mvd rfl rfl <| getO_k h fun x89 i90 g91 h => st rfl <| ias rfl rfl i90 g91 rfl <| st rfl <| ldi rfl rfl rfl rfl <| ckI_k h fun i92 h => st rfl <| b_add (k := .i64) rfl rfl i92 <| x_asg (ss rfl rfl) <| seqN [(0, .d ((cLs cI rfl).enc v0)), (1, .d ((cLs cI rfl).enc v1)), (5, .d (cI.enc ((s49 * (x51 + (1 : Int))) + x89))), (8, .d ((cLs cI rfl).enc v0)), (9, .d (cI.enc (v0.length : Int))), (10, .d (cI.enc (k50 : Int)))] (by kernel_rfl) <|
    xbb <| kpN [(0, .d ((cLs cI rfl).enc v0)), (1, .d ((cLs cI rfl).enc v1)), (5, .d (cI.enc ((s49 * (x51 + (1 : Int))) + x89))), (8, .d ((cLs cI rfl).enc v0)), (9, .d (cI.enc (v0.length : Int))), (10, .d (cI.enc (k50 : Int)))] (by kernel_rfl) <| xn <| reg_s <| st rfl <| b_inc rfl rfl l48 hk52 <| st rfl <| mvd rfl rfl <| seqN [(0, .d ((cLs cI rfl).enc v0)), (1, .d ((cLs cI rfl).enc v1)), (5, .d (cI.enc ((s49 * (x51 + (1 : Int))) + x89))), (8, .d ((cLs cI rfl).enc v0)), (9, .d (cI.enc (v0.length : Int))), (10, .d (cI.enc ((k50 + 1 : Nat) : Int)))] (by kernel_rfl) <|
    xn <| hn79 ((s49 * (x51 + (1 : Int))) + x89) h)

def rs_impl_cubeCells (r : Int) : List D := [cI.enc r]
def m119 : MC := .seq (.reg [⟨some 2, .asg (.c (.int .i64 0)), none⟩] [0])
  (.seq (.kp [0] (.seq (.reg [⟨some 6, .mv (.t 0), none⟩,
    ⟨some 7, .len false (.t 6), none⟩,
    ⟨some 8, .bin .gtr (.t 7) (.c (.int .i64 4)), none⟩] [0, 8])
  (.cond (.t 8) (.seq (.reg [⟨some 2, .asg (.c (.int .i64 0)), none⟩] [2])
  (.ret)) (.skip))))
  (.seq (.reg [⟨some 3, .asg (.c (.int .i64 1)), none⟩] [0, 3])
  (.seq (.kp [3] (.seq (.reg [⟨some 9, .mv (.t 0), none⟩,
    ⟨some 10, .len false (.t 9), none⟩,
    ⟨some 11, .mv (.c (.int .i64 0)), none⟩] [0, 3, 9, 10, 11])
  (.blk 0 (.loop (.seq (.reg [⟨some 12, .bin .lss (.t 11) (.t 10), none⟩] [0, 3, 9, 10, 11, 12])
  (.seq (.kp [0, 3, 9, 10, 11] (.cond (.t 12) (.skip) (.exit 0)))
  (.seq (.kp [0, 3, 9, 10, 11] (.blk 1 (.seq (.reg [⟨some 13, .ia 9 (.t 11) 1, none⟩,
    ⟨some 14, .ld 13 1 false, none⟩,
    ⟨some 5, .asg (.t 14), none⟩] [0, 3, 5, 9, 10, 11])
  (.seq (.kp [0, 3, 5, 9, 10, 11] (.seq (.reg [⟨some 15, .mv (.t 5), none⟩,
    ⟨some 16, .bin .lss (.t 15) (.c (.int .i64 1)), none⟩,
    ⟨some 17, .mv (.t 16), none⟩,
    ⟨some 18, .mv (.t 5), some (17, false)⟩,
    ⟨some 19, .bin .gtr (.t 18) (.c (.int .i64 30)), some (17, false)⟩,
    ⟨some 20, .pick (.t 17) (.c (.bool true)) (.t 19), none⟩] [0, 3, 5, 9, 10, 11, 20])
  (.cond (.t 20) (.seq (.reg [⟨some 2, .asg (.c (.int .i64 0)), none⟩] [2])
  (.ret)) (.skip))))
  (.reg [⟨some 21, .mv (.t 3), none⟩,
    ⟨some 22, .mv (.t 5), none⟩,
    ⟨some 23, .bin .add (.t 22) (.c (.int .i64 1)), none⟩,
    ⟨some 24, .bin .mul (.t 21) (.t 23), none⟩,
    ⟨some 3, .asg (.t 24), none⟩] [0, 3, 9, 10, 11])))))
  (.reg [⟨some 25, .bin .add (.t 11) (.c (.int .i64 1)), none⟩,
    ⟨some 11, .mv (.t 25), none⟩] [0, 3, 9, 10, 11]))))))))
  (.seq (.kp [3] (.seq (.reg [⟨some 26, .mv (.t 3), none⟩,
    ⟨some 27, .bin .gtr (.t 26) (.c (.int .i64 2000)), none⟩] [3, 27])
  (.cond (.t 27) (.seq (.reg [⟨some 2, .asg (.c (.int .i64 0)), none⟩] [2])
  (.ret)) (.skip))))
  (.seq (.reg [⟨some 28, .mv (.t 3), none⟩,
    ⟨some 2, .asg (.t 28), none⟩] [2])
  (.ret))))))
theorem con_impl_cubeCells {v0 : (List Int)} {r : Int} (h : sh_impl_cubeCells v0 = some r) : Con Try.prog 119 [(cLs cI rfl).enc v0] [] (rs_impl_cubeCells r) := by
  delta sh_impl_cubeCells at h
  refine top (out := none) (f := Try.f119) (m := m119) (rs := [.t 2]) (by kernel_rfl) rfl (by kernel_rfl) (by kernel_rfl) (by kernel_rfl) (by kernel_rfl) (by kernel_rfl) ?_
  exact
   ini [(0, .d ((cLs cI rfl).enc v0))] rfl <| wpC_seq <| reg_s <| x_asg (sc cI (0 : Int) rfl) <| seqN [(0, .d ((cLs cI rfl).enc v0))] (by kernel_rfl) <|
    xn <| wpC_seq <| wpC_kp <| wpC_seq <| reg_s <| st rfl <| mvd rfl rfl <| stw rfl <| lens rfl fun l5 => st rfl <| b_gtr (k := .i64) rfl rfl <| seqN [(0, .d ((cLs cI rfl).enc v0)), (8, .d (cB.enc (decide ((4 : Int) < (v0.length : Int)))))] (by kernel_rfl) <|
    xn <| cnd rfl h (fun b6 h => wpC_seq <| reg_s <| x_asg (sc cI (0 : Int) rfl) <| seqN [(2, .d (cI.enc (0 : Int)))] (by kernel_rfl) <|
    xn <| wpC_ret <| rt <| rt <| re <| fin h (r1 (ss rfl rfl) <| r0) rfl)
    (fun b6 h => wpC_skip <| kpN [(0, .d ((cLs cI rfl).enc v0))] (by kernel_rfl) <| xn <| wpC_seq <| reg_s <| x_asg (sc cI (1 : Int) rfl) <| seqN [(0, .d ((cLs cI rfl).enc v0)), (3, .d (cI.enc (1 : Int)))] (by kernel_rfl) <|
    xn <| wpC_seq <| wpC_kp <| wpC_seq <| reg_s <| st rfl <| mvd rfl rfl <| stw rfl <| lens rfl fun l66 => st rfl <| mvc cI (0 : Int) rfl <| seqN [(0, .d ((cLs cI rfl).enc v0)), (3, .d (cI.enc (1 : Int))), (9, .d ((cLs cI rfl).enc v0)), (10, .d (cI.enc (v0.length : Int))), (11, .d (cI.enc (0 : Int)))] (by kernel_rfl) <|
    xn <| wpC_blk <| lpR (fun (k68 : Nat) (s67 : Int) => [(0, .d ((cLs cI rfl).enc v0)), (3, .d (cI.enc s67)), (9, .d ((cLs cI rfl).enc v0)), (10, .d (cI.enc (v0.length : Int))), (11, .d (cI.enc (k68 : Int)))]) (1 : Int) rfl h
    (fun G106 s67 h => wpC_seq <| reg_s <| st rfl <| b_lss (k := .i64) rfl rfl <| seqN [(0, .d ((cLs cI rfl).enc v0)), (3, .d (cI.enc s67)), (9, .d ((cLs cI rfl).enc v0)), (10, .d (cI.enc (v0.length : Int))), (11, .d (cI.enc (v0.length : Int))), (12, .d (cB.enc (decide ((v0.length : Int) < (v0.length : Int)))))] (by kernel_rfl) <|
    xn <| wpC_seq <| wpC_kp <| cnd0 rfl (dlf _) <| wpC_exit <| xt <| xt <| xt <| xb <| kpN [(3, .d (cI.enc s67))] (by kernel_rfl) <| xn <| wpC_seq <| wpC_kp <| wpC_seq <| reg_s <| st rfl <| mvd rfl rfl <| st rfl <| b_gtr (k := .i64) rfl rfl <| seqN [(3, .d (cI.enc s67)), (27, .d (cB.enc (decide ((2000 : Int) < s67))))] (by kernel_rfl) <|
    xn <| cnd rfl h (fun b108 h => wpC_seq <| reg_s <| x_asg (sc cI (0 : Int) rfl) <| seqN [(2, .d (cI.enc (0 : Int)))] (by kernel_rfl) <|
    xn <| wpC_ret <| rt <| rt <| re <| fin h (r1 (ss rfl rfl) <| r0) rfl)
    (fun b108 h => wpC_skip <| kpN [(3, .d (cI.enc s67))] (by kernel_rfl) <| xn <| wpC_seq <| reg_s <| st rfl <| mvd rfl rfl <| x_asg (ss rfl rfl) <| seqN [(2, .d (cI.enc s67))] (by kernel_rfl) <|
    xn <| wpC_ret <| re <| fin h (r1 (ss rfl rfl) <| r0) rfl))
    (fun G106 nx104 k68 s67 x69 hk70 hx71 hn105 h => wpC_seq <| reg_s <| st rfl <| b_lss (k := .i64) rfl rfl <| seqN [(0, .d ((cLs cI rfl).enc v0)), (3, .d (cI.enc s67)), (9, .d ((cLs cI rfl).enc v0)), (10, .d (cI.enc (v0.length : Int))), (11, .d (cI.enc (k68 : Int))), (12, .d (cB.enc (decide ((k68 : Int) < (v0.length : Int)))))] (by kernel_rfl) <|
    xn <| wpC_seq <| wpC_kp <| cnd1 rfl (dlt hk70) <| wpC_skip <| kpN [(0, .d ((cLs cI rfl).enc v0)), (3, .d (cI.enc s67)), (9, .d ((cLs cI rfl).enc v0)), (10, .d (cI.enc (v0.length : Int))), (11, .d (cI.enc (k68 : Int)))] (by kernel_rfl) <| xn <| wpC_seq <| wpC_kp <| wpC_blk <| wpC_seq <| reg_s <| st rfl <| ias rfl rfl (Int.natCast_nonneg _) hx71 rfl <| st rfl <| ldi rfl rfl rfl rfl <| x_asg (ss rfl rfl) <| seqN [(0, .d ((cLs cI rfl).enc v0)), (3, .d (cI.enc s67)), (5, .d (cI.enc x69)), (9, .d ((cLs cI rfl).enc v0)), (10, .d (cI.enc (v0.length : Int))), (11, .d (cI.enc (k68 : Int)))] (by kernel_rfl) <|
    xn <| wpC_seq <| wpC_kp <| wpC_seq <| reg_s <| st rfl <| mvd rfl rfl <| st rfl <| b_lss (k := .i64) rfl rfl <| st rfl <| mvd rfl rfl <| ite_k h (fun b121 h => gf rfl b121 <| gf rfl b121 <| st rfl <| pick1 rfl b121 (cd := cB) (v := true) rfl rfl <| seqN [(0, .d ((cLs cI rfl).enc v0)), (3, .d (cI.enc s67)), (5, .d (cI.enc x69)), (9, .d ((cLs cI rfl).enc v0)), (10, .d (cI.enc (v0.length : Int))), (11, .d (cI.enc (k68 : Int))), (20, .d (cB.enc true))] (by kernel_rfl) <|
    xn <| cnd1 rfl rfl <| wpC_seq <| reg_s <| x_asg (sc cI (0 : Int) rfl) <| seqN [(2, .d (cI.enc (0 : Int)))] (by kernel_rfl) <|
    xn <| wpC_ret <| rt <| rt <| rb <| rt <| rt <| rt <| rb <| rt <| rt <| re <| fin h (r1 (ss rfl rfl) <| r0) rfl)
    (fun b121 h => gt' rfl b121 <| st rfl <| mvd rfl rfl <| gt' rfl b121 <| st rfl <| b_gtr (k := .i64) rfl rfl <| st rfl <| pick0 rfl b121 (cd := cB) (v := (decide ((30 : Int) < x69))) rfl rfl <| seqN [(0, .d ((cLs cI rfl).enc v0)), (3, .d (cI.enc s67)), (5, .d (cI.enc x69)), (9, .d ((cLs cI rfl).enc v0)), (10, .d (cI.enc (v0.length : Int))), (11, .d (cI.enc (k68 : Int))), (20, .d (cB.enc (decide ((30 : Int) < x69))))] (by kernel_rfl) <|
    xn <| cnd rfl h (fun b122 h => wpC_seq <| reg_s <| x_asg (sc cI (0 : Int) rfl) <| seqN [(2, .d (cI.enc (0 : Int)))] (by kernel_rfl) <|
    xn <| wpC_ret <| rt <| rt <| rb <| rt <| rt <| rt <| rb <| rt <| rt <| re <| fin h (r1 (ss rfl rfl) <| r0) rfl)
    (fun b122 h => wpC_skip <| kpN [(0, .d ((cLs cI rfl).enc v0)), (3, .d (cI.enc s67)), (5, .d (cI.enc x69)), (9, .d ((cLs cI rfl).enc v0)), (10, .d (cI.enc (v0.length : Int))), (11, .d (cI.enc (k68 : Int)))] (by kernel_rfl) <| xn <| reg_s <| st rfl <| mvd rfl rfl <| st rfl <| mvd rfl rfl <| ckI_k h fun i123 h => st rfl <| b_add (k := .i64) rfl rfl i123 <| ckI_k h fun i124 h => st rfl <| b_mul (k := .i64) rfl rfl i124 <| x_asg (ss rfl rfl) <| seqN [(0, .d ((cLs cI rfl).enc v0)), (3, .d (cI.enc (s67 * (x69 + (1 : Int))))), (9, .d ((cLs cI rfl).enc v0)), (10, .d (cI.enc (v0.length : Int))), (11, .d (cI.enc (k68 : Int)))] (by kernel_rfl) <|
    xbb <| kpN [(0, .d ((cLs cI rfl).enc v0)), (3, .d (cI.enc (s67 * (x69 + (1 : Int))))), (9, .d ((cLs cI rfl).enc v0)), (10, .d (cI.enc (v0.length : Int))), (11, .d (cI.enc (k68 : Int)))] (by kernel_rfl) <| xn <| reg_s <| st rfl <| b_inc rfl rfl l66 hk70 <| st rfl <| mvd rfl rfl <| seqN [(0, .d ((cLs cI rfl).enc v0)), (3, .d (cI.enc (s67 * (x69 + (1 : Int))))), (9, .d ((cLs cI rfl).enc v0)), (10, .d (cI.enc (v0.length : Int))), (11, .d (cI.enc ((k68 + 1 : Nat) : Int)))] (by kernel_rfl) <|
    xn <| hn105 (s67 * (x69 + (1 : Int))) h))))

def rs_impl_strides (r : (List Int)) : List D := [(cLo cI).enc r]
def m158 : MC := .seq (.reg [⟨some 2, .asg (.c (.slice true [])), none⟩] [0])
  (.seq (.reg [⟨some 6, .mv (.t 0), none⟩,
    ⟨some 7, .len false (.t 6), none⟩,
    ⟨some 8, .mk (.int .i64 0) (.t 7), none⟩,
    ⟨some 3, .asg (.t 8), none⟩] [0, 3])
  (.seq (.reg [⟨some 4, .asg (.c (.int .i64 1)), none⟩] [0, 3, 4])
  (.seq (.kp [3] (.seq (.reg [⟨some 9, .mv (.t 0), none⟩,
    ⟨some 10, .len false (.t 9), none⟩,
    ⟨some 11, .bin .sub (.t 10) (.c (.int .i64 1)), none⟩,
    ⟨some 5, .asg (.t 11), none⟩] [0, 3, 4, 5])
  (.blk 0 (.loop (.seq (.kp [0, 3, 4, 5] (.seq (.reg [⟨some 12, .mv (.t 5), none⟩,
    ⟨some 13, .bin .geq (.t 12) (.c (.int .i64 0)), none⟩] [0, 3, 4, 5, 13])
  (.cond (.t 13) (.skip) (.exit 0))))
  (.seq (.kp [0, 3, 4, 5] (.blk 1 (.seq (.reg [⟨some 16, .mv (.t 3), none⟩,
    ⟨some 17, .mv (.t 5), none⟩,
    ⟨some 18, .mv (.t 4), none⟩,
    ⟨some 19, .ia 16 (.t 17) 1, none⟩,
    ⟨none, .st 19 (.t 18) 1, none⟩] [0, 3, 4, 5])
  (.reg [⟨some 20, .mv (.t 4), none⟩,
    ⟨some 21, .mv (.t 0), none⟩,
    ⟨some 22, .mv (.t 5), none⟩,
    ⟨some 23, .ia 21 (.t 22) 1, none⟩,
    ⟨some 24, .ld 23 1 false, none⟩,
    ⟨some 25, .bin .add (.t 24) (.c (.int .i64 1)), none⟩,
    ⟨some 26, .bin .mul (.t 20) (.t 25), none⟩,
    ⟨some 4, .asg (.t 26), none⟩] [0, 3, 4, 5]))))
  (.reg [⟨some 14, .mv (.t 5), none⟩,
    ⟨some 15, .bin .sub (.t 14) (.c (.int .i64 1)), none⟩,
    ⟨some 5, .asg (.t 15), none⟩] [0, 3, 4, 5])))))))
  (.seq (.reg [⟨some 27, .mv (.t 3), none⟩,
    ⟨some 2, .asg (.t 27), none⟩] [2])
  (.ret)))))
theorem con_impl_strides {v0 : (List Int)} {r : (List Int)} (h : sh_impl_strides v0 = some r) : Con Try.prog 158 [(cLs cI rfl).enc v0] [] (rs_impl_strides r) := by
  delta sh_impl_strides at h
  refine top (out := none) (f := Try.f158) (m := m158) (rs := [.t 2]) (by kernel_rfl) rfl (by kernel_rfl) (by kernel_rfl) (by kernel_rfl) (by kernel_rfl) (by kernel_rfl) ?_
  exact
   ini [(0, .d ((cLs cI rfl).enc v0))] rfl <| wpC_seq <| reg_s <| x_asg (sc (cLo cI) ([] : List Int) rfl) <| seqN [(0, .d ((cLs cI rfl).enc v0))] (by kernel_rfl) <|
    xn <| wpC_seq <| reg_s <| st rfl <| mvd rfl rfl <| stw rfl <| lens rfl fun l4 => mkO_k h fun i5 l6 h => st rfl <| o_mk (c := cI) (a0 := (0 : Int)) rfl (k := .i64) rfl i5 l6 <| x_asg (so rfl rfl) <| seqN [(0, .d ((cLs cI rfl).enc v0)), (3, .d ((cLo cI).enc (List.replicate ((v0.length : Int)).toNat (0 : Int))))] (by kernel_rfl) <|
    xn <| wpC_seq <| reg_s <| x_asg (sc cI (1 : Int) rfl) <| seqN [(0, .d ((cLs cI rfl).enc v0)), (3, .d ((cLo cI).enc (List.replicate ((v0.length : Int)).toNat (0 : Int)))), (4, .d (cI.enc (1 : Int)))] (by kernel_rfl) <|
    xn <| wpC_seq <| wpC_kp <| wpC_seq <| reg_s <| st rfl <| mvd rfl rfl <| stw rfl <| lens rfl fun l96 => ckI_k h fun i97 h => st rfl <| b_sub (k := .i64) rfl rfl i97 <| x_asg (ss rfl rfl) <| seqN [(0, .d ((cLs cI rfl).enc v0)), (3, .d ((cLo cI).enc (List.replicate ((v0.length : Int)).toNat (0 : Int)))), (4, .d (cI.enc (1 : Int))), (5, .d (cI.enc ((v0.length : Int) - (1 : Int))))] (by kernel_rfl) <|
    xn <| wpC_blk <| lpF (fun (s98 : ((List Int) × Int × Int)) => [(0, .d ((cLs cI rfl).enc v0)), (3, .d ((cLo cI).enc s98.1)), (4, .d (cI.enc s98.2.1)), (5, .d (cI.enc s98.2.2))]) ((List.replicate ((v0.length : Int)).toNat (0 : Int)), (1 : Int), ((v0.length : Int) - (1 : Int))) rfl h
    fun G155 nx153 s98 hn154 h => wpC_seq <| wpC_kp <| wpC_seq <| reg_s <| st rfl <| mvd rfl rfl <| st rfl <| b_geq (k := .i64) rfl rfl <| seqN [(0, .d ((cLs cI rfl).enc v0)), (3, .d ((cLo cI).enc s98.1)), (4, .d (cI.enc s98.2.1)), (5, .d (cI.enc s98.2.2)), (13, .d (cB.enc (decide ((0 : Int) ≤ s98.2.2))))] (by kernel_rfl) <|
    xn <| cnd rfl h (fun b157 h => wpC_skip <| kpN [(0, .d ((cLs cI rfl).enc v0)), (3, .d ((cLo cI).enc s98.1)), (4, .d (cI.enc s98.2.1)), (5, .d (cI.enc s98.2.2))] (by kernel_rfl) <| xn <| wpC_seq <| wpC_kp <| wpC_blk <| wpC_seq <| reg_s <| st rfl <| mvo rfl rfl <| st rfl <| mvd rfl rfl <| st rfl <| mvd rfl rfl <| getO_k h fun x172 i173 g174 h => st rfl <| iar rfl rfl rfl rfl i173 g174 rfl <| x_sta ((cLo cI).enc (s98.1.set (s98.2.2).toNat s98.2.1)) (ss rfl rfl) rfl rfl (Ln.idx g174 Ln.nil) (Cd.h_sz cI _) rfl <| seqN [(0, .d ((cLs cI rfl).enc v0)), (3, .d ((cLo cI).enc (s98.1.set (s98.2.2).toNat s98.2.1))), (4, .d (cI.enc s98.2.1)), (5, .d (cI.enc s98.2.2))] (by kernel_rfl) <|
    xn <| reg_s <| st rfl <| mvd rfl rfl <| st rfl <| mvd rfl rfl <| st rfl <| mvd rfl rfl <| getO_k h fun x175 i176 g177 h => st rfl <| ias rfl rfl i176 g177 rfl <| st rfl <| ldi rfl rfl rfl rfl <| ckI_k h fun i178 h => st rfl <| b_add (k := .i64) rfl rfl i178 <| ckI_k h fun i179 h => st rfl <| b_mul (k := .i64) rfl rfl i179 <| x_asg (ss rfl rfl) <| seqN [(0, .d ((cLs cI rfl).enc v0)), (3, .d ((cLo cI).enc (s98.1.set (s98.2.2).toNat s98.2.1))), (4, .d (cI.enc (s98.2.1 * (x175 + (1 : Int))))), (5, .d (cI.enc s98.2.2))] (by kernel_rfl) <|
    xbb <| kpN [(0, .d ((cLs cI rfl).enc v0)), (3, .d ((cLo cI).enc (s98.1.set (s98.2.2).toNat s98.2.1))), (4, .d (cI.enc (s98.2.1 * (x175 + (1 : Int))))), (5, .d (cI.enc s98.2.2))] (by kernel_rfl) <| xn <| reg_s <| st rfl <| mvd rfl rfl <| ckI_k h fun i180 h => st rfl <| b_sub (k := .i64) rfl rfl i180 <| x_asg (ss rfl rfl) <| seqN [(0, .d ((cLs cI rfl).enc v0)), (3, .d ((cLo cI).enc (s98.1.set (s98.2.2).toNat s98.2.1))), (4, .d (cI.enc (s98.2.1 * (x175 + (1 : Int))))), (5, .d (cI.enc (s98.2.2 - (1 : Int))))] (by kernel_rfl) <|
    xn <| hn154 ((s98.1.set (s98.2.2).toNat s98.2.1), (s98.2.1 * (x175 + (1 : Int))), (s98.2.2 - (1 : Int))) h)
    (fun b157 h => wpC_exit <| xt <| xt <| xt <| xb <| kpN [(3, .d ((cLo cI).enc s98.1))] (by kernel_rfl) <| xn <| wpC_seq <| reg_s <| st rfl <| mvo rfl rfl <| x_asg (sr rfl rfl) <| seqN [(2, .d ((cLo cI).enc s98.1))] (by kernel_rfl) <|
    xn <| wpC_ret <| re <| fin h (r1 (so rfl rfl) <| r0) rfl)

def rs_impl_indexOf (r : (List Int)) : List D := [(cLo cI).enc r]
def m120 : MC := .seq (.reg [⟨some 4, .asg (.c (.slice true [])), none⟩] [0, 1])
  (.seq (.reg [⟨some 8, .mv (.t 0), none⟩,
    ⟨some 9, .len false (.t 8), none⟩,
    ⟨some 10, .mk (.int .i64 0) (.t 9), none⟩,
    ⟨some 5, .asg (.t 10), none⟩] [0, 1, 5])
  (.seq (.kp [5] (.seq (.reg [⟨some 11, .mv (.t 0), none⟩,
    ⟨some 12, .call 158 [(.t 11)], none⟩,
    ⟨some 13, .len false (.t 12), none⟩,
    ⟨some 14, .mv (.c (.int .i64 0)), none⟩] [1, 5, 12, 13, 14])
  (.blk 0 (.loop (.seq (.reg [⟨some 15, .bin .lss (.t 14) (.t 13), none⟩] [1, 5, 12, 13, 14, 15])
  (.seq (.kp [1, 5, 12, 13, 14] (.cond (.t 15) (.skip) (.exit 0)))
  (.seq (.kp [1, 5, 12, 13, 14] (.blk 1 (.seq (.reg [⟨some 16, .mv (.t 14), none⟩,
    ⟨some 17, .ia 12 (.t 14) 1, none⟩,
    ⟨some 18, .ld 17 1 false, none⟩,
    ⟨some 6, .asg (.t 16), none⟩,
    ⟨some 7, .asg (.t 18), none⟩] [1, 5, 6, 7, 12, 13, 14])
  (.seq (.reg [⟨some 19, .mv (.t 5), none⟩,
    ⟨some 20, .mv (.t 6), none⟩,
    ⟨some 21, .mv (.t 1), none⟩,
    ⟨some 22, .mv (.t 7), none⟩,
    ⟨some 23, .bin .quo (.t 21) (.t 22), none⟩,
    ⟨some 24, .ia 19 (.t 20) 1, none⟩,
    ⟨none, .st 24 (.t 23) 1, none⟩] [1, 5, 7, 12, 13, 14])
  (.reg [⟨some 25, .mv (.t 1), none⟩,
    ⟨some 26, .mv (.t 7), none⟩,
    ⟨some 27, .bin .rem (.t 25) (.t 26), none⟩,
    ⟨some 1, .asg (.t 27), none⟩] [1, 5, 12, 13, 14])))))
  (.reg [⟨some 28, .bin .add (.t 14) (.c (.int .i64 1)), none⟩,
    ⟨some 14, .mv (.t 28), none⟩] [1, 5, 12, 13, 14]))))))))
  (.seq (.reg [⟨some 29, .mv (.t 5), none⟩,
    ⟨some 4, .asg (.t 29), none⟩] [4])
  (.ret))))
theorem con_impl_indexOf {v0 : (List Int)} {v1 : Int} {r : (List Int)} (h : sh_impl_indexOf v0 v1 = some r) : Con Try.prog 120 [(cLs cI rfl).enc v0, cI.enc v1] [] (rs_impl_indexOf r) := by
  delta sh_impl_indexOf at h
  refine top (out := none) (f := Try.f120) (m := m120) (rs := [.t 4]) (by kernel_rfl) rfl (by kernel_rfl) (by kernel_rfl) (by kernel_rfl) (by kernel_rfl) (by kernel_rfl) ?_
  exact
   ini [(0, .d ((cLs cI rfl).enc v0)), (1, .d (cI.enc v1))] rfl <| wpC_seq <| reg_s <| x_asg (sc (cLo cI) ([] : List Int) rfl) <| seqN [(0, .d ((cLs cI rfl).enc v0)), (1, .d (cI.enc v1))] (by kernel_rfl) <|
    xn <| wpC_seq <| reg_s <| st rfl <| mvd rfl rfl <| stw rfl <| lens rfl fun l4 => mkO_k h fun i5 l6 h => st rfl <| o_mk (c := cI) (a0 := (0 : Int)) rfl (k := .i64) rfl i5 l6 <| x_asg (so rfl rfl) <| seqN [(0, .d ((cLs cI rfl).enc v0)), (1, .d (cI.enc v1)), (5, .d ((cLo cI).enc (List.replicate ((v0.length : Int)).toNat (0 : Int))))] (by kernel_rfl) <|
    xn <| wpC_seq <| wpC_kp <| wpC_seq <| reg_s <| st rfl <| mvd rfl rfl <| bnd h fun x90 e91 h => st rfl <| o_call (a1 (c := (cLs cI rfl)) (tLs tK) rfl a0) (con_impl_strides e91) (.inl (so1 (sLo sK) so0)) <| stw rfl <| leno rfl fun l92 => st rfl <| mvc cI (0 : Int) rfl <| seqN [(1, .d (cI.enc v1)), (5, .d ((cLo cI).enc (List.replicate ((v0.length : Int)).toNat (0 : Int)))), (12, .d ((cLo cI).enc x90)), (13, .d (cI.enc (x90.length : Int))), (14, .d (cI.enc (0 : Int)))] (by kernel_rfl) <|
    xn <| wpC_blk <| lpR (fun (k94 : Nat) (s93 : (Int × (List Int))) => [(1, .d (cI.enc s93.1)), (5, .d ((cLo cI).enc s93.2)), (12, .d ((cLo cI).enc x90)), (13, .d (cI.enc (x90.length : Int))), (14, .d (cI.enc (k94 : Int)))]) (v1, (List.replicate ((v0.length : Int)).toNat (0 : Int))) rfl h
    (fun G144 s93 h => wpC_seq <| reg_s <| st rfl <| b_lss (k := .i64) rfl rfl <| seqN [(1, .d (cI.enc s93.1)), (5, .d ((cLo cI).enc s93.2)), (12, .d ((cLo cI).enc x90)), (13, .d (cI.enc (x90.length : Int))), (14, .d (cI.enc (x90.length : Int))), (15, .d (cB.enc (decide ((x90.length : Int) < (x90.length : Int)))))] (by kernel_rfl) <|
    xn <| wpC_seq <| wpC_kp <| cnd0 rfl (dlf _) <| wpC_exit <| xt <| xt <| xt <| xb <| kpN [(5, .d ((cLo cI).enc s93.2))] (by kernel_rfl) <| xn <| wpC_seq <| reg_s <| st rfl <| mvo rfl rfl <| x_asg (sr rfl rfl) <| seqN [(4, .d ((cLo cI).enc s93.2))] (by kernel_rfl) <|
    xn <| wpC_ret <| re <| fin h (r1 (so rfl rfl) <| r0) rfl)
    (fun G144 nx142 k94 s93 x95 hk96 hx97 hn143 h => wpC_seq <| reg_s <| st rfl <| b_lss (k := .i64) rfl rfl <| seqN [(1, .d (cI.enc s93.1)), (5, .d ((cLo cI).enc s93.2)), (12, .d ((cLo cI).enc x90)), (13, .d (cI.enc (x90.length : Int))), (14, .d (cI.enc (k94 : Int))), (15, .d (cB.enc (decide ((k94 : Int) < (x90.length : Int)))))] (by kernel_rfl) <|
    xn <| wpC_seq <| wpC_kp <| cnd1 rfl (dlt hk96) <| wpC_skip <| kpN [(1, .d (cI.enc s93.1)), (5, .d ((cLo cI).enc s93.2)), (12, .d ((cLo cI).enc x90)), (13, .d (cI.enc (x90.length : Int))), (14, .d (cI.enc (k94 : Int)))] (by kernel_rfl) <| xn <| wpC_seq <| wpC_kp <| wpC_blk <| wpC_seq <| reg_s <| st rfl <| mvd rfl rfl <| st rfl <| iao rfl rfl (Int.natCast_nonneg _) hx97 rfl <| st rfl <| lda rfl rfl (Gt.idx hx97 Gt.nil) rfl rfl rfl <| x_asg (ss rfl rfl) <| x_asg (ss rfl rfl) <| seqN [(1, .d (cI.enc s93.1)), (5, .d ((cLo cI).enc s93.2)), (6, .d (cI.enc (k94 : Int))), (7, .d (cI.enc x95)), (12, .d ((cLo cI).enc x90)), (13, .d (cI.enc (x90.length : Int))), (14, .d (cI.enc (k94 : Int)))] (by kernel_rfl) <|
    xn <| wpC_seq <| reg_s <| st rfl <| mvo rfl rfl <| st rfl <| mvd rfl rfl <| st rfl <| mvd rfl rfl <| st rfl <| mvd rfl rfl <| ck_k h fun i161 h => ckI_k h fun i162 h => st rfl <| b_quo (k := .i64) rfl rfl i161 i162 <| getO_k h fun x163 i164 g165 h => st rfl <| iar rfl rfl rfl rfl i164 g165 rfl <| x_sta ((cLo cI).enc (s93.2.set ((k94 : Int)).toNat (s93.1.tdiv x95))) (ss rfl rfl) rfl rfl (Ln.idx g165 Ln.nil) (Cd.h_sz cI _) rfl <| seqN [(1, .d (cI.enc s93.1)), (5, .d ((cLo cI).enc (s93.2.set ((k94 : Int)).toNat (s93.1.tdiv x95)))), (7, .d (cI.enc x95)), (12, .d ((cLo cI).enc x90)), (13, .d (cI.enc (x90.length : Int))), (14, .d (cI.enc (k94 : Int)))] (by kernel_rfl) <|
    xn <| reg_s <| st rfl <| mvd rfl rfl <| st rfl <| mvd rfl rfl <| ck_k h fun i166 h => st rfl <| b_rem (k := .i64) rfl rfl i166 <| x_asg (ss rfl rfl) <| seqN [(1, .d (cI.enc (s93.1.tmod x95))), (5, .d ((cLo cI).enc (s93.2.set ((k94 : Int)).toNat (s93.1.tdiv x95)))), (12, .d ((cLo cI).enc x90)), (13, .d (cI.enc (x90.length : Int))), (14, .d (cI.enc (k94 : Int)))] (by kernel_rfl) <|
    xbb <| kpN [(1, .d (cI.enc (s93.1.tmod x95))), (5, .d ((cLo cI).enc (s93.2.set ((k94 : Int)).toNat (s93.1.tdiv x95)))), (12, .d ((cLo cI).enc x90)), (13, .d (cI.enc (x90.length : Int))), (14, .d (cI.enc (k94 : Int)))] (by kernel_rfl) <| xn <| reg_s <| st rfl <| b_inc rfl rfl l92 hk96 <| st rfl <| mvd rfl rfl <| seqN [(1, .d (cI.enc (s93.1.tmod x95))), (5, .d ((cLo cI).enc (s93.2.set ((k94 : Int)).toNat (s93.1.tdiv x95)))), (12, .d ((cLo cI).enc x90)), (13, .d (cI.enc (x90.length : Int))), (14, .d (cI.enc ((k94 + 1 : Nat) : Int)))] (by kernel_rfl) <|
    xn <| hn143 ((s93.1.tmod x95), (s93.2.set ((k94 : Int)).toNat (s93.1.tdiv x95))) h)

def rs_impl_cellOf (r : Int) : List D := [cI.enc r]
def m121 : MC := .seq (.reg [⟨some 4, .asg (.c (.int .i64 0)), none⟩] [0, 1])
  (.seq (.reg [⟨some 5, .asg (.c (.int .i64 0)), none⟩] [0, 1, 5])
  (.seq (.kp [5] (.seq (.reg [⟨some 8, .mv (.t 0), none⟩,
    ⟨some 9, .call 158 [(.t 8)], none⟩,
    ⟨some 10, .len false (.t 9), none⟩,
    ⟨some 11, .mv (.c (.int .i64 0)), none⟩] [1, 5, 9, 10, 11])
  (.blk 0 (.loop (.seq (.reg [⟨some 12, .bin .lss (.t 11) (.t 10), none⟩] [1, 5, 9, 10, 11, 12])
  (.seq (.kp [1, 5, 9, 10, 11] (.cond (.t 12) (.skip) (.exit 0)))
  (.seq (.kp [1, 5, 9, 10, 11] (.blk 1 (.seq (.reg [⟨some 13, .mv (.t 11), none⟩,
    ⟨some 14, .ia 9 (.t 11) 1, none⟩,
    ⟨some 15, .ld 14 1 false, none⟩,
    ⟨some 6, .asg (.t 13), none⟩,
    ⟨some 7, .asg (.t 15), none⟩] [1, 5, 6, 7, 9, 10, 11])
  (.reg [⟨some 16, .mv (.t 5), none⟩,
    ⟨some 17, .mv (.t 1), none⟩,
    ⟨some 18, .mv (.t 6), none⟩,
    ⟨some 19, .ia 17 (.t 18) 1, none⟩,
    ⟨some 20, .ld 19 1 false, none⟩,
    ⟨some 21, .mv (.t 7), none⟩,
    ⟨some 22, .bin .mul (.t 20) (.t 21), none⟩,
    ⟨some 23, .bin .add (.t 16) (.t 22), none⟩,
    ⟨some 5, .asg (.t 23), none⟩] [1, 5, 9, 10, 11]))))
  (.reg [⟨some 24, .bin .add (.t 11) (.c (.int .i64 1)), none⟩,
    ⟨some 11, .mv (.t 24), none⟩] [1, 5, 9, 10, 11]))))))))
  (.seq (.reg [⟨some 25, .mv (.t 5), none⟩,
    ⟨some 4, .asg (.t 25), none⟩] [4])
  (.ret))))
theorem con_impl_cellOf {v0 : (List Int)} {v1 : (List Int)} {r : Int} (h : sh_impl_cellOf v0 v1 = some r) : Con Try.prog 121 [(cLs cI rfl).enc v0, (cLs cI rfl).enc v1] [] (rs_impl_cellOf r) := by
  delta sh_impl_cellOf at h
  refine top (out := none) (f := Try.f121) (m := m121) (rs := [.t 4]) (by kernel_rfl) rfl (by kernel_rfl) (by kernel_rfl) (by kernel_rfl) (by kernel_rfl) (by kernel_rfl) ?_
  exact
   ini [(0, .d ((cLs cI rfl).enc v0)), (1, .d ((cLs cI rfl).enc v1))] rfl <| wpC_seq <| reg_s <| x_asg (sc cI (0 : Int) rfl) <| seqN [(0, .d ((cLs cI rfl).enc v0)), (1, .d ((cLs cI rfl).enc v1))] (by kernel_rfl) <|
    xn <| wpC_seq <| reg_s <| x_asg (sc cI (0 : Int) rfl) <| seqN [(0, .d ((cLs cI rfl).enc v0)), (1, .d ((cLs cI rfl).enc v1)), (5, .d (cI.enc (0 : Int)))] (by kernel_rfl) <|
    xn <| wpC_seq <| wpC_kp <| wpC_seq <| reg_s <| st rfl <| mvd rfl rfl <| bnd h fun x48 e49 h => st rfl <| o_call (a1 (c := (cLs cI rfl)) (tLs tK) rfl a0) (con_impl_strides e49) (.inl (so1 (sLo sK) so0)) <| stw rfl <| leno rfl fun l50 => st rfl <| mvc cI (0 : Int) rfl <| seqN [(1, .d ((cLs cI rfl).enc v1)), (5, .d (cI.enc (0 : Int))), (9, .d ((cLo cI).enc x48)), (10, .d (cI.enc (x48.length : Int))), (11, .d (cI.enc (0 : Int)))] (by kernel_rfl) <|
    xn <| wpC_blk <| lpR (fun (k52 : Nat) (s51 : Int) => [(1, .d ((cLs cI rfl).enc v1)), (5, .d (cI.enc s51)), (9, .d ((cLo cI).enc x48)), (10, .d (cI.enc (x48.length : Int))), (11, .d (cI.enc (k52 : Int)))]) (0 : Int) rfl h
    (fun G78 s51 h => wpC_seq <| reg_s <| st rfl <| b_lss (k := .i64) rfl rfl <| seqN [(1, .d ((cLs cI rfl).enc v1)), (5, .d (cI.enc s51)), (9, .d ((cLo cI).enc x48)), (10, .d (cI.enc (x48.length : Int))), (11, .d (cI.enc (x48.length : Int))), (12, .d (cB.enc (decide ((x48.length : Int) < (x48.length : Int)))))] (by kernel_rfl) <|
    xn <| wpC_seq <| wpC_kp <| cnd0 rfl (dlf _) <| wpC_exit <| xt <| xt <| xt <| xb <| kpN [(5, .d (cI.enc s51))] (by kernel_rfl) <| xn <| wpC_seq <| reg_s <| st rfl <| mvd rfl rfl <| x_asg (ss rfl rfl) <| seqN [(4, .d (cI.enc s51))] (by kernel_rfl) <|
    xn <| wpC_ret <| re <| fin h (r1 (ss rfl rfl) <| r0) rfl)
    (fun G78 nx76 k52 s51 x53 hk54 hx55 hn77 h => wpC_seq <| reg_s <| st rfl <| b_lss (k := .i64) rfl rfl <| seqN [(1, .d ((cLs cI rfl).enc v1)), (5, .d (cI.enc s51)), (9, .d ((cLo cI).enc x48)), (10, .d (cI.enc (x48.length : Int))), (11, .d (cI.enc (k52 : Int))), (12, .d (cB.enc (decide ((k52 : Int) < (x48.length : Int)))))] (by kernel_rfl) <|
    xn <| wpC_seq <| wpC_kp <| cnd1 rfl (dlt hk54) <| wpC_skip <| kpN [(1, .d ((cLs cI rfl).enc v1)), (5, .d (cI.enc s51)), (9, .d ((cLo cI).enc x48)), (10, .d (cI.enc (x48.length : Int))), (11, .d (cI.enc (k52 : Int)))] (by kernel_rfl) <| xn <| wpC_seq <| wpC_kp <| wpC_blk <| wpC_seq <| reg_s <| st rfl <| mvd rfl rfl <| st rfl <| iao rfl rfl (Int.natCast_nonneg _) hx55 rfl <| st rfl <| lda rfl rfl (Gt.idx hx55 Gt.nil) rfl rfl rfl <| x_asg (ss rfl rfl) <| x_asg (ss rfl rfl) <| seqN [(1, .d ((cLs cI rfl).enc v1)), (5, .d (cI.enc s51)), (6, .d (cI.enc (k52 : Int))), (7, .d (cI.enc x53)), (9, .d ((cLo cI).enc x48)), (10, .d (cI.enc (x48.length : Int))), (11, .d (cI.enc (k52 : Int)))] (by kernel_rfl) <|
    xn <| reg_s <| st rfl <| mvd rfl rfl <| st rfl <| mvd rfl rfl <| st rfl <| mvd rfl rfl <| getO_k h fun x84 i85 g86 h => st rfl <| ias rfl rfl i85 g86 rfl <| st rfl <| ldi rfl rfl rfl rfl <| st rfl <| mvd rfl rfl <| ckI_k h fun i87 h => st rfl <| b_mul (k := .i64) rfl rfl i87 <| ckI_k h fun i88 h => st rfl <| b_add (k := .i64) rfl rfl i88 <| x_asg (ss rfl rfl) <| seqN [(1, .d ((cLs cI rfl).enc v1)), (5, .d (cI.enc (s51 + (x84 * x53)))), (9, .d ((cLo cI).enc x48)), (10, .d (cI.enc (x48.length : Int))), (11, .d (cI.enc (k52 : Int)))] (by kernel_rfl) <|
    xbb <| kpN [(1, .d ((cLs cI rfl).enc v1)), (5, .d (cI.enc (s51 + (x84 * x53)))), (9, .d ((cLo cI).enc x48)), (10, .d (cI.enc (x48.length : Int))), (11, .d (cI.enc (k52 : Int)))] (by kernel_rfl) <| xn <| reg_s <| st rfl <| b_inc rfl rfl l50 hk54 <| st rfl <| mvd rfl rfl <| seqN [(1, .d ((cLs cI rfl).enc v1)), (5, .d (cI.enc (s51 + (x84 * x53)))), (9, .d ((cLo cI).enc x48)), (10, .d (cI.enc (x48.length : Int))), (11, .d (cI.enc ((k52 + 1 : Nat) : Int)))] (by kernel_rfl) <|
    xn <| hn77 (s51 + (x84 * x53)) h)
def rs_laws_szIntS (r : Int) : List D := [cI.enc r]
def m109 : MC := .seq (.reg [⟨some 4, .asg (.c (.int .i64 0)), none⟩] [0, 1])
  (.seq (.reg [⟨some 5, .mv (.t 1), none⟩,
    ⟨some 6, .mv (.t 0), none⟩,
    ⟨some 7, .len false (.t 6), none⟩,
    ⟨some 8, .bin .sub (.t 5) (.t 7), none⟩,
    ⟨some 1, .asg (.t 8), none⟩] [1])
  (.seq (.kp [1] (.seq (.reg [⟨some 9, .mv (.t 1), none⟩,
    ⟨some 10, .bin .lss (.t 9) (.c (.int .i64 0)), none⟩] [1, 10])
  (.cond (.t 10) (.seq (.reg [⟨some 4, .asg (.c (.int .i64 (-1))), none⟩] [4])
  (.ret)) (.skip))))
  (.seq (.reg [⟨some 11, .mv (.t 1), none⟩,
    ⟨some 4, .asg (.t 11), none⟩] [4])
  (.ret))))
theorem con_laws_szIntS {v0 : (List Int)} {v1 : Int} {r : Int} (h : sh_laws_szIntS v0 v1 = some r) : Con Try.prog 109 [(cLs cI rfl).enc v0, cI.enc v1] [] (rs_laws_szIntS r) := by
  delta sh_laws_szIntS at h
  refine top (out := none) (f := Try.f109) (m := m109) (rs := [.t 4]) (by kernel_rfl) rfl (by kernel_rfl) (by kernel_rfl) (by kernel_rfl) (by kernel_rfl) (by kernel_rfl) ?_
  exact
   ini [(0, .d ((cLs cI rfl).enc v0)), (1, .d (cI.enc v1))] rfl <| wpC_seq <| reg_s <| x_asg (sc cI (0 : Int) rfl) <| seqN [(0, .d ((cLs cI rfl).enc v0)), (1, .d (cI.enc v1))] (by kernel_rfl) <|
    xn <| wpC_seq <| reg_s <| st rfl <| mvd rfl rfl <| st rfl <| mvd rfl rfl <| stw rfl <| lens rfl fun l3 => ckI_k h fun i4 h => st rfl <| b_sub (k := .i64) rfl rfl i4 <| x_asg (ss rfl rfl) <| seqN [(1, .d (cI.enc (v1 - (v0.length : Int))))] (by kernel_rfl) <|
    xn <| wpC_seq <| wpC_kp <| wpC_seq <| reg_s <| st rfl <| mvd rfl rfl <| st rfl <| b_lss (k := .i64) rfl rfl <| seqN [(1, .d (cI.enc (v1 - (v0.length : Int)))), (10, .d (cB.enc (decide ((v1 - (v0.length : Int)) < (0 : Int)))))] (by kernel_rfl) <|
    xn <| cnd rfl h (fun b6 h => wpC_seq <| reg_s <| x_asg (sc cI (-1 : Int) rfl) <| seqN [(4, .d (cI.enc (-1 : Int)))] (by kernel_rfl) <|
    xn <| wpC_ret <| rt <| rt <| re <| fin h (r1 (ss rfl rfl) <| r0) rfl)
    (fun b6 h => wpC_skip <| kpN [(1, .d (cI.enc (v1 - (v0.length : Int))))] (by kernel_rfl) <| xn <| wpC_seq <| reg_s <| st rfl <| mvd rfl rfl <| x_asg (ss rfl rfl) <| seqN [(4, .d (cI.enc (v1 - (v0.length : Int))))] (by kernel_rfl) <|
    xn <| wpC_ret <| re <| fin h (r1 (ss rfl rfl) <| r0) rfl)

def rs_laws_szCube (r : Int) : List D := [cI.enc r]
def m49 : MC := .seq (.reg [⟨some 2, .box (.t 0), none⟩,
    ⟨some 4, .asg (.c (.int .i64 0)), none⟩] [1, 2])
  (.seq (.reg [⟨some 5, .fa 2 0 0, none⟩,
    ⟨some 6, .ld 5 1 false, none⟩,
    ⟨some 7, .mv (.t 1), none⟩,
    ⟨some 8, .call 109 [(.t 6), (.t 7)], none⟩,
    ⟨some 1, .asg (.t 8), none⟩] [1, 2])
  (.seq (.kp [1, 2] (.seq (.reg [⟨some 9, .mv (.t 1), none⟩,
    ⟨some 10, .bin .lss (.t 9) (.c (.int .i64 0)), none⟩] [1, 2, 10])
  (.cond (.t 10) (.seq (.reg [⟨some 4, .asg (.c (.int .i64 (-1))), none⟩] [4])
  (.ret)) (.skip))))
  (.seq (.reg [⟨some 11, .fa 2 1 1, none⟩,
    ⟨some 12, .ld 11 1 false, none⟩,
    ⟨some 13, .mv (.t 1), none⟩,
    ⟨some 14, .call 109 [(.t 12), (.t 13)], none⟩,
    ⟨some 1, .asg (.t 14), none⟩] [1])
  (.seq (.kp [1] (.seq (.reg [⟨some 15, .mv (.t 1), none⟩,
    ⟨some 16, .bin .lss (.t 15) (.c (.int .i64 0)), none⟩] [1, 16])
  (.cond (.t 16) (.seq (.reg [⟨some 4, .asg (.c (.int .i64 (-1))), none⟩] [4])
  (.ret)) (.skip))))
  (.seq (.reg [⟨some 17, .mv (.t 1), none⟩,
    ⟨some 4, .asg (.t 17), none⟩] [4])
  (.ret))))))
theorem con_laws_szCube {v0 : XCube} {v1 : Int} {r : Int} (h : sh_laws_szCube v0 v1 = some r) : Con Try.prog 49 [(cXCube (cLs cI rfl) (cLs cI rfl)).enc v0, cI.enc v1] [] (rs_laws_szCube r) := by
  delta sh_laws_szCube at h
  refine top (out := none) (f := Try.f49) (m := m49) (rs := [.t 4]) (by kernel_rfl) rfl (by kernel_rfl) (by kernel_rfl) (by kernel_rfl) (by kernel_rfl) (by kernel_rfl) ?_
  exact
   ini [(0, .d ((cXCube (cLs cI rfl) (cLs cI rfl)).enc v0)), (1, .d (cI.enc v1))] rfl <| wpC_seq <| reg_s <| x_box (ss rfl rfl) <| x_asg (sc cI (0 : Int) rfl) <| seqN [(1, .d (cI.enc v1)), (2, .box ((cXCube (cLs cI rfl) (cLs cI rfl)).enc v0))] (by kernel_rfl) <|
    xn <| wpC_seq <| reg_s <| st rfl <| fab rfl rfl rfl rfl <| st rfl <| lda rfl rfl rfl rfl rfl rfl <| st rfl <| mvd rfl rfl <| bnd h fun x3 e4 h => st rfl <| o_call (a1 (c := (cLs cI rfl)) (tLs tK) rfl (a1 (c := cI) tK rfl a0)) (con_laws_szIntS e4) (.inl (so1 sK so0)) <| x_asg (ss rfl rfl) <| seqN [(1, .d (cI.enc x3)), (2, .box ((cXCube (cLs cI rfl) (cLs cI rfl)).enc v0))] (by kernel_rfl) <|
    xn <| wpC_seq <| wpC_kp <| wpC_seq <| reg_s <| st rfl <| mvd rfl rfl <| st rfl <| b_lss (k := .i64) rfl rfl <| seqN [(1, .d (cI.enc x3)), (2, .box ((cXCube (cLs cI rfl) (cLs cI rfl)).enc v0)), (10, .d (cB.enc (decide (x3 < (0 : Int)))))] (by kernel_rfl) <|
    xn <| cnd rfl h (fun b6 h => wpC_seq <| reg_s <| x_asg (sc cI (-1 : Int) rfl) <| seqN [(4, .d (cI.enc (-1 : Int)))] (by kernel_rfl) <|
    xn <| wpC_ret <| rt <| rt <| re <| fin h (r1 (ss rfl rfl) <| r0) rfl)
    (fun b6 h => wpC_skip <| kpN [(1, .d (cI.enc x3)), (2, .box ((cXCube (cLs cI rfl) (cLs cI rfl)).enc v0))] (by kernel_rfl) <| xn <| wpC_seq <| reg_s <| st rfl <| fab rfl rfl rfl rfl <| st rfl <| lda rfl rfl rfl rfl rfl rfl <| st rfl <| mvd rfl rfl <| bnd h fun x9 e10 h => st rfl <| o_call (a1 (c := (cLs cI rfl)) (tLs tK) rfl (a1 (c := cI) tK rfl a0)) (con_laws_szIntS e10) (.inl (so1 sK so0)) <| x_asg (ss rfl rfl) <| seqN [(1, .d (cI.enc x9))] (by kernel_rfl) <|
    xn <| wpC_seq <| wpC_kp <| wpC_seq <| reg_s <| st rfl <| mvd rfl rfl <| st rfl <| b_lss (k := .i64) rfl rfl <| seqN [(1, .d (cI.enc x9)), (16, .d (cB.enc (decide (x9 < (0 : Int)))))] (by kernel_rfl) <|
    xn <| cnd rfl h (fun b12 h => wpC_seq <| reg_s <| x_asg (sc cI (-1 : Int) rfl) <| seqN [(4, .d (cI.enc (-1 : Int)))] (by kernel_rfl) <|
    xn <| wpC_ret <| rt <| rt <| re <| fin h (r1 (ss rfl rfl) <| r0) rfl)
    (fun b12 h => wpC_skip <| kpN [(1, .d (cI.enc x9))] (by kernel_rfl) <| xn <| wpC_seq <| reg_s <| st rfl <| mvd rfl rfl <| x_asg (ss rfl rfl) <| seqN [(4, .d (cI.enc x9))] (by kernel_rfl) <|
    xn <| wpC_ret <| re <| fin h (r1 (ss rfl rfl) <| r0) rfl))

def rs_laws_toIntS (r : (List Int)) : List D := [(cLo cI).enc r]
def m27 : MC := .seq (.reg [⟨some 2, .asg (.c (.slice true [])), none⟩] [0])
  (.seq (.reg [⟨some 5, .mv (.t 0), none⟩,
    ⟨some 6, .len false (.t 5), none⟩,
    ⟨some 7, .mk (.int .i64 0) (.t 6), none⟩,
    ⟨some 3, .asg (.t 7), none⟩] [0, 3])
  (.seq (.kp [3] (.seq (.reg [⟨some 4, .asg (.c (.int .i64 0)), none⟩] [0, 3, 4])
  (.blk 0 (.loop (.seq (.kp [0, 3, 4] (.seq (.reg [⟨some 8, .mv (.t 4), none⟩,
    ⟨some 9, .mv (.t 0), none⟩,
    ⟨some 10, .len false (.t 9), none⟩,
    ⟨some 11, .bin .lss (.t 8) (.t 10), none⟩] [0, 3, 4, 11])
  (.cond (.t 11) (.skip) (.exit 0))))
  (.seq (.kp [0, 3, 4] (.blk 1 (.reg [⟨some 14, .mv (.t 3), none⟩,
    ⟨some 15, .mv (.t 4), none⟩,
    ⟨some 16, .mv (.t 0), none⟩,
    ⟨some 17, .mv (.t 4), none⟩,
    ⟨some 18, .ia 16 (.t 17) 1, none⟩,
    ⟨some 19, .ld 18 1 false, none⟩,
    ⟨some 20, .ia 14 (.t 15) 1, none⟩,
    ⟨none, .st 20 (.t 19) 1, none⟩] [0, 3, 4])))
  (.reg [⟨some 12, .mv (.t 4), none⟩,
    ⟨some 13, .bin .add (.t 12) (.c (.int .i64 1)), none⟩,
    ⟨some 4, .asg (.t 13), none⟩] [0, 3, 4])))))))
  (.seq (.reg [⟨some 21, .mv (.t 3), none⟩,
    ⟨some 2, .asg (.t 21), none⟩] [2])
  (.ret))))
theorem con_laws_toIntS {v0 : (List Int)} {r : (List Int)} (h : sh_laws_toIntS v0 = some r) : Con Try.prog 27 [(cLs cI rfl).enc v0] [] (rs_laws_toIntS r) := by
  delta sh_laws_toIntS at h
  refine top (out := none) (f := Try.f27) (m := m27) (rs := [.t 2]) (by kernel_rfl) rfl (by kernel_rfl) (by kernel_rfl) (by kernel_rfl) (by kernel_rfl) (by kernel_rfl) ?_
  exact
   ini [(0, .d ((cLs cI rfl).enc v0))] rfl <| wpC_seq <| reg_s <| x_asg (sc (cLo cI) ([] : List Int) rfl) <| seqN [(0, .d ((cLs cI rfl).enc v0))] (by kernel_rfl) <|
    xn <| wpC_seq <| reg_s <| st rfl <| mvd rfl rfl <| stw rfl <| lens rfl fun l4 => mkO_k h fun i5 l6 h => st rfl <| o_mk (c := cI) (a0 := (0 : Int)) rfl (k := .i64) rfl i5 l6 <| x_asg (so rfl rfl) <| seqN [(0, .d ((cLs cI rfl).enc v0)), (3, .d ((cLo cI).enc (List.replicate ((v0.length : Int)).toNat (0 : Int))))] (by kernel_rfl) <|
    xn <| wpC_seq <| wpC_kp <| wpC_seq <| reg_s <| x_asg (sc cI (0 : Int) rfl) <| seqN [(0, .d ((cLs cI rfl).enc v0)), (3, .d ((cLo cI).enc (List.replicate ((v0.length : Int)).toNat (0 : Int)))), (4, .d (cI.enc (0 : Int)))] (by kernel_rfl) <|
    xn <| wpC_blk <| lpF (fun (s72 : ((List Int) × Int)) => [(0, .d ((cLs cI rfl).enc v0)), (3, .d ((cLo cI).enc s72.1)), (4, .d (cI.enc s72.2))]) ((List.replicate ((v0.length : Int)).toNat (0 : Int)), (0 : Int)) rfl h
    fun G117 nx115 s72 hn116 h => wpC_seq <| wpC_kp <| wpC_seq <| reg_s <| st rfl <| mvd rfl rfl <| st rfl <| mvd rfl rfl <| stw rfl <| lens rfl fun l122 => st rfl <| b_lss (k := .i64) rfl rfl <| seqN [(0, .d ((cLs cI rfl).enc v0)), (3, .d ((cLo cI).enc s72.1)), (4, .d (cI.enc s72.2)), (11, .d (cB.enc (decide (s72.2 < (v0.length : Int)))))] (by kernel_rfl) <|
    xn <| cnd rfl h (fun b123 h => wpC_skip <| kpN [(0, .d ((cLs cI rfl).enc v0)), (3, .d ((cLo cI).enc s72.1)), (4, .d (cI.enc s72.2))] (by kernel_rfl) <| xn <| wpC_seq <| wpC_kp <| wpC_blk <| reg_s <| st rfl <| mvo rfl rfl <| st rfl <| mvd rfl rfl <| st rfl <| mvd rfl rfl <| st rfl <| mvd rfl rfl <| getO_k h fun x130 i131 g132 h => st rfl <| ias rfl rfl i131 g132 rfl <| st rfl <| ldi rfl rfl rfl rfl <| getO_k h fun x133 i134 g135 h => st rfl <| iar rfl rfl rfl rfl i134 g135 rfl <| x_sta ((cLo cI).enc (s72.1.set (s72.2).toNat x130)) (ss rfl rfl) rfl rfl (Ln.idx g135 Ln.nil) (Cd.h_sz cI _) rfl <| seqN [(0, .d ((cLs cI rfl).enc v0)), (3, .d ((cLo cI).enc (s72.1.set (s72.2).toNat x130))), (4, .d (cI.enc s72.2))] (by kernel_rfl) <|
    xbb <| kpN [(0, .d ((cLs cI rfl).enc v0)), (3, .d ((cLo cI).enc (s72.1.set (s72.2).toNat x130))), (4, .d (cI.enc s72.2))] (by kernel_rfl) <| xn <| reg_s <| st rfl <| mvd rfl rfl <| ckI_k h fun i136 h => st rfl <| b_add (k := .i64) rfl rfl i136 <| x_asg (ss rfl rfl) <| seqN [(0, .d ((cLs cI rfl).enc v0)), (3, .d ((cLo cI).enc (s72.1.set (s72.2).toNat x130))), (4, .d (cI.enc (s72.2 + (1 : Int))))] (by kernel_rfl) <|
    xn <| hn116 ((s72.1.set (s72.2).toNat x130), (s72.2 + (1 : Int))) h)
    (fun b123 h => wpC_exit <| xt <| xt <| xt <| xb <| kpN [(3, .d ((cLo cI).enc s72.1))] (by kernel_rfl) <| xn <| wpC_seq <| reg_s <| st rfl <| mvo rfl rfl <| x_asg (sr rfl rfl) <| seqN [(2, .d ((cLo cI).enc s72.1))] (by kernel_rfl) <|
    xn <| wpC_ret <| re <| fin h (r1 (so rfl rfl) <| r0) rfl)

def rs_laws_toCube (r : XCube) : List D := [(cXCube (cLo cI) (cLo cI)).enc r]
def m51 : MC := .seq (.reg [⟨some 1, .box (.t 0), none⟩,
    ⟨some 2, .alloc (.agg [.slice true [], .slice true []]), none⟩] [1, 2])
  (.seq (.reg [⟨some 3, .alloc (.agg [.slice true [], .slice true []]), none⟩] [1, 2, 3])
  (.seq (.reg [⟨some 4, .fa 1 0 0, none⟩,
    ⟨some 5, .ld 4 1 false, none⟩,
    ⟨some 6, .call 27 [(.t 5)], none⟩,
    ⟨some 7, .fa 3 0 0, none⟩,
    ⟨none, .st 7 (.t 6) 1, none⟩] [1, 2, 3])
  (.seq (.reg [⟨some 8, .fa 1 1 1, none⟩,
    ⟨some 9, .ld 8 1 false, none⟩,
    ⟨some 10, .call 27 [(.t 9)], none⟩,
    ⟨some 11, .fa 3 1 1, none⟩,
    ⟨none, .st 11 (.t 10) 1, none⟩] [2, 3])
  (.seq (.reg [⟨some 12, .ld 3 2 true, none⟩,
    ⟨none, .st 2 (.t 12) 2, none⟩] [2])
  (.ret)))))
theorem con_laws_toCube {v0 : XCube} {r : XCube} (h : sh_laws_toCube v0 = some r) : Con Try.prog 51 [(cXCube (cLs cI rfl) (cLs cI rfl)).enc v0] [] (rs_laws_toCube r) := by
  delta sh_laws_toCube at h
  refine top (out := none) (f := Try.f51) (m := m51) (rs := [.c 2 2 true]) (by kernel_rfl) rfl (by kernel_rfl) (by kernel_rfl) (by kernel_rfl) (by kernel_rfl) (by kernel_rfl) ?_
  exact
   ini [(0, .d ((cXCube (cLs cI rfl) (cLs cI rfl)).enc v0))] rfl <| wpC_seq <| reg_s <| x_box (ss rfl rfl) <| x_all (cXCube (cLo cI) (cLo cI)) (⟨([] : List Int), ([] : List Int)⟩ : XCube) rfl <| seqN [(1, .box ((cXCube (cLs cI rfl) (cLs cI rfl)).enc v0)), (2, .box ((cXCube (cLo cI) (cLo cI)).enc (⟨([] : List Int), ([] : List Int)⟩ : XCube)))] (by kernel_rfl) <|
    xn <| wpC_seq <| reg_s <| x_all (cXCube (cLo cI) (cLo cI)) (⟨([] : List Int), ([] : List Int)⟩ : XCube) rfl <| seqN [(1, .box ((cXCube (cLs cI rfl) (cLs cI rfl)).enc v0)), (2, .box ((cXCube (cLo cI) (cLo cI)).enc (⟨([] : List Int), ([] : List Int)⟩ : XCube))), (3, .box ((cXCube (cLo cI) (cLo cI)).enc (⟨([] : List Int), ([] : List Int)⟩ : XCube)))] (by kernel_rfl) <|
    xn <| wpC_seq <| reg_s <| st rfl <| fab rfl rfl rfl rfl <| st rfl <| lda rfl rfl rfl rfl rfl rfl <| bnd h fun x3 e4 h => st rfl <| o_call (a1 (c := (cLs cI rfl)) (tLs tK) rfl a0) (con_laws_toIntS e4) (.inl (so1 (sLo sK) so0)) <| st rfl <| fab rfl rfl rfl rfl <| x_sta ((cXCube (cLo cI) (cLo cI)).enc (⟨x3, ([] : List Int)⟩ : XCube)) (so rfl rfl) rfl rfl (Ln.fld rfl rfl Ln.nil rfl) (Cd.h_sz (cLo cI) _) rfl <| seqN [(1, .box ((cXCube (cLs cI rfl) (cLs cI rfl)).enc v0)), (2, .box ((cXCube (cLo cI) (cLo cI)).enc (⟨([] : List Int), ([] : List Int)⟩ : XCube))), (3, .box ((cXCube (cLo cI) (cLo cI)).enc (⟨x3, ([] : List Int)⟩ : XCube)))] (by kernel_rfl) <|
    xn <| wpC_seq <| reg_s <| st rfl <| fab rfl rfl rfl rfl <| st rfl <| lda rfl rfl rfl rfl rfl rfl <| bnd h fun x7 e8 h => st rfl <| o_call (a1 (c := (cLs cI rfl)) (tLs tK) rfl a0) (con_laws_toIntS e8) (.inl (so1 (sLo sK) so0)) <| st rfl <| fab rfl rfl rfl rfl <| x_sta ((cXCube (cLo cI) (cLo cI)).enc (⟨x3, x7⟩ : XCube)) (so rfl rfl) rfl rfl (Ln.fld rfl rfl Ln.nil rfl) (Cd.h_sz (cLo cI) _) rfl <| seqN [(2, .box ((cXCube (cLo cI) (cLo cI)).enc (⟨([] : List Int), ([] : List Int)⟩ : XCube))), (3, .box ((cXCube (cLo cI) (cLo cI)).enc (⟨x3, x7⟩ : XCube)))] (by kernel_rfl) <|
    xn <| wpC_seq <| reg_s <| st rfl <| ldbo rfl rfl rfl rfl <| x_stb (sb rfl rfl) rfl (Cd.h_sz _ _) rfl <| seqN [(2, .box ((cXCube (cLo cI) (cLo cI)).enc (⟨x3, x7⟩ : XCube)))] (by kernel_rfl) <|
    xn <| wpC_ret <| re <| fin h (r2 rfl rfl rfl <| r0) rfl

def rs_laws_eqIntS (r : Bool) : List D := [cB.enc r]
def m19 : MC := .seq (.reg [⟨some 4, .asg (.c (.bool false)), none⟩] [0, 1])
  (.seq (.kp [0, 1] (.seq (.reg [⟨some 6, .mv (.t 0), none⟩,
    ⟨some 7, .len false (.t 6), none⟩,
    ⟨some 8, .mv (.t 1), none⟩,
    ⟨some 9, .len false (.t 8), none⟩,
    ⟨some 10, .bin .neq (.t 7) (.t 9), none⟩] [0, 1, 10])
  (.cond (.t 10) (.seq (.reg [⟨some 4, .asg (.c (.bool false)), none⟩] [4])
  (.ret)) (.skip))))
  (.seq (.kp [] (.seq (.reg [⟨some 5, .asg (.c (.int .i64 0)), none⟩] [0, 1, 5])
  (.blk 0 (.loop (.seq (.kp [0, 1, 5] (.seq (.reg [⟨some 11, .mv (.t 5), none⟩,
    ⟨some 12, .mv (.t 0), none⟩,
    ⟨some 13, .len false (.t 12), none⟩,
    ⟨some 14, .bin .lss (.t 11) (.t 13), none⟩] [0, 1, 5, 14])
  (.cond (.t 14) (.skip) (.exit 0))))
  (.seq (.kp [0, 1, 5] (.blk 1 (.seq (.drw [⟨0, ⟨some 17, .mv (.t 0), none⟩, [18, 19, 20, 21, 22, 23, 24, 25]⟩,
    ⟨1, ⟨some 18, .mv (.t 5), none⟩, [17, 19, 20, 21, 22, 23, 24, 25]⟩,
    ⟨2, ⟨some 19, .ia 17 (.t 18) 1, none⟩, [20, 21, 22, 23, 24, 25]⟩,
    ⟨3, ⟨some 20, .ld 19 1 false, none⟩, [21, 22, 23, 24, 25]⟩,
    ⟨4, ⟨some 21, .mv (.t 1), none⟩, [17, 18, 19, 20, 22, 23, 24, 25]⟩,
    ⟨5, ⟨some 22, .mv (.t 5), none⟩, [17, 18, 19, 20, 21, 23, 24, 25]⟩,
    ⟨6, ⟨some 23, .ia 21 (.t 22) 1, none⟩, [17, 18, 19, 20, 24, 25]⟩,
    ⟨7, ⟨some 24, .ld 23 1 false, none⟩, [17, 18, 19, 20, 25]⟩,
    ⟨8, ⟨some 25, .bin .neq (.t 20) (.t 24), none⟩, []⟩]
    [] [0, 1, 5, 25])
  (.cond (.t 25) (.seq (.reg [⟨some 4, .asg (.c (.bool false)), none⟩] [4])
  (.ret)) (.skip)))))
  (.reg [⟨some 15, .mv (.t 5), none⟩,
    ⟨some 16, .bin .add (.t 15) (.c (.int .i64 1)), none⟩,
    ⟨some 5, .asg (.t 16), none⟩] [0, 1, 5])))))))
  (.seq (.reg [⟨some 4, .asg (.c (.bool true)), none⟩] [4])
  (.ret))))
theorem con_laws_eqIntS {v0 : (List Int)} {v1 : (List Int)} {r : Bool} (h : sh_laws_eqIntS v0 v1 = some r) : Con Try.prog 19 [(cLs cI rfl).enc v0, (cLs cI rfl).enc v1] [] (rs_laws_eqIntS r) := by
  delta sh_laws_eqIntS at h
  refine top (out := none) (f := Try.f19) (m := m19) (rs := [.t 4]) (by kernel_rfl) rfl (by kernel_rfl) (by kernel_rfl) (by kernel_rfl) (by kernel_rfl) (by kernel_rfl) ?_
  exact
   ini [(0, .d ((cLs cI rfl).enc v0)), (1, .d ((cLs cI rfl).enc v1))] rfl <| wpC_seq <| reg_s <| x_asg (sc cB false rfl) <| seqN [(0, .d ((cLs cI rfl).enc v0)), (1, .d ((cLs cI rfl).enc v1))] (by kernel_rfl) <|
    xn <| wpC_seq <| wpC_kp <| wpC_seq <| reg_s <| st rfl <| mvd rfl rfl <| stw rfl <| lens rfl fun l8 => st rfl <| mvd rfl rfl <| stw rfl <| lens rfl fun l9 => st rfl <| b_neq (k := .i64) rfl rfl <| seqN [(0, .d ((cLs cI rfl).enc v0)), (1, .d ((cLs cI rfl).enc v1)), (10, .d (cB.enc (decide ((v0.length : Int) ≠ (v1.length : Int)))))] (by kernel_rfl) <|
    xn <| cnd rfl h (fun b10 h => wpC_seq <| reg_s <| x_asg (sc cB false rfl) <| seqN [(4, .d (cB.enc false))] (by kernel_rfl) <|
    xn <| wpC_ret <| rt <| rt <| re <| fin h (r1 (ss rfl rfl) <| r0) rfl)
    (fun b10 h => wpC_skip <| kpN [(0, .d ((cLs cI rfl).enc v0)), (1, .d ((cLs cI rfl).enc v1))] (by kernel_rfl) <| xn <| wpC_seq <| wpC_kp <| wpC_seq <| reg_s <| x_asg (sc cI (0 : Int) rfl) <| seqN [(0, .d ((cLs cI rfl).enc v0)), (1, .d ((cLs cI rfl).enc v1)), (5, .d (cI.enc (0 : Int)))] (by kernel_rfl) <|
    xn <| wpC_blk <| lpF (fun (s118 : Int) => [(0, .d ((cLs cI rfl).enc v0)), (1, .d ((cLs cI rfl).enc v1)), (5, .d (cI.enc s118))]) (0 : Int) rfl h
    fun G191 nx189 s118 hn190 h => wpC_seq <| wpC_kp <| wpC_seq <| reg_s <| st rfl <| mvd rfl rfl <| st rfl <| mvd rfl rfl <| stw rfl <| lens rfl fun l196 => st rfl <| b_lss (k := .i64) rfl rfl <| seqN [(0, .d ((cLs cI rfl).enc v0)), (1, .d ((cLs cI rfl).enc v1)), (5, .d (cI.enc s118)), (14, .d (cB.enc (decide (s118 < (v0.length : Int)))))] (by kernel_rfl) <|
    xn <| cnd rfl h (fun b197 h => wpC_skip <| kpN [(0, .d ((cLs cI rfl).enc v0)), (1, .d ((cLs cI rfl).enc v1)), (5, .d (cI.enc s118))] (by kernel_rfl) <| xn <| wpC_seq <| wpC_kp <| wpC_blk <| wpC_seq <| drw_s <| pst rfl <| mvd rfl rfl ⟨rfl, pst rfl <| mvd rfl rfl ⟨rfl, getO_kp h fun x217 i218 g219 h => pst rfl <| ias rfl rfl i218 g219 rfl ⟨rfl, pst rfl <| ldi rfl rfl rfl rfl ⟨rfl, pst rfl <| mvd rfl rfl ⟨rfl, pst rfl <| mvd rfl rfl ⟨rfl, getO_kp h fun x220 i221 g222 h => pst rfl <| ias rfl rfl i221 g222 rfl ⟨rfl, pst rfl <| ldi rfl rfl rfl rfl ⟨rfl, pst rfl <| b_neq (k := .i64) rfl rfl ⟨rfl, preN <| seqN [(0, .d ((cLs cI rfl).enc v0)), (1, .d ((cLs cI rfl).enc v1)), (5, .d (cI.enc s118)), (25, .d (cB.enc (decide (x217 ≠ x220))))] (by kernel_rfl) <|
    xn <| cnd rfl h (fun b223 h => wpC_seq <| reg_s <| x_asg (sc cB false rfl) <| seqN [(4, .d (cB.enc false))] (by kernel_rfl) <|
    xn <| wpC_ret <| rb <| rt <| rt <| rt <| rb <| rt <| rt <| re <| fin h (r1 (ss rfl rfl) <| r0) rfl)
    (fun b223 h => wpC_skip <| xbb <| kpN [(0, .d ((cLs cI rfl).enc v0)), (1, .d ((cLs cI rfl).enc v1)), (5, .d (cI.enc s118))] (by kernel_rfl) <| xn <| reg_s <| st rfl <| mvd rfl rfl <| ckI_k h fun i224 h => st rfl <| b_add (k := .i64) rfl rfl i224 <| x_asg (ss rfl rfl) <| seqN [(0, .d ((cLs cI rfl).enc v0)), (1, .d ((cLs cI rfl).enc v1)), (5, .d (cI.enc (s118 + (1 : Int))))] (by kernel_rfl) <|
    xn <| hn190 (s118 + (1 : Int)) h)⟩⟩⟩⟩⟩⟩⟩⟩⟩)
    (fun b197 h => wpC_exit <| xt <| xt <| xt <| xb <| kpN [] (by kernel_rfl) <| xn <| wpC_seq <| reg_s <| x_asg (sc cB true rfl) <| seqN [(4, .d (cB.enc true))] (by kernel_rfl) <|
    xn <| wpC_ret <| re <| fin h (r1 (ss rfl rfl) <| r0) rfl))

def rs_laws_eqCube (r : Bool) : List D := [cB.enc r]
def m53 : MC := .seq (.reg [⟨some 2, .box (.t 0), none⟩,
    ⟨some 3, .box (.t 1), none⟩,
    ⟨some 4, .asg (.c (.bool false)), none⟩] [2, 3])
  (.seq (.kp [2, 3] (.seq (.reg [⟨some 5, .fa 2 0 0, none⟩,
    ⟨some 6, .ld 5 1 false, none⟩,
    ⟨some 7, .fa 3 0 0, none⟩,
    ⟨some 8, .ld 7 1 false, none⟩,
    ⟨some 9, .call 19 [(.t 6), (.t 8)], none⟩,
    ⟨some 10, .nt (.t 9), none⟩] [2, 3, 10])
  (.cond (.t 10) (.seq (.reg [⟨some 4, .asg (.c (.bool false)), none⟩] [4])
  (.ret)) (.skip))))
  (.seq (.kp [] (.seq (.reg [⟨some 11, .fa 2 1 1, none⟩,
    ⟨some 12, .ld 11 1 false, none⟩,
    ⟨some 13, .fa 3 1 1, none⟩,
    ⟨some 14, .ld 13 1 false, none⟩,
    ⟨some 15, .call 19 [(.t 12), (.t 14)], none⟩,
    ⟨some 16, .nt (.t 15), none⟩] [16])
  (.cond (.t 16) (.seq (.reg [⟨some 4, .asg (.c (.bool false)), none⟩] [4])
  (.ret)) (.skip))))
  (.seq (.reg [⟨some 4, .asg (.c (.bool true)), none⟩] [4])
  (.ret))))
theorem con_laws_eqCube {v0 : XCube} {v1 : XCube} {r : Bool} (h : sh_laws_eqCube v0 v1 = some r) : Con Try.prog 53 [(cXCube (cLs cI rfl) (cLs cI rfl)).enc v0, (cXCube (cLs cI rfl) (cLs cI rfl)).enc v1] [] (rs_laws_eqCube r) := by
  delta sh_laws_eqCube at h
  refine top (out := none) (f := Try.f53) (m := m53) (rs := [.t 4]) (by kernel_rfl) rfl (by kernel_rfl) (by kernel_rfl) (by kernel_rfl) (by kernel_rfl) (by kernel_rfl) ?_
  exact
   ini [(0, .d ((cXCube (cLs cI rfl) (cLs cI rfl)).enc v0)), (1, .d ((cXCube (cLs cI rfl) (cLs cI rfl)).enc v1))] rfl <| wpC_seq <| reg_s <| x_box (ss rfl rfl) <| x_box (ss rfl rfl) <| x_asg (sc cB false rfl) <| seqN [(2, .box ((cXCube (cLs cI rfl) (cLs cI rfl)).enc v0)), (3, .box ((cXCube (cLs cI rfl) (cLs cI rfl)).enc v1))] (by kernel_rfl) <|
    xn <| wpC_seq <| wpC_kp <| wpC_seq <| reg_s <| st rfl <| fab rfl rfl rfl rfl <| st rfl <| lda rfl rfl rfl rfl rfl rfl <| st rfl <| fab rfl rfl rfl rfl <| st rfl <| lda rfl rfl rfl rfl rfl rfl <| bnd h fun x8 e9 h => st rfl <| o_call (a1 (c := (cLs cI rfl)) (tLs tK) rfl (a1 (c := (cLs cI rfl)) (tLs tK) rfl a0)) (con_laws_eqIntS e9) (.inl (so1 sB so0)) <| st rfl <| o_nt rfl <| seqN [(2, .box ((cXCube (cLs cI rfl) (cLs cI rfl)).enc v0)), (3, .box ((cXCube (cLs cI rfl) (cLs cI rfl)).enc v1)), (10, .d (cB.enc (!x8)))] (by kernel_rfl) <|
    xn <| cnd rfl h (fun b10 h => wpC_seq <| reg_s <| x_asg (sc cB false rfl) <| seqN [(4, .d (cB.enc false))] (by kernel_rfl) <|
    xn <| wpC_ret <| rt <| rt <| re <| fin h (r1 (ss rfl rfl) <| r0) rfl)
    (fun b10 h => wpC_skip <| kpN [(2, .box ((cXCube (cLs cI rfl) (cLs cI rfl)).enc v0)), (3, .box ((cXCube (cLs cI rfl) (cLs cI rfl)).enc v1))] (by kernel_rfl) <| xn <| wpC_seq <| wpC_kp <| wpC_seq <| reg_s <| st rfl <| fab rfl rfl rfl rfl <| st rfl <| lda rfl rfl rfl rfl rfl rfl <| st rfl <| fab rfl rfl rfl rfl <| st rfl <| lda rfl rfl rfl rfl rfl rfl <| bnd h fun x18 e19 h => st rfl <| o_call (a1 (c := (cLs cI rfl)) (tLs tK) rfl (a1 (c := (cLs cI rfl)) (tLs tK) rfl a0)) (con_laws_eqIntS e19) (.inl (so1 sB so0)) <| st rfl <| o_nt rfl <| seqN [(16, .d (cB.enc (!x18)))] (by kernel_rfl) <|
    xn <| cnd rfl h (fun b20 h => wpC_seq <| reg_s <| x_asg (sc cB false rfl) <| seqN [(4, .d (cB.enc false))] (by kernel_rfl) <|
    xn <| wpC_ret <| rt <| rt <| re <| fin h (r1 (ss rfl rfl) <| r0) rfl)
    (fun b20 h => wpC_skip <| kpN [] (by kernel_rfl) <| xn <| wpC_seq <| reg_s <| x_asg (sc cB true rfl) <| seqN [(4, .d (cB.enc true))] (by kernel_rfl) <|
    xn <| wpC_ret <| re <| fin h (r1 (ss rfl rfl) <| r0) rfl))

def os_laws_markIntS (r : ((List Int) × Int)) : D := (cLo cI).enc r.1
def rs_laws_markIntS (r : ((List Int) × Int)) : List D := [cI.enc r.2]
def m24 : MC := .seq (.reg [⟨some 4, .asg (.c (.int .i64 0)), none⟩] [0, 1])
  (.seq (.kp [0, 1] (.seq (.reg [⟨some 5, .asg (.c (.int .i64 0)), none⟩] [0, 1, 5])
  (.blk 0 (.loop (.seq (.kp [0, 1, 5] (.seq (.reg [⟨some 6, .mv (.t 5), none⟩,
    ⟨some 7, .mv (.t 0), none⟩,
    ⟨some 8, .len false (.t 7), none⟩,
    ⟨some 9, .bin .lss (.t 6) (.t 8), none⟩] [0, 1, 5, 9])
  (.cond (.t 9) (.skip) (.exit 0))))
  (.seq (.kp [0, 1, 5] (.blk 1 (.seq (.reg [⟨some 12, .mv (.t 0), none⟩,
    ⟨some 13, .mv (.t 5), none⟩,
    ⟨some 14, .mv (.t 1), none⟩,
    ⟨some 15, .ia 12 (.t 13) 1, none⟩,
    ⟨none, .st 15 (.t 14) 1, none⟩] [0, 1, 5])
  (.reg [⟨some 16, .mv (.t 1), none⟩,
    ⟨some 17, .bin .add (.t 16) (.c (.int .i64 1)), none⟩,
    ⟨some 1, .asg (.t 17), none⟩] [0, 1, 5]))))
  (.reg [⟨some 10, .mv (.t 5), none⟩,
    ⟨some 11, .bin .add (.t 10) (.c (.int .i64 1)), none⟩,
    ⟨some 5, .asg (.t 11), none⟩] [0, 1, 5])))))))
  (.seq (.reg [⟨some 18, .mv (.t 1), none⟩,
    ⟨some 4, .asg (.t 18), none⟩] [0, 4])
  (.ret)))
theorem con_laws_markIntS {v0 : (List Int)} {v1 : Int} {r : ((List Int) × Int)} (h : sh_laws_markIntS v0 v1 = some r) : Con Try.prog 24 [(cLo cI).enc v0, cI.enc v1] (outsOf (some (0, os_laws_markIntS r))) (rs_laws_markIntS r) := by
  delta sh_laws_markIntS at h
  refine top (out := some (0, os_laws_markIntS r)) (f := Try.f24) (m := m24) (rs := [.t 4]) (by kernel_rfl) rfl (by kernel_rfl) (by kernel_rfl) (by kernel_rfl) (by kernel_rfl) (by kernel_rfl) ?_
  exact
   ini [(0, .d ((cLo cI).enc v0)), (1, .d (cI.enc v1))] rfl <| wpC_seq <| reg_s <| x_asg (sc cI (0 : Int) rfl) <| seqN [(0, .d ((cLo cI).enc v0)), (1, .d (cI.enc v1))] (by kernel_rfl) <|
    xn <| wpC_seq <| wpC_kp <| wpC_seq <| reg_s <| x_asg (sc cI (0 : Int) rfl) <| seqN [(0, .d ((cLo cI).enc v0)), (1, .d (cI.enc v1)), (5, .d (cI.enc (0 : Int)))] (by kernel_rfl) <|
    xn <| wpC_blk <| lpF (fun (s72 : ((List Int) × Int × Int)) => [(0, .d ((cLo cI).enc s72.1)), (1, .d (cI.enc s72.2.1)), (5, .d (cI.enc s72.2.2))]) (v0, v1, (0 : Int)) rfl h
    fun G121 nx119 s72 hn120 h => wpC_seq <| wpC_kp <| wpC_seq <| reg_s <| st rfl <| mvd rfl rfl <| st rfl <| mvo rfl rfl <| stw rfl <| leno rfl fun l126 => st rfl <| b_lss (k := .i64) rfl rfl <| seqN [(0, .d ((cLo cI).enc s72.1)), (1, .d (cI.enc s72.2.1)), (5, .d (cI.enc s72.2.2)), (9, .d (cB.enc (decide (s72.2.2 < (s72.1.length : Int)))))] (by kernel_rfl) <|
    xn <| cnd rfl h (fun b127 h => wpC_skip <| kpN [(0, .d ((cLo cI).enc s72.1)), (1, .d (cI.enc s72.2.1)), (5, .d (cI.enc s72.2.2))] (by kernel_rfl) <| xn <| wpC_seq <| wpC_kp <| wpC_blk <| wpC_seq <| reg_s <| st rfl <| mvo rfl rfl <| st rfl <| mvd rfl rfl <| st rfl <| mvd rfl rfl <| getO_k h fun x138 i139 g140 h => st rfl <| iar rfl rfl rfl rfl i139 g140 rfl <| x_sta ((cLo cI).enc (s72.1.set (s72.2.2).toNat s72.2.1)) (ss rfl rfl) rfl rfl (Ln.idx g140 Ln.nil) (Cd.h_sz cI _) rfl <| seqN [(0, .d ((cLo cI).enc (s72.1.set (s72.2.2).toNat s72.2.1))), (1, .d (cI.enc s72.2.1)), (5, .d (cI.enc s72.2.2))] (by kernel_rfl) <|
    xn <| reg_s <| st rfl <| mvd rfl rfl <| ckI_k h fun i141 h => st rfl <| b_add (k := .i64) rfl rfl i141 <| x_asg (ss rfl rfl) <| seqN [(0, .d ((cLo cI).enc (s72.1.set (s72.2.2).toNat s72.2.1))), (1, .d (cI.enc (s72.2.1 + (1 : Int)))), (5, .d (cI.enc s72.2.2))] (by kernel_rfl) <|
    xbb <| kpN [(0, .d ((cLo cI).enc (s72.1.set (s72.2.2).toNat s72.2.1))), (1, .d (cI.enc (s72.2.1 + (1 : Int)))), (5, .d (cI.enc s72.2.2))] (by kernel_rfl) <| xn <| reg_s <| st rfl <| mvd rfl rfl <| ckI_k h fun i142 h => st rfl <| b_add (k := .i64) rfl rfl i142 <| x_asg (ss rfl rfl) <| seqN [(0, .d ((cLo cI).enc (s72.1.set (s72.2.2).toNat s72.2.1))), (1, .d (cI.enc (s72.2.1 + (1 : Int)))), (5, .d (cI.enc (s72.2.2 + (1 : Int))))] (by kernel_rfl) <|
    xn <| hn120 ((s72.1.set (s72.2.2).toNat s72.2.1), (s72.2.1 + (1 : Int)), (s72.2.2 + (1 : Int))) h)
    (fun b127 h => wpC_exit <| xt <| xt <| xt <| xb <| kpN [(0, .d ((cLo cI).enc s72.1)), (1, .d (cI.enc s72.2.1))] (by kernel_rfl) <| xn <| wpC_seq <| reg_s <| st rfl <| mvd rfl rfl <| x_asg (ss rfl rfl) <| seqN [(0, .d ((cLo cI).enc s72.1)), (4, .d (cI.enc s72.2.1))] (by kernel_rfl) <|
    xn <| wpC_ret <| re <| finO h (r1 (ss rfl rfl) <| r0) rfl rfl)

def os_laws_markCube (r : (XCube × Int)) : D := (cXCube (cLo cI) (cLo cI)).enc r.1
def rs_laws_markCube (r : (XCube × Int)) : List D := [cI.enc r.2]
def m54 : MC := .seq (.reg [⟨some 2, .boxm 0, none⟩,
    ⟨some 4, .asg (.c (.int .i64 0)), none⟩] [0, 1, 2])
  (.seq (.reg [⟨some 5, .fa 2 0 0, none⟩,
    ⟨some 6, .ld 5 1 false, none⟩,
    ⟨some 7, .mv (.t 1), none⟩,
    ⟨some 8, .callO 24 [(.t 6), (.t 7)], none⟩,
    ⟨some 1, .asg (.t 8), none⟩] [0, 1, 2])
  (.seq (.reg [⟨some 9, .fa 2 1 1, none⟩,
    ⟨some 10, .ld 9 1 false, none⟩,
    ⟨some 11, .mv (.t 1), none⟩,
    ⟨some 12, .callO 24 [(.t 10), (.t 11)], none⟩,
    ⟨some 1, .asg (.t 12), none⟩] [0, 1])
  (.seq (.reg [⟨some 13, .mv (.t 1), none⟩,
    ⟨some 4, .asg (.t 13), none⟩] [0, 4])
  (.ret))))
theorem con_laws_markCube {v0 : XCube} {v1 : Int} {r : (XCube × Int)} (h : sh_laws_markCube v0 v1 = some r) : Con Try.prog 54 [(cXCube (cLo cI) (cLo cI)).enc v0, cI.enc v1] (outsOf (some (0, os_laws_markCube r))) (rs_laws_markCube r) := by
  delta sh_laws_markCube at h
  refine top (out := some (0, os_laws_markCube r)) (f := Try.f54) (m := m54) (rs := [.t 4]) (by kernel_rfl) rfl (by kernel_rfl) (by kernel_rfl) (by kernel_rfl) (by kernel_rfl) (by kernel_rfl) ?_
  exact
   ini [(0, .d ((cXCube (cLo cI) (cLo cI)).enc v0)), (1, .d (cI.enc v1))] rfl <| wpC_seq <| reg_s <| x_boxm rfl rfl <| x_asg (sc cI (0 : Int) rfl) <| seqN [(0, .d ((cXCube (cLo cI) (cLo cI)).enc v0)), (1, .d (cI.enc v1)), (2, .mad 0 [])] (by kernel_rfl) <|
    xn <| wpC_seq <| reg_s <| st rfl <| fam rfl rfl rfl rfl rfl rfl <| st rfl <| ldmo rfl rfl rfl rfl rfl rfl <| st rfl <| mvd rfl rfl <| bnd h fun x3 e4 h => x_clr (c := (cLo cI)) (c' := (cLo cI)) ((cXCube (cLo cI) (cLo cI)).enc (⟨x3.1, v0.Cells⟩ : XCube)) (sLo sK) rfl (a1 (c := cI) tK rfl a0) rfl (Ln.fld rfl rfl Ln.nil rfl) (con_laws_markIntS e4) rfl rfl (so1 sK so0) <| x_asg (ss rfl rfl) <| seqN [(0, .d ((cXCube (cLo cI) (cLo cI)).enc (⟨x3.1, v0.Cells⟩ : XCube))), (1, .d (cI.enc x3.2)), (2, .mad 0 [])] (by kernel_rfl) <|
    xn <| wpC_seq <| reg_s <| st rfl <| fam rfl rfl rfl rfl rfl rfl <| st rfl <| ldmo rfl rfl rfl rfl rfl rfl <| st rfl <| mvd rfl rfl <| bnd h fun x7 e8 h => x_clr (c := (cLo cI)) (c' := (cLo cI)) ((cXCube (cLo cI) (cLo cI)).enc (⟨x3.1, x7.1⟩ : XCube)) (sLo sK) rfl (a1 (c := cI) tK rfl a0) rfl (Ln.fld rfl rfl Ln.nil rfl) (con_laws_markIntS e8) rfl rfl (so1 sK so0) <| x_asg (ss rfl rfl) <| seqN [(0, .d ((cXCube (cLo cI) (cLo cI)).enc (⟨x3.1, x7.1⟩ : XCube))), (1, .d (cI.enc x7.2))] (by kernel_rfl) <|
    xn <| wpC_seq <| reg_s <| st rfl <| mvd rfl rfl <| x_asg (ss rfl rfl) <| seqN [(0, .d ((cXCube (cLo cI) (cLo cI)).enc (⟨x3.1, x7.1⟩ : XCube))), (4, .d (cI.enc x7.2))] (by kernel_rfl) <|
    xn <| wpC_ret <| re <| finO h (r1 (ss rfl rfl) <| r0) rfl rfl

def rs_laws_heldIntS (r : Int) : List D := [cI.enc r]
def m25 : MC := .seq (.reg [⟨some 4, .asg (.c (.int .i64 0)), none⟩] [0, 1])
  (.seq (.kp [1] (.seq (.reg [⟨some 5, .asg (.c (.int .i64 0)), none⟩] [0, 1, 5])
  (.blk 0 (.loop (.seq (.kp [0, 1, 5] (.seq (.reg [⟨some 6, .mv (.t 5), none⟩,
    ⟨some 7, .mv (.t 0), none⟩,
    ⟨some 8, .len false (.t 7), none⟩,
    ⟨some 9, .bin .lss (.t 6) (.t 8), none⟩] [0, 1, 5, 9])
  (.cond (.t 9) (.skip) (.exit 0))))
  (.seq (.kp [0, 1, 5] (.blk 1 (.seq (.kp [0, 1, 5] (.seq (.reg [⟨some 12, .mv (.t 0), none⟩,
    ⟨some 13, .mv (.t 5), none⟩,
    ⟨some 14, .ia 12 (.t 13) 1, none⟩,
    ⟨some 15, .ld 14 1 false, none⟩,
    ⟨some 16, .mv (.t 1), none⟩,
    ⟨some 17, .bin .neq (.t 15) (.t 16), none⟩] [0, 1, 5, 17])
  (.cond (.t 17) (.seq (.reg [⟨some 4, .asg (.c (.int .i64 (-1))), none⟩] [4])
  (.ret)) (.skip))))
  (.reg [⟨some 18, .mv (.t 1), none⟩,
    ⟨some 19, .bin .add (.t 18) (.c (.int .i64 1)), none⟩,
    ⟨some 1, .asg (.t 19), none⟩] [0, 1, 5]))))
  (.reg [⟨some 10, .mv (.t 5), none⟩,
    ⟨some 11, .bin .add (.t 10) (.c (.int .i64 1)), none⟩,
    ⟨some 5, .asg (.t 11), none⟩] [0, 1, 5])))))))
  (.seq (.reg [⟨some 20, .mv (.t 1), none⟩,
    ⟨some 4, .asg (.t 20), none⟩] [4])
  (.ret)))
theorem con_laws_heldIntS {v0 : (List Int)} {v1 : Int} {r : Int} (h : sh_laws_heldIntS v0 v1 = some r) : Con Try.prog 25 [(cLs cI rfl).enc v0, cI.enc v1] [] (rs_laws_heldIntS r) := by
  delta sh_laws_heldIntS at h
  refine top (out := none) (f := Try.f25) (m := m25) (rs := [.t 4]) (by kernel_rfl) rfl (by kernel_rfl) (by kernel_rfl) (by kernel_rfl) (by kernel_rfl) (by kernel_rfl) ?_
  exact
   ini [(0, .d ((cLs cI rfl).enc v0)), (1, .d (cI.enc v1))] rfl <| wpC_seq <| reg_s <| x_asg (sc cI (0 : Int) rfl) <| seqN [(0, .d ((cLs cI rfl).enc v0)), (1, .d (cI.enc v1))] (by kernel_rfl) <|
    xn <| wpC_seq <| wpC_kp <| wpC_seq <| reg_s <| x_asg (sc cI (0 : Int) rfl) <| seqN [(0, .d ((cLs cI rfl).enc v0)), (1, .d (cI.enc v1)), (5, .d (cI.enc (0 : Int)))] (by kernel_rfl) <|
    xn <| wpC_blk <| lpF (fun (s120 : (Int × Int)) => [(0, .d ((cLs cI rfl).enc v0)), (1, .d (cI.enc s120.1)), (5, .d (cI.enc s120.2))]) (v1, (0 : Int)) rfl h
    fun G201 nx199 s120 hn200 h => wpC_seq <| wpC_kp <| wpC_seq <| reg_s <| st rfl <| mvd rfl rfl <| st rfl <| mvd rfl rfl <| stw rfl <| lens rfl fun l206 => st rfl <| b_lss (k := .i64) rfl rfl <| seqN [(0, .d ((cLs cI rfl).enc v0)), (1, .d (cI.enc s120.1)), (5, .d (cI.enc s120.2)), (9, .d (cB.enc (decide (s120.2 < (v0.length : Int)))))] (by kernel_rfl) <|
    xn <| cnd rfl h (fun b207 h => wpC_skip <| kpN [(0, .d ((cLs cI rfl).enc v0)), (1, .d (cI.enc s120.1)), (5, .d (cI.enc s120.2))] (by kernel_rfl) <| xn <| wpC_seq <| wpC_kp <| wpC_blk <| wpC_seq <| wpC_kp <| wpC_seq <| reg_s <| st rfl <| mvd rfl rfl <| st rfl <| mvd rfl rfl <| getO_k h fun x233 i234 g235 h => st rfl <| ias rfl rfl i234 g235 rfl <| st rfl <| ldi rfl rfl rfl rfl <| st rfl <| mvd rfl rfl <| st rfl <| b_neq (k := .i64) rfl rfl <| seqN [(0, .d ((cLs cI rfl).enc v0)), (1, .d (cI.enc s120.1)), (5, .d (cI.enc s120.2)), (17, .d (cB.enc (decide (x233 ≠ s120.1))))] (by kernel_rfl) <|
    xn <| cnd rfl h (fun b236 h => wpC_seq <| reg_s <| x_asg (sc cI (-1 : Int) rfl) <| seqN [(4, .d (cI.enc (-1 : Int)))] (by kernel_rfl) <|
    xn <| wpC_ret <| rt <| rt <| rb <| rt <| rt <| rt <| rb <| rt <| rt <| re <| fin h (r1 (ss rfl rfl) <| r0) rfl)
    (fun b236 h => wpC_skip <| kpN [(0, .d ((cLs cI rfl).enc v0)), (1, .d (cI.enc s120.1)), (5, .d (cI.enc s120.2))] (by kernel_rfl) <| xn <| reg_s <| st rfl <| mvd rfl rfl <| ckI_k h fun i237 h => st rfl <| b_add (k := .i64) rfl rfl i237 <| x_asg (ss rfl rfl) <| seqN [(0, .d ((cLs cI rfl).enc v0)), (1, .d (cI.enc (s120.1 + (1 : Int)))), (5, .d (cI.enc s120.2))] (by kernel_rfl) <|
    xbb <| kpN [(0, .d ((cLs cI rfl).enc v0)), (1, .d (cI.enc (s120.1 + (1 : Int)))), (5, .d (cI.enc s120.2))] (by kernel_rfl) <| xn <| reg_s <| st rfl <| mvd rfl rfl <| ckI_k h fun i238 h => st rfl <| b_add (k := .i64) rfl rfl i238 <| x_asg (ss rfl rfl) <| seqN [(0, .d ((cLs cI rfl).enc v0)), (1, .d (cI.enc (s120.1 + (1 : Int)))), (5, .d (cI.enc (s120.2 + (1 : Int))))] (by kernel_rfl) <|
    xn <| hn200 ((s120.1 + (1 : Int)), (s120.2 + (1 : Int))) h))
    (fun b207 h => wpC_exit <| xt <| xt <| xt <| xb <| kpN [(1, .d (cI.enc s120.1))] (by kernel_rfl) <| xn <| wpC_seq <| reg_s <| st rfl <| mvd rfl rfl <| x_asg (ss rfl rfl) <| seqN [(4, .d (cI.enc s120.1))] (by kernel_rfl) <|
    xn <| wpC_ret <| re <| fin h (r1 (ss rfl rfl) <| r0) rfl)

def rs_laws_heldCube (r : Int) : List D := [cI.enc r]
def m55 : MC := .seq (.reg [⟨some 2, .box (.t 0), none⟩,
    ⟨some 4, .asg (.c (.int .i64 0)), none⟩] [1, 2])
  (.seq (.reg [⟨some 5, .fa 2 0 0, none⟩,
    ⟨some 6, .ld 5 1 false, none⟩,
    ⟨some 7, .mv (.t 1), none⟩,
    ⟨some 8, .call 25 [(.t 6), (.t 7)], none⟩,
    ⟨some 1, .asg (.t 8), none⟩] [1, 2])
  (.seq (.kp [1, 2] (.seq (.reg [⟨some 9, .mv (.t 1), none⟩,
    ⟨some 10, .bin .lss (.t 9) (.c (.int .i64 0)), none⟩] [1, 2, 10])
  (.cond (.t 10) (.seq (.reg [⟨some 4, .asg (.c (.int .i64 (-1))), none⟩] [4])
  (.ret)) (.skip))))
  (.seq (.reg [⟨some 11, .fa 2 1 1, none⟩,
    ⟨some 12, .ld 11 1 false, none⟩,
    ⟨some 13, .mv (.t 1), none⟩,
    ⟨some 14, .call 25 [(.t 12), (.t 13)], none⟩,
    ⟨some 1, .asg (.t 14), none⟩] [1])
  (.seq (.kp [1] (.seq (.reg [⟨some 15, .mv (.t 1), none⟩,
    ⟨some 16, .bin .lss (.t 15) (.c (.int .i64 0)), none⟩] [1, 16])
  (.cond (.t 16) (.seq (.reg [⟨some 4, .asg (.c (.int .i64 (-1))), none⟩] [4])
  (.ret)) (.skip))))
  (.seq (.reg [⟨some 17, .mv (.t 1), none⟩,
    ⟨some 4, .asg (.t 17), none⟩] [4])
  (.ret))))))
theorem con_laws_heldCube {v0 : XCube} {v1 : Int} {r : Int} (h : sh_laws_heldCube v0 v1 = some r) : Con Try.prog 55 [(cXCube (cLs cI rfl) (cLs cI rfl)).enc v0, cI.enc v1] [] (rs_laws_heldCube r) := by
  delta sh_laws_heldCube at h
  refine top (out := none) (f := Try.f55) (m := m55) (rs := [.t 4]) (by kernel_rfl) rfl (by kernel_rfl) (by kernel_rfl) (by kernel_rfl) (by kernel_rfl) (by kernel_rfl) ?_
  exact
   ini [(0, .d ((cXCube (cLs cI rfl) (cLs cI rfl)).enc v0)), (1, .d (cI.enc v1))] rfl <| wpC_seq <| reg_s <| x_box (ss rfl rfl) <| x_asg (sc cI (0 : Int) rfl) <| seqN [(1, .d (cI.enc v1)), (2, .box ((cXCube (cLs cI rfl) (cLs cI rfl)).enc v0))] (by kernel_rfl) <|
    xn <| wpC_seq <| reg_s <| st rfl <| fab rfl rfl rfl rfl <| st rfl <| lda rfl rfl rfl rfl rfl rfl <| st rfl <| mvd rfl rfl <| bnd h fun x3 e4 h => st rfl <| o_call (a1 (c := (cLs cI rfl)) (tLs tK) rfl (a1 (c := cI) tK rfl a0)) (con_laws_heldIntS e4) (.inl (so1 sK so0)) <| x_asg (ss rfl rfl) <| seqN [(1, .d (cI.enc x3)), (2, .box ((cXCube (cLs cI rfl) (cLs cI rfl)).enc v0))] (by kernel_rfl) <|
    xn <| wpC_seq <| wpC_kp <| wpC_seq <| reg_s <| st rfl <| mvd rfl rfl <| st rfl <| b_lss (k := .i64) rfl rfl <| seqN [(1, .d (cI.enc x3)), (2, .box ((cXCube (cLs cI rfl) (cLs cI rfl)).enc v0)), (10, .d (cB.enc (decide (x3 < (0 : Int)))))] (by kernel_rfl) <|
    xn <| cnd rfl h (fun b6 h => wpC_seq <| reg_s <| x_asg (sc cI (-1 : Int) rfl) <| seqN [(4, .d (cI.enc (-1 : Int)))] (by kernel_rfl) <|
    xn <| wpC_ret <| rt <| rt <| re <| fin h (r1 (ss rfl rfl) <| r0) rfl)
    (fun b6 h => wpC_skip <| kpN [(1, .d (cI.enc x3)), (2, .box ((cXCube (cLs cI rfl) (cLs cI rfl)).enc v0))] (by kernel_rfl) <| xn <| wpC_seq <| reg_s <| st rfl <| fab rfl rfl rfl rfl <| st rfl <| lda rfl rfl rfl rfl rfl rfl <| st rfl <| mvd rfl rfl <| bnd h fun x9 e10 h => st rfl <| o_call (a1 (c := (cLs cI rfl)) (tLs tK) rfl (a1 (c := cI) tK rfl a0)) (con_laws_heldIntS e10) (.inl (so1 sK so0)) <| x_asg (ss rfl rfl) <| seqN [(1, .d (cI.enc x9))] (by kernel_rfl) <|
    xn <| wpC_seq <| wpC_kp <| wpC_seq <| reg_s <| st rfl <| mvd rfl rfl <| st rfl <| b_lss (k := .i64) rfl rfl <| seqN [(1, .d (cI.enc x9)), (16, .d (cB.enc (decide (x9 < (0 : Int)))))] (by kernel_rfl) <|
    xn <| cnd rfl h (fun b12 h => wpC_seq <| reg_s <| x_asg (sc cI (-1 : Int) rfl) <| seqN [(4, .d (cI.enc (-1 : Int)))] (by kernel_rfl) <|
    xn <| wpC_ret <| rt <| rt <| re <| fin h (r1 (ss rfl rfl) <| r0) rfl)
    (fun b12 h => wpC_skip <| kpN [(1, .d (cI.enc x9))] (by kernel_rfl) <| xn <| wpC_seq <| reg_s <| st rfl <| mvd rfl rfl <| x_asg (ss rfl rfl) <| seqN [(4, .d (cI.enc x9))] (by kernel_rfl) <|
    xn <| wpC_ret <| re <| fin h (r1 (ss rfl rfl) <| r0) rfl))

def rs_spec_cbForm (r : Bool) : List D := [cB.enc r]
def m153 : MC := .seq (.reg [⟨some 1, .box (.t 0), none⟩,
    ⟨some 2, .asg (.c (.bool false)), none⟩] [1])
  (.seq (.reg [⟨some 4, .fa 1 0 0, none⟩,
    ⟨some 5, .ld 4 1 false, none⟩,
    ⟨some 6, .call 113 [(.t 5)], none⟩,
    ⟨some 3, .asg (.t 6), none⟩] [1, 3])
  (.seq (.reg [⟨some 7, .mv (.t 3), none⟩,
    ⟨some 8, .bin .gtr (.t 7) (.c (.int .i64 0)), none⟩,
    ⟨some 9, .mv (.t 8), none⟩,
    ⟨some 10, .fa 1 1 1, some (9, true)⟩,
    ⟨some 11, .ld 10 1 false, some (9, true)⟩,
    ⟨some 12, .len false (.t 11), some (9, true)⟩,
    ⟨some 13, .mv (.t 3), some (9, true)⟩,
    ⟨some 14, .bin .eql (.t 12) (.t 13), some (9, true)⟩,
    ⟨some 15, .pick (.t 9) (.t 14) (.c (.bool false)), none⟩,
    ⟨some 16, .mv (.t 15), none⟩,
    ⟨some 17, .fa 1 1 1, some (16, true)⟩,
    ⟨some 18, .ld 17 1 false, some (16, true)⟩,
    ⟨some 19, .call 144 [(.t 18), (.c (.int .i64 (-1000000))), (.c (.int .i64 1000000))], some (16, true)⟩,
    ⟨some 20, .pick (.t 16) (.t 19) (.c (.bool false)), none⟩,
    ⟨some 2, .asg (.t 20), none⟩] [2])
  (.ret)))
theorem con_spec_cbForm {v0 : XCube} {r : Bool} (h : sh_spec_cbForm v0 = some r) : Con Try.prog 153 [(cXCube (cLs cI rfl) (cLs cI rfl)).enc v0] [] (rs_spec_cbForm r) := by
  delta sh_spec_cbForm at h
  refine top (out := none) (f := Try.f153) (m := m153) (rs := [.t 2]) (by kernel_rfl) rfl (by kernel_rfl) (by kernel_rfl) (by kernel_rfl) (by kernel_rfl) (by kernel_rfl) ?_
  exact
   ini [(0, .d ((cXCube (cLs cI rfl) (cLs cI rfl)).enc v0))] rfl <| wpC_seq <| reg_s <| x_box (ss rfl rfl) <| x_asg (sc cB false rfl) <| seqN [(1, .box ((cXCube (cLs cI rfl) (cLs cI rfl)).enc v0))] (by kernel_rfl) <|
    xn <| wpC_seq <| reg_s <| st rfl <| fab rfl rfl rfl rfl <| st rfl <| lda rfl rfl rfl rfl rfl rfl <| bnd h fun x3 e4 h => st rfl <| o_call (a1 (c := (cLs cI rfl)) (tLs tK) rfl a0) (con_spec_cbCount e4) (.inl (so1 sK so0)) <| x_asg (ss rfl rfl) <| seqN [(1, .box ((cXCube (cLs cI rfl) (cLs cI rfl)).enc v0)), (3, .d (cI.enc x3))] (by kernel_rfl) <|
    xn <| wpC_seq <| reg_s <| st rfl <| mvd rfl rfl <| st rfl <| b_gtr (k := .i64) rfl rfl <| st rfl <| mvd rfl rfl <| ite_k h (fun b10 h => gt' rfl b10 <| st rfl <| fab rfl rfl rfl rfl <| gt' rfl b10 <| st rfl <| lda rfl rfl rfl rfl rfl rfl <| gt' rfl b10 <| stw rfl <| lens rfl fun l11 => gt' rfl b10 <| st rfl <| mvd rfl rfl <| gt' rfl b10 <| st rfl <| b_eql (k := .i64) rfl rfl <| st rfl <| pick1 rfl b10 (cd := cB) (v := (decide ((v0.Cells.length : Int) = x3))) rfl rfl <| st rfl <| mvd rfl rfl <| ite_k h (fun b12 h => gt' rfl b12 <| st rfl <| fab rfl rfl rfl rfl <| gt' rfl b12 <| st rfl <| lda rfl rfl rfl rfl rfl rfl <| gt' rfl b12 <| bnd h fun x13 e14 h => st rfl <| o_call (a1 (c := (cLs cI rfl)) (tLs tK) rfl (a1 (c := cI) tK rfl (a1 (c := cI) tK rfl a0))) (con_spec_l1All e14) (.inl (so1 sB so0)) <| st rfl <| pick1 rfl b12 (cd := cB) (v := x13) rfl rfl <| x_asg (ss rfl rfl) <| seqN [(2, .d (cB.enc x13))] (by kernel_rfl) <|
    xn <| wpC_ret <| re <| fin h (r1 (ss rfl rfl) <| r0) rfl)
    (fun b12 h => gf rfl b12 <| gf rfl b12 <| gf rfl b12 <| st rfl <| pick0 rfl b12 (cd := cB) (v := false) rfl rfl <| x_asg (ss rfl rfl) <| seqN [(2, .d (cB.enc false))] (by kernel_rfl) <|
    xn <| wpC_ret <| re <| fin h (r1 (ss rfl rfl) <| r0) rfl))
    (fun b10 h => gf rfl b10 <| gf rfl b10 <| gf rfl b10 <| gf rfl b10 <| gf rfl b10 <| st rfl <| pick0 rfl b10 (cd := cB) (v := false) rfl rfl <| st rfl <| mvd rfl rfl <| gf rfl rfl <| gf rfl rfl <| gf rfl rfl <| st rfl <| pick0 rfl rfl (cd := cB) (v := false) rfl rfl <| x_asg (ss rfl rfl) <| seqN [(2, .d (cB.enc false))] (by kernel_rfl) <|
    xn <| wpC_ret <| re <| fin h (r1 (ss rfl rfl) <| r0) rfl)

def rs_spec_cbParts (r : (List Int)) : List D := [(cLo cI).enc r]
def m181 : MC := .seq (.reg [⟨some 6, .asg (.c (.slice true [])), none⟩] [0, 1, 2])
  (.seq (.reg [⟨some 10, .mv (.t 0), none⟩,
    ⟨some 11, .mv (.t 1), none⟩,
    ⟨some 12, .call 114 [(.t 10), (.t 11)], none⟩,
    ⟨some 7, .asg (.t 12), none⟩] [0, 2, 7])
  (.seq (.reg [⟨some 8, .asg (.c (.slice true [])), none⟩] [0, 2, 7, 8])
  (.seq (.kp [8] (.seq (.reg [⟨some 9, .asg (.c (.int .i64 0)), none⟩] [0, 2, 7, 8, 9])
  (.blk 0 (.loop (.seq (.kp [0, 2, 7, 8, 9] (.seq (.reg [⟨some 13, .mv (.t 9), none⟩,
    ⟨some 14, .mv (.t 0), none⟩,
    ⟨some 15, .mv (.t 2), none⟩,
    ⟨some 16, .ia 14 (.t 15) 1, none⟩,
    ⟨some 17, .ld 16 1 false, none⟩,
    ⟨some 18, .bin .lss (.t 13) (.t 17), none⟩] [0, 2, 7, 8, 9, 18])
  (.cond (.t 18) (.skip) (.exit 0))))
  (.seq (.kp [0, 2, 7, 8, 9] (.blk 1 (.seq (.reg [⟨some 21, .mv (.t 7), none⟩,
    ⟨some 22, .mv (.t 2), none⟩,
    ⟨some 23, .mv (.t 9), none⟩,
    ⟨some 24, .ia 21 (.t 22) 1, none⟩,
    ⟨none, .st 24 (.t 23) 1, none⟩] [0, 2, 7, 8, 9])
  (.reg [⟨some 25, .mv (.t 8), none⟩,
    ⟨some 26, .mv (.t 0), none⟩,
    ⟨some 27, .mv (.t 7), none⟩,
    ⟨some 28, .call 115 [(.t 26), (.t 27)], none⟩,
    ⟨some 29, .bsl [(.t 28)] 1, none⟩,
    ⟨some 30, .app (.t 25) (.t 29) 1, none⟩,
    ⟨some 8, .asg (.t 30), none⟩] [0, 2, 7, 8, 9]))))
  (.reg [⟨some 19, .mv (.t 9), none⟩,
    ⟨some 20, .bin .add (.t 19) (.c (.int .i64 1)), none⟩,
    ⟨some 9, .asg (.t 20), none⟩] [0, 2, 7, 8, 9])))))))
  (.seq (.reg [⟨some 31, .mv (.t 8), none⟩,
    ⟨some 6, .asg (.t 31), none⟩] [6])
  (.ret)))))
theorem con_spec_cbParts {v0 : (List Int)} {v1 : Int} {v2 : Int} {r : (List Int)} (h : sh_spec_cbParts v0 v1 v2 = some r) : Con Try.prog 181 [(cLs cI rfl).enc v0, cI.enc v1, cI.enc v2] [] (rs_spec_cbParts r) := by
  delta sh_spec_cbParts at h
  refine top (out := none) (f := Try.f181) (m := m181) (rs := [.t 6]) (by kernel_rfl) rfl (by kernel_rfl) (by kernel_rfl) (by kernel_rfl) (by kernel_rfl) (by kernel_rfl) ?_
  exact
   ini [(0, .d ((cLs cI rfl).enc v0)), (1, .d (cI.enc v1)), (2, .d (cI.enc v2))] rfl <| wpC_seq <| reg_s <| x_asg (sc (cLo cI) ([] : List Int) rfl) <| seqN [(0, .d ((cLs cI rfl).enc v0)), (1, .d (cI.enc v1)), (2, .d (cI.enc v2))] (by kernel_rfl) <|
    xn <| wpC_seq <| reg_s <| st rfl <| mvd rfl rfl <| st rfl <| mvd rfl rfl <| bnd h fun x3 e4 h => st rfl <| o_call (a1 (c := (cLs cI rfl)) (tLs tK) rfl (a1 (c := cI) tK rfl a0)) (con_spec_cbIndices e4) (.inl (so1 (sLo sK) so0)) <| x_asg (so rfl rfl) <| seqN [(0, .d ((cLs cI rfl).enc v0)), (2, .d (cI.enc v2)), (7, .d ((cLo cI).enc x3))] (by kernel_rfl) <|
    xn <| wpC_seq <| reg_s <| x_asg (sc (cLo cI) ([] : List Int) rfl) <| seqN [(0, .d ((cLs cI rfl).enc v0)), (2, .d (cI.enc v2)), (7, .d ((cLo cI).enc x3)), (8, .d ((cLo cI).enc ([] : List Int)))] (by kernel_rfl) <|
    xn <| wpC_seq <| wpC_kp <| wpC_seq <| reg_s <| x_asg (sc cI (0 : Int) rfl) <| seqN [(0, .d ((cLs cI rfl).enc v0)), (2, .d (cI.enc v2)), (7, .d ((cLo cI).enc x3)), (8, .d ((cLo cI).enc ([] : List Int))), (9, .d (cI.enc (0 : Int)))] (by kernel_rfl) <|
    xn <| wpC_blk <| lpF (fun (s112 : ((List Int) × (List Int) × Int)) => [(0, .d ((cLs cI rfl).enc v0)), (2, .d (cI.enc v2)), (7, .d ((cLo cI).enc s112.1)), (8, .d ((cLo cI).enc s112.2.1)), (9, .d (cI.enc s112.2.2))]) (x3, ([] : List Int), (0 : Int)) rfl h
    fun G185 nx183 s112 hn184 h => wpC_seq <| wpC_kp <| wpC_seq <| reg_s <| st rfl <| mvd rfl rfl <| st rfl <| mvd rfl rfl <| st rfl <| mvd rfl rfl <| getO_k h fun x196 i197 g198 h => st rfl <| ias rfl rfl i197 g198 rfl <| st rfl <| ldi rfl rfl rfl rfl <| st rfl <| b_lss (k := .i64) rfl rfl <| seqN [(0, .d ((cLs cI rfl).enc v0)), (2, .d (cI.enc v2)), (7, .d ((cLo cI).enc s112.1)), (8, .d ((cLo cI).enc s112.2.1)), (9, .d (cI.enc s112.2.2)), (18, .d (cB.enc (decide (s112.2.2 < x196))))] (by kernel_rfl) <|
    xn <| cnd rfl h (fun b199 h => wpC_skip <| kpN [(0, .d ((cLs cI rfl).enc v0)), (2, .d (cI.enc v2)), (7, .d ((cLo cI).enc s112.1)), (8, .d ((cLo cI).enc s112.2.1)), (9, .d (cI.enc s112.2.2))] (by kernel_rfl) <| xn <| wpC_seq <| wpC_kp <| wpC_blk <| wpC_seq <| reg_s <| st rfl <| mvo rfl rfl <| st rfl <| mvd rfl rfl <| st rfl <| mvd rfl rfl <| getO_k h fun x212 i213 g214 h => st rfl <| iar rfl rfl rfl rfl i213 g214 rfl <| x_sta ((cLo cI).enc (s112.1.set (v2).toNat s112.2.2)) (ss rfl rfl) rfl rfl (Ln.idx g214 Ln.nil) (Cd.h_sz cI _) rfl <| seqN [(0, .d ((cLs cI rfl).enc v0)), (2, .d (cI.enc v2)), (7, .d ((cLo cI).enc (s112.1.set (v2).toNat s112.2.2))), (8, .d ((cLo cI).enc s112.2.1)), (9, .d (cI.enc s112.2.2))] (by kernel_rfl) <|
    xn <| reg_s <| st rfl <| mvo rfl rfl <| st rfl <| mvd rfl rfl <| st rfl <| mvo rfl rfl <| bnd h fun x215 e216 h => st rfl <| o_call (a1 (c := (cLs cI rfl)) (tLs tK) rfl (a1 (c := (cLo cI)) (tLo tK) rfl a0)) (con_spec_cbAt e216) (.inl (so1 sK so0)) <| x_bsl cI [x215] (t1 (ss rfl rfl) rfl t0) rfl rfl <| lnO_k h fun l217 h => x_app (sr rfl rfl) (to rfl rfl) l217 rfl <| x_asg (so rfl rfl) <| seqN [(0, .d ((cLs cI rfl).enc v0)), (2, .d (cI.enc v2)), (7, .d ((cLo cI).enc (s112.1.set (v2).toNat s112.2.2))), (8, .d ((cLo cI).enc (s112.2.1 ++ [x215]))), (9, .d (cI.enc s112.2.2))] (by kernel_rfl) <|
    xbb <| kpN [(0, .d ((cLs cI rfl).enc v0)), (2, .d (cI.enc v2)), (7, .d ((cLo cI).enc (s112.1.set (v2).toNat s112.2.2))), (8, .d ((cLo cI).enc (s112.2.1 ++ [x215]))), (9, .d (cI.enc s112.2.2))] (by kernel_rfl) <| xn <| reg_s <| st rfl <| mvd rfl rfl <| ckI_k h fun i218 h => st rfl <| b_add (k := .i64) rfl rfl i218 <| x_asg (ss rfl rfl) <| seqN [(0, .d ((cLs cI rfl).enc v0)), (2, .d (cI.enc v2)), (7, .d ((cLo cI).enc (s112.1.set (v2).toNat s112.2.2))), (8, .d ((cLo cI).enc (s112.2.1 ++ [x215]))), (9, .d (cI.enc (s112.2.2 + (1 : Int))))] (by kernel_rfl) <|
    xn <| hn184 ((s112.1.set (v2).toNat s112.2.2), (s112.2.1 ++ [x215]), (s112.2.2 + (1 : Int))) h)
    (fun b199 h => wpC_exit <| xt <| xt <| xt <| xb <| kpN [(8, .d ((cLo cI).enc s112.2.1))] (by kernel_rfl) <| xn <| wpC_seq <| reg_s <| st rfl <| mvo rfl rfl <| x_asg (sr rfl rfl) <| seqN [(6, .d ((cLo cI).enc s112.2.1))] (by kernel_rfl) <|
    xn <| wpC_ret <| re <| fin h (r1 (so rfl rfl) <| r0) rfl)

def rs_spec_cbBroken (r : Bool) : List D := [cB.enc r]
def m175 : MC := .seq (.reg [⟨some 2, .box (.t 0), none⟩,
    ⟨some 4, .asg (.c (.bool false)), none⟩] [1, 2])
  (.seq (.kp [] (.seq (.reg [⟨some 10, .fa 2 0 0, none⟩,
    ⟨some 11, .ld 10 1 false, none⟩,
    ⟨some 12, .mv (.t 1), none⟩,
    ⟨some 13, .call 114 [(.t 11), (.t 12)], none⟩,
    ⟨some 14, .len false (.t 13), none⟩,
    ⟨some 15, .mv (.c (.int .i64 0)), none⟩] [1, 2, 13, 14, 15])
  (.blk 0 (.loop (.seq (.reg [⟨some 16, .bin .lss (.t 15) (.t 14), none⟩] [1, 2, 13, 14, 15, 16])
  (.seq (.kp [1, 2, 13, 14, 15] (.cond (.t 16) (.skip) (.exit 0)))
  (.seq (.kp [1, 2, 13, 14, 15] (.blk 1 (.seq (.reg [⟨some 17, .mv (.t 15), none⟩,
    ⟨some 18, .ia 13 (.t 15) 1, none⟩,
    ⟨some 19, .ld 18 1 false, none⟩,
    ⟨some 5, .asg (.t 17), none⟩,
    ⟨some 6, .asg (.t 19), none⟩] [1, 2, 5, 6, 13, 14, 15])
  (.seq (.kp [1, 2, 5, 13, 14, 15] (.seq (.reg [⟨some 20, .mv (.t 6), none⟩,
    ⟨some 21, .fa 2 0 0, none⟩,
    ⟨some 22, .ld 21 1 false, none⟩,
    ⟨some 23, .mv (.t 5), none⟩,
    ⟨some 24, .ia 22 (.t 23) 1, none⟩,
    ⟨some 25, .ld 24 1 false, none⟩,
    ⟨some 26, .bin .neq (.t 20) (.t 25), none⟩] [1, 2, 5, 13, 14, 15, 26])
  (.cond (.t 26) (.exit 1) (.skip))))
  (.seq (.reg [⟨some 7, .asg (.c (.int .i64 0)), none⟩] [1, 2, 5, 7, 13, 14, 15])
  (.seq (.kp [1, 2, 7, 13, 14, 15] (.seq (.reg [⟨some 27, .fa 2 0 0, none⟩,
    ⟨some 28, .ld 27 1 false, none⟩,
    ⟨some 29, .mv (.t 1), none⟩,
    ⟨some 30, .mv (.t 5), none⟩,
    ⟨some 31, .call 181 [(.t 28), (.t 29), (.t 30)], none⟩,
    ⟨some 32, .len false (.t 31), none⟩,
    ⟨some 33, .mv (.c (.int .i64 0)), none⟩] [1, 2, 7, 13, 14, 15, 31, 32, 33])
  (.blk 2 (.loop (.seq (.reg [⟨some 34, .bin .lss (.t 33) (.t 32), none⟩] [1, 2, 7, 13, 14, 15, 31, 32, 33, 34])
  (.seq (.kp [1, 2, 7, 13, 14, 15, 31, 32, 33] (.cond (.t 34) (.skip) (.exit 2)))
  (.seq (.kp [1, 2, 7, 13, 14, 15, 31, 32, 33] (.blk 3 (.seq (.reg [⟨some 35, .ia 31 (.t 33) 1, none⟩,
    ⟨some 36, .ld 35 1 false, none⟩,
    ⟨some 9, .asg (.t 36), none⟩] [1, 2, 7, 9, 13, 14, 15, 31, 32, 33])
  (.reg [⟨some 37, .mv (.t 7), none⟩,
    ⟨some 38, .fa 2 1 1, none⟩,
    ⟨some 39, .ld 38 1 false, none⟩,
    ⟨some 40, .mv (.t 9), none⟩,
    ⟨some 41, .ia 39 (.t 40) 1, none⟩,
    ⟨some 42, .ld 41 1 false, none⟩,
    ⟨some 43, .bin .add (.t 37) (.t 42), none⟩,
    ⟨some 7, .asg (.t 43), none⟩] [1, 2, 7, 13, 14, 15, 31, 32, 33]))))
  (.reg [⟨some 44, .bin .add (.t 33) (.c (.int .i64 1)), none⟩,
    ⟨some 33, .mv (.t 44), none⟩] [1, 2, 7, 13, 14, 15, 31, 32, 33]))))))))
  (.seq (.reg [⟨some 45, .mv (.t 7), none⟩,
    ⟨some 46, .fa 2 1 1, none⟩,
    ⟨some 47, .ld 46 1 false, none⟩,
    ⟨some 48, .mv (.t 1), none⟩,
    ⟨some 49, .ia 47 (.t 48) 1, none⟩,
    ⟨some 50, .ld 49 1 false, none⟩,
    ⟨some 51, .bin .neq (.t 45) (.t 50), none⟩] [1, 2, 13, 14, 15, 51])
  (.cond (.t 51) (.seq (.reg [⟨some 4, .asg (.c (.bool true)), none⟩] [4])
  (.ret)) (.skip)))))))))
  (.reg [⟨some 52, .bin .add (.t 15) (.c (.int .i64 1)), none⟩,
    ⟨some 15, .mv (.t 52), none⟩] [1, 2, 13, 14, 15]))))))))
  (.seq (.reg [⟨some 4, .asg (.c (.bool false)), none⟩] [4])
  (.ret)))
theorem con_spec_cbBroken {v0 : XCube} {v1 : Int} {r : Bool} (h : sh_spec_cbBroken v0 v1 = some r) : Con Try.prog 175 [(cXCube (cLs cI rfl) (cLs cI rfl)).enc v0, cI.enc v1] [] (rs_spec_cbBroken r) := by
  delta sh_spec_cbBroken at h
  refine top (out := none) (f := Try.f175) (m := m175) (rs := [.t 4]) (by kernel_rfl) rfl (by kernel_rfl) (by kernel_rfl) (by kernel_rfl) (by kernel_rfl) (by kernel_rfl) ?_
  exact
   ini [(0, .d ((cXCube (cLs cI rfl) (cLs cI rfl)).enc v0)), (1, .d (cI.enc v1))] rfl <| wpC_seq <| reg_s <| x_box (ss rfl rfl) <| x_asg (sc cB false rfl) <| seqN [(1, .d (cI.enc v1)), (2, .box ((cXCube (cLs cI rfl) (cLs cI rfl)).enc v0))] (by kernel_rfl) <|
    xn <| wpC_seq <| wpC_kp <| wpC_seq <| reg_s <| st rfl <| fab rfl rfl rfl rfl <| st rfl <| lda rfl rfl rfl rfl rfl rfl <| st rfl <| mvd rfl rfl <| bnd h fun x406 e407 h => st rfl <| o_call (a1 (c := (cLs cI rfl)) (tLs tK) rfl (a1 (c := cI) tK rfl a0)) (con_spec_cbIndices e407) (.inl (so1 (sLo sK) so0)) <| stw rfl <| leno rfl fun l408 => st rfl <| mvc cI (0 : Int) rfl <| seqN [(1, .d (cI.enc v1)), (2, .box ((cXCube (cLs cI rfl) (cLs cI rfl)).enc v0)), (13, .d ((cLo cI).enc x406)), (14, .d (cI.enc (x406.length : Int))), (15, .d (cI.enc (0 : Int)))] (by kernel_rfl) <|
    xn <| wpC_blk <| lpR (fun (k410 : Nat) (s409 : Unit) => [(1, .d (cI.enc v1)), (2, .box ((cXCube (cLs cI rfl) (cLs cI rfl)).enc v0)), (13, .d ((cLo cI).enc x406)), (14, .d (cI.enc (x406.length : Int))), (15, .d (cI.enc (k410 : Int)))]) () rfl h
    (fun G610 s409 h => wpC_seq <| reg_s <| st rfl <| b_lss (k := .i64) rfl rfl <| seqN [(1, .d (cI.enc v1)), (2, .box ((cXCube (cLs cI rfl) (cLs cI rfl)).enc v0)), (13, .d ((cLo cI).enc x406)), (14, .d (cI.enc (x406.length : Int))), (15, .d (cI.enc (x406.length : Int))), (16, .d (cB.enc (decide ((x406.length : Int) < (x406.length : Int)))))] (by kernel_rfl) <|
    xn <| wpC_seq <| wpC_kp <| cnd0 rfl (dlf _) <| wpC_exit <| xt <| xt <| xt <| xb <| kpN [] (by kernel_rfl) <| xn <| wpC_seq <| reg_s <| x_asg (sc cB false rfl) <| seqN [(4, .d (cB.enc false))] (by kernel_rfl) <|
    xn <| wpC_ret <| re <| fin h (r1 (ss rfl rfl) <| r0) rfl)
    (fun G610 nx608 k410 s409 x411 hk412 hx413 hn609 h => wpC_seq <| reg_s <| st rfl <| b_lss (k := .i64) rfl rfl <| seqN [(1, .d (cI.enc v1)), (2, .box ((cXCube (cLs cI rfl) (cLs cI rfl)).enc v0)), (13, .d ((cLo cI).enc x406)), (14, .d (cI.enc (x406.length : Int))), (15, .d (cI.enc (k410 : Int))), (16, .d (cB.enc (decide ((k410 : Int) < (x406.length : Int)))))] (by kernel_rfl) <|
    xn <| wpC_seq <| wpC_kp <| cnd1 rfl (dlt hk412) <| wpC_skip <| kpN [(1, .d (cI.enc v1)), (2, .box ((cXCube (cLs cI rfl) (cLs cI rfl)).enc v0)), (13, .d ((cLo cI).enc x406)), (14, .d (cI.enc (x406.length : Int))), (15, .d (cI.enc (k410 : Int)))] (by kernel_rfl) <| xn <| wpC_seq <| wpC_kp <| wpC_blk <| wpC_seq <| reg_s <| st rfl <| mvd rfl rfl <| st rfl <| iao rfl rfl (Int.natCast_nonneg _) hx413 rfl <| st rfl <| lda rfl rfl (Gt.idx hx413 Gt.nil) rfl rfl rfl <| x_asg (ss rfl rfl) <| x_asg (ss rfl rfl) <| seqN [(1, .d (cI.enc v1)), (2, .box ((cXCube (cLs cI rfl) (cLs cI rfl)).enc v0)), (5, .d (cI.enc (k410 : Int))), (6, .d (cI.enc x411)), (13, .d ((cLo cI).enc x406)), (14, .d (cI.enc (x406.length : Int))), (15, .d (cI.enc (k410 : Int)))] (by kernel_rfl) <|
    xn <| wpC_seq <| wpC_kp <| wpC_seq <| reg_s <| st rfl <| mvd rfl rfl <| st rfl <| fab rfl rfl rfl rfl <| st rfl <| lda rfl rfl rfl rfl rfl rfl <| st rfl <| mvd rfl rfl <| getO_k h fun x718 i719 g720 h => st rfl <| ias rfl rfl i719 g720 rfl <| st rfl <| ldi rfl rfl rfl rfl <| st rfl <| b_neq (k := .i64) rfl rfl <| seqN [(1, .d (cI.enc v1)), (2, .box ((cXCube (cLs cI rfl) (cLs cI rfl)).enc v0)), (5, .d (cI.enc (k410 : Int))), (13, .d ((cLo cI).enc x406)), (14, .d (cI.enc (x406.length : Int))), (15, .d (cI.enc (k410 : Int))), (26, .d (cB.enc (decide (x411 ≠ x718))))] (by kernel_rfl) <|
    xn <| cnd rfl h (fun b721 h => wpC_exit <| xt <| xt <| xb <| kpN [(1, .d (cI.enc v1)), (2, .box ((cXCube (cLs cI rfl) (cLs cI rfl)).enc v0)), (13, .d ((cLo cI).enc x406)), (14, .d (cI.enc (x406.length : Int))), (15, .d (cI.enc (k410 : Int)))] (by kernel_rfl) <| xn <| reg_s <| st rfl <| b_inc rfl rfl l408 hk412 <| st rfl <| mvd rfl rfl <| seqN [(1, .d (cI.enc v1)), (2, .box ((cXCube (cLs cI rfl) (cLs cI rfl)).enc v0)), (13, .d ((cLo cI).enc x406)), (14, .d (cI.enc (x406.length : Int))), (15, .d (cI.enc ((k410 + 1 : Nat) : Int)))] (by kernel_rfl) <|
    xn <| hn609 () h)
    (fun b721 h => wpC_skip <| kpN [(1, .d (cI.enc v1)), (2, .box ((cXCube (cLs cI rfl) (cLs cI rfl)).enc v0)), (5, .d (cI.enc (k410 : Int))), (13, .d ((cLo cI).enc x406)), (14, .d (cI.enc (x406.length : Int))), (15, .d (cI.enc (k410 : Int)))] (by kernel_rfl) <| xn <| wpC_seq <| reg_s <| x_asg (sc cI (0 : Int) rfl) <| seqN [(1, .d (cI.enc v1)), (2, .box ((cXCube (cLs cI rfl) (cLs cI rfl)).enc v0)), (5, .d (cI.enc (k410 : Int))), (7, .d (cI.enc (0 : Int))), (13, .d ((cLo cI).enc x406)), (14, .d (cI.enc (x406.length : Int))), (15, .d (cI.enc (k410 : Int)))] (by kernel_rfl) <|
    xn <| wpC_seq <| wpC_kp <| wpC_seq <| reg_s <| st rfl <| fab rfl rfl rfl rfl <| st rfl <| lda rfl rfl rfl rfl rfl rfl <| st rfl <| mvd rfl rfl <| st rfl <| mvd rfl rfl <| bnd h fun x763 e764 h => st rfl <| o_call (a1 (c := (cLs cI rfl)) (tLs tK) rfl (a1 (c := cI) tK rfl (a1 (c := cI) tK rfl a0))) (con_spec_cbParts e764) (.inl (so1 (sLo sK) so0)) <| stw rfl <| leno rfl fun l765 => st rfl <| mvc cI (0 : Int) rfl <| seqN [(1, .d (cI.enc v1)), (2, .box ((cXCube (cLs cI rfl) (cLs cI rfl)).enc v0)), (7, .d (cI.enc (0 : Int))), (13, .d ((cLo cI).enc x406)), (14, .d (cI.enc (x406.length : Int))), (15, .d (cI.enc (k410 : Int))), (31, .d ((cLo cI).enc x763)), (32, .d (cI.enc (x763.length : Int))), (33, .d (cI.enc (0 : Int)))] (by kernel_rfl) <|
    xn <| wpC_blk <| lpR (fun (k767 : Nat) (s766 : Int) => [(1, .d (cI.enc v1)), (2, .box ((cXCube (cLs cI rfl) (cLs cI rfl)).enc v0)), (7, .d (cI.enc s766)), (13, .d ((cLo cI).enc x406)), (14, .d (cI.enc (x406.length : Int))), (15, .d (cI.enc (k410 : Int))), (31, .d ((cLo cI).enc x763)), (32, .d (cI.enc (x763.length : Int))), (33, .d (cI.enc (k767 : Int)))]) (0 : Int) rfl h
    (fun G789 s766 h => wpC_seq <| reg_s <| st rfl <| b_lss (k := .i64) rfl rfl <| seqN [(1, .d (cI.enc v1)), (2, .box ((cXCube (cLs cI rfl) (cLs cI rfl)).enc v0)), (7, .d (cI.enc s766)), (13, .d ((cLo cI).enc x406)), (14, .d (cI.enc (x406.length : Int))), (15, .d (cI.enc (k410 : Int))), (31, .d ((cLo cI).enc x763)), (32, .d (cI.enc (x763.length : Int))), (33, .d (cI.enc (x763.length : Int))), (34, .d (cB.enc (decide ((x763.length : Int) < (x763.length : Int)))))] (by kernel_rfl) <|
    xn <| wpC_seq <| wpC_kp <| cnd0 rfl (dlf _) <| wpC_exit <| xt <| xt <| xt <| xb <| kpN [(1, .d (cI.enc v1)), (2, .box ((cXCube (cLs cI rfl) (cLs cI rfl)).enc v0)), (7, .d (cI.enc s766)), (13, .d ((cLo cI).enc x406)), (14, .d (cI.enc (x406.length : Int))), (15, .d (cI.enc (k410 : Int)))] (by kernel_rfl) <| xn <| wpC_seq <| reg_s <| st rfl <| mvd rfl rfl <| st rfl <| fab rfl rfl rfl rfl <| st rfl <| lda rfl rfl rfl rfl rfl rfl <| st rfl <| mvd rfl rfl <| getO_k h fun x793 i794 g795 h => st rfl <| ias rfl rfl i794 g795 rfl <| st rfl <| ldi rfl rfl rfl rfl <| st rfl <| b_neq (k := .i64) rfl rfl <| seqN [(1, .d (cI.enc v1)), (2, .box ((cXCube (cLs cI rfl) (cLs cI rfl)).enc v0)), (13, .d ((cLo cI).enc x406)), (14, .d (cI.enc (x406.length : Int))), (15, .d (cI.enc (k410 : Int))), (51, .d (cB.enc (decide (s766 ≠ x793))))] (by kernel_rfl) <|
    xn <| cnd rfl h (fun b796 h => wpC_seq <| reg_s <| x_asg (sc cB true rfl) <| seqN [(4, .d (cB.enc true))] (by kernel_rfl) <|
    xn <| wpC_ret <| rb <| rt <| rt <| rt <| rb <| rt <| rt <| re <| fin h (r1 (ss rfl rfl) <| r0) rfl)
    (fun b796 h => wpC_skip <| xbb <| kpN [(1, .d (cI.enc v1)), (2, .box ((cXCube (cLs cI rfl) (cLs cI rfl)).enc v0)), (13, .d ((cLo cI).enc x406)), (14, .d (cI.enc (x406.length : Int))), (15, .d (cI.enc (k410 : Int)))] (by kernel_rfl) <| xn <| reg_s <| st rfl <| b_inc rfl rfl l408 hk412 <| st rfl <| mvd rfl rfl <| seqN [(1, .d (cI.enc v1)), (2, .box ((cXCube (cLs cI rfl) (cLs cI rfl)).enc v0)), (13, .d ((cLo cI).enc x406)), (14, .d (cI.enc (x406.length : Int))), (15, .d (cI.enc ((k410 + 1 : Nat) : Int)))] (by kernel_rfl) <|
    xn <| hn609 () h))
    (fun G789 nx787 k767 s766 x768 hk769 hx770 hn788 h => wpC_seq <| reg_s <| st rfl <| b_lss (k := .i64) rfl rfl <| seqN [(1, .d (cI.enc v1)), (2, .box ((cXCube (cLs cI rfl) (cLs cI rfl)).enc v0)), (7, .d (cI.enc s766)), (13, .d ((cLo cI).enc x406)), (14, .d (cI.enc (x406.length : Int))), (15, .d (cI.enc (k410 : Int))), (31, .d ((cLo cI).enc x763)), (32, .d (cI.enc (x763.length : Int))), (33, .d (cI.enc (k767 : Int))), (34, .d (cB.enc (decide ((k767 : Int) < (x763.length : Int)))))] (by kernel_rfl) <|
    xn <| wpC_seq <| wpC_kp <| cnd1 rfl (dlt hk769) <| wpC_skip <| kpN [(1, .d (cI.enc v1)), (2, .box ((cXCube (cLs cI rfl) (cLs cI rfl)).enc v0)), (7, .d (cI.enc s766)), (13, .d ((cLo cI).enc x406)), (14, .d (cI.enc (x406.length : Int))), (15, .d (cI.enc (k410 : Int))), (31, .d ((cLo cI).enc x763)), (32, .d (cI.enc (x763.length : Int))), (33, .d (cI.enc (k767 : Int)))] (by kernel_rfl) <| xn <| wpC_seq <| wpC_kp <| wpC_blk <| wpC_seq <| reg_s <| st rfl <| iao rfl rfl (Int.natCast_nonneg _) hx770 rfl <| st rfl <| lda rfl rfl (Gt.idx hx770 Gt.nil) rfl rfl rfl <| x_asg (ss rfl rfl) <| seqN [(1, .d (cI.enc v1)), (2, .box ((cXCube (cLs cI rfl) (cLs cI rfl)).enc v0)), (7, .d (cI.enc s766)), (9, .d (cI.enc x768)), (13, .d ((cLo cI).enc x406)), (14, .d (cI.enc (x406.length : Int))), (15, .d (cI.enc (k410 : Int))), (31, .d ((cLo cI).enc x763)), (32, .d (cI.enc (x763.length : Int))), (33, .d (cI.enc (k767 : Int)))] (by kernel_rfl) <|
    xn <| reg_s <| st rfl <| mvd rfl rfl <| st rfl <| fab rfl rfl rfl rfl <| st rfl <| lda rfl rfl rfl rfl rfl rfl <| st rfl <| mvd rfl rfl <| getO_k h fun x801 i802 g803 h => st rfl <| ias rfl rfl i802 g803 rfl <| st rfl <| ldi rfl rfl rfl rfl <| ckI_k h fun i804 h => st rfl <| b_add (k := .i64) rfl rfl i804 <| x_asg (ss rfl rfl) <| seqN [(1, .d (cI.enc v1)), (2, .box ((cXCube (cLs cI rfl) (cLs cI rfl)).enc v0)), (7, .d (cI.enc (s766 + x801))), (13, .d ((cLo cI).enc x406)), (14, .d (cI.enc (x406.length : Int))), (15, .d (cI.enc (k410 : Int))), (31, .d ((cLo cI).enc x763)), (32, .d (cI.enc (x763.length : Int))), (33, .d (cI.enc (k767 : Int)))] (by kernel_rfl) <|
    xbb <| kpN [(1, .d (cI.enc v1)), (2, .box ((cXCube (cLs cI rfl) (cLs cI rfl)).enc v0)), (7, .d (cI.enc (s766 + x801))), (13, .d ((cLo cI).enc x406)), (14, .d (cI.enc (x406.length : Int))), (15, .d (cI.enc (k410 : Int))), (31, .d ((cLo cI).enc x763)), (32, .d (cI.enc (x763.length : Int))), (33, .d (cI.enc (k767 : Int)))] (by kernel_rfl) <| xn <| reg_s <| st rfl <| b_inc rfl rfl l765 hk769 <| st rfl <| mvd rfl rfl <| seqN [(1, .d (cI.enc v1)), (2, .box ((cXCube (cLs cI rfl) (cLs cI rfl)).enc v0)), (7, .d (cI.enc (s766 + x801))), (13, .d ((cLo cI).enc x406)), (14, .d (cI.enc (x406.length : Int))), (15, .d (cI.enc (k410 : Int))), (31, .d ((cLo cI).enc x763)), (32, .d (cI.enc (x763.length : Int))), (33, .d (cI.enc ((k767 + 1 : Nat) : Int)))] (by kernel_rfl) <|
    xn <| hn788 (s766 + x801) h)))

def rs_spec_cbFirst (r : Int) : List D := [cI.enc r]
def m154 : MC := .seq (.reg [⟨some 1, .box (.t 0), none⟩,
    ⟨some 2, .asg (.c (.int .i64 0)), none⟩] [1])
  (.seq (.kp [1] (.seq (.reg [⟨some 4, .fa 1 1 1, none⟩,
    ⟨some 5, .ld 4 1 false, none⟩,
    ⟨some 6, .len false (.t 5), none⟩,
    ⟨some 7, .mv (.c (.int .i64 0)), none⟩] [1, 6, 7])
  (.blk 0 (.loop (.seq (.reg [⟨some 8, .bin .lss (.t 7) (.t 6), none⟩] [1, 6, 7, 8])
  (.seq (.kp [1, 6, 7] (.cond (.t 8) (.skip) (.exit 0)))
  (.seq (.kp [1, 6, 7] (.blk 1 (.seq (.reg [⟨some 9, .mv (.t 7), none⟩,
    ⟨some 3, .asg (.t 9), none⟩] [1, 3, 6, 7])
  (.seq (.reg [⟨some 10, .ld 1 2 true, none⟩,
    ⟨some 11, .mv (.t 3), none⟩,
    ⟨some 12, .call 175 [(.t 10), (.t 11)], none⟩] [1, 3, 6, 7, 12])
  (.cond (.t 12) (.seq (.reg [⟨some 13, .mv (.t 3), none⟩,
    ⟨some 2, .asg (.t 13), none⟩] [2])
  (.ret)) (.skip))))))
  (.reg [⟨some 14, .bin .add (.t 7) (.c (.int .i64 1)), none⟩,
    ⟨some 7, .mv (.t 14), none⟩] [1, 6, 7]))))))))
  (.seq (.reg [⟨some 15, .fa 1 1 1, none⟩,
    ⟨some 16, .ld 15 1 false, none⟩,
    ⟨some 17, .len false (.t 16), none⟩,
    ⟨some 2, .asg (.t 17), none⟩] [2])
  (.ret)))
theorem con_spec_cbFirst {v0 : XCube} {r : Int} (h : sh_spec_cbFirst v0 = some r) : Con Try.prog 154 [(cXCube (cLs cI rfl) (cLs cI rfl)).enc v0] [] (rs_spec_cbFirst r) := by
  delta sh_spec_cbFirst at h
  refine top (out := none) (f := Try.f154) (m := m154) (rs := [.t 2]) (by kernel_rfl) rfl (by kernel_rfl) (by kernel_rfl) (by kernel_rfl) (by kernel_rfl) (by kernel_rfl) ?_
  exact
   ini [(0, .d ((cXCube (cLs cI rfl) (cLs cI rfl)).enc v0))] rfl <| wpC_seq <| reg_s <| x_box (ss rfl rfl) <| x_asg (sc cI (0 : Int) rfl) <| seqN [(1, .box ((cXCube (cLs cI rfl) (cLs cI rfl)).enc v0))] (by kernel_rfl) <|
    xn <| wpC_seq <| wpC_kp <| wpC_seq <| reg_s <| st rfl <| fab rfl rfl rfl rfl <| st rfl <| lda rfl rfl rfl rfl rfl rfl <| stw rfl <| lens rfl fun l32 => st rfl <| mvc cI (0 : Int) rfl <| seqN [(1, .box ((cXCube (cLs cI rfl) (cLs cI rfl)).enc v0)), (6, .d (cI.enc (v0.Cells.length : Int))), (7, .d (cI.enc (0 : Int)))] (by kernel_rfl) <|
    xn <| wpC_blk <| lpR (fun (k34 : Nat) (s33 : Unit) => [(1, .box ((cXCube (cLs cI rfl) (cLs cI rfl)).enc v0)), (6, .d (cI.enc (v0.Cells.length : Int))), (7, .d (cI.enc (k34 : Int)))]) () rfl h
    (fun G50 s33 h => wpC_seq <| reg_s <| st rfl <| b_lss (k := .i64) rfl rfl <| seqN [(1, .box ((cXCube (cLs cI rfl) (cLs cI rfl)).enc v0)), (6, .d (cI.enc (v0.Cells.length : Int))), (7, .d (cI.enc (v0.Cells.length : Int))), (8, .d (cB.enc (decide ((v0.Cells.length : Int) < (v0.Cells.length : Int)))))] (by kernel_rfl) <|
    xn <| wpC_seq <| wpC_kp <| cnd0 rfl (dlf _) <| wpC_exit <| xt <| xt <| xt <| xb <| kpN [(1, .box ((cXCube (cLs cI rfl) (cLs cI rfl)).enc v0))] (by kernel_rfl) <| xn <| wpC_seq <| reg_s <| st rfl <| fab rfl rfl rfl rfl <| st rfl <| lda rfl rfl rfl rfl rfl rfl <| stw rfl <| lens rfl fun l52 => x_asg (ss rfl rfl) <| seqN [(2, .d (cI.enc (v0.Cells.length : Int)))] (by kernel_rfl) <|
    xn <| wpC_ret <| re <| fin h (r1 (ss rfl rfl) <| r0) rfl)
    (fun G50 nx48 k34 s33 x35 hk36 hx37 hn49 h => wpC_seq <| reg_s <| st rfl <| b_lss (k := .i64) rfl rfl <| seqN [(1, .box ((cXCube (cLs cI rfl) (cLs cI rfl)).enc v0)), (6, .d (cI.enc (v0.Cells.length : Int))), (7, .d (cI.enc (k34 : Int))), (8, .d (cB.enc (decide ((k34 : Int) < (v0.Cells.length : Int)))))] (by kernel_rfl) <|
    xn <| wpC_seq <| wpC_kp <| cnd1 rfl (dlt hk36) <| wpC_skip <| kpN [(1, .box ((cXCube (cLs cI rfl) (cLs cI rfl)).enc v0)), (6, .d (cI.enc (v0.Cells.length : Int))), (7, .d (cI.enc (k34 : Int)))] (by kernel_rfl) <| xn <| wpC_seq <| wpC_kp <| wpC_blk <| wpC_seq <| reg_s <| st rfl <| mvd rfl rfl <| x_asg (ss rfl rfl) <| seqN [(1, .box ((cXCube (cLs cI rfl) (cLs cI rfl)).enc v0)), (3, .d (cI.enc (k34 : Int))), (6, .d (cI.enc (v0.Cells.length : Int))), (7, .d (cI.enc (k34 : Int)))] (by kernel_rfl) <|
    xn <| wpC_seq <| reg_s <| st rfl <| ldb rfl rfl rfl rfl <| st rfl <| mvd rfl rfl <| bnd h fun x60 e61 h => st rfl <| o_call (a1 (c := (cXCube (cLs cI rfl) (cLs cI rfl))) (tXCube (tLs tK) (tLs tK)) rfl (a1 (c := cI) tK rfl a0)) (con_spec_cbBroken e61) (.inl (so1 sB so0)) <| seqN [(1, .box ((cXCube (cLs cI rfl) (cLs cI rfl)).enc v0)), (3, .d (cI.enc (k34 : Int))), (6, .d (cI.enc (v0.Cells.length : Int))), (7, .d (cI.enc (k34 : Int))), (12, .d (cB.enc x60))] (by kernel_rfl) <|
    xn <| cnd rfl h (fun b62 h => wpC_seq <| reg_s <| st rfl <| mvd rfl rfl <| x_asg (ss rfl rfl) <| seqN [(2, .d (cI.enc (k34 : Int)))] (by kernel_rfl) <|
    xn <| wpC_ret <| rb <| rt <| rt <| rt <| rb <| rt <| rt <| re <| fin h (r1 (ss rfl rfl) <| r0) rfl)
    (fun b62 h => wpC_skip <| xbb <| kpN [(1, .box ((cXCube (cLs cI rfl) (cLs cI rfl)).enc v0)), (6, .d (cI.enc (v0.Cells.length : Int))), (7, .d (cI.enc (k34 : Int)))] (by kernel_rfl) <| xn <| reg_s <| st rfl <| b_inc rfl rfl l32 hk36 <| st rfl <| mvd rfl rfl <| seqN [(1, .box ((cXCube (cLs cI rfl) (cLs cI rfl)).enc v0)), (6, .d (cI.enc (v0.Cells.length : Int))), (7, .d (cI.enc ((k34 + 1 : Nat) : Int)))] (by kernel_rfl) <|
    xn <| hn49 () h))

def rs_spec_cbGood (r : Bool) : List D := [cB.enc r]
def m110 : MC := .seq (.reg [⟨some 1, .box (.t 0), none⟩,
    ⟨some 2, .asg (.c (.bool false)), none⟩] [1])
  (.seq (.drw [⟨0, ⟨some 3, .ld 1 2 true, none⟩, [4, 5, 6, 7, 8, 9, 10, 11, 12]⟩,
    ⟨1, ⟨some 4, .call 153 [(.t 3)], none⟩, [5, 6, 7, 8, 9, 10, 11, 12]⟩,
    ⟨2, ⟨some 5, .mv (.t 4), none⟩, [6, 7, 8, 9, 10, 11, 12]⟩,
    ⟨3, ⟨some 6, .ld 1 2 true, some (5, true)⟩, [7, 8, 9, 10, 11, 12]⟩,
    ⟨4, ⟨some 7, .call 154 [(.t 6)], some (5, true)⟩, [8, 9, 10, 11, 12]⟩,
    ⟨5, ⟨some 8, .fa 1 1 1, some (5, true)⟩, [6, 7, 9, 10, 11, 12]⟩,
    ⟨6, ⟨some 9, .ld 8 1 false, some (5, true)⟩, [6, 7, 10, 11, 12]⟩,
    ⟨7, ⟨some 10, .len false (.t 9), some (5, true)⟩, [6, 7, 11, 12]⟩,
    ⟨8, ⟨some 11, .bin .eql (.t 7) (.t 10), some (5, true)⟩, [12]⟩,
    ⟨9, ⟨some 12, .pick (.t 5) (.t 11) (.c (.bool false)), none⟩, []⟩]
    [(10, ⟨some 2, .asg (.t 12), none⟩)] [2])
  (.ret))
theorem con_spec_cbGood {v0 : XCube} {r : Bool} (h : sh_spec_cbGood v0 = some r) : Con Try.prog 110 [(cXCube (cLs cI rfl) (cLs cI rfl)).enc v0] [] (rs_spec_cbGood r) := by
  delta sh_spec_cbGood at h
  refine top (out := none) (f := Try.f110) (m := m110) (rs := [.t 2]) (by kernel_rfl) rfl (by kernel_rfl) (by kernel_rfl) (by kernel_rfl) (by kernel_rfl) (by kernel_rfl) ?_
  exact
   ini [(0, .d ((cXCube (cLs cI rfl) (cLs cI rfl)).enc v0))] rfl <| wpC_seq <| reg_s <| x_box (ss rfl rfl) <| x_asg (sc cB false rfl) <| seqN [(1, .box ((cXCube (cLs cI rfl) (cLs cI rfl)).enc v0))] (by kernel_rfl) <|
    xn <| wpC_seq <| drw_s <| pst rfl <| ldb rfl rfl rfl rfl ⟨rfl, bndp h fun x7 e8 h => pst rfl <| o_call (a1 (c := (cXCube (cLs cI rfl) (cLs cI rfl))) (tXCube (tLs tK) (tLs tK)) rfl a0) (con_spec_cbForm e8) (.inl (so1 sB so0)) ⟨rfl, pst rfl <| mvd rfl rfl ⟨rfl, ite_kp h (fun b9 h => pgt rfl b9 <| pst rfl <| ldb rfl rfl rfl rfl ⟨rfl, pgt rfl b9 <| bndp h fun x10 e11 h => pst rfl <| o_call (a1 (c := (cXCube (cLs cI rfl) (cLs cI rfl))) (tXCube (tLs tK) (tLs tK)) rfl a0) (con_spec_cbFirst e11) (.inl (so1 sK so0)) ⟨rfl, pgt rfl b9 <| pst rfl <| fab rfl rfl rfl rfl ⟨rfl, pgt rfl b9 <| pst rfl <| lda rfl rfl rfl rfl rfl rfl ⟨rfl, pgt rfl b9 <| lmO_kp h fun l12 h => pst rfl <| plns rfl l12 ⟨rfl, pgt rfl b9 <| pst rfl <| b_eql (k := .i64) rfl rfl ⟨rfl, pst rfl <| pick1 rfl b9 (cd := cB) (v := (decide (x10 = (v0.Cells.length : Int)))) rfl rfl ⟨rfl, preN <| x_asg (ss rfl rfl) <| seqN [(2, .d (cB.enc (decide (x10 = (v0.Cells.length : Int)))))] (by kernel_rfl) <|
    xn <| wpC_ret <| re <| fin h (r1 (ss rfl rfl) <| r0) rfl⟩⟩⟩⟩⟩⟩⟩)
    (fun b9 h => pgf rfl rfl b9 <| pgf rfl rfl b9 <| pgf rfl rfl b9 <| pgf rfl rfl b9 <| pgf rfl rfl b9 <| pgf rfl rfl b9 <| pst rfl <| pick0 rfl b9 (cd := cB) (v := false) rfl rfl ⟨rfl, preN <| x_asg (ss rfl rfl) <| seqN [(2, .d (cB.enc false))] (by kernel_rfl) <|
    xn <| wpC_ret <| re <| fin h (r1 (ss rfl rfl) <| r0) rfl⟩)⟩⟩⟩

def rs_impl_areCubeValues (r : Bool) : List D := [cB.enc r]
def m122 : MC := .seq (.reg [⟨some 2, .asg (.c (.bool false)), none⟩] [0])
  (.seq (.kp [] (.seq (.reg [⟨some 5, .mv (.t 0), none⟩,
    ⟨some 6, .len false (.t 5), none⟩,
    ⟨some 7, .mv (.c (.int .i64 0)), none⟩] [0, 5, 6, 7])
  (.blk 0 (.loop (.seq (.reg [⟨some 8, .bin .lss (.t 7) (.t 6), none⟩] [0, 5, 6, 7, 8])
  (.seq (.kp [0, 5, 6, 7] (.cond (.t 8) (.skip) (.exit 0)))
  (.seq (.kp [0, 5, 6, 7] (.blk 1 (.seq (.reg [⟨some 9, .ia 5 (.t 7) 1, none⟩,
    ⟨some 10, .ld 9 1 false, none⟩,
    ⟨some 4, .asg (.t 10), none⟩] [0, 4, 5, 6, 7])
  (.seq (.reg [⟨some 11, .mv (.t 4), none⟩,
    ⟨some 12, .bin .lss (.t 11) (.c (.int .i64 (-1000000))), none⟩,
    ⟨some 13, .mv (.t 12), none⟩,
    ⟨some 14, .mv (.t 4), some (13, false)⟩,
    ⟨some 15, .bin .gtr (.t 14) (.c (.int .i64 1000000)), some (13, false)⟩,
    ⟨some 16, .pick (.t 13) (.c (.bool true)) (.t 15), none⟩] [0, 5, 6, 7, 16])
  (.cond (.t 16) (.seq (.reg [⟨some 2, .asg (.c (.bool false)), none⟩] [2])
  (.ret)) (.skip))))))
  (.reg [⟨some 17, .bin .add (.t 7) (.c (.int .i64 1)), none⟩,
    ⟨some 7, .mv (.t 17), none⟩] [0, 5, 6, 7]))))))))
  (.seq (.reg [⟨some 2, .asg (.c (.bool true)), none⟩] [2])
  (.ret)))
theorem con_impl_areCubeValues {v0 : (List Int)} {r : Bool} (h : sh_impl_areCubeValues v0 = some r) : Con Try.prog 122 [(cLs cI rfl).enc v0] [] (rs_impl_areCubeValues r) := by
  delta sh_impl_areCubeValues at h
  refine top (out := none) (f := Try.f122) (m := m122) (rs := [.t 2]) (by kernel_rfl) rfl (by kernel_rfl) (by kernel_rfl) (by kernel_rfl) (by kernel_rfl) (by kernel_rfl) ?_
  exact
   ini [(0, .d ((cLs cI rfl).enc v0))] rfl <| wpC_seq <| reg_s <| x_asg (sc cB false rfl) <| seqN [(0, .d ((cLs cI rfl).enc v0))] (by kernel_rfl) <|
    xn <| wpC_seq <| wpC_kp <| wpC_seq <| reg_s <| st rfl <| mvd rfl rfl <| stw rfl <| lens rfl fun l24 => st rfl <| mvc cI (0 : Int) rfl <| seqN [(0, .d ((cLs cI rfl).enc v0)), (5, .d ((cLs cI rfl).enc v0)), (6, .d (cI.enc (v0.length : Int))), (7, .d (cI.enc (0 : Int)))] (by kernel_rfl) <|
    xn <| wpC_blk <| lpR (fun (k26 : Nat) (s25 : Unit) => [(0, .d ((cLs cI rfl).enc v0)), (5, .d ((cLs cI rfl).enc v0)), (6, .d (cI.enc (v0.length : Int))), (7, .d (cI.enc (k26 : Int)))]) () rfl h
    (fun G38 s25 h => wpC_seq <| reg_s <| st rfl <| b_lss (k := .i64) rfl rfl <| seqN [(0, .d ((cLs cI rfl).enc v0)), (5, .d ((cLs cI rfl).enc v0)), (6, .d (cI.enc (v0.length : Int))), (7, .d (cI.enc (v0.length : Int))), (8, .d (cB.enc (decide ((v0.length : Int) < (v0.length : Int)))))] (by kernel_rfl) <|
    xn <| wpC_seq <| wpC_kp <| cnd0 rfl (dlf _) <| wpC_exit <| xt <| xt <| xt <| xb <| kpN [] (by kernel_rfl) <| xn <| wpC_seq <| reg_s <| x_asg (sc cB true rfl) <| seqN [(2, .d (cB.enc true))] (by kernel_rfl) <|
    xn <| wpC_ret <| re <| fin h (r1 (ss rfl rfl) <| r0) rfl)
    (fun G38 nx36 k26 s25 x27 hk28 hx29 hn37 h => wpC_seq <| reg_s <| st rfl <| b_lss (k := .i64) rfl rfl <| seqN [(0, .d ((cLs cI rfl).enc v0)), (5, .d ((cLs cI rfl).enc v0)), (6, .d (cI.enc (v0.length : Int))), (7, .d (cI.enc (k26 : Int))), (8, .d (cB.enc (decide ((k26 : Int) < (v0.length : Int)))))] (by kernel_rfl) <|
    xn <| wpC_seq <| wpC_kp <| cnd1 rfl (dlt hk28) <| wpC_skip <| kpN [(0, .d ((cLs cI rfl).enc v0)), (5, .d ((cLs cI rfl).enc v0)), (6, .d (cI.enc (v0.length : Int))), (7, .d (cI.enc (k26 : Int)))] (by kernel_rfl) <| xn <| wpC_seq <| wpC_kp <| wpC_blk <| wpC_seq <| reg_s <| st rfl <| ias rfl rfl (Int.natCast_nonneg _) hx29 rfl <| st rfl <| ldi rfl rfl rfl rfl <| x_asg (ss rfl rfl) <| seqN [(0, .d ((cLs cI rfl).enc v0)), (4, .d (cI.enc x27)), (5, .d ((cLs cI rfl).enc v0)), (6, .d (cI.enc (v0.length : Int))), (7, .d (cI.enc (k26 : Int)))] (by kernel_rfl) <|
    xn <| wpC_seq <| reg_s <| st rfl <| mvd rfl rfl <| st rfl <| b_lss (k := .i64) rfl rfl <| st rfl <| mvd rfl rfl <| ite_k h (fun b43 h => gf rfl b43 <| gf rfl b43 <| st rfl <| pick1 rfl b43 (cd := cB) (v := true) rfl rfl <| seqN [(0, .d ((cLs cI rfl).enc v0)), (5, .d ((cLs cI rfl).enc v0)), (6, .d (cI.enc (v0.length : Int))), (7, .d (cI.enc (k26 : Int))), (16, .d (cB.enc true))] (by kernel_rfl) <|
    xn <| cnd1 rfl rfl <| wpC_seq <| reg_s <| x_asg (sc cB false rfl) <| seqN [(2, .d (cB.enc false))] (by kernel_rfl) <|
    xn <| wpC_ret <| rb <| rt <| rt <| rt <| rb <| rt <| rt <| re <| fin h (r1 (ss rfl rfl) <| r0) rfl)
    (fun b43 h => gt' rfl b43 <| st rfl <| mvd rfl rfl <| gt' rfl b43 <| st rfl <| b_gtr (k := .i64) rfl rfl <| st rfl <| pick0 rfl b43 (cd := cB) (v := (decide ((1000000 : Int) < x27))) rfl rfl <| seqN [(0, .d ((cLs cI rfl).enc v0)), (5, .d ((cLs cI rfl).enc v0)), (6, .d (cI.enc (v0.length : Int))), (7, .d (cI.enc (k26 : Int))), (16, .d (cB.enc (decide ((1000000 : Int) < x27))))] (by kernel_rfl) <|
    xn <| cnd rfl h (fun b44 h => wpC_seq <| reg_s <| x_asg (sc cB false rfl) <| seqN [(2, .d (cB.enc false))] (by kernel_rfl) <|
    xn <| wpC_ret <| rb <| rt <| rt <| rt <| rb <| rt <| rt <| re <| fin h (r1 (ss rfl rfl) <| r0) rfl)
    (fun b44 h => wpC_skip <| xbb <| kpN [(0, .d ((cLs cI rfl).enc v0)), (5, .d ((cLs cI rfl).enc v0)), (6, .d (cI.enc (v0.length : Int))), (7, .d (cI.enc (k26 : Int)))] (by kernel_rfl) <| xn <| reg_s <| st rfl <| b_inc rfl rfl l24 hk28 <| st rfl <| mvd rfl rfl <| seqN [(0, .d ((cLs cI rfl).enc v0)), (5, .d ((cLs cI rfl).enc v0)), (6, .d (cI.enc (v0.length : Int))), (7, .d (cI.enc ((k26 + 1 : Nat) : Int)))] (by kernel_rfl) <|
    xn <| hn37 () h)))

def rs_impl_hasRightForm (r : Bool) : List D := [cB.enc r]
def m156 : MC := .seq (.reg [⟨some 1, .box (.t 0), none⟩,
    ⟨some 2, .asg (.c (.bool false)), none⟩] [1])
  (.seq (.reg [⟨some 4, .fa 1 0 0, none⟩,
    ⟨some 5, .ld 4 1 false, none⟩,
    ⟨some 6, .call 119 [(.t 5)], none⟩,
    ⟨some 3, .asg (.t 6), none⟩] [1, 3])
  (.seq (.reg [⟨some 7, .mv (.t 3), none⟩,
    ⟨some 8, .bin .gtr (.t 7) (.c (.int .i64 0)), none⟩,
    ⟨some 9, .mv (.t 8), none⟩,
    ⟨some 10, .fa 1 1 1, some (9, true)⟩,
    ⟨some 11, .ld 10 1 false, some (9, true)⟩,
    ⟨some 12, .len false (.t 11), some (9, true)⟩,
    ⟨some 13, .mv (.t 3), some (9, true)⟩,
    ⟨some 14, .bin .eql (.t 12) (.t 13), some (9, true)⟩,
    ⟨some 15, .pick (.t 9) (.t 14) (.c (.bool false)), none⟩,
    ⟨some 16, .mv (.t 15), none⟩,
    ⟨some 17, .fa 1 1 1, some (16, true)⟩,
    ⟨some 18, .ld 17 1 false, some (16, true)⟩,
    ⟨some 19, .call 122 [(.t 18)], some (16, true)⟩,
    ⟨some 20, .pick (.t 16) (.t 19) (.c (.bool false)), none⟩,
    ⟨some 2, .asg (.t 20), none⟩] [2])
  (.ret)))
theorem con_impl_hasRightForm {v0 : XCube} {r : Bool} (h : sh_impl_hasRightForm v0 = some r) : Con Try.prog 156 [(cXCube (cLs cI rfl) (cLs cI rfl)).enc v0] [] (rs_impl_hasRightForm r) := by
  delta sh_impl_hasRightForm at h
  refine top (out := none) (f := Try.f156) (m := m156) (rs := [.t 2]) (by kernel_rfl) rfl (by kernel_rfl) (by kernel_rfl) (by kernel_rfl) (by kernel_rfl) (by kernel_rfl) ?_
  exact
   ini [(0, .d ((cXCube (cLs cI rfl) (cLs cI rfl)).enc v0))] rfl <| wpC_seq <| reg_s <| x_box (ss rfl rfl) <| x_asg (sc cB false rfl) <| seqN [(1, .box ((cXCube (cLs cI rfl) (cLs cI rfl)).enc v0))] (by kernel_rfl) <|
    xn <| wpC_seq <| reg_s <| st rfl <| fab rfl rfl rfl rfl <| st rfl <| lda rfl rfl rfl rfl rfl rfl <| bnd h fun x3 e4 h => st rfl <| o_call (a1 (c := (cLs cI rfl)) (tLs tK) rfl a0) (con_impl_cubeCells e4) (.inl (so1 sK so0)) <| x_asg (ss rfl rfl) <| seqN [(1, .box ((cXCube (cLs cI rfl) (cLs cI rfl)).enc v0)), (3, .d (cI.enc x3))] (by kernel_rfl) <|
    xn <| wpC_seq <| reg_s <| st rfl <| mvd rfl rfl <| st rfl <| b_gtr (k := .i64) rfl rfl <| st rfl <| mvd rfl rfl <| ite_k h (fun b10 h => gt' rfl b10 <| st rfl <| fab rfl rfl rfl rfl <| gt' rfl b10 <| st rfl <| lda rfl rfl rfl rfl rfl rfl <| gt' rfl b10 <| stw rfl <| lens rfl fun l11 => gt' rfl b10 <| st rfl <| mvd rfl rfl <| gt' rfl b10 <| st rfl <| b_eql (k := .i64) rfl rfl <| st rfl <| pick1 rfl b10 (cd := cB) (v := (decide ((v0.Cells.length : Int) = x3))) rfl rfl <| st rfl <| mvd rfl rfl <| ite_k h (fun b12 h => gt' rfl b12 <| st rfl <| fab rfl rfl rfl rfl <| gt' rfl b12 <| st rfl <| lda rfl rfl rfl rfl rfl rfl <| gt' rfl b12 <| bnd h fun x13 e14 h => st rfl <| o_call (a1 (c := (cLs cI rfl)) (tLs tK) rfl a0) (con_impl_areCubeValues e14) (.inl (so1 sB so0)) <| st rfl <| pick1 rfl b12 (cd := cB) (v := x13) rfl rfl <| x_asg (ss rfl rfl) <| seqN [(2, .d (cB.enc x13))] (by kernel_rfl) <|
    xn <| wpC_ret <| re <| fin h (r1 (ss rfl rfl) <| r0) rfl)
    (fun b12 h => gf rfl b12 <| gf rfl b12 <| gf rfl b12 <| st rfl <| pick0 rfl b12 (cd := cB) (v := false) rfl rfl <| x_asg (ss rfl rfl) <| seqN [(2, .d (cB.enc false))] (by kernel_rfl) <|
    xn <| wpC_ret <| re <| fin h (r1 (ss rfl rfl) <| r0) rfl))
    (fun b10 h => gf rfl b10 <| gf rfl b10 <| gf rfl b10 <| gf rfl b10 <| gf rfl b10 <| st rfl <| pick0 rfl b10 (cd := cB) (v := false) rfl rfl <| st rfl <| mvd rfl rfl <| gf rfl rfl <| gf rfl rfl <| gf rfl rfl <| st rfl <| pick0 rfl rfl (cd := cB) (v := false) rfl rfl <| x_asg (ss rfl rfl) <| seqN [(2, .d (cB.enc false))] (by kernel_rfl) <|
    xn <| wpC_ret <| re <| fin h (r1 (ss rfl rfl) <| r0) rfl)

end AS.W
