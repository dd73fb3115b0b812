/- The program computes the plain functions. No condition. -/
import Derived.Test.YtjikhkfmddflhaaQDonorMendS
import Derived.Test.YtjikhkfmddflhaaProg
import Derived.Test.YtjikhkfmddflhaaQDonorMendL2
set_option maxRecDepth 100000
set_option linter.unusedVariables false
set_option linter.unusedSimpArgs false
namespace AS.W
open Go Go.Proofs
def rs_spec_DonorMend (r : ((List Int) × Bool × Bool)) : List D := [(cLo cI).enc r.1, cB.enc r.2.1, cB.enc r.2.2]
def m37 : MC := .seq (.reg [⟨some 10, .asg (.c (.slice true [])), none⟩,
    ⟨some 11, .asg (.c (.bool false)), none⟩,
    ⟨some 12, .asg (.c (.bool false)), none⟩] [0, 1, 2, 3, 4])
  (.seq (.kp [0, 1, 2, 3, 4] (.seq (.reg [⟨some 19, .mv (.t 0), none⟩,
    ⟨some 20, .mv (.t 1), none⟩,
    ⟨some 21, .mv (.t 2), none⟩,
    ⟨some 22, .mv (.t 3), none⟩,
    ⟨some 23, .call 82 [(.t 19), (.t 20), (.t 21), (.t 22)], none⟩,
    ⟨some 24, .nt (.t 23), none⟩,
    ⟨some 25, .mv (.t 24), none⟩,
    ⟨some 26, .mv (.t 0), some (25, false)⟩,
    ⟨some 27, .mv (.t 4), some (25, false)⟩,
    ⟨some 28, .call 89 [(.t 26), (.t 27)], some (25, false)⟩,
    ⟨some 29, .nt (.t 28), some (25, false)⟩,
    ⟨some 30, .pick (.t 25) (.c (.bool true)) (.t 29), none⟩] [0, 1, 2, 3, 4, 30])
  (.cond (.t 30) (.seq (.reg [⟨some 10, .asg (.c (.slice true [])), none⟩,
    ⟨some 11, .asg (.c (.bool false)), none⟩,
    ⟨some 12, .asg (.c (.bool false)), none⟩] [10, 11, 12])
  (.ret)) (.skip))))
  (.seq (.reg [⟨some 32, .mv (.t 0), none⟩,
    ⟨some 33, .mv (.t 1), none⟩,
    ⟨some 34, .mv (.t 2), none⟩,
    ⟨some 35, .mv (.t 3), none⟩,
    ⟨some 36, .call 83 [(.t 32), (.t 33), (.t 34), (.t 35)], none⟩,
    ⟨some 31, .mvt 36, none⟩,
    ⟨some 37, .ext 31 0, none⟩,
    ⟨some 38, .ext 31 1, none⟩,
    ⟨some 39, .ext 31 2, none⟩,
    ⟨some 13, .asg (.t 37), none⟩,
    ⟨some 14, .asg (.t 38), none⟩,
    ⟨some 15, .asg (.t 39), none⟩] [0, 1, 2, 3, 4, 13, 15])
  (.seq (.kp [0, 1, 2, 3, 4, 13] (.seq (.reg [⟨some 40, .mv (.t 15), none⟩,
    ⟨some 41, .nt (.t 40), none⟩] [0, 1, 2, 3, 4, 13, 41])
  (.cond (.t 41) (.seq (.reg [⟨some 10, .asg (.c (.slice true [])), none⟩,
    ⟨some 11, .asg (.c (.bool false)), none⟩,
    ⟨some 12, .asg (.c (.bool false)), none⟩] [10, 11, 12])
  (.ret)) (.skip))))
  (.seq (.reg [⟨some 42, .mv (.t 3), none⟩,
    ⟨some 43, .call 90 [(.t 42)], none⟩,
    ⟨some 16, .asg (.t 43), none⟩] [0, 1, 2, 3, 4, 13, 16])
  (.seq (.kp [0, 1, 2, 3, 16] (.seq (.reg [⟨some 44, .mv (.t 13), none⟩,
    ⟨some 45, .len false (.t 44), none⟩,
    ⟨some 46, .mv (.c (.int .i64 0)), none⟩] [0, 1, 2, 3, 4, 13, 16, 44, 45, 46])
  (.blk 0 (.loop (.seq (.reg [⟨some 47, .bin .lss (.t 46) (.t 45), none⟩] [0, 1, 2, 3, 4, 13, 16, 44, 45, 46, 47])
  (.seq (.kp [0, 1, 2, 3, 4, 13, 16, 44, 45, 46] (.cond (.t 47) (.skip) (.exit 0)))
  (.seq (.kp [0, 1, 2, 3, 4, 13, 16, 44, 45, 46] (.blk 1 (.seq (.reg [⟨some 48, .ia 44 (.t 46) 1, none⟩,
    ⟨some 49, .ld 48 1 false, none⟩,
    ⟨some 18, .asg (.t 49), none⟩] [0, 1, 2, 3, 4, 13, 16, 18, 44, 45, 46])
  (.reg [⟨some 50, .mv (.t 16), none⟩,
    ⟨some 51, .mv (.t 18), none⟩,
    ⟨some 52, .mv (.t 4), none⟩,
    ⟨some 53, .mv (.t 18), none⟩,
    ⟨some 54, .ia 52 (.t 53) 1, none⟩,
    ⟨some 55, .ld 54 1 false, none⟩,
    ⟨some 56, .ia 50 (.t 51) 1, none⟩,
    ⟨none, .st 56 (.t 55) 1, none⟩] [0, 1, 2, 3, 4, 13, 16, 44, 45, 46]))))
  (.reg [⟨some 57, .bin .add (.t 46) (.c (.int .i64 1)), none⟩,
    ⟨some 46, .mv (.t 57), none⟩] [0, 1, 2, 3, 4, 13, 16, 44, 45, 46]))))))))
  (.seq (.kp [0, 1, 2, 3] (.seq (.reg [⟨some 58, .mv (.t 1), none⟩,
    ⟨some 59, .mv (.t 16), none⟩,
    ⟨some 60, .call 91 [(.t 58), (.t 59)], none⟩,
    ⟨some 61, .len false (.t 60), none⟩,
    ⟨some 62, .bin .eql (.t 61) (.c (.int .i64 0)), none⟩] [0, 1, 2, 3, 16, 62])
  (.cond (.t 62) (.seq (.reg [⟨some 63, .mv (.t 16), none⟩,
    ⟨some 10, .asg (.t 63), none⟩,
    ⟨some 11, .asg (.c (.bool true)), none⟩,
    ⟨some 12, .asg (.c (.bool true)), none⟩] [10, 11, 12])
  (.ret)) (.skip))))
  (.seq (.reg [⟨some 65, .mv (.t 0), none⟩,
    ⟨some 66, .mv (.t 1), none⟩,
    ⟨some 67, .mv (.t 2), none⟩,
    ⟨some 68, .mv (.t 3), none⟩,
    ⟨some 69, .call 87 [(.t 65), (.t 66), (.t 67), (.t 68)], none⟩,
    ⟨some 64, .mvt 69, none⟩,
    ⟨some 70, .ext 64 0, none⟩,
    ⟨some 71, .ext 64 1, none⟩,
    ⟨some 16, .asg (.t 70), none⟩] [16])
  (.seq (.reg [⟨some 72, .mv (.t 16), none⟩,
    ⟨some 10, .asg (.t 72), none⟩,
    ⟨some 11, .asg (.c (.bool false)), none⟩,
    ⟨some 12, .asg (.c (.bool true)), none⟩] [10, 11, 12])
  (.ret)))))))))
theorem con_spec_DonorMend {v0 : (List XVariable)} {v1 : (List XEdit)} {v2 : (List Int)} {v3 : (List Int)} {v4 : (List Int)} {r : ((List Int) × Bool × Bool)} (h : sh_spec_DonorMend v0 v1 v2 v3 v4 = some r) : Con Try.prog 37 [(cLs (cXVariable cS cI) rfl).enc v0, (cLs (cXEdit (cLs cI rfl)) rfl).enc v1, (cLs cI rfl).enc v2, (cLs cI rfl).enc v3, (cLs cI rfl).enc v4] [] (rs_spec_DonorMend r) := by
  delta sh_spec_DonorMend at h
  refine top (out := none) (f := Try.f37) (m := m37) (rs := [.t 10, .t 11, .t 12]) (by kernel_rfl) rfl (by kernel_rfl) (by kernel_rfl) (by kernel_rfl) (by kernel_rfl) (by kernel_rfl) ?_
  exact
   ini [(0, .d ((cLs (cXVariable cS cI) rfl).enc v0)), (1, .d ((cLs (cXEdit (cLs cI rfl)) rfl).enc v1)), (2, .d ((cLs cI rfl).enc v2)), (3, .d ((cLs cI rfl).enc v3)), (4, .d ((cLs cI rfl).enc v4))] rfl <| wpC_seq <| reg_s <| x_asg (sc (cLo cI) ([] : List Int) rfl) <| x_asg (sc cB false rfl) <| x_asg (sc cB false rfl) <| seqN [(0, .d ((cLs (cXVariable cS cI) rfl).enc v0)), (1, .d ((cLs (cXEdit (cLs cI rfl)) rfl).enc v1)), (2, .d ((cLs cI rfl).enc v2)), (3, .d ((cLs cI rfl).enc v3)), (4, .d ((cLs cI rfl).enc v4))] (by kernel_rfl) <|
    xn <| wpC_seq <| wpC_kp <| wpC_seq <| reg_s <| st rfl <| mvd rfl rfl <| st rfl <| mvd rfl rfl <| st rfl <| mvd rfl rfl <| st rfl <| mvd rfl rfl <| bnd h fun x17 e18 h => st rfl <| o_call (a1 (c := (cLs (cXVariable cS cI) rfl)) (tLs (tXVariable tS tK)) rfl (a1 (c := (cLs (cXEdit (cLs cI rfl)) rfl)) (tLs (tXEdit (tLs tK))) rfl (a1 (c := (cLs cI rfl)) (tLs tK) rfl (a1 (c := (cLs cI rfl)) (tLs tK) rfl a0)))) (con_spec_iInput e18) (.inl (so1 sB so0)) <| st rfl <| o_nt rfl <| st rfl <| mvd rfl rfl <| ite_k h (fun b19 h => gf rfl b19 <| gf rfl b19 <| gf rfl b19 <| gf rfl b19 <| st rfl <| pick1 rfl b19 (cd := cB) (v := true) rfl rfl <| seqN [(0, .d ((cLs (cXVariable cS cI) rfl).enc v0)), (1, .d ((cLs (cXEdit (cLs cI rfl)) rfl).enc v1)), (2, .d ((cLs cI rfl).enc v2)), (3, .d ((cLs cI rfl).enc v3)), (4, .d ((cLs cI rfl).enc v4)), (30, .d (cB.enc true))] (by kernel_rfl) <|
    xn <| cnd1 rfl rfl <| wpC_seq <| reg_s <| x_asg (sc (cLo cI) ([] : List Int) rfl) <| x_asg (sc cB false rfl) <| x_asg (sc cB false rfl) <| seqN [(10, .d ((cLo cI).enc ([] : List Int))), (11, .d (cB.enc false)), (12, .d (cB.enc false))] (by kernel_rfl) <|
    xn <| wpC_ret <| rt <| rt <| re <| fin h (r1 (so rfl rfl) <| r1 (ss rfl rfl) <| r1 (ss rfl rfl) <| r0) rfl)
    (fun b19 h => gt' rfl b19 <| st rfl <| mvd rfl rfl <| gt' rfl b19 <| st rfl <| mvd rfl rfl <| gt' rfl b19 <| bnd h fun x20 e21 h => st rfl <| o_call (a1 (c := (cLs (cXVariable cS cI) rfl)) (tLs (tXVariable tS tK)) rfl (a1 (c := (cLs cI rfl)) (tLs tK) rfl a0)) (con_spec_sFits e21) (.inl (so1 sB so0)) <| gt' rfl b19 <| st rfl <| o_nt rfl <| st rfl <| pick0 rfl b19 (cd := cB) (v := (!x20)) rfl rfl <| seqN [(0, .d ((cLs (cXVariable cS cI) rfl).enc v0)), (1, .d ((cLs (cXEdit (cLs cI rfl)) rfl).enc v1)), (2, .d ((cLs cI rfl).enc v2)), (3, .d ((cLs cI rfl).enc v3)), (4, .d ((cLs cI rfl).enc v4)), (30, .d (cB.enc (!x20)))] (by kernel_rfl) <|
    xn <| cnd rfl h (fun b22 h => wpC_seq <| reg_s <| x_asg (sc (cLo cI) ([] : List Int) rfl) <| x_asg (sc cB false rfl) <| x_asg (sc cB false rfl) <| seqN [(10, .d ((cLo cI).enc ([] : List Int))), (11, .d (cB.enc false)), (12, .d (cB.enc false))] (by kernel_rfl) <|
    xn <| wpC_ret <| rt <| rt <| re <| fin h (r1 (so rfl rfl) <| r1 (ss rfl rfl) <| r1 (ss rfl rfl) <| r0) rfl)
    (fun b22 h => wpC_skip <| kpN [(0, .d ((cLs (cXVariable cS cI) rfl).enc v0)), (1, .d ((cLs (cXEdit (cLs cI rfl)) rfl).enc v1)), (2, .d ((cLs cI rfl).enc v2)), (3, .d ((cLs cI rfl).enc v3)), (4, .d ((cLs cI rfl).enc v4))] (by kernel_rfl) <| xn <| wpC_seq <| reg_s <| st rfl <| mvd rfl rfl <| st rfl <| mvd rfl rfl <| st rfl <| mvd rfl rfl <| st rfl <| mvd rfl rfl <| bnd h fun x25 e26 h => st rfl <| o_call (a1 (c := (cLs (cXVariable cS cI) rfl)) (tLs (tXVariable tS tK)) rfl (a1 (c := (cLs (cXEdit (cLs cI rfl)) rfl)) (tLs (tXEdit (tLs tK))) rfl (a1 (c := (cLs cI rfl)) (tLs tK) rfl (a1 (c := (cLs cI rfl)) (tLs tK) rfl a0)))) (con_spec_iCheapest e26) (.inl (so1 (sLo sK) (so1 sK (so1 sB so0)))) <| x_mvt rfl <| x_ext rfl rfl <| x_ext rfl rfl <| x_ext rfl rfl <| x_asg (so rfl rfl) <| x_asg (ss rfl rfl) <| x_asg (ss rfl rfl) <| seqN [(0, .d ((cLs (cXVariable cS cI) rfl).enc v0)), (1, .d ((cLs (cXEdit (cLs cI rfl)) rfl).enc v1)), (2, .d ((cLs cI rfl).enc v2)), (3, .d ((cLs cI rfl).enc v3)), (4, .d ((cLs cI rfl).enc v4)), (13, .d ((cLo cI).enc x25.1)), (15, .d (cB.enc x25.2.2))] (by kernel_rfl) <|
    xn <| wpC_seq <| wpC_kp <| wpC_seq <| reg_s <| st rfl <| mvd rfl rfl <| st rfl <| o_nt rfl <| seqN [(0, .d ((cLs (cXVariable cS cI) rfl).enc v0)), (1, .d ((cLs (cXEdit (cLs cI rfl)) rfl).enc v1)), (2, .d ((cLs cI rfl).enc v2)), (3, .d ((cLs cI rfl).enc v3)), (4, .d ((cLs cI rfl).enc v4)), (13, .d ((cLo cI).enc x25.1)), (41, .d (cB.enc (!x25.2.2)))] (by kernel_rfl) <|
    xn <| cnd rfl h (fun b28 h => wpC_seq <| reg_s <| x_asg (sc (cLo cI) ([] : List Int) rfl) <| x_asg (sc cB false rfl) <| x_asg (sc cB false rfl) <| seqN [(10, .d ((cLo cI).enc ([] : List Int))), (11, .d (cB.enc false)), (12, .d (cB.enc false))] (by kernel_rfl) <|
    xn <| wpC_ret <| rt <| rt <| re <| fin h (r1 (so rfl rfl) <| r1 (ss rfl rfl) <| r1 (ss rfl rfl) <| r0) rfl)
    (fun b28 h => wpC_skip <| kpN [(0, .d ((cLs (cXVariable cS cI) rfl).enc v0)), (1, .d ((cLs (cXEdit (cLs cI rfl)) rfl).enc v1)), (2, .d ((cLs cI rfl).enc v2)), (3, .d ((cLs cI rfl).enc v3)), (4, .d ((cLs cI rfl).enc v4)), (13, .d ((cLo cI).enc x25.1))] (by kernel_rfl) <| xn <| wpC_seq <| reg_s <| st rfl <| mvd rfl rfl <| bnd h fun x31 e32 h => st rfl <| o_call (a1 (c := (cLs cI rfl)) (tLs tK) rfl a0) (con_spec_l1Own e32) (.inl (so1 (sLo sK) so0)) <| x_asg (so rfl rfl) <| seqN [(0, .d ((cLs (cXVariable cS cI) rfl).enc v0)), (1, .d ((cLs (cXEdit (cLs cI rfl)) rfl).enc v1)), (2, .d ((cLs cI rfl).enc v2)), (3, .d ((cLs cI rfl).enc v3)), (4, .d ((cLs cI rfl).enc v4)), (13, .d ((cLo cI).enc x25.1)), (16, .d ((cLo cI).enc x31))] (by kernel_rfl) <|
    xn <| wpC_seq <| wpC_kp <| wpC_seq <| reg_s <| st rfl <| mvo rfl rfl <| stw rfl <| leno rfl fun l80 => st rfl <| mvc cI (0 : Int) rfl <| seqN [(0, .d ((cLs (cXVariable cS cI) rfl).enc v0)), (1, .d ((cLs (cXEdit (cLs cI rfl)) rfl).enc v1)), (2, .d ((cLs cI rfl).enc v2)), (3, .d ((cLs cI rfl).enc v3)), (4, .d ((cLs cI rfl).enc v4)), (13, .d ((cLo cI).enc x25.1)), (16, .d ((cLo cI).enc x31)), (44, .ref 13 []), (45, .d (cI.enc (x25.1.length : Int))), (46, .d (cI.enc (0 : Int)))] (by kernel_rfl) <|
    xn <| wpC_blk <| lpR (fun (k82 : Nat) (s81 : (List Int)) => [(0, .d ((cLs (cXVariable cS cI) rfl).enc v0)), (1, .d ((cLs (cXEdit (cLs cI rfl)) rfl).enc v1)), (2, .d ((cLs cI rfl).enc v2)), (3, .d ((cLs cI rfl).enc v3)), (4, .d ((cLs cI rfl).enc v4)), (13, .d ((cLo cI).enc x25.1)), (16, .d ((cLo cI).enc s81)), (44, .ref 13 []), (45, .d (cI.enc (x25.1.length : Int))), (46, .d (cI.enc (k82 : Int)))]) x31 rfl h
    (fun G112 s81 h => wpC_seq <| reg_s <| st rfl <| b_lss (k := .i64) rfl rfl <| seqN [(0, .d ((cLs (cXVariable cS cI) rfl).enc v0)), (1, .d ((cLs (cXEdit (cLs cI rfl)) rfl).enc v1)), (2, .d ((cLs cI rfl).enc v2)), (3, .d ((cLs cI rfl).enc v3)), (4, .d ((cLs cI rfl).enc v4)), (13, .d ((cLo cI).enc x25.1)), (16, .d ((cLo cI).enc s81)), (44, .ref 13 []), (45, .d (cI.enc (x25.1.length : Int))), (46, .d (cI.enc (x25.1.length : Int))), (47, .d (cB.enc (decide ((x25.1.length : Int) < (x25.1.length : Int)))))] (by kernel_rfl) <|
    xn <| wpC_seq <| wpC_kp <| cnd0 rfl (dlf _) <| wpC_exit <| xt <| xt <| xt <| xb <| kpN [(0, .d ((cLs (cXVariable cS cI) rfl).enc v0)), (1, .d ((cLs (cXEdit (cLs cI rfl)) rfl).enc v1)), (2, .d ((cLs cI rfl).enc v2)), (3, .d ((cLs cI rfl).enc v3)), (16, .d ((cLo cI).enc s81))] (by kernel_rfl) <| xn <| wpC_seq <| wpC_kp <| wpC_seq <| reg_s <| st rfl <| mvd rfl rfl <| st rfl <| mvo rfl rfl <| bnd h fun x123 e124 h => st rfl <| o_call (a1 (c := (cLs (cXEdit (cLs cI rfl)) rfl)) (tLs (tXEdit (tLs tK))) rfl (a1 (c := (cLo cI)) (tLo tK) rfl a0)) (con_spec_eFailed e124) (.inl (so1 (sLo sK) so0)) <| stw rfl <| leno rfl fun l125 => st rfl <| b_eql (k := .i64) rfl rfl <| seqN [(0, .d ((cLs (cXVariable cS cI) rfl).enc v0)), (1, .d ((cLs (cXEdit (cLs cI rfl)) rfl).enc v1)), (2, .d ((cLs cI rfl).enc v2)), (3, .d ((cLs cI rfl).enc v3)), (16, .d ((cLo cI).enc s81)), (62, .d (cB.enc (decide ((x123.length : Int) = (0 : Int)))))] (by kernel_rfl) <|
    xn <| cnd rfl h (fun b126 h => wpC_seq <| reg_s <| st rfl <| mvo rfl rfl <| x_asg (sr rfl rfl) <| x_asg (sc cB true rfl) <| x_asg (sc cB true rfl) <| seqN [(10, .d ((cLo cI).enc s81)), (11, .d (cB.enc true)), (12, .d (cB.enc true))] (by kernel_rfl) <|
    xn <| wpC_ret <| rt <| rt <| re <| fin h (r1 (so rfl rfl) <| r1 (ss rfl rfl) <| r1 (ss rfl rfl) <| r0) rfl)
    (fun b126 h => wpC_skip <| kpN [(0, .d ((cLs (cXVariable cS cI) rfl).enc v0)), (1, .d ((cLs (cXEdit (cLs cI rfl)) rfl).enc v1)), (2, .d ((cLs cI rfl).enc v2)), (3, .d ((cLs cI rfl).enc v3))] (by kernel_rfl) <| xn <| wpC_seq <| reg_s <| st rfl <| mvd rfl rfl <| st rfl <| mvd rfl rfl <| st rfl <| mvd rfl rfl <| st rfl <| mvd rfl rfl <| bnd h fun x129 e130 h => st rfl <| o_call (a1 (c := (cLs (cXVariable cS cI) rfl)) (tLs (tXVariable tS tK)) rfl (a1 (c := (cLs (cXEdit (cLs cI rfl)) rfl)) (tLs (tXEdit (tLs tK))) rfl (a1 (c := (cLs cI rfl)) (tLs tK) rfl (a1 (c := (cLs cI rfl)) (tLs tK) rfl a0)))) (con_spec_iMend e130) (.inl (so1 (sLo sK) (so1 sB so0))) <| x_mvt rfl <| x_ext rfl rfl <| x_ext rfl rfl <| x_asg (so rfl rfl) <| seqN [(16, .d ((cLo cI).enc x129.1))] (by kernel_rfl) <|
    xn <| wpC_seq <| reg_s <| st rfl <| mvo rfl rfl <| x_asg (sr rfl rfl) <| x_asg (sc cB false rfl) <| x_asg (sc cB true rfl) <| seqN [(10, .d ((cLo cI).enc x129.1)), (11, .d (cB.enc false)), (12, .d (cB.enc true))] (by kernel_rfl) <|
    xn <| wpC_ret <| re <| fin h (r1 (so rfl rfl) <| r1 (ss rfl rfl) <| r1 (ss rfl rfl) <| r0) rfl))
    (fun G112 nx110 k82 s81 x83 hk84 hx85 hn111 h => wpC_seq <| reg_s <| st rfl <| b_lss (k := .i64) rfl rfl <| seqN [(0, .d ((cLs (cXVariable cS cI) rfl).enc v0)), (1, .d ((cLs (cXEdit (cLs cI rfl)) rfl).enc v1)), (2, .d ((cLs cI rfl).enc v2)), (3, .d ((cLs cI rfl).enc v3)), (4, .d ((cLs cI rfl).enc v4)), (13, .d ((cLo cI).enc x25.1)), (16, .d ((cLo cI).enc s81)), (44, .ref 13 []), (45, .d (cI.enc (x25.1.length : Int))), (46, .d (cI.enc (k82 : Int))), (47, .d (cB.enc (decide ((k82 : Int) < (x25.1.length : Int)))))] (by kernel_rfl) <|
    xn <| wpC_seq <| wpC_kp <| cnd1 rfl (dlt hk84) <| wpC_skip <| kpN [(0, .d ((cLs (cXVariable cS cI) rfl).enc v0)), (1, .d ((cLs (cXEdit (cLs cI rfl)) rfl).enc v1)), (2, .d ((cLs cI rfl).enc v2)), (3, .d ((cLs cI rfl).enc v3)), (4, .d ((cLs cI rfl).enc v4)), (13, .d ((cLo cI).enc x25.1)), (16, .d ((cLo cI).enc s81)), (44, .ref 13 []), (45, .d (cI.enc (x25.1.length : Int))), (46, .d (cI.enc (k82 : Int)))] (by kernel_rfl) <| xn <| wpC_seq <| wpC_kp <| wpC_blk <| wpC_seq <| reg_s <| st rfl <| iar rfl rfl rfl rfl (Int.natCast_nonneg _) hx85 rfl <| st rfl <| lda rfl rfl (Gt.idx hx85 Gt.nil) rfl rfl rfl <| x_asg (ss rfl rfl) <| seqN [(0, .d ((cLs (cXVariable cS cI) rfl).enc v0)), (1, .d ((cLs (cXEdit (cLs cI rfl)) rfl).enc v1)), (2, .d ((cLs cI rfl).enc v2)), (3, .d ((cLs cI rfl).enc v3)), (4, .d ((cLs cI rfl).enc v4)), (13, .d ((cLo cI).enc x25.1)), (16, .d ((cLo cI).enc s81)), (18, .d (cI.enc x83)), (44, .ref 13 []), (45, .d (cI.enc (x25.1.length : Int))), (46, .d (cI.enc (k82 : Int)))] (by kernel_rfl) <|
    xn <| reg_s <| st rfl <| mvo rfl rfl <| st rfl <| mvd rfl rfl <| st rfl <| mvd rfl rfl <| st rfl <| mvd rfl rfl <| getO_k h fun x137 i138 g139 h => st rfl <| ias rfl rfl i138 g139 rfl <| st rfl <| ldi rfl rfl rfl rfl <| getO_k h fun x140 i141 g142 h => st rfl <| iar rfl rfl rfl rfl i141 g142 rfl <| x_sta ((cLo cI).enc (s81.set (x83).toNat x137)) (ss rfl rfl) rfl rfl (Ln.idx g142 Ln.nil) (Cd.h_sz cI _) rfl <| seqN [(0, .d ((cLs (cXVariable cS cI) rfl).enc v0)), (1, .d ((cLs (cXEdit (cLs cI rfl)) rfl).enc v1)), (2, .d ((cLs cI rfl).enc v2)), (3, .d ((cLs cI rfl).enc v3)), (4, .d ((cLs cI rfl).enc v4)), (13, .d ((cLo cI).enc x25.1)), (16, .d ((cLo cI).enc (s81.set (x83).toNat x137))), (44, .ref 13 []), (45, .d (cI.enc (x25.1.length : Int))), (46, .d (cI.enc (k82 : Int)))] (by kernel_rfl) <|
    xbb <| kpN [(0, .d ((cLs (cXVariable cS cI) rfl).enc v0)), (1, .d ((cLs (cXEdit (cLs cI rfl)) rfl).enc v1)), (2, .d ((cLs cI rfl).enc v2)), (3, .d ((cLs cI rfl).enc v3)), (4, .d ((cLs cI rfl).enc v4)), (13, .d ((cLo cI).enc x25.1)), (16, .d ((cLo cI).enc (s81.set (x83).toNat x137))), (44, .ref 13 []), (45, .d (cI.enc (x25.1.length : Int))), (46, .d (cI.enc (k82 : Int)))] (by kernel_rfl) <| xn <| reg_s <| st rfl <| b_inc rfl rfl l80 hk84 <| st rfl <| mvd rfl rfl <| seqN [(0, .d ((cLs (cXVariable cS cI) rfl).enc v0)), (1, .d ((cLs (cXEdit (cLs cI rfl)) rfl).enc v1)), (2, .d ((cLs cI rfl).enc v2)), (3, .d ((cLs cI rfl).enc v3)), (4, .d ((cLs cI rfl).enc v4)), (13, .d ((cLo cI).enc x25.1)), (16, .d ((cLo cI).enc (s81.set (x83).toNat x137))), (44, .ref 13 []), (45, .d (cI.enc (x25.1.length : Int))), (46, .d (cI.enc ((k82 + 1 : Nat) : Int)))] (by kernel_rfl) <|
    xn <| hn111 (s81.set (x83).toNat x137) h))))

def rs_impl_DonorMend (r : ((List Int) × Bool × Bool)) : List D := [(cLo cI).enc r.1, cB.enc r.2.1, cB.enc r.2.2]
def m38 : MC := .seq (.reg [⟨some 10, .asg (.c (.slice true [])), none⟩,
    ⟨some 11, .asg (.c (.bool false)), none⟩,
    ⟨some 12, .asg (.c (.bool false)), none⟩] [0, 1, 2, 3, 4])
  (.seq (.kp [0, 1, 2, 3, 4] (.seq (.reg [⟨some 18, .mv (.t 0), none⟩,
    ⟨some 19, .mv (.t 1), none⟩,
    ⟨some 20, .mv (.t 2), none⟩,
    ⟨some 21, .call 84 [(.t 18), (.t 19), (.t 20)], none⟩,
    ⟨some 22, .nt (.t 21), none⟩,
    ⟨some 23, .mv (.t 22), none⟩,
    ⟨some 24, .mv (.t 0), some (23, false)⟩,
    ⟨some 25, .mv (.t 3), some (23, false)⟩,
    ⟨some 26, .call 75 [(.t 24), (.t 25)], some (23, false)⟩,
    ⟨some 27, .nt (.t 26), some (23, false)⟩,
    ⟨some 28, .pick (.t 23) (.c (.bool true)) (.t 27), none⟩,
    ⟨some 29, .mv (.t 28), none⟩,
    ⟨some 30, .mv (.t 0), some (29, false)⟩,
    ⟨some 31, .mv (.t 4), some (29, false)⟩,
    ⟨some 32, .call 75 [(.t 30), (.t 31)], some (29, false)⟩,
    ⟨some 33, .nt (.t 32), some (29, false)⟩,
    ⟨some 34, .pick (.t 29) (.c (.bool true)) (.t 33), none⟩] [0, 1, 2, 3, 4, 34])
  (.cond (.t 34) (.seq (.reg [⟨some 10, .asg (.c (.slice true [])), none⟩,
    ⟨some 11, .asg (.c (.bool false)), none⟩,
    ⟨some 12, .asg (.c (.bool false)), none⟩] [10, 11, 12])
  (.ret)) (.skip))))
  (.seq (.reg [⟨some 36, .mv (.t 0), none⟩,
    ⟨some 37, .mv (.t 1), none⟩,
    ⟨some 38, .mv (.t 2), none⟩,
    ⟨some 39, .mv (.t 3), none⟩,
    ⟨some 40, .call 85 [(.t 36), (.t 37), (.t 38), (.t 39)], none⟩,
    ⟨some 35, .mvt 40, none⟩,
    ⟨some 41, .ext 35 0, none⟩,
    ⟨some 42, .ext 35 1, none⟩,
    ⟨some 13, .asg (.t 41), none⟩,
    ⟨some 14, .asg (.t 42), none⟩] [0, 1, 3, 4, 13, 14])
  (.seq (.kp [0, 1, 3, 4, 13] (.seq (.reg [⟨some 43, .mv (.t 14), none⟩,
    ⟨some 44, .nt (.t 43), none⟩] [0, 1, 3, 4, 13, 44])
  (.cond (.t 44) (.seq (.reg [⟨some 10, .asg (.c (.slice true [])), none⟩,
    ⟨some 11, .asg (.c (.bool false)), none⟩,
    ⟨some 12, .asg (.c (.bool false)), none⟩] [10, 11, 12])
  (.ret)) (.skip))))
  (.seq (.reg [⟨some 45, .mv (.t 3), none⟩,
    ⟨some 46, .call 92 [(.t 45)], none⟩,
    ⟨some 15, .asg (.t 46), none⟩] [0, 1, 3, 4, 13, 15])
  (.seq (.kp [0, 1, 3, 13, 15] (.seq (.reg [⟨some 47, .mv (.t 13), none⟩,
    ⟨some 48, .len false (.t 47), none⟩,
    ⟨some 49, .mv (.c (.int .i64 0)), none⟩] [0, 1, 3, 4, 13, 15, 47, 48, 49])
  (.blk 0 (.loop (.seq (.reg [⟨some 50, .bin .lss (.t 49) (.t 48), none⟩] [0, 1, 3, 4, 13, 15, 47, 48, 49, 50])
  (.seq (.kp [0, 1, 3, 4, 13, 15, 47, 48, 49] (.cond (.t 50) (.skip) (.exit 0)))
  (.seq (.kp [0, 1, 3, 4, 13, 15, 47, 48, 49] (.blk 1 (.seq (.reg [⟨some 51, .ia 47 (.t 49) 1, none⟩,
    ⟨some 52, .ld 51 1 false, none⟩,
    ⟨some 17, .asg (.t 52), none⟩] [0, 1, 3, 4, 13, 15, 17, 47, 48, 49])
  (.reg [⟨some 53, .mv (.t 15), none⟩,
    ⟨some 54, .mv (.t 17), none⟩,
    ⟨some 55, .mv (.t 4), none⟩,
    ⟨some 56, .mv (.t 17), none⟩,
    ⟨some 57, .ia 55 (.t 56) 1, none⟩,
    ⟨some 58, .ld 57 1 false, none⟩,
    ⟨some 59, .ia 53 (.t 54) 1, none⟩,
    ⟨none, .st 59 (.t 58) 1, none⟩] [0, 1, 3, 4, 13, 15, 47, 48, 49]))))
  (.reg [⟨some 60, .bin .add (.t 49) (.c (.int .i64 1)), none⟩,
    ⟨some 49, .mv (.t 60), none⟩] [0, 1, 3, 4, 13, 15, 47, 48, 49]))))))))
  (.seq (.kp [0, 1, 3, 13] (.seq (.reg [⟨some 61, .mv (.t 1), none⟩,
    ⟨some 62, .mv (.t 15), none⟩,
    ⟨some 63, .call 93 [(.t 61), (.t 62)], none⟩,
    ⟨some 64, .nt (.t 63), none⟩] [0, 1, 3, 13, 15, 64])
  (.cond (.t 64) (.seq (.reg [⟨some 65, .mv (.t 15), none⟩,
    ⟨some 10, .asg (.t 65), none⟩,
    ⟨some 11, .asg (.c (.bool true)), none⟩,
    ⟨some 12, .asg (.c (.bool true)), none⟩] [10, 11, 12])
  (.ret)) (.skip))))
  (.seq (.reg [⟨some 66, .mv (.t 0), none⟩,
    ⟨some 67, .mv (.t 1), none⟩,
    ⟨some 68, .mv (.t 0), none⟩,
    ⟨some 69, .mv (.t 13), none⟩,
    ⟨some 70, .call 94 [(.t 68), (.t 69)], none⟩,
    ⟨some 71, .mv (.t 3), none⟩,
    ⟨some 72, .call 76 [(.t 66), (.t 67), (.t 70), (.t 71)], none⟩,
    ⟨some 10, .asg (.t 72), none⟩,
    ⟨some 11, .asg (.c (.bool false)), none⟩,
    ⟨some 12, .asg (.c (.bool true)), none⟩] [10, 11, 12])
  (.ret))))))))
theorem con_impl_DonorMend {v0 : (List XVariable)} {v1 : (List XEdit)} {v2 : (List Int)} {v3 : (List Int)} {v4 : (List Int)} {r : ((List Int) × Bool × Bool)} (h : sh_impl_DonorMend v0 v1 v2 v3 v4 = some r) : Con Try.prog 38 [(cLs (cXVariable cS cI) rfl).enc v0, (cLs (cXEdit (cLs cI rfl)) rfl).enc v1, (cLs cI rfl).enc v2, (cLs cI rfl).enc v3, (cLs cI rfl).enc v4] [] (rs_impl_DonorMend r) := by
  delta sh_impl_DonorMend at h
  refine top (out := none) (f := Try.f38) (m := m38) (rs := [.t 10, .t 11, .t 12]) (by kernel_rfl) rfl (by kernel_rfl) (by kernel_rfl) (by kernel_rfl) (by kernel_rfl) (by kernel_rfl) ?_
  exact
   ini [(0, .d ((cLs (cXVariable cS cI) rfl).enc v0)), (1, .d ((cLs (cXEdit (cLs cI rfl)) rfl).enc v1)), (2, .d ((cLs cI rfl).enc v2)), (3, .d ((cLs cI rfl).enc v3)), (4, .d ((cLs cI rfl).enc v4))] rfl <| wpC_seq <| reg_s <| x_asg (sc (cLo cI) ([] : List Int) rfl) <| x_asg (sc cB false rfl) <| x_asg (sc cB false rfl) <| seqN [(0, .d ((cLs (cXVariable cS cI) rfl).enc v0)), (1, .d ((cLs (cXEdit (cLs cI rfl)) rfl).enc v1)), (2, .d ((cLs cI rfl).enc v2)), (3, .d ((cLs cI rfl).enc v3)), (4, .d ((cLs cI rfl).enc v4))] (by kernel_rfl) <|
    xn <| wpC_seq <| wpC_kp <| wpC_seq <| reg_s <| st rfl <| mvd rfl rfl <| st rfl <| mvd rfl rfl <| st rfl <| mvd rfl rfl <| bnd h fun x26 e27 h => st rfl <| o_call (a1 (c := (cLs (cXVariable cS cI) rfl)) (tLs (tXVariable tS tK)) rfl (a1 (c := (cLs (cXEdit (cLs cI rfl)) rfl)) (tLs (tXEdit (tLs tK))) rfl (a1 (c := (cLs cI rfl)) (tLs tK) rfl a0))) (con_impl_isMendable e27) (.inl (so1 sB so0)) <| st rfl <| o_nt rfl <| st rfl <| mvd rfl rfl <| ite_k h (fun b28 h => gf rfl b28 <| gf rfl b28 <| gf rfl b28 <| gf rfl b28 <| st rfl <| pick1 rfl b28 (cd := cB) (v := true) rfl rfl <| st rfl <| mvd rfl rfl <| gf rfl rfl <| gf rfl rfl <| gf rfl rfl <| gf rfl rfl <| st rfl <| pick1 rfl rfl (cd := cB) (v := true) rfl rfl <| seqN [(0, .d ((cLs (cXVariable cS cI) rfl).enc v0)), (1, .d ((cLs (cXEdit (cLs cI rfl)) rfl).enc v1)), (2, .d ((cLs cI rfl).enc v2)), (3, .d ((cLs cI rfl).enc v3)), (4, .d ((cLs cI rfl).enc v4)), (34, .d (cB.enc true))] (by kernel_rfl) <|
    xn <| cnd1 rfl rfl <| wpC_seq <| reg_s <| x_asg (sc (cLo cI) ([] : List Int) rfl) <| x_asg (sc cB false rfl) <| x_asg (sc cB false rfl) <| seqN [(10, .d ((cLo cI).enc ([] : List Int))), (11, .d (cB.enc false)), (12, .d (cB.enc false))] (by kernel_rfl) <|
    xn <| wpC_ret <| rt <| rt <| re <| fin h (r1 (so rfl rfl) <| r1 (ss rfl rfl) <| r1 (ss rfl rfl) <| r0) rfl)
    (fun b28 h => gt' rfl b28 <| st rfl <| mvd rfl rfl <| gt' rfl b28 <| st rfl <| mvd rfl rfl <| gt' rfl b28 <| bnd h fun x29 e30 h => st rfl <| o_call (a1 (c := (cLs (cXVariable cS cI) rfl)) (tLs (tXVariable tS tK)) rfl (a1 (c := (cLs cI rfl)) (tLs tK) rfl a0)) (con_impl_areValues e30) (.inl (so1 sB so0)) <| gt' rfl b28 <| st rfl <| o_nt rfl <| st rfl <| pick0 rfl b28 (cd := cB) (v := (!x29)) rfl rfl <| st rfl <| mvd rfl rfl <| ite_k h (fun b31 h => gf rfl b31 <| gf rfl b31 <| gf rfl b31 <| gf rfl b31 <| st rfl <| pick1 rfl b31 (cd := cB) (v := true) rfl rfl <| seqN [(0, .d ((cLs (cXVariable cS cI) rfl).enc v0)), (1, .d ((cLs (cXEdit (cLs cI rfl)) rfl).enc v1)), (2, .d ((cLs cI rfl).enc v2)), (3, .d ((cLs cI rfl).enc v3)), (4, .d ((cLs cI rfl).enc v4)), (34, .d (cB.enc true))] (by kernel_rfl) <|
    xn <| cnd1 rfl rfl <| wpC_seq <| reg_s <| x_asg (sc (cLo cI) ([] : List Int) rfl) <| x_asg (sc cB false rfl) <| x_asg (sc cB false rfl) <| seqN [(10, .d ((cLo cI).enc ([] : List Int))), (11, .d (cB.enc false)), (12, .d (cB.enc false))] (by kernel_rfl) <|
    xn <| wpC_ret <| rt <| rt <| re <| fin h (r1 (so rfl rfl) <| r1 (ss rfl rfl) <| r1 (ss rfl rfl) <| r0) rfl)
    (fun b31 h => gt' rfl b31 <| st rfl <| mvd rfl rfl <| gt' rfl b31 <| st rfl <| mvd rfl rfl <| gt' rfl b31 <| bnd h fun x32 e33 h => st rfl <| o_call (a1 (c := (cLs (cXVariable cS cI) rfl)) (tLs (tXVariable tS tK)) rfl (a1 (c := (cLs cI rfl)) (tLs tK) rfl a0)) (con_impl_areValues e33) (.inl (so1 sB so0)) <| gt' rfl b31 <| st rfl <| o_nt rfl <| st rfl <| pick0 rfl b31 (cd := cB) (v := (!x32)) rfl rfl <| seqN [(0, .d ((cLs (cXVariable cS cI) rfl).enc v0)), (1, .d ((cLs (cXEdit (cLs cI rfl)) rfl).enc v1)), (2, .d ((cLs cI rfl).enc v2)), (3, .d ((cLs cI rfl).enc v3)), (4, .d ((cLs cI rfl).enc v4)), (34, .d (cB.enc (!x32)))] (by kernel_rfl) <|
    xn <| cnd rfl h (fun b34 h => wpC_seq <| reg_s <| x_asg (sc (cLo cI) ([] : List Int) rfl) <| x_asg (sc cB false rfl) <| x_asg (sc cB false rfl) <| seqN [(10, .d ((cLo cI).enc ([] : List Int))), (11, .d (cB.enc false)), (12, .d (cB.enc false))] (by kernel_rfl) <|
    xn <| wpC_ret <| rt <| rt <| re <| fin h (r1 (so rfl rfl) <| r1 (ss rfl rfl) <| r1 (ss rfl rfl) <| r0) rfl)
    (fun b34 h => wpC_skip <| kpN [(0, .d ((cLs (cXVariable cS cI) rfl).enc v0)), (1, .d ((cLs (cXEdit (cLs cI rfl)) rfl).enc v1)), (2, .d ((cLs cI rfl).enc v2)), (3, .d ((cLs cI rfl).enc v3)), (4, .d ((cLs cI rfl).enc v4))] (by kernel_rfl) <| xn <| wpC_seq <| reg_s <| st rfl <| mvd rfl rfl <| st rfl <| mvd rfl rfl <| st rfl <| mvd rfl rfl <| st rfl <| mvd rfl rfl <| bnd h fun x37 e38 h => st rfl <| o_call (a1 (c := (cLs (cXVariable cS cI) rfl)) (tLs (tXVariable tS tK)) rfl (a1 (c := (cLs (cXEdit (cLs cI rfl)) rfl)) (tLs (tXEdit (tLs tK))) rfl (a1 (c := (cLs cI rfl)) (tLs tK) rfl (a1 (c := (cLs cI rfl)) (tLs tK) rfl a0)))) (con_impl_cheapestChange e38) (.inl (so1 (sLo sK) (so1 sB so0))) <| x_mvt rfl <| x_ext rfl rfl <| x_ext rfl rfl <| x_asg (so rfl rfl) <| x_asg (ss rfl rfl) <| seqN [(0, .d ((cLs (cXVariable cS cI) rfl).enc v0)), (1, .d ((cLs (cXEdit (cLs cI rfl)) rfl).enc v1)), (3, .d ((cLs cI rfl).enc v3)), (4, .d ((cLs cI rfl).enc v4)), (13, .d ((cLo cI).enc x37.1)), (14, .d (cB.enc x37.2))] (by kernel_rfl) <|
    xn <| wpC_seq <| wpC_kp <| wpC_seq <| reg_s <| st rfl <| mvd rfl rfl <| st rfl <| o_nt rfl <| seqN [(0, .d ((cLs (cXVariable cS cI) rfl).enc v0)), (1, .d ((cLs (cXEdit (cLs cI rfl)) rfl).enc v1)), (3, .d ((cLs cI rfl).enc v3)), (4, .d ((cLs cI rfl).enc v4)), (13, .d ((cLo cI).enc x37.1)), (44, .d (cB.enc (!x37.2)))] (by kernel_rfl) <|
    xn <| cnd rfl h (fun b40 h => wpC_seq <| reg_s <| x_asg (sc (cLo cI) ([] : List Int) rfl) <| x_asg (sc cB false rfl) <| x_asg (sc cB false rfl) <| seqN [(10, .d ((cLo cI).enc ([] : List Int))), (11, .d (cB.enc false)), (12, .d (cB.enc false))] (by kernel_rfl) <|
    xn <| wpC_ret <| rt <| rt <| re <| fin h (r1 (so rfl rfl) <| r1 (ss rfl rfl) <| r1 (ss rfl rfl) <| r0) rfl)
    (fun b40 h => wpC_skip <| kpN [(0, .d ((cLs (cXVariable cS cI) rfl).enc v0)), (1, .d ((cLs (cXEdit (cLs cI rfl)) rfl).enc v1)), (3, .d ((cLs cI rfl).enc v3)), (4, .d ((cLs cI rfl).enc v4)), (13, .d ((cLo cI).enc x37.1))] (by kernel_rfl) <| xn <| wpC_seq <| reg_s <| st rfl <| mvd rfl rfl <| bnd h fun x43 e44 h => st rfl <| o_call (a1 (c := (cLs cI rfl)) (tLs tK) rfl a0) (con_slices_Clone_int e44) (.inl (so1 (sLo sK) so0)) <| x_asg (so rfl rfl) <| seqN [(0, .d ((cLs (cXVariable cS cI) rfl).enc v0)), (1, .d ((cLs (cXEdit (cLs cI rfl)) rfl).enc v1)), (3, .d ((cLs cI rfl).enc v3)), (4, .d ((cLs cI rfl).enc v4)), (13, .d ((cLo cI).enc x37.1)), (15, .d ((cLo cI).enc x43))] (by kernel_rfl) <|
    xn <| wpC_seq <| wpC_kp <| wpC_seq <| reg_s <| st rfl <| mvo rfl rfl <| stw rfl <| leno rfl fun l92 => st rfl <| mvc cI (0 : Int) rfl <| seqN [(0, .d ((cLs (cXVariable cS cI) rfl).enc v0)), (1, .d ((cLs (cXEdit (cLs cI rfl)) rfl).enc v1)), (3, .d ((cLs cI rfl).enc v3)), (4, .d ((cLs cI rfl).enc v4)), (13, .d ((cLo cI).enc x37.1)), (15, .d ((cLo cI).enc x43)), (47, .ref 13 []), (48, .d (cI.enc (x37.1.length : Int))), (49, .d (cI.enc (0 : Int)))] (by kernel_rfl) <|
    xn <| wpC_blk <| lpR (fun (k94 : Nat) (s93 : (List Int)) => [(0, .d ((cLs (cXVariable cS cI) rfl).enc v0)), (1, .d ((cLs (cXEdit (cLs cI rfl)) rfl).enc v1)), (3, .d ((cLs cI rfl).enc v3)), (4, .d ((cLs cI rfl).enc v4)), (13, .d ((cLo cI).enc x37.1)), (15, .d ((cLo cI).enc s93)), (47, .ref 13 []), (48, .d (cI.enc (x37.1.length : Int))), (49, .d (cI.enc (k94 : Int)))]) x43 rfl h
    (fun G124 s93 h => wpC_seq <| reg_s <| st rfl <| b_lss (k := .i64) rfl rfl <| seqN [(0, .d ((cLs (cXVariable cS cI) rfl).enc v0)), (1, .d ((cLs (cXEdit (cLs cI rfl)) rfl).enc v1)), (3, .d ((cLs cI rfl).enc v3)), (4, .d ((cLs cI rfl).enc v4)), (13, .d ((cLo cI).enc x37.1)), (15, .d ((cLo cI).enc s93)), (47, .ref 13 []), (48, .d (cI.enc (x37.1.length : Int))), (49, .d (cI.enc (x37.1.length : Int))), (50, .d (cB.enc (decide ((x37.1.length : Int) < (x37.1.length : Int)))))] (by kernel_rfl) <|
    xn <| wpC_seq <| wpC_kp <| cnd0 rfl (dlf _) <| wpC_exit <| xt <| xt <| xt <| xb <| kpN [(0, .d ((cLs (cXVariable cS cI) rfl).enc v0)), (1, .d ((cLs (cXEdit (cLs cI rfl)) rfl).enc v1)), (3, .d ((cLs cI rfl).enc v3)), (13, .d ((cLo cI).enc x37.1)), (15, .d ((cLo cI).enc s93))] (by kernel_rfl) <| xn <| wpC_seq <| wpC_kp <| wpC_seq <| reg_s <| st rfl <| mvd rfl rfl <| st rfl <| mvo rfl rfl <| bnd h fun x132 e133 h => st rfl <| o_call (a1 (c := (cLs (cXEdit (cLs cI rfl)) rfl)) (tLs (tXEdit (tLs tK))) rfl (a1 (c := (cLo cI)) (tLo tK) rfl a0)) (con_impl_failsOne e133) (.inl (so1 sB so0)) <| st rfl <| o_nt rfl <| seqN [(0, .d ((cLs (cXVariable cS cI) rfl).enc v0)), (1, .d ((cLs (cXEdit (cLs cI rfl)) rfl).enc v1)), (3, .d ((cLs cI rfl).enc v3)), (13, .d ((cLo cI).enc x37.1)), (15, .d ((cLo cI).enc s93)), (64, .d (cB.enc (!x132)))] (by kernel_rfl) <|
    xn <| cnd rfl h (fun b134 h => wpC_seq <| reg_s <| st rfl <| mvo rfl rfl <| x_asg (sr rfl rfl) <| x_asg (sc cB true rfl) <| x_asg (sc cB true rfl) <| seqN [(10, .d ((cLo cI).enc s93)), (11, .d (cB.enc true)), (12, .d (cB.enc true))] (by kernel_rfl) <|
    xn <| wpC_ret <| rt <| rt <| re <| fin h (r1 (so rfl rfl) <| r1 (ss rfl rfl) <| r1 (ss rfl rfl) <| r0) rfl)
    (fun b134 h => wpC_skip <| kpN [(0, .d ((cLs (cXVariable cS cI) rfl).enc v0)), (1, .d ((cLs (cXEdit (cLs cI rfl)) rfl).enc v1)), (3, .d ((cLs cI rfl).enc v3)), (13, .d ((cLo cI).enc x37.1))] (by kernel_rfl) <| xn <| wpC_seq <| reg_s <| st rfl <| mvd rfl rfl <| st rfl <| mvd rfl rfl <| st rfl <| mvd rfl rfl <| st rfl <| mvo rfl rfl <| bnd h fun x139 e140 h => st rfl <| o_call (a1 (c := (cLs (cXVariable cS cI) rfl)) (tLs (tXVariable tS tK)) rfl (a1 (c := (cLo cI)) (tLo tK) rfl a0)) (con_impl_otherVars e140) (.inl (so1 (sLo sK) so0)) <| st rfl <| mvd rfl rfl <| bnd h fun x141 e142 h => st rfl <| o_call (a1 (c := (cLs (cXVariable cS cI) rfl)) (tLs (tXVariable tS tK)) rfl (a1 (c := (cLs (cXEdit (cLs cI rfl)) rfl)) (tLs (tXEdit (tLs tK))) rfl (a1 (c := (cLo cI)) (tLo tK) rfl (a1 (c := (cLs cI rfl)) (tLs tK) rfl a0)))) (con_impl_completionOf_fg e142) (.inl (so1 (sLo sK) so0)) <| x_asg (so rfl rfl) <| x_asg (sc cB false rfl) <| x_asg (sc cB true rfl) <| seqN [(10, .d ((cLo cI).enc x141)), (11, .d (cB.enc false)), (12, .d (cB.enc true))] (by kernel_rfl) <|
    xn <| wpC_ret <| re <| fin h (r1 (so rfl rfl) <| r1 (ss rfl rfl) <| r1 (ss rfl rfl) <| r0) rfl))
    (fun G124 nx122 k94 s93 x95 hk96 hx97 hn123 h => wpC_seq <| reg_s <| st rfl <| b_lss (k := .i64) rfl rfl <| seqN [(0, .d ((cLs (cXVariable cS cI) rfl).enc v0)), (1, .d ((cLs (cXEdit (cLs cI rfl)) rfl).enc v1)), (3, .d ((cLs cI rfl).enc v3)), (4, .d ((cLs cI rfl).enc v4)), (13, .d ((cLo cI).enc x37.1)), (15, .d ((cLo cI).enc s93)), (47, .ref 13 []), (48, .d (cI.enc (x37.1.length : Int))), (49, .d (cI.enc (k94 : Int))), (50, .d (cB.enc (decide ((k94 : Int) < (x37.1.length : Int)))))] (by kernel_rfl) <|
    xn <| wpC_seq <| wpC_kp <| cnd1 rfl (dlt hk96) <| wpC_skip <| kpN [(0, .d ((cLs (cXVariable cS cI) rfl).enc v0)), (1, .d ((cLs (cXEdit (cLs cI rfl)) rfl).enc v1)), (3, .d ((cLs cI rfl).enc v3)), (4, .d ((cLs cI rfl).enc v4)), (13, .d ((cLo cI).enc x37.1)), (15, .d ((cLo cI).enc s93)), (47, .ref 13 []), (48, .d (cI.enc (x37.1.length : Int))), (49, .d (cI.enc (k94 : Int)))] (by kernel_rfl) <| xn <| wpC_seq <| wpC_kp <| wpC_blk <| wpC_seq <| reg_s <| st rfl <| iar rfl rfl rfl rfl (Int.natCast_nonneg _) hx97 rfl <| st rfl <| lda rfl rfl (Gt.idx hx97 Gt.nil) rfl rfl rfl <| x_asg (ss rfl rfl) <| seqN [(0, .d ((cLs (cXVariable cS cI) rfl).enc v0)), (1, .d ((cLs (cXEdit (cLs cI rfl)) rfl).enc v1)), (3, .d ((cLs cI rfl).enc v3)), (4, .d ((cLs cI rfl).enc v4)), (13, .d ((cLo cI).enc x37.1)), (15, .d ((cLo cI).enc s93)), (17, .d (cI.enc x95)), (47, .ref 13 []), (48, .d (cI.enc (x37.1.length : Int))), (49, .d (cI.enc (k94 : Int)))] (by kernel_rfl) <|
    xn <| reg_s <| st rfl <| mvo rfl rfl <| st rfl <| mvd rfl rfl <| st rfl <| mvd rfl rfl <| st rfl <| mvd rfl rfl <| getO_k h fun x149 i150 g151 h => st rfl <| ias rfl rfl i150 g151 rfl <| st rfl <| ldi rfl rfl rfl rfl <| getO_k h fun x152 i153 g154 h => st rfl <| iar rfl rfl rfl rfl i153 g154 rfl <| x_sta ((cLo cI).enc (s93.set (x95).toNat x149)) (ss rfl rfl) rfl rfl (Ln.idx g154 Ln.nil) (Cd.h_sz cI _) rfl <| seqN [(0, .d ((cLs (cXVariable cS cI) rfl).enc v0)), (1, .d ((cLs (cXEdit (cLs cI rfl)) rfl).enc v1)), (3, .d ((cLs cI rfl).enc v3)), (4, .d ((cLs cI rfl).enc v4)), (13, .d ((cLo cI).enc x37.1)), (15, .d ((cLo cI).enc (s93.set (x95).toNat x149))), (47, .ref 13 []), (48, .d (cI.enc (x37.1.length : Int))), (49, .d (cI.enc (k94 : Int)))] (by kernel_rfl) <|
    xbb <| kpN [(0, .d ((cLs (cXVariable cS cI) rfl).enc v0)), (1, .d ((cLs (cXEdit (cLs cI rfl)) rfl).enc v1)), (3, .d ((cLs cI rfl).enc v3)), (4, .d ((cLs cI rfl).enc v4)), (13, .d ((cLo cI).enc x37.1)), (15, .d ((cLo cI).enc (s93.set (x95).toNat x149))), (47, .ref 13 []), (48, .d (cI.enc (x37.1.length : Int))), (49, .d (cI.enc (k94 : Int)))] (by kernel_rfl) <| xn <| reg_s <| st rfl <| b_inc rfl rfl l92 hk96 <| st rfl <| mvd rfl rfl <| seqN [(0, .d ((cLs (cXVariable cS cI) rfl).enc v0)), (1, .d ((cLs (cXEdit (cLs cI rfl)) rfl).enc v1)), (3, .d ((cLs cI rfl).enc v3)), (4, .d ((cLs cI rfl).enc v4)), (13, .d ((cLo cI).enc x37.1)), (15, .d ((cLo cI).enc (s93.set (x95).toNat x149))), (47, .ref 13 []), (48, .d (cI.enc (x37.1.length : Int))), (49, .d (cI.enc ((k94 + 1 : Nat) : Int)))] (by kernel_rfl) <|
    xn <| hn123 (s93.set (x95).toNat x149) h)))))

def rs_laws_FnExactDonorMend (r : Bool) : List D := [cB.enc r]
def m9 : MC := .seq (.reg [⟨some 10, .asg (.c (.bool false)), none⟩] [0, 1, 2, 3, 4])
  (.seq (.kp [0, 1, 2, 3, 4] (.seq (.reg [⟨some 29, .mv (.t 2), none⟩,
    ⟨some 30, .len false (.t 29), none⟩,
    ⟨some 31, .bin .gtr (.t 30) (.c (.int .i64 1048576)), none⟩] [0, 1, 2, 3, 4, 31])
  (.cond (.t 31) (.seq (.reg [⟨some 10, .asg (.c (.bool true)), none⟩] [10])
  (.ret)) (.skip))))
  (.seq (.kp [0, 1, 2, 3, 4] (.seq (.reg [⟨some 32, .mv (.t 3), none⟩,
    ⟨some 33, .len false (.t 32), none⟩,
    ⟨some 34, .bin .gtr (.t 33) (.c (.int .i64 1048576)), none⟩] [0, 1, 2, 3, 4, 34])
  (.cond (.t 34) (.seq (.reg [⟨some 10, .asg (.c (.bool true)), none⟩] [10])
  (.ret)) (.skip))))
  (.seq (.kp [0, 1, 2, 3, 4] (.seq (.reg [⟨some 35, .mv (.t 4), none⟩,
    ⟨some 36, .len false (.t 35), none⟩,
    ⟨some 37, .bin .gtr (.t 36) (.c (.int .i64 1048576)), none⟩] [0, 1, 2, 3, 4, 37])
  (.cond (.t 37) (.seq (.reg [⟨some 10, .asg (.c (.bool true)), none⟩] [10])
  (.ret)) (.skip))))
  (.seq (.reg [⟨some 11, .asg (.c (.int .i64 1048576)), none⟩] [0, 1, 2, 3, 4, 11])
  (.seq (.reg [⟨some 38, .mv (.t 0), none⟩,
    ⟨some 39, .mv (.t 11), none⟩,
    ⟨some 40, .call 13 [(.t 38), (.t 39)], none⟩,
    ⟨some 11, .asg (.t 40), none⟩] [0, 1, 2, 3, 4, 11])
  (.seq (.kp [0, 1, 2, 3, 4, 11] (.seq (.reg [⟨some 41, .mv (.t 11), none⟩,
    ⟨some 42, .bin .lss (.t 41) (.c (.int .i64 0)), none⟩] [0, 1, 2, 3, 4, 11, 42])
  (.cond (.t 42) (.seq (.reg [⟨some 10, .asg (.c (.bool true)), none⟩] [10])
  (.ret)) (.skip))))
  (.seq (.reg [⟨some 43, .mv (.t 1), none⟩,
    ⟨some 44, .mv (.t 11), none⟩,
    ⟨some 45, .call 14 [(.t 43), (.t 44)], none⟩,
    ⟨some 11, .asg (.t 45), none⟩] [0, 1, 2, 3, 4, 11])
  (.seq (.kp [0, 1, 2, 3, 4] (.seq (.reg [⟨some 46, .mv (.t 11), none⟩,
    ⟨some 47, .bin .lss (.t 46) (.c (.int .i64 0)), none⟩] [0, 1, 2, 3, 4, 47])
  (.cond (.t 47) (.seq (.reg [⟨some 10, .asg (.c (.bool true)), none⟩] [10])
  (.ret)) (.skip))))
  (.seq (.reg [⟨some 49, .mv (.t 0), none⟩,
    ⟨some 50, .call 16 [(.t 49)], none⟩,
    ⟨some 51, .mv (.t 1), none⟩,
    ⟨some 52, .call 17 [(.t 51)], none⟩,
    ⟨some 53, .mv (.t 2), none⟩,
    ⟨some 54, .call 27 [(.t 53)], none⟩,
    ⟨some 55, .mv (.t 3), none⟩,
    ⟨some 56, .call 27 [(.t 55)], none⟩,
    ⟨some 57, .mv (.t 4), none⟩,
    ⟨some 58, .call 27 [(.t 57)], none⟩,
    ⟨some 59, .call 37 [(.t 50), (.t 52), (.t 54), (.t 56), (.t 58)], none⟩,
    ⟨some 48, .mvt 59, none⟩,
    ⟨some 60, .ext 48 0, none⟩,
    ⟨some 61, .ext 48 1, none⟩,
    ⟨some 62, .ext 48 2, none⟩,
    ⟨some 12, .asg (.t 60), none⟩,
    ⟨some 13, .asg (.t 61), none⟩,
    ⟨some 14, .asg (.t 62), none⟩] [0, 1, 2, 3, 4, 12, 13, 14])
  (.seq (.reg [⟨some 63, .mv (.t 0), none⟩,
    ⟨some 64, .call 16 [(.t 63)], none⟩,
    ⟨some 15, .asg (.t 64), none⟩] [0, 1, 2, 3, 4, 12, 13, 14, 15])
  (.seq (.reg [⟨some 65, .mv (.t 1), none⟩,
    ⟨some 66, .call 17 [(.t 65)], none⟩,
    ⟨some 16, .asg (.t 66), none⟩] [0, 1, 2, 3, 4, 12, 13, 14, 15, 16])
  (.seq (.reg [⟨some 67, .mv (.t 2), none⟩,
    ⟨some 68, .call 27 [(.t 67)], none⟩,
    ⟨some 17, .asg (.t 68), none⟩] [0, 1, 2, 3, 4, 12, 13, 14, 15, 16, 17])
  (.seq (.reg [⟨some 69, .mv (.t 3), none⟩,
    ⟨some 70, .call 27 [(.t 69)], none⟩,
    ⟨some 18, .asg (.t 70), none⟩] [0, 1, 2, 3, 4, 12, 13, 14, 15, 16, 17, 18])
  (.seq (.reg [⟨some 71, .mv (.t 4), none⟩,
    ⟨some 72, .call 27 [(.t 71)], none⟩,
    ⟨some 19, .asg (.t 72), none⟩] [0, 1, 2, 3, 4, 12, 13, 14, 15, 16, 17, 18, 19])
  (.seq (.reg [⟨some 74, .mv (.t 15), none⟩,
    ⟨some 75, .mv (.t 16), none⟩,
    ⟨some 76, .mv (.t 17), none⟩,
    ⟨some 77, .mv (.t 18), none⟩,
    ⟨some 78, .mv (.t 19), none⟩,
    ⟨some 79, .call 38 [(.t 74), (.t 75), (.t 76), (.t 77), (.t 78)], none⟩,
    ⟨some 73, .mvt 79, none⟩,
    ⟨some 80, .ext 73 0, none⟩,
    ⟨some 81, .ext 73 1, none⟩,
    ⟨some 82, .ext 73 2, none⟩,
    ⟨some 20, .asg (.t 80), none⟩,
    ⟨some 21, .asg (.t 81), none⟩,
    ⟨some 22, .asg (.t 82), none⟩] [0, 1, 2, 3, 4, 12, 13, 14, 15, 16, 17, 18, 19, 20, 21, 22])
  (.seq (.kp [0, 1, 2, 3, 4, 12, 13, 14, 15, 16, 17, 18, 19, 20, 21, 22] (.seq (.reg [⟨some 83, .mv (.t 20), none⟩,
    ⟨some 84, .mv (.t 12), none⟩,
    ⟨some 85, .call 19 [(.t 83), (.t 84)], none⟩,
    ⟨some 86, .nt (.t 85), none⟩,
    ⟨some 87, .mv (.t 86), none⟩,
    ⟨some 88, .mv (.t 21), some (87, false)⟩,
    ⟨some 89, .mv (.t 13), some (87, false)⟩,
    ⟨some 90, .eqb true (.t 88) (.t 89), some (87, false)⟩,
    ⟨some 91, .pick (.t 87) (.c (.bool true)) (.t 90), none⟩,
    ⟨some 92, .mv (.t 91), none⟩,
    ⟨some 93, .mv (.t 22), some (92, false)⟩,
    ⟨some 94, .mv (.t 14), some (92, false)⟩,
    ⟨some 95, .eqb true (.t 93) (.t 94), some (92, false)⟩,
    ⟨some 96, .pick (.t 92) (.c (.bool true)) (.t 95), none⟩] [0, 1, 2, 3, 4, 12, 13, 14, 15, 16, 17, 18, 19, 20, 21, 22, 96])
  (.cond (.t 96) (.seq (.reg [⟨some 10, .asg (.c (.bool false)), none⟩] [10])
  (.ret)) (.skip))))
  (.seq (.kp [0, 1, 2, 3, 4, 12, 13, 14, 15, 16, 17, 18, 19, 20, 21, 22] (.seq (.reg [⟨some 97, .mv (.t 15), none⟩,
    ⟨some 98, .mv (.t 0), none⟩,
    ⟨some 99, .call 16 [(.t 98)], none⟩,
    ⟨some 100, .call 20 [(.t 97), (.t 99)], none⟩,
    ⟨some 101, .nt (.t 100), none⟩] [0, 1, 2, 3, 4, 12, 13, 14, 15, 16, 17, 18, 19, 20, 21, 22, 101])
  (.cond (.t 101) (.seq (.reg [⟨some 10, .asg (.c (.bool false)), none⟩] [10])
  (.ret)) (.skip))))
  (.seq (.kp [0, 1, 2, 3, 4, 12, 13, 14, 15, 16, 17, 18, 19, 20, 21, 22] (.seq (.reg [⟨some 102, .mv (.t 16), none⟩,
    ⟨some 103, .mv (.t 1), none⟩,
    ⟨some 104, .call 17 [(.t 103)], none⟩,
    ⟨some 105, .call 21 [(.t 102), (.t 104)], none⟩,
    ⟨some 106, .nt (.t 105), none⟩] [0, 1, 2, 3, 4, 12, 13, 14, 15, 16, 17, 18, 19, 20, 21, 22, 106])
  (.cond (.t 106) (.seq (.reg [⟨some 10, .asg (.c (.bool false)), none⟩] [10])
  (.ret)) (.skip))))
  (.seq (.kp [0, 1, 2, 3, 4, 12, 13, 14, 15, 16, 17, 18, 19, 20, 21, 22] (.seq (.reg [⟨some 107, .mv (.t 17), none⟩,
    ⟨some 108, .mv (.t 2), none⟩,
    ⟨some 109, .call 27 [(.t 108)], none⟩,
    ⟨some 110, .call 19 [(.t 107), (.t 109)], none⟩,
    ⟨some 111, .nt (.t 110), none⟩] [0, 1, 2, 3, 4, 12, 13, 14, 15, 16, 17, 18, 19, 20, 21, 22, 111])
  (.cond (.t 111) (.seq (.reg [⟨some 10, .asg (.c (.bool false)), none⟩] [10])
  (.ret)) (.skip))))
  (.seq (.kp [0, 1, 2, 3, 4, 12, 13, 14, 15, 16, 17, 18, 19, 20, 21, 22] (.seq (.reg [⟨some 112, .mv (.t 18), none⟩,
    ⟨some 113, .mv (.t 3), none⟩,
    ⟨some 114, .call 27 [(.t 113)], none⟩,
    ⟨some 115, .call 19 [(.t 112), (.t 114)], none⟩,
    ⟨some 116, .nt (.t 115), none⟩] [0, 1, 2, 3, 4, 12, 13, 14, 15, 16, 17, 18, 19, 20, 21, 22, 116])
  (.cond (.t 116) (.seq (.reg [⟨some 10, .asg (.c (.bool false)), none⟩] [10])
  (.ret)) (.skip))))
  (.seq (.kp [0, 1, 2, 3, 4, 12, 13, 14, 15, 16, 17, 18, 19, 20, 21, 22] (.seq (.reg [⟨some 117, .mv (.t 19), none⟩,
    ⟨some 118, .mv (.t 4), none⟩,
    ⟨some 119, .call 27 [(.t 118)], none⟩,
    ⟨some 120, .call 19 [(.t 117), (.t 119)], none⟩,
    ⟨some 121, .nt (.t 120), none⟩] [0, 1, 2, 3, 4, 12, 13, 14, 15, 16, 17, 18, 19, 20, 21, 22, 121])
  (.cond (.t 121) (.seq (.reg [⟨some 10, .asg (.c (.bool false)), none⟩] [10])
  (.ret)) (.skip))))
  (.seq (.reg [⟨some 23, .asg (.c (.int .i64 1)), none⟩] [0, 1, 2, 3, 4, 12, 13, 14, 15, 16, 17, 18, 19, 20, 21, 22, 23])
  (.seq (.reg [⟨some 122, .mv (.t 15), none⟩,
    ⟨some 123, .mv (.t 23), none⟩,
    ⟨some 124, .callO 22 [(.t 122), (.t 123)], none⟩,
    ⟨some 23, .asg (.t 124), none⟩] [0, 1, 2, 3, 4, 12, 13, 14, 16, 17, 18, 19, 20, 21, 22, 23])
  (.seq (.reg [⟨some 125, .mv (.t 16), none⟩,
    ⟨some 126, .mv (.t 23), none⟩,
    ⟨some 127, .callO 23 [(.t 125), (.t 126)], none⟩,
    ⟨some 23, .asg (.t 127), none⟩] [0, 1, 2, 3, 4, 12, 13, 14, 17, 18, 19, 20, 21, 22, 23])
  (.seq (.reg [⟨some 128, .mv (.t 17), none⟩,
    ⟨some 129, .mv (.t 23), none⟩,
    ⟨some 130, .callO 24 [(.t 128), (.t 129)], none⟩,
    ⟨some 23, .asg (.t 130), none⟩] [0, 1, 2, 3, 4, 12, 13, 14, 18, 19, 20, 21, 22, 23])
  (.seq (.reg [⟨some 131, .mv (.t 18), none⟩,
    ⟨some 132, .mv (.t 23), none⟩,
    ⟨some 133, .callO 24 [(.t 131), (.t 132)], none⟩,
    ⟨some 23, .asg (.t 133), none⟩] [0, 1, 2, 3, 4, 12, 13, 14, 19, 20, 21, 22, 23])
  (.seq (.reg [⟨some 134, .mv (.t 19), none⟩,
    ⟨some 135, .mv (.t 23), none⟩,
    ⟨some 136, .callO 24 [(.t 134), (.t 135)], none⟩,
    ⟨some 23, .asg (.t 136), none⟩] [0, 1, 2, 3, 4, 12, 13, 14, 20, 21, 22, 23])
  (.seq (.kp [0, 1, 2, 3, 4, 12, 13, 14, 20] (.seq (.reg [⟨some 137, .mv (.t 23), none⟩,
    ⟨some 138, .bin .lss (.t 137) (.c (.int .i64 0)), none⟩,
    ⟨some 139, .mv (.t 138), none⟩,
    ⟨some 140, .mv (.t 20), some (139, false)⟩,
    ⟨some 141, .mv (.t 12), some (139, false)⟩,
    ⟨some 142, .call 19 [(.t 140), (.t 141)], some (139, false)⟩,
    ⟨some 143, .nt (.t 142), some (139, false)⟩,
    ⟨some 144, .pick (.t 139) (.c (.bool true)) (.t 143), none⟩,
    ⟨some 145, .mv (.t 144), none⟩,
    ⟨some 146, .mv (.t 21), some (145, false)⟩,
    ⟨some 147, .mv (.t 13), some (145, false)⟩,
    ⟨some 148, .eqb true (.t 146) (.t 147), some (145, false)⟩,
    ⟨some 149, .pick (.t 145) (.c (.bool true)) (.t 148), none⟩,
    ⟨some 150, .mv (.t 149), none⟩,
    ⟨some 151, .mv (.t 22), some (150, false)⟩,
    ⟨some 152, .mv (.t 14), some (150, false)⟩,
    ⟨some 153, .eqb true (.t 151) (.t 152), some (150, false)⟩,
    ⟨some 154, .pick (.t 150) (.c (.bool true)) (.t 153), none⟩] [0, 1, 2, 3, 4, 12, 13, 14, 20, 154])
  (.cond (.t 154) (.seq (.reg [⟨some 10, .asg (.c (.bool false)), none⟩] [10])
  (.ret)) (.skip))))
  (.seq (.reg [⟨some 24, .asg (.c (.int .i64 1)), none⟩] [0, 1, 2, 3, 4, 12, 13, 14, 20, 24])
  (.seq (.reg [⟨some 155, .mv (.t 20), none⟩,
    ⟨some 156, .mv (.t 24), none⟩,
    ⟨some 157, .callO 24 [(.t 155), (.t 156)], none⟩,
    ⟨some 24, .asg (.t 157), none⟩] [0, 1, 2, 3, 4, 12, 13, 14, 20, 24])
  (.seq (.reg [⟨some 25, .asg (.c (.int .i64 1)), none⟩] [0, 1, 2, 3, 4, 12, 13, 14, 20, 24, 25])
  (.seq (.reg [⟨some 158, .mv (.t 20), none⟩,
    ⟨some 159, .mv (.t 25), none⟩,
    ⟨some 160, .call 25 [(.t 158), (.t 159)], none⟩,
    ⟨some 25, .asg (.t 160), none⟩] [0, 1, 2, 3, 4, 12, 13, 14, 20, 24, 25])
  (.seq (.kp [0, 1, 2, 3, 4, 12, 13, 14, 20, 24, 25] (.seq (.reg [⟨some 161, .mv (.t 25), none⟩,
    ⟨some 162, .bin .lss (.t 161) (.c (.int .i64 0)), none⟩] [0, 1, 2, 3, 4, 12, 13, 14, 20, 24, 25, 162])
  (.cond (.t 162) (.seq (.reg [⟨some 10, .asg (.c (.bool false)), none⟩] [10])
  (.ret)) (.skip))))
  (.seq (.kp [0, 1, 2, 3, 4, 12, 13, 14, 20, 24] (.seq (.reg [⟨some 163, .mv (.t 25), none⟩,
    ⟨some 164, .mv (.t 24), none⟩,
    ⟨some 165, .bin .neq (.t 163) (.t 164), none⟩] [0, 1, 2, 3, 4, 12, 13, 14, 20, 24, 165])
  (.cond (.t 165) (.seq (.reg [⟨some 10, .asg (.c (.bool false)), none⟩] [10])
  (.ret)) (.skip))))
  (.seq (.reg [⟨some 167, .mv (.t 0), none⟩,
    ⟨some 168, .call 16 [(.t 167)], none⟩,
    ⟨some 169, .mv (.t 1), none⟩,
    ⟨some 170, .call 17 [(.t 169)], none⟩,
    ⟨some 171, .mv (.t 2), none⟩,
    ⟨some 172, .call 27 [(.t 171)], none⟩,
    ⟨some 173, .mv (.t 3), none⟩,
    ⟨some 174, .call 27 [(.t 173)], none⟩,
    ⟨some 175, .mv (.t 4), none⟩,
    ⟨some 176, .call 27 [(.t 175)], none⟩,
    ⟨some 177, .call 38 [(.t 168), (.t 170), (.t 172), (.t 174), (.t 176)], none⟩,
    ⟨some 166, .mvt 177, none⟩,
    ⟨some 178, .ext 166 0, none⟩,
    ⟨some 179, .ext 166 1, none⟩,
    ⟨some 180, .ext 166 2, none⟩,
    ⟨some 26, .asg (.t 178), none⟩,
    ⟨some 27, .asg (.t 179), none⟩,
    ⟨some 28, .asg (.t 180), none⟩] [12, 13, 14, 20, 24, 26, 27, 28])
  (.seq (.kp [20, 24] (.seq (.reg [⟨some 181, .mv (.t 26), none⟩,
    ⟨some 182, .mv (.t 12), none⟩,
    ⟨some 183, .call 19 [(.t 181), (.t 182)], none⟩,
    ⟨some 184, .nt (.t 183), none⟩,
    ⟨some 185, .mv (.t 184), none⟩,
    ⟨some 186, .mv (.t 27), some (185, false)⟩,
    ⟨some 187, .mv (.t 13), some (185, false)⟩,
    ⟨some 188, .eqb true (.t 186) (.t 187), some (185, false)⟩,
    ⟨some 189, .pick (.t 185) (.c (.bool true)) (.t 188), none⟩,
    ⟨some 190, .mv (.t 189), none⟩,
    ⟨some 191, .mv (.t 28), some (190, false)⟩,
    ⟨some 192, .mv (.t 14), some (190, false)⟩,
    ⟨some 193, .eqb true (.t 191) (.t 192), some (190, false)⟩,
    ⟨some 194, .pick (.t 190) (.c (.bool true)) (.t 193), none⟩] [20, 24, 194])
  (.cond (.t 194) (.seq (.reg [⟨some 10, .asg (.c (.bool false)), none⟩] [10])
  (.ret)) (.skip))))
  (.seq (.reg [⟨some 25, .asg (.c (.int .i64 1)), none⟩] [20, 24, 25])
  (.seq (.reg [⟨some 195, .mv (.t 20), none⟩,
    ⟨some 196, .mv (.t 25), none⟩,
    ⟨some 197, .call 25 [(.t 195), (.t 196)], none⟩,
    ⟨some 25, .asg (.t 197), none⟩] [24, 25])
  (.seq (.kp [24, 25] (.seq (.reg [⟨some 198, .mv (.t 25), none⟩,
    ⟨some 199, .bin .lss (.t 198) (.c (.int .i64 0)), none⟩] [24, 25, 199])
  (.cond (.t 199) (.seq (.reg [⟨some 10, .asg (.c (.bool false)), none⟩] [10])
  (.ret)) (.skip))))
  (.seq (.kp [] (.seq (.reg [⟨some 200, .mv (.t 25), none⟩,
    ⟨some 201, .mv (.t 24), none⟩,
    ⟨some 202, .bin .neq (.t 200) (.t 201), none⟩] [202])
  (.cond (.t 202) (.seq (.reg [⟨some 10, .asg (.c (.bool false)), none⟩] [10])
  (.ret)) (.skip))))
  (.seq (.reg [⟨some 10, .asg (.c (.bool true)), none⟩] [10])
  (.ret))))))))))))))))))))))))))))))))))))))))))
theorem con_laws_FnExactDonorMend {v0 : (List XVariable)} {v1 : (List XEdit)} {v2 : (List Int)} {v3 : (List Int)} {v4 : (List Int)} {r : Bool} (h : sh_laws_FnExactDonorMend v0 v1 v2 v3 v4 = some r) : Con Try.prog 9 [(cLs (cXVariable cS cI) rfl).enc v0, (cLs (cXEdit (cLs cI rfl)) rfl).enc v1, (cLs cI rfl).enc v2, (cLs cI rfl).enc v3, (cLs cI rfl).enc v4] [] (rs_laws_FnExactDonorMend r) := by
  delta sh_laws_FnExactDonorMend at h
  refine top (out := none) (f := Try.f9) (m := m9) (rs := [.t 10]) (by kernel_rfl) rfl (by kernel_rfl) (by kernel_rfl) (by kernel_rfl) (by kernel_rfl) (by kernel_rfl) ?_
  exact
   ini [(0, .d ((cLs (cXVariable cS cI) rfl).enc v0)), (1, .d ((cLs (cXEdit (cLs cI rfl)) rfl).enc v1)), (2, .d ((cLs cI rfl).enc v2)), (3, .d ((cLs cI rfl).enc v3)), (4, .d ((cLs cI rfl).enc v4))] rfl <| wpC_seq <| reg_s <| x_asg (sc cB false rfl) <| seqN [(0, .d ((cLs (cXVariable cS cI) rfl).enc v0)), (1, .d ((cLs (cXEdit (cLs cI rfl)) rfl).enc v1)), (2, .d ((cLs cI rfl).enc v2)), (3, .d ((cLs cI rfl).enc v3)), (4, .d ((cLs cI rfl).enc v4))] (by kernel_rfl) <|
    xn <| wpC_seq <| wpC_kp <| wpC_seq <| reg_s <| st rfl <| mvd rfl rfl <| stw rfl <| lens rfl fun l5 => st rfl <| b_gtr (k := .i64) rfl rfl <| seqN [(0, .d ((cLs (cXVariable cS cI) rfl).enc v0)), (1, .d ((cLs (cXEdit (cLs cI rfl)) rfl).enc v1)), (2, .d ((cLs cI rfl).enc v2)), (3, .d ((cLs cI rfl).enc v3)), (4, .d ((cLs cI rfl).enc v4)), (31, .d (cB.enc (decide ((1048576 : Int) < (v2.length : Int)))))] (by kernel_rfl) <|
    xn <| cnd rfl h (fun b6 h => wpC_seq <| reg_s <| x_asg (sc cB true rfl) <| seqN [(10, .d (cB.enc true))] (by kernel_rfl) <|
    xn <| wpC_ret <| rt <| rt <| re <| fin h (r1 (ss rfl rfl) <| r0) rfl)
    (fun b6 h => wpC_skip <| kpN [(0, .d ((cLs (cXVariable cS cI) rfl).enc v0)), (1, .d ((cLs (cXEdit (cLs cI rfl)) rfl).enc v1)), (2, .d ((cLs cI rfl).enc v2)), (3, .d ((cLs cI rfl).enc v3)), (4, .d ((cLs cI rfl).enc v4))] (by kernel_rfl) <| xn <| wpC_seq <| wpC_kp <| wpC_seq <| reg_s <| st rfl <| mvd rfl rfl <| stw rfl <| lens rfl fun l11 => st rfl <| b_gtr (k := .i64) rfl rfl <| seqN [(0, .d ((cLs (cXVariable cS cI) rfl).enc v0)), (1, .d ((cLs (cXEdit (cLs cI rfl)) rfl).enc v1)), (2, .d ((cLs cI rfl).enc v2)), (3, .d ((cLs cI rfl).enc v3)), (4, .d ((cLs cI rfl).enc v4)), (34, .d (cB.enc (decide ((1048576 : Int) < (v3.length : Int)))))] (by kernel_rfl) <|
    xn <| cnd rfl h (fun b12 h => wpC_seq <| reg_s <| x_asg (sc cB true rfl) <| seqN [(10, .d (cB.enc true))] (by kernel_rfl) <|
    xn <| wpC_ret <| rt <| rt <| re <| fin h (r1 (ss rfl rfl) <| r0) rfl)
    (fun b12 h => wpC_skip <| kpN [(0, .d ((cLs (cXVariable cS cI) rfl).enc v0)), (1, .d ((cLs (cXEdit (cLs cI rfl)) rfl).enc v1)), (2, .d ((cLs cI rfl).enc v2)), (3, .d ((cLs cI rfl).enc v3)), (4, .d ((cLs cI rfl).enc v4))] (by kernel_rfl) <| xn <| wpC_seq <| wpC_kp <| wpC_seq <| reg_s <| st rfl <| mvd rfl rfl <| stw rfl <| lens rfl fun l17 => st rfl <| b_gtr (k := .i64) rfl rfl <| seqN [(0, .d ((cLs (cXVariable cS cI) rfl).enc v0)), (1, .d ((cLs (cXEdit (cLs cI rfl)) rfl).enc v1)), (2, .d ((cLs cI rfl).enc v2)), (3, .d ((cLs cI rfl).enc v3)), (4, .d ((cLs cI rfl).enc v4)), (37, .d (cB.enc (decide ((1048576 : Int) < (v4.length : Int)))))] (by kernel_rfl) <|
    xn <| cnd rfl h (fun b18 h => wpC_seq <| reg_s <| x_asg (sc cB true rfl) <| seqN [(10, .d (cB.enc true))] (by kernel_rfl) <|
    xn <| wpC_ret <| rt <| rt <| re <| fin h (r1 (ss rfl rfl) <| r0) rfl)
    (fun b18 h => wpC_skip <| kpN [(0, .d ((cLs (cXVariable cS cI) rfl).enc v0)), (1, .d ((cLs (cXEdit (cLs cI rfl)) rfl).enc v1)), (2, .d ((cLs cI rfl).enc v2)), (3, .d ((cLs cI rfl).enc v3)), (4, .d ((cLs cI rfl).enc v4))] (by kernel_rfl) <| xn <| wpC_seq <| reg_s <| x_asg (sc cI (1048576 : Int) rfl) <| seqN [(0, .d ((cLs (cXVariable cS cI) rfl).enc v0)), (1, .d ((cLs (cXEdit (cLs cI rfl)) rfl).enc v1)), (2, .d ((cLs cI rfl).enc v2)), (3, .d ((cLs cI rfl).enc v3)), (4, .d ((cLs cI rfl).enc v4)), (11, .d (cI.enc (1048576 : Int)))] (by kernel_rfl) <|
    xn <| wpC_seq <| reg_s <| st rfl <| mvd rfl rfl <| st rfl <| mvd rfl rfl <| bnd h fun x21 e22 h => st rfl <| o_call (a1 (c := (cLs (cXVariable cS cI) rfl)) (tLs (tXVariable tS tK)) rfl (a1 (c := cI) tK rfl a0)) (con_laws_szVariableS e22) (.inl (so1 sK so0)) <| x_asg (ss rfl rfl) <| seqN [(0, .d ((cLs (cXVariable cS cI) rfl).enc v0)), (1, .d ((cLs (cXEdit (cLs cI rfl)) rfl).enc v1)), (2, .d ((cLs cI rfl).enc v2)), (3, .d ((cLs cI rfl).enc v3)), (4, .d ((cLs cI rfl).enc v4)), (11, .d (cI.enc x21))] (by kernel_rfl) <|
    xn <| wpC_seq <| wpC_kp <| wpC_seq <| reg_s <| st rfl <| mvd rfl rfl <| st rfl <| b_lss (k := .i64) rfl rfl <| seqN [(0, .d ((cLs (cXVariable cS cI) rfl).enc v0)), (1, .d ((cLs (cXEdit (cLs cI rfl)) rfl).enc v1)), (2, .d ((cLs cI rfl).enc v2)), (3, .d ((cLs cI rfl).enc v3)), (4, .d ((cLs cI rfl).enc v4)), (11, .d (cI.enc x21)), (42, .d (cB.enc (decide (x21 < (0 : Int)))))] (by kernel_rfl) <|
    xn <| cnd rfl h (fun b24 h => wpC_seq <| reg_s <| x_asg (sc cB true rfl) <| seqN [(10, .d (cB.enc true))] (by kernel_rfl) <|
    xn <| wpC_ret <| rt <| rt <| re <| fin h (r1 (ss rfl rfl) <| r0) rfl)
    (fun b24 h => wpC_skip <| kpN [(0, .d ((cLs (cXVariable cS cI) rfl).enc v0)), (1, .d ((cLs (cXEdit (cLs cI rfl)) rfl).enc v1)), (2, .d ((cLs cI rfl).enc v2)), (3, .d ((cLs cI rfl).enc v3)), (4, .d ((cLs cI rfl).enc v4)), (11, .d (cI.enc x21))] (by kernel_rfl) <| xn <| wpC_seq <| reg_s <| st rfl <| mvd rfl rfl <| st rfl <| mvd rfl rfl <| bnd h fun x27 e28 h => st rfl <| o_call (a1 (c := (cLs (cXEdit (cLs cI rfl)) rfl)) (tLs (tXEdit (tLs tK))) rfl (a1 (c := cI) tK rfl a0)) (con_laws_szEditS e28) (.inl (so1 sK so0)) <| x_asg (ss rfl rfl) <| seqN [(0, .d ((cLs (cXVariable cS cI) rfl).enc v0)), (1, .d ((cLs (cXEdit (cLs cI rfl)) rfl).enc v1)), (2, .d ((cLs cI rfl).enc v2)), (3, .d ((cLs cI rfl).enc v3)), (4, .d ((cLs cI rfl).enc v4)), (11, .d (cI.enc x27))] (by kernel_rfl) <|
    xn <| wpC_seq <| wpC_kp <| wpC_seq <| reg_s <| st rfl <| mvd rfl rfl <| st rfl <| b_lss (k := .i64) rfl rfl <| seqN [(0, .d ((cLs (cXVariable cS cI) rfl).enc v0)), (1, .d ((cLs (cXEdit (cLs cI rfl)) rfl).enc v1)), (2, .d ((cLs cI rfl).enc v2)), (3, .d ((cLs cI rfl).enc v3)), (4, .d ((cLs cI rfl).enc v4)), (47, .d (cB.enc (decide (x27 < (0 : Int)))))] (by kernel_rfl) <|
    xn <| cnd rfl h (fun b30 h => wpC_seq <| reg_s <| x_asg (sc cB true rfl) <| seqN [(10, .d (cB.enc true))] (by kernel_rfl) <|
    xn <| wpC_ret <| rt <| rt <| re <| fin h (r1 (ss rfl rfl) <| r0) rfl)
    (fun b30 h => wpC_skip <| kpN [(0, .d ((cLs (cXVariable cS cI) rfl).enc v0)), (1, .d ((cLs (cXEdit (cLs cI rfl)) rfl).enc v1)), (2, .d ((cLs cI rfl).enc v2)), (3, .d ((cLs cI rfl).enc v3)), (4, .d ((cLs cI rfl).enc v4))] (by kernel_rfl) <| xn <| wpC_seq <| reg_s <| st rfl <| mvd rfl rfl <| bnd h fun x43 e44 h => st rfl <| o_call (a1 (c := (cLs (cXVariable cS cI) rfl)) (tLs (tXVariable tS tK)) rfl a0) (con_laws_toVariableS e44) (.inl (so1 (sLo (sXVariable sS sK)) so0)) <| st rfl <| mvd rfl rfl <| bnd h fun x45 e46 h => st rfl <| o_call (a1 (c := (cLs (cXEdit (cLs cI rfl)) rfl)) (tLs (tXEdit (tLs tK))) rfl a0) (con_laws_toEditS e46) (.inl (so1 (sLo (sXEdit (sLo sK))) so0)) <| st rfl <| mvd rfl rfl <| bnd h fun x47 e48 h => st rfl <| o_call (a1 (c := (cLs cI rfl)) (tLs tK) rfl a0) (con_laws_toIntS e48) (.inl (so1 (sLo sK) so0)) <| st rfl <| mvd rfl rfl <| bnd h fun x49 e50 h => st rfl <| o_call (a1 (c := (cLs cI rfl)) (tLs tK) rfl a0) (con_laws_toIntS e50) (.inl (so1 (sLo sK) so0)) <| st rfl <| mvd rfl rfl <| bnd h fun x51 e52 h => st rfl <| o_call (a1 (c := (cLs cI rfl)) (tLs tK) rfl a0) (con_laws_toIntS e52) (.inl (so1 (sLo sK) so0)) <| bnd h fun x53 e54 h => st rfl <| o_call (a1 (c := (cLo (cXVariable cS cI))) (tLo (tXVariable tS tK)) rfl (a1 (c := (cLo (cXEdit (cLo cI)))) (tLo (tXEdit (tLo tK))) rfl (a1 (c := (cLo cI)) (tLo tK) rfl (a1 (c := (cLo cI)) (tLo tK) rfl (a1 (c := (cLo cI)) (tLo tK) rfl a0))))) (con_spec_DonorMend e54) (.inl (so1 (sLo sK) (so1 sB (so1 sB so0)))) <| x_mvt rfl <| x_ext rfl rfl <| x_ext rfl rfl <| x_ext rfl rfl <| x_asg (so rfl rfl) <| x_asg (ss rfl rfl) <| x_asg (ss rfl rfl) <| seqN [(0, .d ((cLs (cXVariable cS cI) rfl).enc v0)), (1, .d ((cLs (cXEdit (cLs cI rfl)) rfl).enc v1)), (2, .d ((cLs cI rfl).enc v2)), (3, .d ((cLs cI rfl).enc v3)), (4, .d ((cLs cI rfl).enc v4)), (12, .d ((cLo cI).enc x53.1)), (13, .d (cB.enc x53.2.1)), (14, .d (cB.enc x53.2.2))] (by kernel_rfl) <|
    xn <| wpC_seq <| reg_s <| st rfl <| mvd rfl rfl <| bnd h fun x57 e58 h => st rfl <| o_call (a1 (c := (cLs (cXVariable cS cI) rfl)) (tLs (tXVariable tS tK)) rfl a0) (con_laws_toVariableS e58) (.inl (so1 (sLo (sXVariable sS sK)) so0)) <| x_asg (so rfl rfl) <| seqN [(0, .d ((cLs (cXVariable cS cI) rfl).enc v0)), (1, .d ((cLs (cXEdit (cLs cI rfl)) rfl).enc v1)), (2, .d ((cLs cI rfl).enc v2)), (3, .d ((cLs cI rfl).enc v3)), (4, .d ((cLs cI rfl).enc v4)), (12, .d ((cLo cI).enc x53.1)), (13, .d (cB.enc x53.2.1)), (14, .d (cB.enc x53.2.2)), (15, .d ((cLo (cXVariable cS cI)).enc x57))] (by kernel_rfl) <|
    xn <| wpC_seq <| reg_s <| st rfl <| mvd rfl rfl <| bnd h fun x61 e62 h => st rfl <| o_call (a1 (c := (cLs (cXEdit (cLs cI rfl)) rfl)) (tLs (tXEdit (tLs tK))) rfl a0) (con_laws_toEditS e62) (.inl (so1 (sLo (sXEdit (sLo sK))) so0)) <| x_asg (so rfl rfl) <| seqN [(0, .d ((cLs (cXVariable cS cI) rfl).enc v0)), (1, .d ((cLs (cXEdit (cLs cI rfl)) rfl).enc v1)), (2, .d ((cLs cI rfl).enc v2)), (3, .d ((cLs cI rfl).enc v3)), (4, .d ((cLs cI rfl).enc v4)), (12, .d ((cLo cI).enc x53.1)), (13, .d (cB.enc x53.2.1)), (14, .d (cB.enc x53.2.2)), (15, .d ((cLo (cXVariable cS cI)).enc x57)), (16, .d ((cLo (cXEdit (cLo cI))).enc x61))] (by kernel_rfl) <|
    xn <| wpC_seq <| reg_s <| st rfl <| mvd rfl rfl <| bnd h fun x65 e66 h => st rfl <| o_call (a1 (c := (cLs cI rfl)) (tLs tK) rfl a0) (con_laws_toIntS e66) (.inl (so1 (sLo sK) so0)) <| x_asg (so rfl rfl) <| seqN [(0, .d ((cLs (cXVariable cS cI) rfl).enc v0)), (1, .d ((cLs (cXEdit (cLs cI rfl)) rfl).enc v1)), (2, .d ((cLs cI rfl).enc v2)), (3, .d ((cLs cI rfl).enc v3)), (4, .d ((cLs cI rfl).enc v4)), (12, .d ((cLo cI).enc x53.1)), (13, .d (cB.enc x53.2.1)), (14, .d (cB.enc x53.2.2)), (15, .d ((cLo (cXVariable cS cI)).enc x57)), (16, .d ((cLo (cXEdit (cLo cI))).enc x61)), (17, .d ((cLo cI).enc x65))] (by kernel_rfl) <|
    xn <| wpC_seq <| reg_s <| st rfl <| mvd rfl rfl <| bnd h fun x69 e70 h => st rfl <| o_call (a1 (c := (cLs cI rfl)) (tLs tK) rfl a0) (con_laws_toIntS e70) (.inl (so1 (sLo sK) so0)) <| x_asg (so rfl rfl) <| seqN [(0, .d ((cLs (cXVariable cS cI) rfl).enc v0)), (1, .d ((cLs (cXEdit (cLs cI rfl)) rfl).enc v1)), (2, .d ((cLs cI rfl).enc v2)), (3, .d ((cLs cI rfl).enc v3)), (4, .d ((cLs cI rfl).enc v4)), (12, .d ((cLo cI).enc x53.1)), (13, .d (cB.enc x53.2.1)), (14, .d (cB.enc x53.2.2)), (15, .d ((cLo (cXVariable cS cI)).enc x57)), (16, .d ((cLo (cXEdit (cLo cI))).enc x61)), (17, .d ((cLo cI).enc x65)), (18, .d ((cLo cI).enc x69))] (by kernel_rfl) <|
    xn <| wpC_seq <| reg_s <| st rfl <| mvd rfl rfl <| bnd h fun x73 e74 h => st rfl <| o_call (a1 (c := (cLs cI rfl)) (tLs tK) rfl a0) (con_laws_toIntS e74) (.inl (so1 (sLo sK) so0)) <| x_asg (so rfl rfl) <| seqN [(0, .d ((cLs (cXVariable cS cI) rfl).enc v0)), (1, .d ((cLs (cXEdit (cLs cI rfl)) rfl).enc v1)), (2, .d ((cLs cI rfl).enc v2)), (3, .d ((cLs cI rfl).enc v3)), (4, .d ((cLs cI rfl).enc v4)), (12, .d ((cLo cI).enc x53.1)), (13, .d (cB.enc x53.2.1)), (14, .d (cB.enc x53.2.2)), (15, .d ((cLo (cXVariable cS cI)).enc x57)), (16, .d ((cLo (cXEdit (cLo cI))).enc x61)), (17, .d ((cLo cI).enc x65)), (18, .d ((cLo cI).enc x69)), (19, .d ((cLo cI).enc x73))] (by kernel_rfl) <|
    xn <| wpC_seq <| reg_s <| st rfl <| mvo rfl rfl <| st rfl <| mvo rfl rfl <| st rfl <| mvo rfl rfl <| st rfl <| mvo rfl rfl <| st rfl <| mvo rfl rfl <| bnd h fun x77 e78 h => st rfl <| o_call (a1 (c := (cLo (cXVariable cS cI))) (tLo (tXVariable tS tK)) rfl (a1 (c := (cLo (cXEdit (cLo cI)))) (tLo (tXEdit (tLo tK))) rfl (a1 (c := (cLo cI)) (tLo tK) rfl (a1 (c := (cLo cI)) (tLo tK) rfl (a1 (c := (cLo cI)) (tLo tK) rfl a0))))) (con_impl_DonorMend e78) (.inl (so1 (sLo sK) (so1 sB (so1 sB so0)))) <| x_mvt rfl <| x_ext rfl rfl <| x_ext rfl rfl <| x_ext rfl rfl <| x_asg (so rfl rfl) <| x_asg (ss rfl rfl) <| x_asg (ss rfl rfl) <| seqN [(0, .d ((cLs (cXVariable cS cI) rfl).enc v0)), (1, .d ((cLs (cXEdit (cLs cI rfl)) rfl).enc v1)), (2, .d ((cLs cI rfl).enc v2)), (3, .d ((cLs cI rfl).enc v3)), (4, .d ((cLs cI rfl).enc v4)), (12, .d ((cLo cI).enc x53.1)), (13, .d (cB.enc x53.2.1)), (14, .d (cB.enc x53.2.2)), (15, .d ((cLo (cXVariable cS cI)).enc x57)), (16, .d ((cLo (cXEdit (cLo cI))).enc x61)), (17, .d ((cLo cI).enc x65)), (18, .d ((cLo cI).enc x69)), (19, .d ((cLo cI).enc x73)), (20, .d ((cLo cI).enc x77.1)), (21, .d (cB.enc x77.2.1)), (22, .d (cB.enc x77.2.2))] (by kernel_rfl) <|
    xn <| wpC_seq <| wpC_kp <| wpC_seq <| reg_s <| st rfl <| mvo rfl rfl <| st rfl <| mvo rfl rfl <| bnd h fun x92 e93 h => st rfl <| o_call (a1 (c := (cLo cI)) (tLo tK) rfl (a1 (c := (cLo cI)) (tLo tK) rfl a0)) (con_laws_eqIntS e93) (.inl (so1 sB so0)) <| st rfl <| o_nt rfl <| st rfl <| mvd rfl rfl <| ite_k h (fun b94 h => gf rfl b94 <| gf rfl b94 <| gf rfl b94 <| st rfl <| pick1 rfl b94 (cd := cB) (v := true) rfl rfl <| st rfl <| mvd rfl rfl <| gf rfl rfl <| gf rfl rfl <| gf rfl rfl <| st rfl <| pick1 rfl rfl (cd := cB) (v := true) rfl rfl <| seqN [(0, .d ((cLs (cXVariable cS cI) rfl).enc v0)), (1, .d ((cLs (cXEdit (cLs cI rfl)) rfl).enc v1)), (2, .d ((cLs cI rfl).enc v2)), (3, .d ((cLs cI rfl).enc v3)), (4, .d ((cLs cI rfl).enc v4)), (12, .d ((cLo cI).enc x53.1)), (13, .d (cB.enc x53.2.1)), (14, .d (cB.enc x53.2.2)), (15, .d ((cLo (cXVariable cS cI)).enc x57)), (16, .d ((cLo (cXEdit (cLo cI))).enc x61)), (17, .d ((cLo cI).enc x65)), (18, .d ((cLo cI).enc x69)), (19, .d ((cLo cI).enc x73)), (20, .d ((cLo cI).enc x77.1)), (21, .d (cB.enc x77.2.1)), (22, .d (cB.enc x77.2.2)), (96, .d (cB.enc true))] (by kernel_rfl) <|
    xn <| cnd1 rfl rfl <| wpC_seq <| reg_s <| x_asg (sc cB false rfl) <| seqN [(10, .d (cB.enc false))] (by kernel_rfl) <|
    xn <| wpC_ret <| rt <| rt <| re <| fin h (r1 (ss rfl rfl) <| r0) rfl)
    (fun b94 h => gt' rfl b94 <| st rfl <| mvd rfl rfl <| gt' rfl b94 <| st rfl <| mvd rfl rfl <| gt' rfl b94 <| st rfl <| eqb1 rfl rfl <| st rfl <| pick0 rfl b94 (cd := cB) (v := (x77.2.1 != x53.2.1)) rfl rfl <| st rfl <| mvd rfl rfl <| ite_k h (fun b95 h => gf rfl b95 <| gf rfl b95 <| gf rfl b95 <| st rfl <| pick1 rfl b95 (cd := cB) (v := true) rfl rfl <| seqN [(0, .d ((cLs (cXVariable cS cI) rfl).enc v0)), (1, .d ((cLs (cXEdit (cLs cI rfl)) rfl).enc v1)), (2, .d ((cLs cI rfl).enc v2)), (3, .d ((cLs cI rfl).enc v3)), (4, .d ((cLs cI rfl).enc v4)), (12, .d ((cLo cI).enc x53.1)), (13, .d (cB.enc x53.2.1)), (14, .d (cB.enc x53.2.2)), (15, .d ((cLo (cXVariable cS cI)).enc x57)), (16, .d ((cLo (cXEdit (cLo cI))).enc x61)), (17, .d ((cLo cI).enc x65)), (18, .d ((cLo cI).enc x69)), (19, .d ((cLo cI).enc x73)), (20, .d ((cLo cI).enc x77.1)), (21, .d (cB.enc x77.2.1)), (22, .d (cB.enc x77.2.2)), (96, .d (cB.enc true))] (by kernel_rfl) <|
    xn <| cnd1 rfl rfl <| wpC_seq <| reg_s <| x_asg (sc cB false rfl) <| seqN [(10, .d (cB.enc false))] (by kernel_rfl) <|
    xn <| wpC_ret <| rt <| rt <| re <| fin h (r1 (ss rfl rfl) <| r0) rfl)
    (fun b95 h => gt' rfl b95 <| st rfl <| mvd rfl rfl <| gt' rfl b95 <| st rfl <| mvd rfl rfl <| gt' rfl b95 <| st rfl <| eqb1 rfl rfl <| st rfl <| pick0 rfl b95 (cd := cB) (v := (x77.2.2 != x53.2.2)) rfl rfl <| seqN [(0, .d ((cLs (cXVariable cS cI) rfl).enc v0)), (1, .d ((cLs (cXEdit (cLs cI rfl)) rfl).enc v1)), (2, .d ((cLs cI rfl).enc v2)), (3, .d ((cLs cI rfl).enc v3)), (4, .d ((cLs cI rfl).enc v4)), (12, .d ((cLo cI).enc x53.1)), (13, .d (cB.enc x53.2.1)), (14, .d (cB.enc x53.2.2)), (15, .d ((cLo (cXVariable cS cI)).enc x57)), (16, .d ((cLo (cXEdit (cLo cI))).enc x61)), (17, .d ((cLo cI).enc x65)), (18, .d ((cLo cI).enc x69)), (19, .d ((cLo cI).enc x73)), (20, .d ((cLo cI).enc x77.1)), (21, .d (cB.enc x77.2.1)), (22, .d (cB.enc x77.2.2)), (96, .d (cB.enc (x77.2.2 != x53.2.2)))] (by kernel_rfl) <|
    xn <| cnd rfl h (fun b96 h => wpC_seq <| reg_s <| x_asg (sc cB false rfl) <| seqN [(10, .d (cB.enc false))] (by kernel_rfl) <|
    xn <| wpC_ret <| rt <| rt <| re <| fin h (r1 (ss rfl rfl) <| r0) rfl)
    (fun b96 h => wpC_skip <| kpN [(0, .d ((cLs (cXVariable cS cI) rfl).enc v0)), (1, .d ((cLs (cXEdit (cLs cI rfl)) rfl).enc v1)), (2, .d ((cLs cI rfl).enc v2)), (3, .d ((cLs cI rfl).enc v3)), (4, .d ((cLs cI rfl).enc v4)), (12, .d ((cLo cI).enc x53.1)), (13, .d (cB.enc x53.2.1)), (14, .d (cB.enc x53.2.2)), (15, .d ((cLo (cXVariable cS cI)).enc x57)), (16, .d ((cLo (cXEdit (cLo cI))).enc x61)), (17, .d ((cLo cI).enc x65)), (18, .d ((cLo cI).enc x69)), (19, .d ((cLo cI).enc x73)), (20, .d ((cLo cI).enc x77.1)), (21, .d (cB.enc x77.2.1)), (22, .d (cB.enc x77.2.2))] (by kernel_rfl) <| xn <| wpC_seq <| wpC_kp <| wpC_seq <| reg_s <| st rfl <| mvo rfl rfl <| st rfl <| mvd rfl rfl <| bnd h fun x110 e111 h => st rfl <| o_call (a1 (c := (cLs (cXVariable cS cI) rfl)) (tLs (tXVariable tS tK)) rfl a0) (con_laws_toVariableS e111) (.inl (so1 (sLo (sXVariable sS sK)) so0)) <| bnd h fun x112 e113 h => st rfl <| o_call (a1 (c := (cLo (cXVariable cS cI))) (tLo (tXVariable tS tK)) rfl (a1 (c := (cLo (cXVariable cS cI))) (tLo (tXVariable tS tK)) rfl a0)) (con_laws_eqVariableS e113) (.inl (so1 sB so0)) <| st rfl <| o_nt rfl <| seqN [(0, .d ((cLs (cXVariable cS cI) rfl).enc v0)), (1, .d ((cLs (cXEdit (cLs cI rfl)) rfl).enc v1)), (2, .d ((cLs cI rfl).enc v2)), (3, .d ((cLs cI rfl).enc v3)), (4, .d ((cLs cI rfl).enc v4)), (12, .d ((cLo cI).enc x53.1)), (13, .d (cB.enc x53.2.1)), (14, .d (cB.enc x53.2.2)), (15, .d ((cLo (cXVariable cS cI)).enc x57)), (16, .d ((cLo (cXEdit (cLo cI))).enc x61)), (17, .d ((cLo cI).enc x65)), (18, .d ((cLo cI).enc x69)), (19, .d ((cLo cI).enc x73)), (20, .d ((cLo cI).enc x77.1)), (21, .d (cB.enc x77.2.1)), (22, .d (cB.enc x77.2.2)), (101, .d (cB.enc (!x112)))] (by kernel_rfl) <|
    xn <| cnd rfl h (fun b114 h => wpC_seq <| reg_s <| x_asg (sc cB false rfl) <| seqN [(10, .d (cB.enc false))] (by kernel_rfl) <|
    xn <| wpC_ret <| rt <| rt <| re <| fin h (r1 (ss rfl rfl) <| r0) rfl)
    (fun b114 h => wpC_skip <| kpN [(0, .d ((cLs (cXVariable cS cI) rfl).enc v0)), (1, .d ((cLs (cXEdit (cLs cI rfl)) rfl).enc v1)), (2, .d ((cLs cI rfl).enc v2)), (3, .d ((cLs cI rfl).enc v3)), (4, .d ((cLs cI rfl).enc v4)), (12, .d ((cLo cI).enc x53.1)), (13, .d (cB.enc x53.2.1)), (14, .d (cB.enc x53.2.2)), (15, .d ((cLo (cXVariable cS cI)).enc x57)), (16, .d ((cLo (cXEdit (cLo cI))).enc x61)), (17, .d ((cLo cI).enc x65)), (18, .d ((cLo cI).enc x69)), (19, .d ((cLo cI).enc x73)), (20, .d ((cLo cI).enc x77.1)), (21, .d (cB.enc x77.2.1)), (22, .d (cB.enc x77.2.2))] (by kernel_rfl) <| xn <| wpC_seq <| wpC_kp <| wpC_seq <| reg_s <| st rfl <| mvo rfl rfl <| st rfl <| mvd rfl rfl <| bnd h fun x128 e129 h => st rfl <| o_call (a1 (c := (cLs (cXEdit (cLs cI rfl)) rfl)) (tLs (tXEdit (tLs tK))) rfl a0) (con_laws_toEditS e129) (.inl (so1 (sLo (sXEdit (sLo sK))) so0)) <| bnd h fun x130 e131 h => st rfl <| o_call (a1 (c := (cLo (cXEdit (cLo cI)))) (tLo (tXEdit (tLo tK))) rfl (a1 (c := (cLo (cXEdit (cLo cI)))) (tLo (tXEdit (tLo tK))) rfl a0)) (con_laws_eqEditS e131) (.inl (so1 sB so0)) <| st rfl <| o_nt rfl <| seqN [(0, .d ((cLs (cXVariable cS cI) rfl).enc v0)), (1, .d ((cLs (cXEdit (cLs cI rfl)) rfl).enc v1)), (2, .d ((cLs cI rfl).enc v2)), (3, .d ((cLs cI rfl).enc v3)), (4, .d ((cLs cI rfl).enc v4)), (12, .d ((cLo cI).enc x53.1)), (13, .d (cB.enc x53.2.1)), (14, .d (cB.enc x53.2.2)), (15, .d ((cLo (cXVariable cS cI)).enc x57)), (16, .d ((cLo (cXEdit (cLo cI))).enc x61)), (17, .d ((cLo cI).enc x65)), (18, .d ((cLo cI).enc x69)), (19, .d ((cLo cI).enc x73)), (20, .d ((cLo cI).enc x77.1)), (21, .d (cB.enc x77.2.1)), (22, .d (cB.enc x77.2.2)), (106, .d (cB.enc (!x130)))] (by kernel_rfl) <|
    xn <| cnd rfl h (fun b132 h => wpC_seq <| reg_s <| x_asg (sc cB false rfl) <| seqN [(10, .d (cB.enc false))] (by kernel_rfl) <|
    xn <| wpC_ret <| rt <| rt <| re <| fin h (r1 (ss rfl rfl) <| r0) rfl)
    (fun b132 h => wpC_skip <| kpN [(0, .d ((cLs (cXVariable cS cI) rfl).enc v0)), (1, .d ((cLs (cXEdit (cLs cI rfl)) rfl).enc v1)), (2, .d ((cLs cI rfl).enc v2)), (3, .d ((cLs cI rfl).enc v3)), (4, .d ((cLs cI rfl).enc v4)), (12, .d ((cLo cI).enc x53.1)), (13, .d (cB.enc x53.2.1)), (14, .d (cB.enc x53.2.2)), (15, .d ((cLo (cXVariable cS cI)).enc x57)), (16, .d ((cLo (cXEdit (cLo cI))).enc x61)), (17, .d ((cLo cI).enc x65)), (18, .d ((cLo cI).enc x69)), (19, .d ((cLo cI).enc x73)), (20, .d ((cLo cI).enc x77.1)), (21, .d (cB.enc x77.2.1)), (22, .d (cB.enc x77.2.2))] (by kernel_rfl) <| xn <| wpC_seq <| wpC_kp <| wpC_seq <| reg_s <| st rfl <| mvo rfl rfl <| st rfl <| mvd rfl rfl <| bnd h fun x146 e147 h => st rfl <| o_call (a1 (c := (cLs cI rfl)) (tLs tK) rfl a0) (con_laws_toIntS e147) (.inl (so1 (sLo sK) so0)) <| bnd h fun x148 e149 h => st rfl <| o_call (a1 (c := (cLo cI)) (tLo tK) rfl (a1 (c := (cLo cI)) (tLo tK) rfl a0)) (con_laws_eqIntS e149) (.inl (so1 sB so0)) <| st rfl <| o_nt rfl <| seqN [(0, .d ((cLs (cXVariable cS cI) rfl).enc v0)), (1, .d ((cLs (cXEdit (cLs cI rfl)) rfl).enc v1)), (2, .d ((cLs cI rfl).enc v2)), (3, .d ((cLs cI rfl).enc v3)), (4, .d ((cLs cI rfl).enc v4)), (12, .d ((cLo cI).enc x53.1)), (13, .d (cB.enc x53.2.1)), (14, .d (cB.enc x53.2.2)), (15, .d ((cLo (cXVariable cS cI)).enc x57)), (16, .d ((cLo (cXEdit (cLo cI))).enc x61)), (17, .d ((cLo cI).enc x65)), (18, .d ((cLo cI).enc x69)), (19, .d ((cLo cI).enc x73)), (20, .d ((cLo cI).enc x77.1)), (21, .d (cB.enc x77.2.1)), (22, .d (cB.enc x77.2.2)), (111, .d (cB.enc (!x148)))] (by kernel_rfl) <|
    xn <| cnd rfl h (fun b150 h => wpC_seq <| reg_s <| x_asg (sc cB false rfl) <| seqN [(10, .d (cB.enc false))] (by kernel_rfl) <|
    xn <| wpC_ret <| rt <| rt <| re <| fin h (r1 (ss rfl rfl) <| r0) rfl)
    (fun b150 h => wpC_skip <| kpN [(0, .d ((cLs (cXVariable cS cI) rfl).enc v0)), (1, .d ((cLs (cXEdit (cLs cI rfl)) rfl).enc v1)), (2, .d ((cLs cI rfl).enc v2)), (3, .d ((cLs cI rfl).enc v3)), (4, .d ((cLs cI rfl).enc v4)), (12, .d ((cLo cI).enc x53.1)), (13, .d (cB.enc x53.2.1)), (14, .d (cB.enc x53.2.2)), (15, .d ((cLo (cXVariable cS cI)).enc x57)), (16, .d ((cLo (cXEdit (cLo cI))).enc x61)), (17, .d ((cLo cI).enc x65)), (18, .d ((cLo cI).enc x69)), (19, .d ((cLo cI).enc x73)), (20, .d ((cLo cI).enc x77.1)), (21, .d (cB.enc x77.2.1)), (22, .d (cB.enc x77.2.2))] (by kernel_rfl) <| xn <| wpC_seq <| wpC_kp <| wpC_seq <| reg_s <| st rfl <| mvo rfl rfl <| st rfl <| mvd rfl rfl <| bnd h fun x164 e165 h => st rfl <| o_call (a1 (c := (cLs cI rfl)) (tLs tK) rfl a0) (con_laws_toIntS e165) (.inl (so1 (sLo sK) so0)) <| bnd h fun x166 e167 h => st rfl <| o_call (a1 (c := (cLo cI)) (tLo tK) rfl (a1 (c := (cLo cI)) (tLo tK) rfl a0)) (con_laws_eqIntS e167) (.inl (so1 sB so0)) <| st rfl <| o_nt rfl <| seqN [(0, .d ((cLs (cXVariable cS cI) rfl).enc v0)), (1, .d ((cLs (cXEdit (cLs cI rfl)) rfl).enc v1)), (2, .d ((cLs cI rfl).enc v2)), (3, .d ((cLs cI rfl).enc v3)), (4, .d ((cLs cI rfl).enc v4)), (12, .d ((cLo cI).enc x53.1)), (13, .d (cB.enc x53.2.1)), (14, .d (cB.enc x53.2.2)), (15, .d ((cLo (cXVariable cS cI)).enc x57)), (16, .d ((cLo (cXEdit (cLo cI))).enc x61)), (17, .d ((cLo cI).enc x65)), (18, .d ((cLo cI).enc x69)), (19, .d ((cLo cI).enc x73)), (20, .d ((cLo cI).enc x77.1)), (21, .d (cB.enc x77.2.1)), (22, .d (cB.enc x77.2.2)), (116, .d (cB.enc (!x166)))] (by kernel_rfl) <|
    xn <| cnd rfl h (fun b168 h => wpC_seq <| reg_s <| x_asg (sc cB false rfl) <| seqN [(10, .d (cB.enc false))] (by kernel_rfl) <|
    xn <| wpC_ret <| rt <| rt <| re <| fin h (r1 (ss rfl rfl) <| r0) rfl)
    (fun b168 h => wpC_skip <| kpN [(0, .d ((cLs (cXVariable cS cI) rfl).enc v0)), (1, .d ((cLs (cXEdit (cLs cI rfl)) rfl).enc v1)), (2, .d ((cLs cI rfl).enc v2)), (3, .d ((cLs cI rfl).enc v3)), (4, .d ((cLs cI rfl).enc v4)), (12, .d ((cLo cI).enc x53.1)), (13, .d (cB.enc x53.2.1)), (14, .d (cB.enc x53.2.2)), (15, .d ((cLo (cXVariable cS cI)).enc x57)), (16, .d ((cLo (cXEdit (cLo cI))).enc x61)), (17, .d ((cLo cI).enc x65)), (18, .d ((cLo cI).enc x69)), (19, .d ((cLo cI).enc x73)), (20, .d ((cLo cI).enc x77.1)), (21, .d (cB.enc x77.2.1)), (22, .d (cB.enc x77.2.2))] (by kernel_rfl) <| xn <| wpC_seq <| wpC_kp <| wpC_seq <| reg_s <| st rfl <| mvo rfl rfl <| st rfl <| mvd rfl rfl <| bnd h fun x182 e183 h => st rfl <| o_call (a1 (c := (cLs cI rfl)) (tLs tK) rfl a0) (con_laws_toIntS e183) (.inl (so1 (sLo sK) so0)) <| bnd h fun x184 e185 h => st rfl <| o_call (a1 (c := (cLo cI)) (tLo tK) rfl (a1 (c := (cLo cI)) (tLo tK) rfl a0)) (con_laws_eqIntS e185) (.inl (so1 sB so0)) <| st rfl <| o_nt rfl <| seqN [(0, .d ((cLs (cXVariable cS cI) rfl).enc v0)), (1, .d ((cLs (cXEdit (cLs cI rfl)) rfl).enc v1)), (2, .d ((cLs cI rfl).enc v2)), (3, .d ((cLs cI rfl).enc v3)), (4, .d ((cLs cI rfl).enc v4)), (12, .d ((cLo cI).enc x53.1)), (13, .d (cB.enc x53.2.1)), (14, .d (cB.enc x53.2.2)), (15, .d ((cLo (cXVariable cS cI)).enc x57)), (16, .d ((cLo (cXEdit (cLo cI))).enc x61)), (17, .d ((cLo cI).enc x65)), (18, .d ((cLo cI).enc x69)), (19, .d ((cLo cI).enc x73)), (20, .d ((cLo cI).enc x77.1)), (21, .d (cB.enc x77.2.1)), (22, .d (cB.enc x77.2.2)), (121, .d (cB.enc (!x184)))] (by kernel_rfl) <|
    xn <| cnd rfl h (fun b186 h => wpC_seq <| reg_s <| x_asg (sc cB false rfl) <| seqN [(10, .d (cB.enc false))] (by kernel_rfl) <|
    xn <| wpC_ret <| rt <| rt <| re <| fin h (r1 (ss rfl rfl) <| r0) rfl)
    (fun b186 h => wpC_skip <| kpN [(0, .d ((cLs (cXVariable cS cI) rfl).enc v0)), (1, .d ((cLs (cXEdit (cLs cI rfl)) rfl).enc v1)), (2, .d ((cLs cI rfl).enc v2)), (3, .d ((cLs cI rfl).enc v3)), (4, .d ((cLs cI rfl).enc v4)), (12, .d ((cLo cI).enc x53.1)), (13, .d (cB.enc x53.2.1)), (14, .d (cB.enc x53.2.2)), (15, .d ((cLo (cXVariable cS cI)).enc x57)), (16, .d ((cLo (cXEdit (cLo cI))).enc x61)), (17, .d ((cLo cI).enc x65)), (18, .d ((cLo cI).enc x69)), (19, .d ((cLo cI).enc x73)), (20, .d ((cLo cI).enc x77.1)), (21, .d (cB.enc x77.2.1)), (22, .d (cB.enc x77.2.2))] (by kernel_rfl) <| xn <| wpC_seq <| reg_s <| x_asg (sc cI (1 : Int) rfl) <| seqN [(0, .d ((cLs (cXVariable cS cI) rfl).enc v0)), (1, .d ((cLs (cXEdit (cLs cI rfl)) rfl).enc v1)), (2, .d ((cLs cI rfl).enc v2)), (3, .d ((cLs cI rfl).enc v3)), (4, .d ((cLs cI rfl).enc v4)), (12, .d ((cLo cI).enc x53.1)), (13, .d (cB.enc x53.2.1)), (14, .d (cB.enc x53.2.2)), (15, .d ((cLo (cXVariable cS cI)).enc x57)), (16, .d ((cLo (cXEdit (cLo cI))).enc x61)), (17, .d ((cLo cI).enc x65)), (18, .d ((cLo cI).enc x69)), (19, .d ((cLo cI).enc x73)), (20, .d ((cLo cI).enc x77.1)), (21, .d (cB.enc x77.2.1)), (22, .d (cB.enc x77.2.2)), (23, .d (cI.enc (1 : Int)))] (by kernel_rfl) <|
    xn <| wpC_seq <| reg_s <| st rfl <| mvo rfl rfl <| st rfl <| mvd rfl rfl <| bnd h fun x189 e190 h => x_clr (c := (cLo (cXVariable cS cI))) (c' := (cLo (cXVariable cS cI))) ((cLo (cXVariable cS cI)).enc x189.1) (sLo (sXVariable sS sK)) rfl (a1 (c := cI) tK rfl a0) rfl Ln.nil (con_laws_markVariableS e190) rfl rfl (so1 sK so0) <| x_asg (ss rfl rfl) <| seqN [(0, .d ((cLs (cXVariable cS cI) rfl).enc v0)), (1, .d ((cLs (cXEdit (cLs cI rfl)) rfl).enc v1)), (2, .d ((cLs cI rfl).enc v2)), (3, .d ((cLs cI rfl).enc v3)), (4, .d ((cLs cI rfl).enc v4)), (12, .d ((cLo cI).enc x53.1)), (13, .d (cB.enc x53.2.1)), (14, .d (cB.enc x53.2.2)), (16, .d ((cLo (cXEdit (cLo cI))).enc x61)), (17, .d ((cLo cI).enc x65)), (18, .d ((cLo cI).enc x69)), (19, .d ((cLo cI).enc x73)), (20, .d ((cLo cI).enc x77.1)), (21, .d (cB.enc x77.2.1)), (22, .d (cB.enc x77.2.2)), (23, .d (cI.enc x189.2))] (by kernel_rfl) <|
    xn <| wpC_seq <| reg_s <| st rfl <| mvo rfl rfl <| st rfl <| mvd rfl rfl <| bnd h fun x193 e194 h => x_clr (c := (cLo (cXEdit (cLo cI)))) (c' := (cLo (cXEdit (cLo cI)))) ((cLo (cXEdit (cLo cI))).enc x193.1) (sLo (sXEdit (sLo sK))) rfl (a1 (c := cI) tK rfl a0) rfl Ln.nil (con_laws_markEditS e194) rfl rfl (so1 sK so0) <| x_asg (ss rfl rfl) <| seqN [(0, .d ((cLs (cXVariable cS cI) rfl).enc v0)), (1, .d ((cLs (cXEdit (cLs cI rfl)) rfl).enc v1)), (2, .d ((cLs cI rfl).enc v2)), (3, .d ((cLs cI rfl).enc v3)), (4, .d ((cLs cI rfl).enc v4)), (12, .d ((cLo cI).enc x53.1)), (13, .d (cB.enc x53.2.1)), (14, .d (cB.enc x53.2.2)), (17, .d ((cLo cI).enc x65)), (18, .d ((cLo cI).enc x69)), (19, .d ((cLo cI).enc x73)), (20, .d ((cLo cI).enc x77.1)), (21, .d (cB.enc x77.2.1)), (22, .d (cB.enc x77.2.2)), (23, .d (cI.enc x193.2))] (by kernel_rfl) <|
    xn <| wpC_seq <| reg_s <| st rfl <| mvo rfl rfl <| st rfl <| mvd rfl rfl <| bnd h fun x197 e198 h => x_clr (c := (cLo cI)) (c' := (cLo cI)) ((cLo cI).enc x197.1) (sLo sK) rfl (a1 (c := cI) tK rfl a0) rfl Ln.nil (con_laws_markIntS e198) rfl rfl (so1 sK so0) <| x_asg (ss rfl rfl) <| seqN [(0, .d ((cLs (cXVariable cS cI) rfl).enc v0)), (1, .d ((cLs (cXEdit (cLs cI rfl)) rfl).enc v1)), (2, .d ((cLs cI rfl).enc v2)), (3, .d ((cLs cI rfl).enc v3)), (4, .d ((cLs cI rfl).enc v4)), (12, .d ((cLo cI).enc x53.1)), (13, .d (cB.enc x53.2.1)), (14, .d (cB.enc x53.2.2)), (18, .d ((cLo cI).enc x69)), (19, .d ((cLo cI).enc x73)), (20, .d ((cLo cI).enc x77.1)), (21, .d (cB.enc x77.2.1)), (22, .d (cB.enc x77.2.2)), (23, .d (cI.enc x197.2))] (by kernel_rfl) <|
    xn <| wpC_seq <| reg_s <| st rfl <| mvo rfl rfl <| st rfl <| mvd rfl rfl <| bnd h fun x201 e202 h => x_clr (c := (cLo cI)) (c' := (cLo cI)) ((cLo cI).enc x201.1) (sLo sK) rfl (a1 (c := cI) tK rfl a0) rfl Ln.nil (con_laws_markIntS e202) rfl rfl (so1 sK so0) <| x_asg (ss rfl rfl) <| seqN [(0, .d ((cLs (cXVariable cS cI) rfl).enc v0)), (1, .d ((cLs (cXEdit (cLs cI rfl)) rfl).enc v1)), (2, .d ((cLs cI rfl).enc v2)), (3, .d ((cLs cI rfl).enc v3)), (4, .d ((cLs cI rfl).enc v4)), (12, .d ((cLo cI).enc x53.1)), (13, .d (cB.enc x53.2.1)), (14, .d (cB.enc x53.2.2)), (19, .d ((cLo cI).enc x73)), (20, .d ((cLo cI).enc x77.1)), (21, .d (cB.enc x77.2.1)), (22, .d (cB.enc x77.2.2)), (23, .d (cI.enc x201.2))] (by kernel_rfl) <|
    xn <| wpC_seq <| reg_s <| st rfl <| mvo rfl rfl <| st rfl <| mvd rfl rfl <| bnd h fun x205 e206 h => x_clr (c := (cLo cI)) (c' := (cLo cI)) ((cLo cI).enc x205.1) (sLo sK) rfl (a1 (c := cI) tK rfl a0) rfl Ln.nil (con_laws_markIntS e206) rfl rfl (so1 sK so0) <| x_asg (ss rfl rfl) <| seqN [(0, .d ((cLs (cXVariable cS cI) rfl).enc v0)), (1, .d ((cLs (cXEdit (cLs cI rfl)) rfl).enc v1)), (2, .d ((cLs cI rfl).enc v2)), (3, .d ((cLs cI rfl).enc v3)), (4, .d ((cLs cI rfl).enc v4)), (12, .d ((cLo cI).enc x53.1)), (13, .d (cB.enc x53.2.1)), (14, .d (cB.enc x53.2.2)), (20, .d ((cLo cI).enc x77.1)), (21, .d (cB.enc x77.2.1)), (22, .d (cB.enc x77.2.2)), (23, .d (cI.enc x205.2))] (by kernel_rfl) <|
    xn <| wpC_seq <| wpC_kp <| wpC_seq <| reg_s <| st rfl <| mvd rfl rfl <| st rfl <| b_lss (k := .i64) rfl rfl <| st rfl <| mvd rfl rfl <| ite_k h (fun b219 h => gf rfl b219 <| gf rfl b219 <| gf rfl b219 <| gf rfl b219 <| st rfl <| pick1 rfl b219 (cd := cB) (v := true) rfl rfl <| st rfl <| mvd rfl rfl <| gf rfl rfl <| gf rfl rfl <| gf rfl rfl <| st rfl <| pick1 rfl rfl (cd := cB) (v := true) rfl rfl <| st rfl <| mvd rfl rfl <| gf rfl rfl <| gf rfl rfl <| gf rfl rfl <| st rfl <| pick1 rfl rfl (cd := cB) (v := true) rfl rfl <| seqN [(0, .d ((cLs (cXVariable cS cI) rfl).enc v0)), (1, .d ((cLs (cXEdit (cLs cI rfl)) rfl).enc v1)), (2, .d ((cLs cI rfl).enc v2)), (3, .d ((cLs cI rfl).enc v3)), (4, .d ((cLs cI rfl).enc v4)), (12, .d ((cLo cI).enc x53.1)), (13, .d (cB.enc x53.2.1)), (14, .d (cB.enc x53.2.2)), (20, .d ((cLo cI).enc x77.1)), (154, .d (cB.enc true))] (by kernel_rfl) <|
    xn <| cnd1 rfl rfl <| wpC_seq <| reg_s <| x_asg (sc cB false rfl) <| seqN [(10, .d (cB.enc false))] (by kernel_rfl) <|
    xn <| wpC_ret <| rt <| rt <| re <| fin h (r1 (ss rfl rfl) <| r0) rfl)
    (fun b219 h => gt' rfl b219 <| st rfl <| mvo rfl rfl <| gt' rfl b219 <| st rfl <| mvo rfl rfl <| gt' rfl b219 <| bnd h fun x220 e221 h => st rfl <| o_call (a1 (c := (cLo cI)) (tLo tK) rfl (a1 (c := (cLo cI)) (tLo tK) rfl a0)) (con_laws_eqIntS e221) (.inl (so1 sB so0)) <| gt' rfl b219 <| st rfl <| o_nt rfl <| st rfl <| pick0 rfl b219 (cd := cB) (v := (!x220)) rfl rfl <| st rfl <| mvd rfl rfl <| ite_k h (fun b222 h => gf rfl b222 <| gf rfl b222 <| gf rfl b222 <| st rfl <| pick1 rfl b222 (cd := cB) (v := true) rfl rfl <| st rfl <| mvd rfl rfl <| gf rfl rfl <| gf rfl rfl <| gf rfl rfl <| st rfl <| pick1 rfl rfl (cd := cB) (v := true) rfl rfl <| seqN [(0, .d ((cLs (cXVariable cS cI) rfl).enc v0)), (1, .d ((cLs (cXEdit (cLs cI rfl)) rfl).enc v1)), (2, .d ((cLs cI rfl).enc v2)), (3, .d ((cLs cI rfl).enc v3)), (4, .d ((cLs cI rfl).enc v4)), (12, .d ((cLo cI).enc x53.1)), (13, .d (cB.enc x53.2.1)), (14, .d (cB.enc x53.2.2)), (20, .d ((cLo cI).enc x77.1)), (154, .d (cB.enc true))] (by kernel_rfl) <|
    xn <| cnd1 rfl rfl <| wpC_seq <| reg_s <| x_asg (sc cB false rfl) <| seqN [(10, .d (cB.enc false))] (by kernel_rfl) <|
    xn <| wpC_ret <| rt <| rt <| re <| fin h (r1 (ss rfl rfl) <| r0) rfl)
    (fun b222 h => gt' rfl b222 <| st rfl <| mvd rfl rfl <| gt' rfl b222 <| st rfl <| mvd rfl rfl <| gt' rfl b222 <| st rfl <| eqb1 rfl rfl <| st rfl <| pick0 rfl b222 (cd := cB) (v := (x77.2.1 != x53.2.1)) rfl rfl <| st rfl <| mvd rfl rfl <| gt' rfl b95 <| st rfl <| mvd rfl rfl <| gt' rfl b95 <| st rfl <| mvd rfl rfl <| gt' rfl b95 <| st rfl <| eqb1 rfl rfl <| st rfl <| pick0 rfl b95 (cd := cB) (v := (x77.2.2 != x53.2.2)) rfl rfl <| seqN [(0, .d ((cLs (cXVariable cS cI) rfl).enc v0)), (1, .d ((cLs (cXEdit (cLs cI rfl)) rfl).enc v1)), (2, .d ((cLs cI rfl).enc v2)), (3, .d ((cLs cI rfl).enc v3)), (4, .d ((cLs cI rfl).enc v4)), (12, .d ((cLo cI).enc x53.1)), (13, .d (cB.enc x53.2.1)), (14, .d (cB.enc x53.2.2)), (20, .d ((cLo cI).enc x77.1)), (154, .d (cB.enc (x77.2.2 != x53.2.2)))] (by kernel_rfl) <|
    xn <| cnd0 rfl b96 <| wpC_skip <| kpN [(0, .d ((cLs (cXVariable cS cI) rfl).enc v0)), (1, .d ((cLs (cXEdit (cLs cI rfl)) rfl).enc v1)), (2, .d ((cLs cI rfl).enc v2)), (3, .d ((cLs cI rfl).enc v3)), (4, .d ((cLs cI rfl).enc v4)), (12, .d ((cLo cI).enc x53.1)), (13, .d (cB.enc x53.2.1)), (14, .d (cB.enc x53.2.2)), (20, .d ((cLo cI).enc x77.1))] (by kernel_rfl) <| xn <| wpC_seq <| reg_s <| x_asg (sc cI (1 : Int) rfl) <| seqN [(0, .d ((cLs (cXVariable cS cI) rfl).enc v0)), (1, .d ((cLs (cXEdit (cLs cI rfl)) rfl).enc v1)), (2, .d ((cLs cI rfl).enc v2)), (3, .d ((cLs cI rfl).enc v3)), (4, .d ((cLs cI rfl).enc v4)), (12, .d ((cLo cI).enc x53.1)), (13, .d (cB.enc x53.2.1)), (14, .d (cB.enc x53.2.2)), (20, .d ((cLo cI).enc x77.1)), (24, .d (cI.enc (1 : Int)))] (by kernel_rfl) <|
    xn <| wpC_seq <| reg_s <| st rfl <| mvo rfl rfl <| st rfl <| mvd rfl rfl <| bnd h fun x225 e226 h => x_clr (c := (cLo cI)) (c' := (cLo cI)) ((cLo cI).enc x225.1) (sLo sK) rfl (a1 (c := cI) tK rfl a0) rfl Ln.nil (con_laws_markIntS e226) rfl rfl (so1 sK so0) <| x_asg (ss rfl rfl) <| seqN [(0, .d ((cLs (cXVariable cS cI) rfl).enc v0)), (1, .d ((cLs (cXEdit (cLs cI rfl)) rfl).enc v1)), (2, .d ((cLs cI rfl).enc v2)), (3, .d ((cLs cI rfl).enc v3)), (4, .d ((cLs cI rfl).enc v4)), (12, .d ((cLo cI).enc x53.1)), (13, .d (cB.enc x53.2.1)), (14, .d (cB.enc x53.2.2)), (20, .d ((cLo cI).enc x225.1)), (24, .d (cI.enc x225.2))] (by kernel_rfl) <|
    xn <| wpC_seq <| reg_s <| x_asg (sc cI (1 : Int) rfl) <| seqN [(0, .d ((cLs (cXVariable cS cI) rfl).enc v0)), (1, .d ((cLs (cXEdit (cLs cI rfl)) rfl).enc v1)), (2, .d ((cLs cI rfl).enc v2)), (3, .d ((cLs cI rfl).enc v3)), (4, .d ((cLs cI rfl).enc v4)), (12, .d ((cLo cI).enc x53.1)), (13, .d (cB.enc x53.2.1)), (14, .d (cB.enc x53.2.2)), (20, .d ((cLo cI).enc x225.1)), (24, .d (cI.enc x225.2)), (25, .d (cI.enc (1 : Int)))] (by kernel_rfl) <|
    xn <| wpC_seq <| reg_s <| st rfl <| mvo rfl rfl <| st rfl <| mvd rfl rfl <| bnd h fun x229 e230 h => st rfl <| o_call (a1 (c := (cLo cI)) (tLo tK) rfl (a1 (c := cI) tK rfl a0)) (con_laws_heldIntS e230) (.inl (so1 sK so0)) <| x_asg (ss rfl rfl) <| seqN [(0, .d ((cLs (cXVariable cS cI) rfl).enc v0)), (1, .d ((cLs (cXEdit (cLs cI rfl)) rfl).enc v1)), (2, .d ((cLs cI rfl).enc v2)), (3, .d ((cLs cI rfl).enc v3)), (4, .d ((cLs cI rfl).enc v4)), (12, .d ((cLo cI).enc x53.1)), (13, .d (cB.enc x53.2.1)), (14, .d (cB.enc x53.2.2)), (20, .d ((cLo cI).enc x225.1)), (24, .d (cI.enc x225.2)), (25, .d (cI.enc x229))] (by kernel_rfl) <|
    xn <| wpC_seq <| wpC_kp <| wpC_seq <| reg_s <| st rfl <| mvd rfl rfl <| st rfl <| b_lss (k := .i64) rfl rfl <| seqN [(0, .d ((cLs (cXVariable cS cI) rfl).enc v0)), (1, .d ((cLs (cXEdit (cLs cI rfl)) rfl).enc v1)), (2, .d ((cLs cI rfl).enc v2)), (3, .d ((cLs cI rfl).enc v3)), (4, .d ((cLs cI rfl).enc v4)), (12, .d ((cLo cI).enc x53.1)), (13, .d (cB.enc x53.2.1)), (14, .d (cB.enc x53.2.2)), (20, .d ((cLo cI).enc x225.1)), (24, .d (cI.enc x225.2)), (25, .d (cI.enc x229)), (162, .d (cB.enc (decide (x229 < (0 : Int)))))] (by kernel_rfl) <|
    xn <| cnd rfl h (fun b232 h => wpC_seq <| reg_s <| x_asg (sc cB false rfl) <| seqN [(10, .d (cB.enc false))] (by kernel_rfl) <|
    xn <| wpC_ret <| rt <| rt <| re <| fin h (r1 (ss rfl rfl) <| r0) rfl)
    (fun b232 h => wpC_skip <| kpN [(0, .d ((cLs (cXVariable cS cI) rfl).enc v0)), (1, .d ((cLs (cXEdit (cLs cI rfl)) rfl).enc v1)), (2, .d ((cLs cI rfl).enc v2)), (3, .d ((cLs cI rfl).enc v3)), (4, .d ((cLs cI rfl).enc v4)), (12, .d ((cLo cI).enc x53.1)), (13, .d (cB.enc x53.2.1)), (14, .d (cB.enc x53.2.2)), (20, .d ((cLo cI).enc x225.1)), (24, .d (cI.enc x225.2)), (25, .d (cI.enc x229))] (by kernel_rfl) <| xn <| wpC_seq <| wpC_kp <| wpC_seq <| reg_s <| st rfl <| mvd rfl rfl <| st rfl <| mvd rfl rfl <| st rfl <| b_neq (k := .i64) rfl rfl <| seqN [(0, .d ((cLs (cXVariable cS cI) rfl).enc v0)), (1, .d ((cLs (cXEdit (cLs cI rfl)) rfl).enc v1)), (2, .d ((cLs cI rfl).enc v2)), (3, .d ((cLs cI rfl).enc v3)), (4, .d ((cLs cI rfl).enc v4)), (12, .d ((cLo cI).enc x53.1)), (13, .d (cB.enc x53.2.1)), (14, .d (cB.enc x53.2.2)), (20, .d ((cLo cI).enc x225.1)), (24, .d (cI.enc x225.2)), (165, .d (cB.enc (decide (x229 ≠ x225.2))))] (by kernel_rfl) <|
    xn <| cnd rfl h (fun b234 h => wpC_seq <| reg_s <| x_asg (sc cB false rfl) <| seqN [(10, .d (cB.enc false))] (by kernel_rfl) <|
    xn <| wpC_ret <| rt <| rt <| re <| fin h (r1 (ss rfl rfl) <| r0) rfl)
    (fun b234 h => wpC_skip <| kpN [(0, .d ((cLs (cXVariable cS cI) rfl).enc v0)), (1, .d ((cLs (cXEdit (cLs cI rfl)) rfl).enc v1)), (2, .d ((cLs cI rfl).enc v2)), (3, .d ((cLs cI rfl).enc v3)), (4, .d ((cLs cI rfl).enc v4)), (12, .d ((cLo cI).enc x53.1)), (13, .d (cB.enc x53.2.1)), (14, .d (cB.enc x53.2.2)), (20, .d ((cLo cI).enc x225.1)), (24, .d (cI.enc x225.2))] (by kernel_rfl) <| xn <| wpC_seq <| reg_s <| st rfl <| mvd rfl rfl <| bnd h fun x247 e248 h => st rfl <| o_call (a1 (c := (cLs (cXVariable cS cI) rfl)) (tLs (tXVariable tS tK)) rfl a0) (con_laws_toVariableS e248) (.inl (so1 (sLo (sXVariable sS sK)) so0)) <| st rfl <| mvd rfl rfl <| bnd h fun x249 e250 h => st rfl <| o_call (a1 (c := (cLs (cXEdit (cLs cI rfl)) rfl)) (tLs (tXEdit (tLs tK))) rfl a0) (con_laws_toEditS e250) (.inl (so1 (sLo (sXEdit (sLo sK))) so0)) <| st rfl <| mvd rfl rfl <| bnd h fun x251 e252 h => st rfl <| o_call (a1 (c := (cLs cI rfl)) (tLs tK) rfl a0) (con_laws_toIntS e252) (.inl (so1 (sLo sK) so0)) <| st rfl <| mvd rfl rfl <| bnd h fun x253 e254 h => st rfl <| o_call (a1 (c := (cLs cI rfl)) (tLs tK) rfl a0) (con_laws_toIntS e254) (.inl (so1 (sLo sK) so0)) <| st rfl <| mvd rfl rfl <| bnd h fun x255 e256 h => st rfl <| o_call (a1 (c := (cLs cI rfl)) (tLs tK) rfl a0) (con_laws_toIntS e256) (.inl (so1 (sLo sK) so0)) <| bnd h fun x257 e258 h => st rfl <| o_call (a1 (c := (cLo (cXVariable cS cI))) (tLo (tXVariable tS tK)) rfl (a1 (c := (cLo (cXEdit (cLo cI)))) (tLo (tXEdit (tLo tK))) rfl (a1 (c := (cLo cI)) (tLo tK) rfl (a1 (c := (cLo cI)) (tLo tK) rfl (a1 (c := (cLo cI)) (tLo tK) rfl a0))))) (con_impl_DonorMend e258) (.inl (so1 (sLo sK) (so1 sB (so1 sB so0)))) <| x_mvt rfl <| x_ext rfl rfl <| x_ext rfl rfl <| x_ext rfl rfl <| x_asg (so rfl rfl) <| x_asg (ss rfl rfl) <| x_asg (ss rfl rfl) <| seqN [(12, .d ((cLo cI).enc x53.1)), (13, .d (cB.enc x53.2.1)), (14, .d (cB.enc x53.2.2)), (20, .d ((cLo cI).enc x225.1)), (24, .d (cI.enc x225.2)), (26, .d ((cLo cI).enc x257.1)), (27, .d (cB.enc x257.2.1)), (28, .d (cB.enc x257.2.2))] (by kernel_rfl) <|
    xn <| wpC_seq <| wpC_kp <| wpC_seq <| reg_s <| st rfl <| mvo rfl rfl <| st rfl <| mvo rfl rfl <| bnd h fun x272 e273 h => st rfl <| o_call (a1 (c := (cLo cI)) (tLo tK) rfl (a1 (c := (cLo cI)) (tLo tK) rfl a0)) (con_laws_eqIntS e273) (.inl (so1 sB so0)) <| st rfl <| o_nt rfl <| st rfl <| mvd rfl rfl <| ite_k h (fun b274 h => gf rfl b274 <| gf rfl b274 <| gf rfl b274 <| st rfl <| pick1 rfl b274 (cd := cB) (v := true) rfl rfl <| st rfl <| mvd rfl rfl <| gf rfl rfl <| gf rfl rfl <| gf rfl rfl <| st rfl <| pick1 rfl rfl (cd := cB) (v := true) rfl rfl <| seqN [(20, .d ((cLo cI).enc x225.1)), (24, .d (cI.enc x225.2)), (194, .d (cB.enc true))] (by kernel_rfl) <|
    xn <| cnd1 rfl rfl <| wpC_seq <| reg_s <| x_asg (sc cB false rfl) <| seqN [(10, .d (cB.enc false))] (by kernel_rfl) <|
    xn <| wpC_ret <| rt <| rt <| re <| fin h (r1 (ss rfl rfl) <| r0) rfl)
    (fun b274 h => gt' rfl b274 <| st rfl <| mvd rfl rfl <| gt' rfl b274 <| st rfl <| mvd rfl rfl <| gt' rfl b274 <| st rfl <| eqb1 rfl rfl <| st rfl <| pick0 rfl b274 (cd := cB) (v := (x257.2.1 != x53.2.1)) rfl rfl <| st rfl <| mvd rfl rfl <| ite_k h (fun b275 h => gf rfl b275 <| gf rfl b275 <| gf rfl b275 <| st rfl <| pick1 rfl b275 (cd := cB) (v := true) rfl rfl <| seqN [(20, .d ((cLo cI).enc x225.1)), (24, .d (cI.enc x225.2)), (194, .d (cB.enc true))] (by kernel_rfl) <|
    xn <| cnd1 rfl rfl <| wpC_seq <| reg_s <| x_asg (sc cB false rfl) <| seqN [(10, .d (cB.enc false))] (by kernel_rfl) <|
    xn <| wpC_ret <| rt <| rt <| re <| fin h (r1 (ss rfl rfl) <| r0) rfl)
    (fun b275 h => gt' rfl b275 <| st rfl <| mvd rfl rfl <| gt' rfl b275 <| st rfl <| mvd rfl rfl <| gt' rfl b275 <| st rfl <| eqb1 rfl rfl <| st rfl <| pick0 rfl b275 (cd := cB) (v := (x257.2.2 != x53.2.2)) rfl rfl <| seqN [(20, .d ((cLo cI).enc x225.1)), (24, .d (cI.enc x225.2)), (194, .d (cB.enc (x257.2.2 != x53.2.2)))] (by kernel_rfl) <|
    xn <| cnd rfl h (fun b276 h => wpC_seq <| reg_s <| x_asg (sc cB false rfl) <| seqN [(10, .d (cB.enc false))] (by kernel_rfl) <|
    xn <| wpC_ret <| rt <| rt <| re <| fin h (r1 (ss rfl rfl) <| r0) rfl)
    (fun b276 h => wpC_skip <| kpN [(20, .d ((cLo cI).enc x225.1)), (24, .d (cI.enc x225.2))] (by kernel_rfl) <| xn <| wpC_seq <| reg_s <| x_asg (sc cI (1 : Int) rfl) <| seqN [(20, .d ((cLo cI).enc x225.1)), (24, .d (cI.enc x225.2)), (25, .d (cI.enc (1 : Int)))] (by kernel_rfl) <|
    xn <| wpC_seq <| reg_s <| st rfl <| mvo rfl rfl <| st rfl <| mvd rfl rfl <| bnd h fun x279 e280 h => st rfl <| o_call (a1 (c := (cLo cI)) (tLo tK) rfl (a1 (c := cI) tK rfl a0)) (con_laws_heldIntS e280) (.inl (so1 sK so0)) <| x_asg (ss rfl rfl) <| seqN [(24, .d (cI.enc x225.2)), (25, .d (cI.enc x279))] (by kernel_rfl) <|
    xn <| wpC_seq <| wpC_kp <| wpC_seq <| reg_s <| st rfl <| mvd rfl rfl <| st rfl <| b_lss (k := .i64) rfl rfl <| seqN [(24, .d (cI.enc x225.2)), (25, .d (cI.enc x279)), (199, .d (cB.enc (decide (x279 < (0 : Int)))))] (by kernel_rfl) <|
    xn <| cnd rfl h (fun b282 h => wpC_seq <| reg_s <| x_asg (sc cB false rfl) <| seqN [(10, .d (cB.enc false))] (by kernel_rfl) <|
    xn <| wpC_ret <| rt <| rt <| re <| fin h (r1 (ss rfl rfl) <| r0) rfl)
    (fun b282 h => wpC_skip <| kpN [(24, .d (cI.enc x225.2)), (25, .d (cI.enc x279))] (by kernel_rfl) <| xn <| wpC_seq <| wpC_kp <| wpC_seq <| reg_s <| st rfl <| mvd rfl rfl <| st rfl <| mvd rfl rfl <| st rfl <| b_neq (k := .i64) rfl rfl <| seqN [(202, .d (cB.enc (decide (x279 ≠ x225.2))))] (by kernel_rfl) <|
    xn <| cnd rfl h (fun b284 h => wpC_seq <| reg_s <| x_asg (sc cB false rfl) <| seqN [(10, .d (cB.enc false))] (by kernel_rfl) <|
    xn <| wpC_ret <| rt <| rt <| re <| fin h (r1 (ss rfl rfl) <| r0) rfl)
    (fun b284 h => wpC_skip <| kpN [] (by kernel_rfl) <| xn <| wpC_seq <| reg_s <| x_asg (sc cB true rfl) <| seqN [(10, .d (cB.enc true))] (by kernel_rfl) <|
    xn <| wpC_ret <| re <| fin h (r1 (ss rfl rfl) <| r0) rfl))))))))))))))))))))))
end AS.W
