/- The program computes the plain functions. No condition. -/
import Derived.Test.YtdfohcbjmdniiaaQNearestDonorS
import Derived.Test.YtdfohcbjmdniiaaProg
import Derived.Test.YtdfohcbjmdniiaaQNearestDonorL1
set_option maxRecDepth 100000
set_option linter.unusedVariables false
set_option linter.unusedSimpArgs false
namespace AS.W
open Go Go.Proofs
def rs_impl_areWeights (r : Bool) : List D := [cB.enc r]
def m125 : MC := .seq (.reg [⟨some 4, .asg (.c (.bool false)), none⟩] [0, 1])
  (.seq (.kp [1] (.seq (.reg [⟨some 7, .mv (.t 1), none⟩,
    ⟨some 8, .len false (.t 7), none⟩,
    ⟨some 9, .mv (.t 0), none⟩,
    ⟨some 10, .len false (.t 9), none⟩,
    ⟨some 11, .bin .neq (.t 8) (.t 10), none⟩] [1, 11])
  (.cond (.t 11) (.seq (.reg [⟨some 4, .asg (.c (.bool false)), none⟩] [4])
  (.ret)) (.skip))))
  (.seq (.kp [] (.seq (.reg [⟨some 12, .mv (.t 1), none⟩,
    ⟨some 13, .len false (.t 12), none⟩,
    ⟨some 14, .mv (.c (.int .i64 0)), none⟩] [1, 12, 13, 14])
  (.blk 0 (.loop (.seq (.reg [⟨some 15, .bin .lss (.t 14) (.t 13), none⟩] [1, 12, 13, 14, 15])
  (.seq (.kp [1, 12, 13, 14] (.cond (.t 15) (.skip) (.exit 0)))
  (.seq (.kp [1, 12, 13, 14] (.blk 1 (.seq (.reg [⟨some 16, .ia 12 (.t 14) 1, none⟩,
    ⟨some 17, .ld 16 1 false, none⟩,
    ⟨some 6, .asg (.t 17), none⟩] [1, 6, 12, 13, 14])
  (.seq (.reg [⟨some 18, .mv (.t 6), none⟩,
    ⟨some 19, .bin .lss (.t 18) (.c (.int .i64 1)), none⟩,
    ⟨some 20, .mv (.t 19), none⟩,
    ⟨some 21, .mv (.t 6), some (20, false)⟩,
    ⟨some 22, .bin .gtr (.t 21) (.c (.int .i64 100)), some (20, false)⟩,
    ⟨some 23, .pick (.t 20) (.c (.bool true)) (.t 22), none⟩] [1, 12, 13, 14, 23])
  (.cond (.t 23) (.seq (.reg [⟨some 4, .asg (.c (.bool false)), none⟩] [4])
  (.ret)) (.skip))))))
  (.reg [⟨some 24, .bin .add (.t 14) (.c (.int .i64 1)), none⟩,
    ⟨some 14, .mv (.t 24), none⟩] [1, 12, 13, 14]))))))))
  (.seq (.reg [⟨some 4, .asg (.c (.bool true)), none⟩] [4])
  (.ret))))
theorem con_impl_areWeights {v0 : (List XVariable)} {v1 : (List Int)} {r : Bool} (h : sh_impl_areWeights v0 v1 = some r) : Con Try.prog 125 [(cLs (cXVariable cS cI) rfl).enc v0, (cLs cI rfl).enc v1] [] (rs_impl_areWeights r) := by
  delta sh_impl_areWeights at h
  refine top (out := none) (f := Try.f125) (m := m125) (rs := [.t 4]) (by kernel_rfl) rfl (by kernel_rfl) (by kernel_rfl) (by kernel_rfl) (by kernel_rfl) (by kernel_rfl) ?_
  exact
   ini [(0, .d ((cLs (cXVariable cS cI) rfl).enc v0)), (1, .d ((cLs cI rfl).enc v1))] rfl <| wpC_seq <| reg_s <| x_asg (sc cB false rfl) <| seqN [(0, .d ((cLs (cXVariable cS cI) rfl).enc v0)), (1, .d ((cLs cI rfl).enc v1))] (by kernel_rfl) <|
    xn <| wpC_seq <| wpC_kp <| wpC_seq <| reg_s <| st rfl <| mvd rfl rfl <| stw rfl <| lens rfl fun l8 => st rfl <| mvd rfl rfl <| stw rfl <| lens rfl fun l9 => st rfl <| b_neq (k := .i64) rfl rfl <| seqN [(1, .d ((cLs cI rfl).enc v1)), (11, .d (cB.enc (decide ((v1.length : Int) ≠ (v0.length : Int)))))] (by kernel_rfl) <|
    xn <| cnd rfl h (fun b10 h => wpC_seq <| reg_s <| x_asg (sc cB false rfl) <| seqN [(4, .d (cB.enc false))] (by kernel_rfl) <|
    xn <| wpC_ret <| rt <| rt <| re <| fin h (r1 (ss rfl rfl) <| r0) rfl)
    (fun b10 h => wpC_skip <| kpN [(1, .d ((cLs cI rfl).enc v1))] (by kernel_rfl) <| xn <| wpC_seq <| wpC_kp <| wpC_seq <| reg_s <| st rfl <| mvd rfl rfl <| stw rfl <| lens rfl fun l34 => st rfl <| mvc cI (0 : Int) rfl <| seqN [(1, .d ((cLs cI rfl).enc v1)), (12, .d ((cLs cI rfl).enc v1)), (13, .d (cI.enc (v1.length : Int))), (14, .d (cI.enc (0 : Int)))] (by kernel_rfl) <|
    xn <| wpC_blk <| lpR (fun (k36 : Nat) (s35 : Unit) => [(1, .d ((cLs cI rfl).enc v1)), (12, .d ((cLs cI rfl).enc v1)), (13, .d (cI.enc (v1.length : Int))), (14, .d (cI.enc (k36 : Int)))]) () rfl h
    (fun G48 s35 h => wpC_seq <| reg_s <| st rfl <| b_lss (k := .i64) rfl rfl <| seqN [(1, .d ((cLs cI rfl).enc v1)), (12, .d ((cLs cI rfl).enc v1)), (13, .d (cI.enc (v1.length : Int))), (14, .d (cI.enc (v1.length : Int))), (15, .d (cB.enc (decide ((v1.length : Int) < (v1.length : Int)))))] (by kernel_rfl) <|
    xn <| wpC_seq <| wpC_kp <| cnd0 rfl (dlf _) <| wpC_exit <| xt <| xt <| xt <| xb <| kpN [] (by kernel_rfl) <| xn <| wpC_seq <| reg_s <| x_asg (sc cB true rfl) <| seqN [(4, .d (cB.enc true))] (by kernel_rfl) <|
    xn <| wpC_ret <| re <| fin h (r1 (ss rfl rfl) <| r0) rfl)
    (fun G48 nx46 k36 s35 x37 hk38 hx39 hn47 h => wpC_seq <| reg_s <| st rfl <| b_lss (k := .i64) rfl rfl <| seqN [(1, .d ((cLs cI rfl).enc v1)), (12, .d ((cLs cI rfl).enc v1)), (13, .d (cI.enc (v1.length : Int))), (14, .d (cI.enc (k36 : Int))), (15, .d (cB.enc (decide ((k36 : Int) < (v1.length : Int)))))] (by kernel_rfl) <|
    xn <| wpC_seq <| wpC_kp <| cnd1 rfl (dlt hk38) <| wpC_skip <| kpN [(1, .d ((cLs cI rfl).enc v1)), (12, .d ((cLs cI rfl).enc v1)), (13, .d (cI.enc (v1.length : Int))), (14, .d (cI.enc (k36 : Int)))] (by kernel_rfl) <| xn <| wpC_seq <| wpC_kp <| wpC_blk <| wpC_seq <| reg_s <| st rfl <| ias rfl rfl (Int.natCast_nonneg _) hx39 rfl <| st rfl <| ldi rfl rfl rfl rfl <| x_asg (ss rfl rfl) <| seqN [(1, .d ((cLs cI rfl).enc v1)), (6, .d (cI.enc x37)), (12, .d ((cLs cI rfl).enc v1)), (13, .d (cI.enc (v1.length : Int))), (14, .d (cI.enc (k36 : Int)))] (by kernel_rfl) <|
    xn <| wpC_seq <| reg_s <| st rfl <| mvd rfl rfl <| st rfl <| b_lss (k := .i64) rfl rfl <| st rfl <| mvd rfl rfl <| ite_k h (fun b53 h => gf rfl b53 <| gf rfl b53 <| st rfl <| pick1 rfl b53 (cd := cB) (v := true) rfl rfl <| seqN [(1, .d ((cLs cI rfl).enc v1)), (12, .d ((cLs cI rfl).enc v1)), (13, .d (cI.enc (v1.length : Int))), (14, .d (cI.enc (k36 : Int))), (23, .d (cB.enc true))] (by kernel_rfl) <|
    xn <| cnd1 rfl rfl <| wpC_seq <| reg_s <| x_asg (sc cB false rfl) <| seqN [(4, .d (cB.enc false))] (by kernel_rfl) <|
    xn <| wpC_ret <| rb <| rt <| rt <| rt <| rb <| rt <| rt <| re <| fin h (r1 (ss rfl rfl) <| r0) rfl)
    (fun b53 h => gt' rfl b53 <| st rfl <| mvd rfl rfl <| gt' rfl b53 <| st rfl <| b_gtr (k := .i64) rfl rfl <| st rfl <| pick0 rfl b53 (cd := cB) (v := (decide ((100 : Int) < x37))) rfl rfl <| seqN [(1, .d ((cLs cI rfl).enc v1)), (12, .d ((cLs cI rfl).enc v1)), (13, .d (cI.enc (v1.length : Int))), (14, .d (cI.enc (k36 : Int))), (23, .d (cB.enc (decide ((100 : Int) < x37))))] (by kernel_rfl) <|
    xn <| cnd rfl h (fun b54 h => wpC_seq <| reg_s <| x_asg (sc cB false rfl) <| seqN [(4, .d (cB.enc false))] (by kernel_rfl) <|
    xn <| wpC_ret <| rb <| rt <| rt <| rt <| rb <| rt <| rt <| re <| fin h (r1 (ss rfl rfl) <| r0) rfl)
    (fun b54 h => wpC_skip <| xbb <| kpN [(1, .d ((cLs cI rfl).enc v1)), (12, .d ((cLs cI rfl).enc v1)), (13, .d (cI.enc (v1.length : Int))), (14, .d (cI.enc (k36 : Int)))] (by kernel_rfl) <| xn <| reg_s <| st rfl <| b_inc rfl rfl l34 hk38 <| st rfl <| mvd rfl rfl <| seqN [(1, .d ((cLs cI rfl).enc v1)), (12, .d ((cLs cI rfl).enc v1)), (13, .d (cI.enc (v1.length : Int))), (14, .d (cI.enc ((k36 + 1 : Nat) : Int)))] (by kernel_rfl) <|
    xn <| hn47 () h))))

def rs_impl_isMendable (r : Bool) : List D := [cB.enc r]
def m105 : MC := .seq (.reg [⟨some 6, .asg (.c (.bool false)), none⟩] [0, 1, 2])
  (.seq (.reg [⟨some 7, .mv (.t 0), none⟩,
    ⟨some 8, .call 64 [(.t 7)], none⟩,
    ⟨some 9, .mv (.t 8), none⟩,
    ⟨some 10, .mv (.t 0), some (9, true)⟩,
    ⟨some 11, .mv (.t 1), some (9, true)⟩,
    ⟨some 12, .call 71 [(.t 10), (.t 11)], some (9, true)⟩,
    ⟨some 13, .pick (.t 9) (.t 12) (.c (.bool false)), none⟩,
    ⟨some 14, .mv (.t 13), none⟩,
    ⟨some 15, .mv (.t 0), some (14, true)⟩,
    ⟨some 16, .mv (.t 2), some (14, true)⟩,
    ⟨some 17, .call 125 [(.t 15), (.t 16)], some (14, true)⟩,
    ⟨some 18, .pick (.t 14) (.t 17) (.c (.bool false)), none⟩,
    ⟨some 6, .asg (.t 18), none⟩] [6])
  (.ret))
theorem con_impl_isMendable {v0 : (List XVariable)} {v1 : (List XEdit)} {v2 : (List Int)} {r : Bool} (h : sh_impl_isMendable v0 v1 v2 = some r) : Con Try.prog 105 [(cLs (cXVariable cS cI) rfl).enc v0, (cLs (cXEdit (cLs cI rfl)) rfl).enc v1, (cLs cI rfl).enc v2] [] (rs_impl_isMendable r) := by
  delta sh_impl_isMendable at h
  refine top (out := none) (f := Try.f105) (m := m105) (rs := [.t 6]) (by kernel_rfl) rfl (by kernel_rfl) (by kernel_rfl) (by kernel_rfl) (by kernel_rfl) (by kernel_rfl) ?_
  exact
   ini [(0, .d ((cLs (cXVariable cS cI) rfl).enc v0)), (1, .d ((cLs (cXEdit (cLs cI rfl)) rfl).enc v1)), (2, .d ((cLs cI rfl).enc v2))] rfl <| wpC_seq <| reg_s <| x_asg (sc cB false rfl) <| seqN [(0, .d ((cLs (cXVariable cS cI) rfl).enc v0)), (1, .d ((cLs (cXEdit (cLs cI rfl)) rfl).enc v1)), (2, .d ((cLs cI rfl).enc v2))] (by kernel_rfl) <|
    xn <| wpC_seq <| reg_s <| st rfl <| mvd rfl rfl <| bnd h fun x9 e10 h => st rfl <| o_call (a1 (c := (cLs (cXVariable cS cI) rfl)) (tLs (tXVariable tS tK)) rfl a0) (con_impl_isSmall e10) (.inl (so1 sB so0)) <| st rfl <| mvd rfl rfl <| ite_k h (fun b11 h => gt' rfl b11 <| st rfl <| mvd rfl rfl <| gt' rfl b11 <| st rfl <| mvd rfl rfl <| gt' rfl b11 <| bnd h fun x12 e13 h => st rfl <| o_call (a1 (c := (cLs (cXVariable cS cI) rfl)) (tLs (tXVariable tS tK)) rfl (a1 (c := (cLs (cXEdit (cLs cI rfl)) rfl)) (tLs (tXEdit (tLs tK))) rfl a0)) (con_impl_areEdits e13) (.inl (so1 sB so0)) <| st rfl <| pick1 rfl b11 (cd := cB) (v := x12) rfl rfl <| st rfl <| mvd rfl rfl <| ite_k h (fun b14 h => gt' rfl b14 <| st rfl <| mvd rfl rfl <| gt' rfl b14 <| st rfl <| mvd rfl rfl <| gt' rfl b14 <| bnd h fun x15 e16 h => st rfl <| o_call (a1 (c := (cLs (cXVariable cS cI) rfl)) (tLs (tXVariable tS tK)) rfl (a1 (c := (cLs cI rfl)) (tLs tK) rfl a0)) (con_impl_areWeights e16) (.inl (so1 sB so0)) <| st rfl <| pick1 rfl b14 (cd := cB) (v := x15) rfl rfl <| x_asg (ss rfl rfl) <| seqN [(6, .d (cB.enc x15))] (by kernel_rfl) <|
    xn <| wpC_ret <| re <| fin h (r1 (ss rfl rfl) <| r0) rfl)
    (fun b14 h => gf rfl b14 <| gf rfl b14 <| gf rfl b14 <| st rfl <| pick0 rfl b14 (cd := cB) (v := false) rfl rfl <| x_asg (ss rfl rfl) <| seqN [(6, .d (cB.enc false))] (by kernel_rfl) <|
    xn <| wpC_ret <| re <| fin h (r1 (ss rfl rfl) <| r0) rfl))
    (fun b11 h => gf rfl b11 <| gf rfl b11 <| gf rfl b11 <| st rfl <| pick0 rfl b11 (cd := cB) (v := false) rfl rfl <| st rfl <| mvd rfl rfl <| gf rfl rfl <| gf rfl rfl <| gf rfl rfl <| st rfl <| pick0 rfl rfl (cd := cB) (v := false) rfl rfl <| x_asg (ss rfl rfl) <| seqN [(6, .d (cB.enc false))] (by kernel_rfl) <|
    xn <| wpC_ret <| re <| fin h (r1 (ss rfl rfl) <| r0) rfl)

def rs_impl_changeCost (r : Int) : List D := [cI.enc r]
def m106 : MC := .seq (.reg [⟨some 6, .asg (.c (.int .i64 0)), none⟩] [0, 1, 2])
  (.seq (.reg [⟨some 7, .asg (.c (.int .i64 0)), none⟩] [0, 1, 2, 7])
  (.seq (.kp [7] (.seq (.reg [⟨some 9, .mv (.t 1), none⟩,
    ⟨some 10, .len false (.t 9), none⟩,
    ⟨some 11, .mv (.c (.int .i64 0)), none⟩] [0, 1, 2, 7, 10, 11])
  (.blk 0 (.loop (.seq (.reg [⟨some 12, .bin .lss (.t 11) (.t 10), none⟩] [0, 1, 2, 7, 10, 11, 12])
  (.seq (.kp [0, 1, 2, 7, 10, 11] (.cond (.t 12) (.skip) (.exit 0)))
  (.seq (.kp [0, 1, 2, 7, 10, 11] (.blk 1 (.seq (.reg [⟨some 13, .mv (.t 11), none⟩,
    ⟨some 8, .asg (.t 13), none⟩] [0, 1, 2, 7, 8, 10, 11])
  (.seq (.drw [⟨0, ⟨some 14, .mv (.t 1), none⟩, [15, 16, 17, 18, 19, 20, 21, 22]⟩,
    ⟨1, ⟨some 15, .mv (.t 8), none⟩, [14, 16, 17, 18, 19, 20, 21, 22]⟩,
    ⟨2, ⟨some 16, .ia 14 (.t 15) 1, none⟩, [17, 18, 19, 20, 21, 22]⟩,
    ⟨3, ⟨some 17, .ld 16 1 false, none⟩, [18, 19, 20, 21, 22]⟩,
    ⟨4, ⟨some 18, .mv (.t 2), none⟩, [14, 15, 16, 17, 19, 20, 21, 22]⟩,
    ⟨5, ⟨some 19, .mv (.t 8), none⟩, [14, 15, 16, 17, 18, 20, 21, 22]⟩,
    ⟨6, ⟨some 20, .ia 18 (.t 19) 1, none⟩, [14, 15, 16, 17, 21, 22]⟩,
    ⟨7, ⟨some 21, .ld 20 1 false, none⟩, [14, 15, 16, 17, 22]⟩,
    ⟨8, ⟨some 22, .bin .neq (.t 17) (.t 21), none⟩, []⟩]
    [] [0, 1, 2, 7, 8, 10, 11, 22])
  (.cond (.t 22) (.reg [⟨some 23, .mv (.t 7), none⟩,
    ⟨some 24, .mv (.t 0), none⟩,
    ⟨some 25, .mv (.t 8), none⟩,
    ⟨some 26, .ia 24 (.t 25) 1, none⟩,
    ⟨some 27, .ld 26 1 false, none⟩,
    ⟨some 28, .bin .add (.t 23) (.t 27), none⟩,
    ⟨some 7, .asg (.t 28), none⟩] [0, 1, 2, 7, 10, 11]) (.skip))))))
  (.reg [⟨some 29, .bin .add (.t 11) (.c (.int .i64 1)), none⟩,
    ⟨some 11, .mv (.t 29), none⟩] [0, 1, 2, 7, 10, 11]))))))))
  (.seq (.reg [⟨some 30, .mv (.t 7), none⟩,
    ⟨some 6, .asg (.t 30), none⟩] [6])
  (.ret))))
theorem con_impl_changeCost {v0 : (List Int)} {v1 : (List Int)} {v2 : (List Int)} {r : Int} (h : sh_impl_changeCost v0 v1 v2 = some r) : Con Try.prog 106 [(cLs cI rfl).enc v0, (cLs cI rfl).enc v1, (cLs cI rfl).enc v2] [] (rs_impl_changeCost r) := by
  delta sh_impl_changeCost at h
  refine top (out := none) (f := Try.f106) (m := m106) (rs := [.t 6]) (by kernel_rfl) rfl (by kernel_rfl) (by kernel_rfl) (by kernel_rfl) (by kernel_rfl) (by kernel_rfl) ?_
  exact
   ini [(0, .d ((cLs cI rfl).enc v0)), (1, .d ((cLs cI rfl).enc v1)), (2, .d ((cLs cI rfl).enc v2))] rfl <| wpC_seq <| reg_s <| x_asg (sc cI (0 : Int) rfl) <| seqN [(0, .d ((cLs cI rfl).enc v0)), (1, .d ((cLs cI rfl).enc v1)), (2, .d ((cLs cI rfl).enc v2))] (by kernel_rfl) <|
    xn <| wpC_seq <| reg_s <| x_asg (sc cI (0 : Int) rfl) <| seqN [(0, .d ((cLs cI rfl).enc v0)), (1, .d ((cLs cI rfl).enc v1)), (2, .d ((cLs cI rfl).enc v2)), (7, .d (cI.enc (0 : Int)))] (by kernel_rfl) <|
    xn <| wpC_seq <| wpC_kp <| wpC_seq <| reg_s <| st rfl <| mvd rfl rfl <| stw rfl <| lens rfl fun l78 => st rfl <| mvc cI (0 : Int) rfl <| seqN [(0, .d ((cLs cI rfl).enc v0)), (1, .d ((cLs cI rfl).enc v1)), (2, .d ((cLs cI rfl).enc v2)), (7, .d (cI.enc (0 : Int))), (10, .d (cI.enc (v1.length : Int))), (11, .d (cI.enc (0 : Int)))] (by kernel_rfl) <|
    xn <| wpC_blk <| lpR (fun (k80 : Nat) (s79 : Int) => [(0, .d ((cLs cI rfl).enc v0)), (1, .d ((cLs cI rfl).enc v1)), (2, .d ((cLs cI rfl).enc v2)), (7, .d (cI.enc s79)), (10, .d (cI.enc (v1.length : Int))), (11, .d (cI.enc (k80 : Int)))]) (0 : Int) rfl h
    (fun G130 s79 h => wpC_seq <| reg_s <| st rfl <| b_lss (k := .i64) rfl rfl <| seqN [(0, .d ((cLs cI rfl).enc v0)), (1, .d ((cLs cI rfl).enc v1)), (2, .d ((cLs cI rfl).enc v2)), (7, .d (cI.enc s79)), (10, .d (cI.enc (v1.length : Int))), (11, .d (cI.enc (v1.length : Int))), (12, .d (cB.enc (decide ((v1.length : Int) < (v1.length : Int)))))] (by kernel_rfl) <|
    xn <| wpC_seq <| wpC_kp <| cnd0 rfl (dlf _) <| wpC_exit <| xt <| xt <| xt <| xb <| kpN [(7, .d (cI.enc s79))] (by kernel_rfl) <| xn <| wpC_seq <| reg_s <| st rfl <| mvd rfl rfl <| x_asg (ss rfl rfl) <| seqN [(6, .d (cI.enc s79))] (by kernel_rfl) <|
    xn <| wpC_ret <| re <| fin h (r1 (ss rfl rfl) <| r0) rfl)
    (fun G130 nx128 k80 s79 x81 hk82 hx83 hn129 h => wpC_seq <| reg_s <| st rfl <| b_lss (k := .i64) rfl rfl <| seqN [(0, .d ((cLs cI rfl).enc v0)), (1, .d ((cLs cI rfl).enc v1)), (2, .d ((cLs cI rfl).enc v2)), (7, .d (cI.enc s79)), (10, .d (cI.enc (v1.length : Int))), (11, .d (cI.enc (k80 : Int))), (12, .d (cB.enc (decide ((k80 : Int) < (v1.length : Int)))))] (by kernel_rfl) <|
    xn <| wpC_seq <| wpC_kp <| cnd1 rfl (dlt hk82) <| wpC_skip <| kpN [(0, .d ((cLs cI rfl).enc v0)), (1, .d ((cLs cI rfl).enc v1)), (2, .d ((cLs cI rfl).enc v2)), (7, .d (cI.enc s79)), (10, .d (cI.enc (v1.length : Int))), (11, .d (cI.enc (k80 : Int)))] (by kernel_rfl) <| xn <| wpC_seq <| wpC_kp <| wpC_blk <| wpC_seq <| reg_s <| st rfl <| mvd rfl rfl <| x_asg (ss rfl rfl) <| seqN [(0, .d ((cLs cI rfl).enc v0)), (1, .d ((cLs cI rfl).enc v1)), (2, .d ((cLs cI rfl).enc v2)), (7, .d (cI.enc s79)), (8, .d (cI.enc (k80 : Int))), (10, .d (cI.enc (v1.length : Int))), (11, .d (cI.enc (k80 : Int)))] (by kernel_rfl) <|
    xn <| wpC_seq <| drw_s <| pst rfl <| mvd rfl rfl ⟨rfl, pst rfl <| mvd rfl rfl ⟨rfl, pst rfl <| ias rfl rfl (Int.natCast_nonneg _) hx83 rfl ⟨rfl, pst rfl <| ldi rfl rfl rfl rfl ⟨rfl, pst rfl <| mvd rfl rfl ⟨rfl, pst rfl <| mvd rfl rfl ⟨rfl, getO_kp h fun x145 i146 g147 h => pst rfl <| ias rfl rfl i146 g147 rfl ⟨rfl, pst rfl <| ldi rfl rfl rfl rfl ⟨rfl, pst rfl <| b_neq (k := .i64) rfl rfl ⟨rfl, preN <| seqN [(0, .d ((cLs cI rfl).enc v0)), (1, .d ((cLs cI rfl).enc v1)), (2, .d ((cLs cI rfl).enc v2)), (7, .d (cI.enc s79)), (8, .d (cI.enc (k80 : Int))), (10, .d (cI.enc (v1.length : Int))), (11, .d (cI.enc (k80 : Int))), (22, .d (cB.enc (decide (x81 ≠ x145))))] (by kernel_rfl) <|
    xn <| cnd rfl h (fun b148 h => reg_s <| st rfl <| mvd rfl rfl <| st rfl <| mvd rfl rfl <| st rfl <| mvd rfl rfl <| getO_k h fun x149 i150 g151 h => st rfl <| ias rfl rfl i150 g151 rfl <| st rfl <| ldi rfl rfl rfl rfl <| ckI_k h fun i152 h => st rfl <| b_add (k := .i64) rfl rfl i152 <| x_asg (ss rfl rfl) <| seqN [(0, .d ((cLs cI rfl).enc v0)), (1, .d ((cLs cI rfl).enc v1)), (2, .d ((cLs cI rfl).enc v2)), (7, .d (cI.enc (s79 + x149))), (10, .d (cI.enc (v1.length : Int))), (11, .d (cI.enc (k80 : Int)))] (by kernel_rfl) <|
    xbb <| kpN [(0, .d ((cLs cI rfl).enc v0)), (1, .d ((cLs cI rfl).enc v1)), (2, .d ((cLs cI rfl).enc v2)), (7, .d (cI.enc (s79 + x149))), (10, .d (cI.enc (v1.length : Int))), (11, .d (cI.enc (k80 : Int)))] (by kernel_rfl) <| xn <| reg_s <| st rfl <| b_inc rfl rfl l78 hk82 <| st rfl <| mvd rfl rfl <| seqN [(0, .d ((cLs cI rfl).enc v0)), (1, .d ((cLs cI rfl).enc v1)), (2, .d ((cLs cI rfl).enc v2)), (7, .d (cI.enc (s79 + x149))), (10, .d (cI.enc (v1.length : Int))), (11, .d (cI.enc ((k80 + 1 : Nat) : Int)))] (by kernel_rfl) <|
    xn <| hn129 (s79 + x149) h)
    (fun b148 h => wpC_skip <| xbb <| kpN [(0, .d ((cLs cI rfl).enc v0)), (1, .d ((cLs cI rfl).enc v1)), (2, .d ((cLs cI rfl).enc v2)), (7, .d (cI.enc s79)), (10, .d (cI.enc (v1.length : Int))), (11, .d (cI.enc (k80 : Int)))] (by kernel_rfl) <| xn <| reg_s <| st rfl <| b_inc rfl rfl l78 hk82 <| st rfl <| mvd rfl rfl <| seqN [(0, .d ((cLs cI rfl).enc v0)), (1, .d ((cLs cI rfl).enc v1)), (2, .d ((cLs cI rfl).enc v2)), (7, .d (cI.enc s79)), (10, .d (cI.enc (v1.length : Int))), (11, .d (cI.enc ((k80 + 1 : Nat) : Int)))] (by kernel_rfl) <|
    xn <| hn129 s79 h)⟩⟩⟩⟩⟩⟩⟩⟩⟩)

def rs_impl_NearestDonor (r : (Int × Bool)) : List D := [cI.enc r.1, cB.enc r.2]
def m56 : MC := .seq (.reg [⟨some 10, .asg (.c (.int .i64 0)), none⟩,
    ⟨some 11, .asg (.c (.bool false)), none⟩] [0, 1, 2, 3, 4])
  (.seq (.kp [1, 2, 3, 4] (.seq (.reg [⟨some 17, .mv (.t 0), none⟩,
    ⟨some 18, .mv (.t 1), none⟩,
    ⟨some 19, .mv (.t 2), none⟩,
    ⟨some 20, .call 105 [(.t 17), (.t 18), (.t 19)], none⟩,
    ⟨some 21, .nt (.t 20), none⟩,
    ⟨some 22, .mv (.t 21), none⟩,
    ⟨some 23, .mv (.t 0), some (22, false)⟩,
    ⟨some 24, .mv (.t 3), some (22, false)⟩,
    ⟨some 25, .call 101 [(.t 23), (.t 24)], some (22, false)⟩,
    ⟨some 26, .nt (.t 25), some (22, false)⟩,
    ⟨some 27, .pick (.t 22) (.c (.bool true)) (.t 26), none⟩,
    ⟨some 28, .mv (.t 27), none⟩,
    ⟨some 29, .mv (.t 0), some (28, false)⟩,
    ⟨some 30, .mv (.t 4), some (28, false)⟩,
    ⟨some 31, .call 93 [(.t 29), (.t 30)], some (28, false)⟩,
    ⟨some 32, .nt (.t 31), some (28, false)⟩,
    ⟨some 33, .pick (.t 28) (.c (.bool true)) (.t 32), none⟩] [1, 2, 3, 4, 33])
  (.cond (.t 33) (.seq (.reg [⟨some 10, .asg (.c (.int .i64 0)), none⟩,
    ⟨some 11, .asg (.c (.bool false)), none⟩] [10, 11])
  (.ret)) (.skip))))
  (.seq (.reg [⟨some 12, .asg (.c (.int .i64 (-1))), none⟩,
    ⟨some 13, .asg (.c (.int .i64 0)), none⟩] [1, 2, 3, 4, 12, 13])
  (.seq (.kp [12] (.seq (.reg [⟨some 34, .mv (.t 3), none⟩,
    ⟨some 35, .len false (.t 34), none⟩,
    ⟨some 36, .mv (.c (.int .i64 0)), none⟩] [1, 2, 3, 4, 12, 13, 34, 35, 36])
  (.blk 0 (.loop (.seq (.reg [⟨some 37, .bin .lss (.t 36) (.t 35), none⟩] [1, 2, 3, 4, 12, 13, 34, 35, 36, 37])
  (.seq (.kp [1, 2, 3, 4, 12, 13, 34, 35, 36] (.cond (.t 37) (.skip) (.exit 0)))
  (.seq (.kp [1, 2, 3, 4, 12, 13, 34, 35, 36] (.blk 1 (.seq (.reg [⟨some 38, .mv (.t 36), none⟩,
    ⟨some 39, .ia 34 (.t 36) 3, none⟩,
    ⟨some 40, .ld 39 3 true, none⟩,
    ⟨some 15, .alloc (.agg [.int .i64 0, .int .i64 0, .slice true []]), none⟩,
    ⟨some 14, .asg (.t 38), none⟩,
    ⟨none, .st 15 (.t 40) 3, none⟩] [1, 2, 3, 4, 12, 13, 14, 15, 34, 35, 36])
  (.seq (.kp [1, 2, 3, 4, 12, 13, 14, 15, 34, 35, 36] (.seq (.reg [⟨some 41, .mv (.t 1), none⟩,
    ⟨some 42, .fa 15 2 2, none⟩,
    ⟨some 43, .ld 42 1 false, none⟩,
    ⟨some 44, .call 75 [(.t 41), (.t 43)], none⟩] [1, 2, 3, 4, 12, 13, 14, 15, 34, 35, 36, 44])
  (.cond (.t 44) (.exit 1) (.skip))))
  (.seq (.reg [⟨some 45, .mv (.t 2), none⟩,
    ⟨some 46, .fa 15 2 2, none⟩,
    ⟨some 47, .ld 46 1 false, none⟩,
    ⟨some 48, .mv (.t 4), none⟩,
    ⟨some 49, .call 106 [(.t 45), (.t 47), (.t 48)], none⟩,
    ⟨some 16, .asg (.t 49), none⟩] [1, 2, 3, 4, 12, 13, 14, 16, 34, 35, 36])
  (.seq (.reg [⟨some 50, .mv (.t 12), none⟩,
    ⟨some 51, .bin .lss (.t 50) (.c (.int .i64 0)), none⟩,
    ⟨some 52, .mv (.t 51), none⟩,
    ⟨some 53, .mv (.t 16), some (52, false)⟩,
    ⟨some 54, .mv (.t 13), some (52, false)⟩,
    ⟨some 55, .bin .lss (.t 53) (.t 54), some (52, false)⟩,
    ⟨some 56, .pick (.t 52) (.c (.bool true)) (.t 55), none⟩] [1, 2, 3, 4, 12, 13, 14, 16, 34, 35, 36, 56])
  (.cond (.t 56) (.reg [⟨some 57, .mv (.t 14), none⟩,
    ⟨some 58, .mv (.t 16), none⟩,
    ⟨some 12, .asg (.t 57), none⟩,
    ⟨some 13, .asg (.t 58), none⟩] [1, 2, 3, 4, 12, 13, 34, 35, 36]) (.skip))))))))
  (.reg [⟨some 59, .bin .add (.t 36) (.c (.int .i64 1)), none⟩,
    ⟨some 36, .mv (.t 59), none⟩] [1, 2, 3, 4, 12, 13, 34, 35, 36]))))))))
  (.seq (.kp [12] (.seq (.reg [⟨some 60, .mv (.t 12), none⟩,
    ⟨some 61, .bin .lss (.t 60) (.c (.int .i64 0)), none⟩] [12, 61])
  (.cond (.t 61) (.seq (.reg [⟨some 10, .asg (.c (.int .i64 0)), none⟩,
    ⟨some 11, .asg (.c (.bool false)), none⟩] [10, 11])
  (.ret)) (.skip))))
  (.seq (.reg [⟨some 62, .mv (.t 12), none⟩,
    ⟨some 10, .asg (.t 62), none⟩,
    ⟨some 11, .asg (.c (.bool true)), none⟩] [10, 11])
  (.ret))))))
theorem con_impl_NearestDonor {v0 : (List XVariable)} {v1 : (List XEdit)} {v2 : (List Int)} {v3 : (List XRecord)} {v4 : (List Int)} {r : (Int × Bool)} (h : sh_impl_NearestDonor v0 v1 v2 v3 v4 = some r) : Con Try.prog 56 [(cLs (cXVariable cS cI) rfl).enc v0, (cLs (cXEdit (cLs cI rfl)) rfl).enc v1, (cLs cI rfl).enc v2, (cLs (cXRecord cI cI (cLs cI rfl)) rfl).enc v3, (cLs cI rfl).enc v4] [] (rs_impl_NearestDonor r) := by
  delta sh_impl_NearestDonor at h
  refine top (out := none) (f := Try.f56) (m := m56) (rs := [.t 10, .t 11]) (by kernel_rfl) rfl (by kernel_rfl) (by kernel_rfl) (by kernel_rfl) (by kernel_rfl) (by kernel_rfl) ?_
  exact
   ini [(0, .d ((cLs (cXVariable cS cI) rfl).enc v0)), (1, .d ((cLs (cXEdit (cLs cI rfl)) rfl).enc v1)), (2, .d ((cLs cI rfl).enc v2)), (3, .d ((cLs (cXRecord cI cI (cLs cI rfl)) rfl).enc v3)), (4, .d ((cLs cI rfl).enc v4))] rfl <| wpC_seq <| reg_s <| x_asg (sc cI (0 : Int) rfl) <| x_asg (sc cB false rfl) <| seqN [(0, .d ((cLs (cXVariable cS cI) rfl).enc v0)), (1, .d ((cLs (cXEdit (cLs cI rfl)) rfl).enc v1)), (2, .d ((cLs cI rfl).enc v2)), (3, .d ((cLs (cXRecord cI cI (cLs cI rfl)) rfl).enc v3)), (4, .d ((cLs cI rfl).enc v4))] (by kernel_rfl) <|
    xn <| wpC_seq <| wpC_kp <| wpC_seq <| reg_s <| st rfl <| mvd rfl rfl <| st rfl <| mvd rfl rfl <| st rfl <| mvd rfl rfl <| bnd h fun x26 e27 h => st rfl <| o_call (a1 (c := (cLs (cXVariable cS cI) rfl)) (tLs (tXVariable tS tK)) rfl (a1 (c := (cLs (cXEdit (cLs cI rfl)) rfl)) (tLs (tXEdit (tLs tK))) rfl (a1 (c := (cLs cI rfl)) (tLs tK) rfl a0))) (con_impl_isMendable e27) (.inl (so1 sB so0)) <| st rfl <| o_nt rfl <| st rfl <| mvd rfl rfl <| ite_k h (fun b28 h => gf rfl b28 <| gf rfl b28 <| gf rfl b28 <| gf rfl b28 <| st rfl <| pick1 rfl b28 (cd := cB) (v := true) rfl rfl <| st rfl <| mvd rfl rfl <| gf rfl rfl <| gf rfl rfl <| gf rfl rfl <| gf rfl rfl <| st rfl <| pick1 rfl rfl (cd := cB) (v := true) rfl rfl <| seqN [(1, .d ((cLs (cXEdit (cLs cI rfl)) rfl).enc v1)), (2, .d ((cLs cI rfl).enc v2)), (3, .d ((cLs (cXRecord cI cI (cLs cI rfl)) rfl).enc v3)), (4, .d ((cLs cI rfl).enc v4)), (33, .d (cB.enc true))] (by kernel_rfl) <|
    xn <| cnd1 rfl rfl <| wpC_seq <| reg_s <| x_asg (sc cI (0 : Int) rfl) <| x_asg (sc cB false rfl) <| seqN [(10, .d (cI.enc (0 : Int))), (11, .d (cB.enc false))] (by kernel_rfl) <|
    xn <| wpC_ret <| rt <| rt <| re <| fin h (r1 (ss rfl rfl) <| r1 (ss rfl rfl) <| r0) rfl)
    (fun b28 h => gt' rfl b28 <| st rfl <| mvd rfl rfl <| gt' rfl b28 <| st rfl <| mvd rfl rfl <| gt' rfl b28 <| bnd h fun x29 e30 h => st rfl <| o_call (a1 (c := (cLs (cXVariable cS cI) rfl)) (tLs (tXVariable tS tK)) rfl (a1 (c := (cLs (cXRecord cI cI (cLs cI rfl)) rfl)) (tLs (tXRecord tK tK (tLs tK))) rfl a0)) (con_impl_isData e30) (.inl (so1 sB so0)) <| gt' rfl b28 <| st rfl <| o_nt rfl <| st rfl <| pick0 rfl b28 (cd := cB) (v := (!x29)) rfl rfl <| st rfl <| mvd rfl rfl <| ite_k h (fun b31 h => gf rfl b31 <| gf rfl b31 <| gf rfl b31 <| gf rfl b31 <| st rfl <| pick1 rfl b31 (cd := cB) (v := true) rfl rfl <| seqN [(1, .d ((cLs (cXEdit (cLs cI rfl)) rfl).enc v1)), (2, .d ((cLs cI rfl).enc v2)), (3, .d ((cLs (cXRecord cI cI (cLs cI rfl)) rfl).enc v3)), (4, .d ((cLs cI rfl).enc v4)), (33, .d (cB.enc true))] (by kernel_rfl) <|
    xn <| cnd1 rfl rfl <| wpC_seq <| reg_s <| x_asg (sc cI (0 : Int) rfl) <| x_asg (sc cB false rfl) <| seqN [(10, .d (cI.enc (0 : Int))), (11, .d (cB.enc false))] (by kernel_rfl) <|
    xn <| wpC_ret <| rt <| rt <| re <| fin h (r1 (ss rfl rfl) <| r1 (ss rfl rfl) <| r0) rfl)
    (fun b31 h => gt' rfl b31 <| st rfl <| mvd rfl rfl <| gt' rfl b31 <| st rfl <| mvd rfl rfl <| gt' rfl b31 <| bnd h fun x32 e33 h => st rfl <| o_call (a1 (c := (cLs (cXVariable cS cI) rfl)) (tLs (tXVariable tS tK)) rfl (a1 (c := (cLs cI rfl)) (tLs tK) rfl a0)) (con_impl_areValues e33) (.inl (so1 sB so0)) <| gt' rfl b31 <| st rfl <| o_nt rfl <| st rfl <| pick0 rfl b31 (cd := cB) (v := (!x32)) rfl rfl <| seqN [(1, .d ((cLs (cXEdit (cLs cI rfl)) rfl).enc v1)), (2, .d ((cLs cI rfl).enc v2)), (3, .d ((cLs (cXRecord cI cI (cLs cI rfl)) rfl).enc v3)), (4, .d ((cLs cI rfl).enc v4)), (33, .d (cB.enc (!x32)))] (by kernel_rfl) <|
    xn <| cnd rfl h (fun b34 h => wpC_seq <| reg_s <| x_asg (sc cI (0 : Int) rfl) <| x_asg (sc cB false rfl) <| seqN [(10, .d (cI.enc (0 : Int))), (11, .d (cB.enc false))] (by kernel_rfl) <|
    xn <| wpC_ret <| rt <| rt <| re <| fin h (r1 (ss rfl rfl) <| r1 (ss rfl rfl) <| r0) rfl)
    (fun b34 h => wpC_skip <| kpN [(1, .d ((cLs (cXEdit (cLs cI rfl)) rfl).enc v1)), (2, .d ((cLs cI rfl).enc v2)), (3, .d ((cLs (cXRecord cI cI (cLs cI rfl)) rfl).enc v3)), (4, .d ((cLs cI rfl).enc v4))] (by kernel_rfl) <| xn <| wpC_seq <| reg_s <| x_asg (sc cI (-1 : Int) rfl) <| x_asg (sc cI (0 : Int) rfl) <| seqN [(1, .d ((cLs (cXEdit (cLs cI rfl)) rfl).enc v1)), (2, .d ((cLs cI rfl).enc v2)), (3, .d ((cLs (cXRecord cI cI (cLs cI rfl)) rfl).enc v3)), (4, .d ((cLs cI rfl).enc v4)), (12, .d (cI.enc (-1 : Int))), (13, .d (cI.enc (0 : Int)))] (by kernel_rfl) <|
    xn <| wpC_seq <| wpC_kp <| wpC_seq <| reg_s <| st rfl <| mvd rfl rfl <| stw rfl <| lens rfl fun l160 => st rfl <| mvc cI (0 : Int) rfl <| seqN [(1, .d ((cLs (cXEdit (cLs cI rfl)) rfl).enc v1)), (2, .d ((cLs cI rfl).enc v2)), (3, .d ((cLs (cXRecord cI cI (cLs cI rfl)) rfl).enc v3)), (4, .d ((cLs cI rfl).enc v4)), (12, .d (cI.enc (-1 : Int))), (13, .d (cI.enc (0 : Int))), (34, .d ((cLs (cXRecord cI cI (cLs cI rfl)) rfl).enc v3)), (35, .d (cI.enc (v3.length : Int))), (36, .d (cI.enc (0 : Int)))] (by kernel_rfl) <|
    xn <| wpC_blk <| lpR (fun (k162 : Nat) (s161 : (Int × Int)) => [(1, .d ((cLs (cXEdit (cLs cI rfl)) rfl).enc v1)), (2, .d ((cLs cI rfl).enc v2)), (3, .d ((cLs (cXRecord cI cI (cLs cI rfl)) rfl).enc v3)), (4, .d ((cLs cI rfl).enc v4)), (12, .d (cI.enc s161.1)), (13, .d (cI.enc s161.2)), (34, .d ((cLs (cXRecord cI cI (cLs cI rfl)) rfl).enc v3)), (35, .d (cI.enc (v3.length : Int))), (36, .d (cI.enc (k162 : Int)))]) ((-1 : Int), (0 : Int)) rfl h
    (fun G244 s161 h => wpC_seq <| reg_s <| st rfl <| b_lss (k := .i64) rfl rfl <| seqN [(1, .d ((cLs (cXEdit (cLs cI rfl)) rfl).enc v1)), (2, .d ((cLs cI rfl).enc v2)), (3, .d ((cLs (cXRecord cI cI (cLs cI rfl)) rfl).enc v3)), (4, .d ((cLs cI rfl).enc v4)), (12, .d (cI.enc s161.1)), (13, .d (cI.enc s161.2)), (34, .d ((cLs (cXRecord cI cI (cLs cI rfl)) rfl).enc v3)), (35, .d (cI.enc (v3.length : Int))), (36, .d (cI.enc (v3.length : Int))), (37, .d (cB.enc (decide ((v3.length : Int) < (v3.length : Int)))))] (by kernel_rfl) <|
    xn <| wpC_seq <| wpC_kp <| cnd0 rfl (dlf _) <| wpC_exit <| xt <| xt <| xt <| xb <| kpN [(12, .d (cI.enc s161.1))] (by kernel_rfl) <| xn <| wpC_seq <| wpC_kp <| wpC_seq <| reg_s <| st rfl <| mvd rfl rfl <| st rfl <| b_lss (k := .i64) rfl rfl <| seqN [(12, .d (cI.enc s161.1)), (61, .d (cB.enc (decide (s161.1 < (0 : Int)))))] (by kernel_rfl) <|
    xn <| cnd rfl h (fun b246 h => wpC_seq <| reg_s <| x_asg (sc cI (0 : Int) rfl) <| x_asg (sc cB false rfl) <| seqN [(10, .d (cI.enc (0 : Int))), (11, .d (cB.enc false))] (by kernel_rfl) <|
    xn <| wpC_ret <| rt <| rt <| re <| fin h (r1 (ss rfl rfl) <| r1 (ss rfl rfl) <| r0) rfl)
    (fun b246 h => wpC_skip <| kpN [(12, .d (cI.enc s161.1))] (by kernel_rfl) <| xn <| wpC_seq <| reg_s <| st rfl <| mvd rfl rfl <| x_asg (ss rfl rfl) <| x_asg (sc cB true rfl) <| seqN [(10, .d (cI.enc s161.1)), (11, .d (cB.enc true))] (by kernel_rfl) <|
    xn <| wpC_ret <| re <| fin h (r1 (ss rfl rfl) <| r1 (ss rfl rfl) <| r0) rfl))
    (fun G244 nx242 k162 s161 x163 hk164 hx165 hn243 h => wpC_seq <| reg_s <| st rfl <| b_lss (k := .i64) rfl rfl <| seqN [(1, .d ((cLs (cXEdit (cLs cI rfl)) rfl).enc v1)), (2, .d ((cLs cI rfl).enc v2)), (3, .d ((cLs (cXRecord cI cI (cLs cI rfl)) rfl).enc v3)), (4, .d ((cLs cI rfl).enc v4)), (12, .d (cI.enc s161.1)), (13, .d (cI.enc s161.2)), (34, .d ((cLs (cXRecord cI cI (cLs cI rfl)) rfl).enc v3)), (35, .d (cI.enc (v3.length : Int))), (36, .d (cI.enc (k162 : Int))), (37, .d (cB.enc (decide ((k162 : Int) < (v3.length : Int)))))] (by kernel_rfl) <|
    xn <| wpC_seq <| wpC_kp <| cnd1 rfl (dlt hk164) <| wpC_skip <| kpN [(1, .d ((cLs (cXEdit (cLs cI rfl)) rfl).enc v1)), (2, .d ((cLs cI rfl).enc v2)), (3, .d ((cLs (cXRecord cI cI (cLs cI rfl)) rfl).enc v3)), (4, .d ((cLs cI rfl).enc v4)), (12, .d (cI.enc s161.1)), (13, .d (cI.enc s161.2)), (34, .d ((cLs (cXRecord cI cI (cLs cI rfl)) rfl).enc v3)), (35, .d (cI.enc (v3.length : Int))), (36, .d (cI.enc (k162 : Int)))] (by kernel_rfl) <| xn <| wpC_seq <| wpC_kp <| wpC_blk <| wpC_seq <| reg_s <| st rfl <| mvd rfl rfl <| st rfl <| ias rfl rfl (Int.natCast_nonneg _) hx165 rfl <| st rfl <| ldi rfl rfl rfl rfl <| x_all (cXRecord cI cI (cLo cI)) (⟨(0 : Int), (0 : Int), ([] : List Int)⟩ : XRecord) rfl <| x_asg (ss rfl rfl) <| x_stb (ss rfl rfl) rfl (Cd.h_sz _ _) rfl <| seqN [(1, .d ((cLs (cXEdit (cLs cI rfl)) rfl).enc v1)), (2, .d ((cLs cI rfl).enc v2)), (3, .d ((cLs (cXRecord cI cI (cLs cI rfl)) rfl).enc v3)), (4, .d ((cLs cI rfl).enc v4)), (12, .d (cI.enc s161.1)), (13, .d (cI.enc s161.2)), (14, .d (cI.enc (k162 : Int))), (15, .box ((cXRecord cI cI (cLs cI rfl)).enc x163)), (34, .d ((cLs (cXRecord cI cI (cLs cI rfl)) rfl).enc v3)), (35, .d (cI.enc (v3.length : Int))), (36, .d (cI.enc (k162 : Int)))] (by kernel_rfl) <|
    xn <| wpC_seq <| wpC_kp <| wpC_seq <| reg_s <| st rfl <| mvd rfl rfl <| st rfl <| fab rfl rfl rfl rfl <| st rfl <| lda rfl rfl rfl rfl rfl rfl <| bnd h fun x273 e274 h => st rfl <| o_call (a1 (c := (cLs (cXEdit (cLs cI rfl)) rfl)) (tLs (tXEdit (tLs tK))) rfl (a1 (c := (cLs cI rfl)) (tLs tK) rfl a0)) (con_impl_failsOne e274) (.inl (so1 sB so0)) <| seqN [(1, .d ((cLs (cXEdit (cLs cI rfl)) rfl).enc v1)), (2, .d ((cLs cI rfl).enc v2)), (3, .d ((cLs (cXRecord cI cI (cLs cI rfl)) rfl).enc v3)), (4, .d ((cLs cI rfl).enc v4)), (12, .d (cI.enc s161.1)), (13, .d (cI.enc s161.2)), (14, .d (cI.enc (k162 : Int))), (15, .box ((cXRecord cI cI (cLs cI rfl)).enc x163)), (34, .d ((cLs (cXRecord cI cI (cLs cI rfl)) rfl).enc v3)), (35, .d (cI.enc (v3.length : Int))), (36, .d (cI.enc (k162 : Int))), (44, .d (cB.enc x273))] (by kernel_rfl) <|
    xn <| cnd rfl h (fun b275 h => wpC_exit <| xt <| xt <| xb <| kpN [(1, .d ((cLs (cXEdit (cLs cI rfl)) rfl).enc v1)), (2, .d ((cLs cI rfl).enc v2)), (3, .d ((cLs (cXRecord cI cI (cLs cI rfl)) rfl).enc v3)), (4, .d ((cLs cI rfl).enc v4)), (12, .d (cI.enc s161.1)), (13, .d (cI.enc s161.2)), (34, .d ((cLs (cXRecord cI cI (cLs cI rfl)) rfl).enc v3)), (35, .d (cI.enc (v3.length : Int))), (36, .d (cI.enc (k162 : Int)))] (by kernel_rfl) <| xn <| reg_s <| st rfl <| b_inc rfl rfl l160 hk164 <| st rfl <| mvd rfl rfl <| seqN [(1, .d ((cLs (cXEdit (cLs cI rfl)) rfl).enc v1)), (2, .d ((cLs cI rfl).enc v2)), (3, .d ((cLs (cXRecord cI cI (cLs cI rfl)) rfl).enc v3)), (4, .d ((cLs cI rfl).enc v4)), (12, .d (cI.enc s161.1)), (13, .d (cI.enc s161.2)), (34, .d ((cLs (cXRecord cI cI (cLs cI rfl)) rfl).enc v3)), (35, .d (cI.enc (v3.length : Int))), (36, .d (cI.enc ((k162 + 1 : Nat) : Int)))] (by kernel_rfl) <|
    xn <| hn243 (s161.1, s161.2) h)
    (fun b275 h => wpC_skip <| kpN [(1, .d ((cLs (cXEdit (cLs cI rfl)) rfl).enc v1)), (2, .d ((cLs cI rfl).enc v2)), (3, .d ((cLs (cXRecord cI cI (cLs cI rfl)) rfl).enc v3)), (4, .d ((cLs cI rfl).enc v4)), (12, .d (cI.enc s161.1)), (13, .d (cI.enc s161.2)), (14, .d (cI.enc (k162 : Int))), (15, .box ((cXRecord cI cI (cLs cI rfl)).enc x163)), (34, .d ((cLs (cXRecord cI cI (cLs cI rfl)) rfl).enc v3)), (35, .d (cI.enc (v3.length : Int))), (36, .d (cI.enc (k162 : Int)))] (by kernel_rfl) <| xn <| wpC_seq <| reg_s <| st rfl <| mvd rfl rfl <| st rfl <| fab rfl rfl rfl rfl <| st rfl <| lda rfl rfl rfl rfl rfl rfl <| st rfl <| mvd rfl rfl <| bnd h fun x278 e279 h => st rfl <| o_call (a1 (c := (cLs cI rfl)) (tLs tK) rfl (a1 (c := (cLs cI rfl)) (tLs tK) rfl (a1 (c := (cLs cI rfl)) (tLs tK) rfl a0))) (con_impl_changeCost e279) (.inl (so1 sK so0)) <| x_asg (ss rfl rfl) <| seqN [(1, .d ((cLs (cXEdit (cLs cI rfl)) rfl).enc v1)), (2, .d ((cLs cI rfl).enc v2)), (3, .d ((cLs (cXRecord cI cI (cLs cI rfl)) rfl).enc v3)), (4, .d ((cLs cI rfl).enc v4)), (12, .d (cI.enc s161.1)), (13, .d (cI.enc s161.2)), (14, .d (cI.enc (k162 : Int))), (16, .d (cI.enc x278)), (34, .d ((cLs (cXRecord cI cI (cLs cI rfl)) rfl).enc v3)), (35, .d (cI.enc (v3.length : Int))), (36, .d (cI.enc (k162 : Int)))] (by kernel_rfl) <|
    xn <| wpC_seq <| jw (fun (s281 : Bool) => [(1, .d ((cLs (cXEdit (cLs cI rfl)) rfl).enc v1)), (2, .d ((cLs cI rfl).enc v2)), (3, .d ((cLs (cXRecord cI cI (cLs cI rfl)) rfl).enc v3)), (4, .d ((cLs cI rfl).enc v4)), (12, .d (cI.enc s161.1)), (13, .d (cI.enc s161.2)), (14, .d (cI.enc (k162 : Int))), (16, .d (cI.enc x278)), (34, .d ((cLs (cXRecord cI cI (cLs cI rfl)) rfl).enc v3)), (35, .d (cI.enc (v3.length : Int))), (36, .d (cI.enc (k162 : Int))), (56, .d (cB.enc s281))]) h (fun s281 h => xn <| cnd rfl h (fun b283 h => reg_s <| st rfl <| mvd rfl rfl <| st rfl <| mvd rfl rfl <| x_asg (ss rfl rfl) <| x_asg (ss rfl rfl) <| seqN [(1, .d ((cLs (cXEdit (cLs cI rfl)) rfl).enc v1)), (2, .d ((cLs cI rfl).enc v2)), (3, .d ((cLs (cXRecord cI cI (cLs cI rfl)) rfl).enc v3)), (4, .d ((cLs cI rfl).enc v4)), (12, .d (cI.enc (k162 : Int))), (13, .d (cI.enc x278)), (34, .d ((cLs (cXRecord cI cI (cLs cI rfl)) rfl).enc v3)), (35, .d (cI.enc (v3.length : Int))), (36, .d (cI.enc (k162 : Int)))] (by kernel_rfl) <|
    xbb <| kpN [(1, .d ((cLs (cXEdit (cLs cI rfl)) rfl).enc v1)), (2, .d ((cLs cI rfl).enc v2)), (3, .d ((cLs (cXRecord cI cI (cLs cI rfl)) rfl).enc v3)), (4, .d ((cLs cI rfl).enc v4)), (12, .d (cI.enc (k162 : Int))), (13, .d (cI.enc x278)), (34, .d ((cLs (cXRecord cI cI (cLs cI rfl)) rfl).enc v3)), (35, .d (cI.enc (v3.length : Int))), (36, .d (cI.enc (k162 : Int)))] (by kernel_rfl) <| xn <| reg_s <| st rfl <| b_inc rfl rfl l160 hk164 <| st rfl <| mvd rfl rfl <| seqN [(1, .d ((cLs (cXEdit (cLs cI rfl)) rfl).enc v1)), (2, .d ((cLs cI rfl).enc v2)), (3, .d ((cLs (cXRecord cI cI (cLs cI rfl)) rfl).enc v3)), (4, .d ((cLs cI rfl).enc v4)), (12, .d (cI.enc (k162 : Int))), (13, .d (cI.enc x278)), (34, .d ((cLs (cXRecord cI cI (cLs cI rfl)) rfl).enc v3)), (35, .d (cI.enc (v3.length : Int))), (36, .d (cI.enc ((k162 + 1 : Nat) : Int)))] (by kernel_rfl) <|
    xn <| hn243 ((k162 : Int), x278) h)
    (fun b283 h => wpC_skip <| xbb <| kpN [(1, .d ((cLs (cXEdit (cLs cI rfl)) rfl).enc v1)), (2, .d ((cLs cI rfl).enc v2)), (3, .d ((cLs (cXRecord cI cI (cLs cI rfl)) rfl).enc v3)), (4, .d ((cLs cI rfl).enc v4)), (12, .d (cI.enc s161.1)), (13, .d (cI.enc s161.2)), (34, .d ((cLs (cXRecord cI cI (cLs cI rfl)) rfl).enc v3)), (35, .d (cI.enc (v3.length : Int))), (36, .d (cI.enc (k162 : Int)))] (by kernel_rfl) <| xn <| reg_s <| st rfl <| b_inc rfl rfl l160 hk164 <| st rfl <| mvd rfl rfl <| seqN [(1, .d ((cLs (cXEdit (cLs cI rfl)) rfl).enc v1)), (2, .d ((cLs cI rfl).enc v2)), (3, .d ((cLs (cXRecord cI cI (cLs cI rfl)) rfl).enc v3)), (4, .d ((cLs cI rfl).enc v4)), (12, .d (cI.enc s161.1)), (13, .d (cI.enc s161.2)), (34, .d ((cLs (cXRecord cI cI (cLs cI rfl)) rfl).enc v3)), (35, .d (cI.enc (v3.length : Int))), (36, .d (cI.enc ((k162 + 1 : Nat) : Int)))] (by kernel_rfl) <|
    xn <| hn243 (s161.1, s161.2) h))
    fun s281' q282 h => reg_s <| st rfl <| mvd rfl rfl <| st rfl <| b_lss (k := .i64) rfl rfl <| st rfl <| mvd rfl rfl <| ite_k h (fun b284 h => gf rfl b284 <| gf rfl b284 <| gf rfl b284 <| st rfl <| pick1 rfl b284 (cd := cB) (v := true) rfl rfl <| seqN [(1, .d ((cLs (cXEdit (cLs cI rfl)) rfl).enc v1)), (2, .d ((cLs cI rfl).enc v2)), (3, .d ((cLs (cXRecord cI cI (cLs cI rfl)) rfl).enc v3)), (4, .d ((cLs cI rfl).enc v4)), (12, .d (cI.enc s161.1)), (13, .d (cI.enc s161.2)), (14, .d (cI.enc (k162 : Int))), (16, .d (cI.enc x278)), (34, .d ((cLs (cXRecord cI cI (cLs cI rfl)) rfl).enc v3)), (35, .d (cI.enc (v3.length : Int))), (36, .d (cI.enc (k162 : Int))), (56, .d (cB.enc true))] (by kernel_rfl) <|
    lfn (S := (fun (s281 : Bool) => [(1, .d ((cLs (cXEdit (cLs cI rfl)) rfl).enc v1)), (2, .d ((cLs cI rfl).enc v2)), (3, .d ((cLs (cXRecord cI cI (cLs cI rfl)) rfl).enc v3)), (4, .d ((cLs cI rfl).enc v4)), (12, .d (cI.enc s161.1)), (13, .d (cI.enc s161.2)), (14, .d (cI.enc (k162 : Int))), (16, .d (cI.enc x278)), (34, .d ((cLs (cXRecord cI cI (cLs cI rfl)) rfl).enc v3)), (35, .d (cI.enc (v3.length : Int))), (36, .d (cI.enc (k162 : Int))), (56, .d (cB.enc s281))])) h q282 rfl)
    (fun b284 h => gt' rfl b284 <| st rfl <| mvd rfl rfl <| gt' rfl b284 <| st rfl <| mvd rfl rfl <| gt' rfl b284 <| st rfl <| b_lss (k := .i64) rfl rfl <| st rfl <| pick0 rfl b284 (cd := cB) (v := (decide (x278 < s161.2))) rfl rfl <| seqN [(1, .d ((cLs (cXEdit (cLs cI rfl)) rfl).enc v1)), (2, .d ((cLs cI rfl).enc v2)), (3, .d ((cLs (cXRecord cI cI (cLs cI rfl)) rfl).enc v3)), (4, .d ((cLs cI rfl).enc v4)), (12, .d (cI.enc s161.1)), (13, .d (cI.enc s161.2)), (14, .d (cI.enc (k162 : Int))), (16, .d (cI.enc x278)), (34, .d ((cLs (cXRecord cI cI (cLs cI rfl)) rfl).enc v3)), (35, .d (cI.enc (v3.length : Int))), (36, .d (cI.enc (k162 : Int))), (56, .d (cB.enc (decide (x278 < s161.2))))] (by kernel_rfl) <|
    lfn (S := (fun (s281 : Bool) => [(1, .d ((cLs (cXEdit (cLs cI rfl)) rfl).enc v1)), (2, .d ((cLs cI rfl).enc v2)), (3, .d ((cLs (cXRecord cI cI (cLs cI rfl)) rfl).enc v3)), (4, .d ((cLs cI rfl).enc v4)), (12, .d (cI.enc s161.1)), (13, .d (cI.enc s161.2)), (14, .d (cI.enc (k162 : Int))), (16, .d (cI.enc x278)), (34, .d ((cLs (cXRecord cI cI (cLs cI rfl)) rfl).enc v3)), (35, .d (cI.enc (v3.length : Int))), (36, .d (cI.enc (k162 : Int))), (56, .d (cB.enc s281))])) h q282 rfl))))))

def rs_laws_FnExactNearestDonor (r : Bool) : List D := [cB.enc r]
def m13 : MC := .seq (.reg [⟨some 10, .asg (.c (.bool false)), none⟩] [0, 1, 2, 3, 4])
  (.seq (.kp [0, 1, 2, 3, 4] (.seq (.reg [⟨some 21, .mv (.t 2), none⟩,
    ⟨some 22, .len false (.t 21), none⟩,
    ⟨some 23, .bin .gtr (.t 22) (.c (.int .i64 1048576)), none⟩] [0, 1, 2, 3, 4, 23])
  (.cond (.t 23) (.seq (.reg [⟨some 10, .asg (.c (.bool true)), none⟩] [10])
  (.ret)) (.skip))))
  (.seq (.kp [0, 1, 2, 3, 4] (.seq (.reg [⟨some 24, .mv (.t 4), none⟩,
    ⟨some 25, .len false (.t 24), none⟩,
    ⟨some 26, .bin .gtr (.t 25) (.c (.int .i64 1048576)), none⟩] [0, 1, 2, 3, 4, 26])
  (.cond (.t 26) (.seq (.reg [⟨some 10, .asg (.c (.bool true)), none⟩] [10])
  (.ret)) (.skip))))
  (.seq (.reg [⟨some 11, .asg (.c (.int .i64 1048576)), none⟩] [0, 1, 2, 3, 4, 11])
  (.seq (.reg [⟨some 27, .mv (.t 0), none⟩,
    ⟨some 28, .mv (.t 11), none⟩,
    ⟨some 29, .call 14 [(.t 27), (.t 28)], none⟩,
    ⟨some 11, .asg (.t 29), none⟩] [0, 1, 2, 3, 4, 11])
  (.seq (.kp [0, 1, 2, 3, 4, 11] (.seq (.reg [⟨some 30, .mv (.t 11), none⟩,
    ⟨some 31, .bin .lss (.t 30) (.c (.int .i64 0)), none⟩] [0, 1, 2, 3, 4, 11, 31])
  (.cond (.t 31) (.seq (.reg [⟨some 10, .asg (.c (.bool true)), none⟩] [10])
  (.ret)) (.skip))))
  (.seq (.reg [⟨some 32, .mv (.t 1), none⟩,
    ⟨some 33, .mv (.t 11), none⟩,
    ⟨some 34, .call 25 [(.t 32), (.t 33)], none⟩,
    ⟨some 11, .asg (.t 34), none⟩] [0, 1, 2, 3, 4, 11])
  (.seq (.kp [0, 1, 2, 3, 4, 11] (.seq (.reg [⟨some 35, .mv (.t 11), none⟩,
    ⟨some 36, .bin .lss (.t 35) (.c (.int .i64 0)), none⟩] [0, 1, 2, 3, 4, 11, 36])
  (.cond (.t 36) (.seq (.reg [⟨some 10, .asg (.c (.bool true)), none⟩] [10])
  (.ret)) (.skip))))
  (.seq (.reg [⟨some 37, .mv (.t 3), none⟩,
    ⟨some 38, .mv (.t 11), none⟩,
    ⟨some 39, .call 47 [(.t 37), (.t 38)], none⟩,
    ⟨some 11, .asg (.t 39), none⟩] [0, 1, 2, 3, 4, 11])
  (.seq (.kp [0, 1, 2, 3, 4] (.seq (.reg [⟨some 40, .mv (.t 11), none⟩,
    ⟨some 41, .bin .lss (.t 40) (.c (.int .i64 0)), none⟩] [0, 1, 2, 3, 4, 41])
  (.cond (.t 41) (.seq (.reg [⟨some 10, .asg (.c (.bool true)), none⟩] [10])
  (.ret)) (.skip))))
  (.seq (.reg [⟨some 43, .mv (.t 0), none⟩,
    ⟨some 44, .call 17 [(.t 43)], none⟩,
    ⟨some 45, .mv (.t 1), none⟩,
    ⟨some 46, .call 27 [(.t 45)], none⟩,
    ⟨some 47, .mv (.t 2), none⟩,
    ⟨some 48, .call 41 [(.t 47)], none⟩,
    ⟨some 49, .mv (.t 3), none⟩,
    ⟨some 50, .call 49 [(.t 49)], none⟩,
    ⟨some 51, .mv (.t 4), none⟩,
    ⟨some 52, .call 41 [(.t 51)], none⟩,
    ⟨some 53, .call 55 [(.t 44), (.t 46), (.t 48), (.t 50), (.t 52)], none⟩,
    ⟨some 42, .mvt 53, none⟩,
    ⟨some 54, .ext 42 0, none⟩,
    ⟨some 55, .ext 42 1, none⟩,
    ⟨some 12, .asg (.t 54), none⟩,
    ⟨some 13, .asg (.t 55), none⟩] [0, 1, 2, 3, 4, 12, 13])
  (.seq (.reg [⟨some 56, .mv (.t 0), none⟩,
    ⟨some 57, .call 17 [(.t 56)], none⟩,
    ⟨some 14, .asg (.t 57), none⟩] [0, 1, 2, 3, 4, 12, 13, 14])
  (.seq (.reg [⟨some 58, .mv (.t 1), none⟩,
    ⟨some 59, .call 27 [(.t 58)], none⟩,
    ⟨some 15, .asg (.t 59), none⟩] [0, 1, 2, 3, 4, 12, 13, 14, 15])
  (.seq (.reg [⟨some 60, .mv (.t 2), none⟩,
    ⟨some 61, .call 41 [(.t 60)], none⟩,
    ⟨some 16, .asg (.t 61), none⟩] [0, 1, 2, 3, 4, 12, 13, 14, 15, 16])
  (.seq (.reg [⟨some 62, .mv (.t 3), none⟩,
    ⟨some 63, .call 49 [(.t 62)], none⟩,
    ⟨some 17, .asg (.t 63), none⟩] [0, 1, 2, 3, 4, 12, 13, 14, 15, 16, 17])
  (.seq (.reg [⟨some 64, .mv (.t 4), none⟩,
    ⟨some 65, .call 41 [(.t 64)], none⟩,
    ⟨some 18, .asg (.t 65), none⟩] [0, 1, 2, 3, 4, 12, 13, 14, 15, 16, 17, 18])
  (.seq (.reg [⟨some 67, .mv (.t 14), none⟩,
    ⟨some 68, .mv (.t 15), none⟩,
    ⟨some 69, .mv (.t 16), none⟩,
    ⟨some 70, .mv (.t 17), none⟩,
    ⟨some 71, .mv (.t 18), none⟩,
    ⟨some 72, .call 56 [(.t 67), (.t 68), (.t 69), (.t 70), (.t 71)], none⟩,
    ⟨some 66, .mvt 72, none⟩,
    ⟨some 73, .ext 66 0, none⟩,
    ⟨some 74, .ext 66 1, none⟩,
    ⟨some 19, .asg (.t 73), none⟩,
    ⟨some 20, .asg (.t 74), none⟩] [0, 1, 2, 3, 4, 12, 13, 14, 15, 16, 17, 18, 19, 20])
  (.seq (.kp [0, 1, 2, 3, 4, 14, 15, 16, 17, 18] (.seq (.reg [⟨some 75, .mv (.t 19), none⟩,
    ⟨some 76, .mv (.t 12), none⟩,
    ⟨some 77, .bin .neq (.t 75) (.t 76), none⟩,
    ⟨some 78, .mv (.t 77), none⟩,
    ⟨some 79, .mv (.t 20), some (78, false)⟩,
    ⟨some 80, .mv (.t 13), some (78, false)⟩,
    ⟨some 81, .eqb true (.t 79) (.t 80), some (78, false)⟩,
    ⟨some 82, .pick (.t 78) (.c (.bool true)) (.t 81), none⟩] [0, 1, 2, 3, 4, 14, 15, 16, 17, 18, 82])
  (.cond (.t 82) (.seq (.reg [⟨some 10, .asg (.c (.bool false)), none⟩] [10])
  (.ret)) (.skip))))
  (.seq (.kp [1, 2, 3, 4, 15, 16, 17, 18] (.seq (.reg [⟨some 83, .mv (.t 14), none⟩,
    ⟨some 84, .mv (.t 0), none⟩,
    ⟨some 85, .call 17 [(.t 84)], none⟩,
    ⟨some 86, .call 21 [(.t 83), (.t 85)], none⟩,
    ⟨some 87, .nt (.t 86), none⟩] [1, 2, 3, 4, 15, 16, 17, 18, 87])
  (.cond (.t 87) (.seq (.reg [⟨some 10, .asg (.c (.bool false)), none⟩] [10])
  (.ret)) (.skip))))
  (.seq (.kp [2, 3, 4, 16, 17, 18] (.seq (.reg [⟨some 88, .mv (.t 15), none⟩,
    ⟨some 89, .mv (.t 1), none⟩,
    ⟨some 90, .call 27 [(.t 89)], none⟩,
    ⟨some 91, .call 29 [(.t 88), (.t 90)], none⟩,
    ⟨some 92, .nt (.t 91), none⟩] [2, 3, 4, 16, 17, 18, 92])
  (.cond (.t 92) (.seq (.reg [⟨some 10, .asg (.c (.bool false)), none⟩] [10])
  (.ret)) (.skip))))
  (.seq (.kp [3, 4, 17, 18] (.seq (.reg [⟨some 93, .mv (.t 16), none⟩,
    ⟨some 94, .mv (.t 2), none⟩,
    ⟨some 95, .call 41 [(.t 94)], none⟩,
    ⟨some 96, .call 36 [(.t 93), (.t 95)], none⟩,
    ⟨some 97, .nt (.t 96), none⟩] [3, 4, 17, 18, 97])
  (.cond (.t 97) (.seq (.reg [⟨some 10, .asg (.c (.bool false)), none⟩] [10])
  (.ret)) (.skip))))
  (.seq (.kp [4, 18] (.seq (.reg [⟨some 98, .mv (.t 17), none⟩,
    ⟨some 99, .mv (.t 3), none⟩,
    ⟨some 100, .call 49 [(.t 99)], none⟩,
    ⟨some 101, .call 51 [(.t 98), (.t 100)], none⟩,
    ⟨some 102, .nt (.t 101), none⟩] [4, 18, 102])
  (.cond (.t 102) (.seq (.reg [⟨some 10, .asg (.c (.bool false)), none⟩] [10])
  (.ret)) (.skip))))
  (.seq (.kp [] (.seq (.reg [⟨some 103, .mv (.t 18), none⟩,
    ⟨some 104, .mv (.t 4), none⟩,
    ⟨some 105, .call 41 [(.t 104)], none⟩,
    ⟨some 106, .call 36 [(.t 103), (.t 105)], none⟩,
    ⟨some 107, .nt (.t 106), none⟩] [107])
  (.cond (.t 107) (.seq (.reg [⟨some 10, .asg (.c (.bool false)), none⟩] [10])
  (.ret)) (.skip))))
  (.seq (.reg [⟨some 10, .asg (.c (.bool true)), none⟩] [10])
  (.ret))))))))))))))))))))))))
theorem con_laws_FnExactNearestDonor {v0 : (List XVariable)} {v1 : (List XEdit)} {v2 : (List Int)} {v3 : (List XRecord)} {v4 : (List Int)} {r : Bool} (h : sh_laws_FnExactNearestDonor v0 v1 v2 v3 v4 = some r) : Con Try.prog 13 [(cLs (cXVariable cS cI) rfl).enc v0, (cLs (cXEdit (cLs cI rfl)) rfl).enc v1, (cLs cI rfl).enc v2, (cLs (cXRecord cI cI (cLs cI rfl)) rfl).enc v3, (cLs cI rfl).enc v4] [] (rs_laws_FnExactNearestDonor r) := by
  delta sh_laws_FnExactNearestDonor at h
  refine top (out := none) (f := Try.f13) (m := m13) (rs := [.t 10]) (by kernel_rfl) rfl (by kernel_rfl) (by kernel_rfl) (by kernel_rfl) (by kernel_rfl) (by kernel_rfl) ?_
  exact
   ini [(0, .d ((cLs (cXVariable cS cI) rfl).enc v0)), (1, .d ((cLs (cXEdit (cLs cI rfl)) rfl).enc v1)), (2, .d ((cLs cI rfl).enc v2)), (3, .d ((cLs (cXRecord cI cI (cLs cI rfl)) rfl).enc v3)), (4, .d ((cLs cI rfl).enc v4))] rfl <| wpC_seq <| reg_s <| x_asg (sc cB false rfl) <| seqN [(0, .d ((cLs (cXVariable cS cI) rfl).enc v0)), (1, .d ((cLs (cXEdit (cLs cI rfl)) rfl).enc v1)), (2, .d ((cLs cI rfl).enc v2)), (3, .d ((cLs (cXRecord cI cI (cLs cI rfl)) rfl).enc v3)), (4, .d ((cLs cI rfl).enc v4))] (by kernel_rfl) <|
    xn <| wpC_seq <| wpC_kp <| wpC_seq <| reg_s <| st rfl <| mvd rfl rfl <| stw rfl <| lens rfl fun l5 => st rfl <| b_gtr (k := .i64) rfl rfl <| seqN [(0, .d ((cLs (cXVariable cS cI) rfl).enc v0)), (1, .d ((cLs (cXEdit (cLs cI rfl)) rfl).enc v1)), (2, .d ((cLs cI rfl).enc v2)), (3, .d ((cLs (cXRecord cI cI (cLs cI rfl)) rfl).enc v3)), (4, .d ((cLs cI rfl).enc v4)), (23, .d (cB.enc (decide ((1048576 : Int) < (v2.length : Int)))))] (by kernel_rfl) <|
    xn <| cnd rfl h (fun b6 h => wpC_seq <| reg_s <| x_asg (sc cB true rfl) <| seqN [(10, .d (cB.enc true))] (by kernel_rfl) <|
    xn <| wpC_ret <| rt <| rt <| re <| fin h (r1 (ss rfl rfl) <| r0) rfl)
    (fun b6 h => wpC_skip <| kpN [(0, .d ((cLs (cXVariable cS cI) rfl).enc v0)), (1, .d ((cLs (cXEdit (cLs cI rfl)) rfl).enc v1)), (2, .d ((cLs cI rfl).enc v2)), (3, .d ((cLs (cXRecord cI cI (cLs cI rfl)) rfl).enc v3)), (4, .d ((cLs cI rfl).enc v4))] (by kernel_rfl) <| xn <| wpC_seq <| wpC_kp <| wpC_seq <| reg_s <| st rfl <| mvd rfl rfl <| stw rfl <| lens rfl fun l11 => st rfl <| b_gtr (k := .i64) rfl rfl <| seqN [(0, .d ((cLs (cXVariable cS cI) rfl).enc v0)), (1, .d ((cLs (cXEdit (cLs cI rfl)) rfl).enc v1)), (2, .d ((cLs cI rfl).enc v2)), (3, .d ((cLs (cXRecord cI cI (cLs cI rfl)) rfl).enc v3)), (4, .d ((cLs cI rfl).enc v4)), (26, .d (cB.enc (decide ((1048576 : Int) < (v4.length : Int)))))] (by kernel_rfl) <|
    xn <| cnd rfl h (fun b12 h => wpC_seq <| reg_s <| x_asg (sc cB true rfl) <| seqN [(10, .d (cB.enc true))] (by kernel_rfl) <|
    xn <| wpC_ret <| rt <| rt <| re <| fin h (r1 (ss rfl rfl) <| r0) rfl)
    (fun b12 h => wpC_skip <| kpN [(0, .d ((cLs (cXVariable cS cI) rfl).enc v0)), (1, .d ((cLs (cXEdit (cLs cI rfl)) rfl).enc v1)), (2, .d ((cLs cI rfl).enc v2)), (3, .d ((cLs (cXRecord cI cI (cLs cI rfl)) rfl).enc v3)), (4, .d ((cLs cI rfl).enc v4))] (by kernel_rfl) <| xn <| wpC_seq <| reg_s <| x_asg (sc cI (1048576 : Int) rfl) <| seqN [(0, .d ((cLs (cXVariable cS cI) rfl).enc v0)), (1, .d ((cLs (cXEdit (cLs cI rfl)) rfl).enc v1)), (2, .d ((cLs cI rfl).enc v2)), (3, .d ((cLs (cXRecord cI cI (cLs cI rfl)) rfl).enc v3)), (4, .d ((cLs cI rfl).enc v4)), (11, .d (cI.enc (1048576 : Int)))] (by kernel_rfl) <|
    xn <| wpC_seq <| reg_s <| st rfl <| mvd rfl rfl <| st rfl <| mvd rfl rfl <| bnd h fun x15 e16 h => st rfl <| o_call (a1 (c := (cLs (cXVariable cS cI) rfl)) (tLs (tXVariable tS tK)) rfl (a1 (c := cI) tK rfl a0)) (con_laws_szVariableS e16) (.inl (so1 sK so0)) <| x_asg (ss rfl rfl) <| seqN [(0, .d ((cLs (cXVariable cS cI) rfl).enc v0)), (1, .d ((cLs (cXEdit (cLs cI rfl)) rfl).enc v1)), (2, .d ((cLs cI rfl).enc v2)), (3, .d ((cLs (cXRecord cI cI (cLs cI rfl)) rfl).enc v3)), (4, .d ((cLs cI rfl).enc v4)), (11, .d (cI.enc x15))] (by kernel_rfl) <|
    xn <| wpC_seq <| wpC_kp <| wpC_seq <| reg_s <| st rfl <| mvd rfl rfl <| st rfl <| b_lss (k := .i64) rfl rfl <| seqN [(0, .d ((cLs (cXVariable cS cI) rfl).enc v0)), (1, .d ((cLs (cXEdit (cLs cI rfl)) rfl).enc v1)), (2, .d ((cLs cI rfl).enc v2)), (3, .d ((cLs (cXRecord cI cI (cLs cI rfl)) rfl).enc v3)), (4, .d ((cLs cI rfl).enc v4)), (11, .d (cI.enc x15)), (31, .d (cB.enc (decide (x15 < (0 : Int)))))] (by kernel_rfl) <|
    xn <| cnd rfl h (fun b18 h => wpC_seq <| reg_s <| x_asg (sc cB true rfl) <| seqN [(10, .d (cB.enc true))] (by kernel_rfl) <|
    xn <| wpC_ret <| rt <| rt <| re <| fin h (r1 (ss rfl rfl) <| r0) rfl)
    (fun b18 h => wpC_skip <| kpN [(0, .d ((cLs (cXVariable cS cI) rfl).enc v0)), (1, .d ((cLs (cXEdit (cLs cI rfl)) rfl).enc v1)), (2, .d ((cLs cI rfl).enc v2)), (3, .d ((cLs (cXRecord cI cI (cLs cI rfl)) rfl).enc v3)), (4, .d ((cLs cI rfl).enc v4)), (11, .d (cI.enc x15))] (by kernel_rfl) <| xn <| wpC_seq <| reg_s <| st rfl <| mvd rfl rfl <| st rfl <| mvd rfl rfl <| bnd h fun x21 e22 h => st rfl <| o_call (a1 (c := (cLs (cXEdit (cLs cI rfl)) rfl)) (tLs (tXEdit (tLs tK))) rfl (a1 (c := cI) tK rfl a0)) (con_laws_szEditS e22) (.inl (so1 sK so0)) <| x_asg (ss rfl rfl) <| seqN [(0, .d ((cLs (cXVariable cS cI) rfl).enc v0)), (1, .d ((cLs (cXEdit (cLs cI rfl)) rfl).enc v1)), (2, .d ((cLs cI rfl).enc v2)), (3, .d ((cLs (cXRecord cI cI (cLs cI rfl)) rfl).enc v3)), (4, .d ((cLs cI rfl).enc v4)), (11, .d (cI.enc x21))] (by kernel_rfl) <|
    xn <| wpC_seq <| wpC_kp <| wpC_seq <| reg_s <| st rfl <| mvd rfl rfl <| st rfl <| b_lss (k := .i64) rfl rfl <| seqN [(0, .d ((cLs (cXVariable cS cI) rfl).enc v0)), (1, .d ((cLs (cXEdit (cLs cI rfl)) rfl).enc v1)), (2, .d ((cLs cI rfl).enc v2)), (3, .d ((cLs (cXRecord cI cI (cLs cI rfl)) rfl).enc v3)), (4, .d ((cLs cI rfl).enc v4)), (11, .d (cI.enc x21)), (36, .d (cB.enc (decide (x21 < (0 : Int)))))] (by kernel_rfl) <|
    xn <| cnd rfl h (fun b24 h => wpC_seq <| reg_s <| x_asg (sc cB true rfl) <| seqN [(10, .d (cB.enc true))] (by kernel_rfl) <|
    xn <| wpC_ret <| rt <| rt <| re <| fin h (r1 (ss rfl rfl) <| r0) rfl)
    (fun b24 h => wpC_skip <| kpN [(0, .d ((cLs (cXVariable cS cI) rfl).enc v0)), (1, .d ((cLs (cXEdit (cLs cI rfl)) rfl).enc v1)), (2, .d ((cLs cI rfl).enc v2)), (3, .d ((cLs (cXRecord cI cI (cLs cI rfl)) rfl).enc v3)), (4, .d ((cLs cI rfl).enc v4)), (11, .d (cI.enc x21))] (by kernel_rfl) <| xn <| wpC_seq <| reg_s <| st rfl <| mvd rfl rfl <| st rfl <| mvd rfl rfl <| bnd h fun x27 e28 h => st rfl <| o_call (a1 (c := (cLs (cXRecord cI cI (cLs cI rfl)) rfl)) (tLs (tXRecord tK tK (tLs tK))) rfl (a1 (c := cI) tK rfl a0)) (con_laws_szRecordS e28) (.inl (so1 sK so0)) <| x_asg (ss rfl rfl) <| seqN [(0, .d ((cLs (cXVariable cS cI) rfl).enc v0)), (1, .d ((cLs (cXEdit (cLs cI rfl)) rfl).enc v1)), (2, .d ((cLs cI rfl).enc v2)), (3, .d ((cLs (cXRecord cI cI (cLs cI rfl)) rfl).enc v3)), (4, .d ((cLs cI rfl).enc v4)), (11, .d (cI.enc x27))] (by kernel_rfl) <|
    xn <| wpC_seq <| wpC_kp <| wpC_seq <| reg_s <| st rfl <| mvd rfl rfl <| st rfl <| b_lss (k := .i64) rfl rfl <| seqN [(0, .d ((cLs (cXVariable cS cI) rfl).enc v0)), (1, .d ((cLs (cXEdit (cLs cI rfl)) rfl).enc v1)), (2, .d ((cLs cI rfl).enc v2)), (3, .d ((cLs (cXRecord cI cI (cLs cI rfl)) rfl).enc v3)), (4, .d ((cLs cI rfl).enc v4)), (41, .d (cB.enc (decide (x27 < (0 : Int)))))] (by kernel_rfl) <|
    xn <| cnd rfl h (fun b30 h => wpC_seq <| reg_s <| x_asg (sc cB true rfl) <| seqN [(10, .d (cB.enc true))] (by kernel_rfl) <|
    xn <| wpC_ret <| rt <| rt <| re <| fin h (r1 (ss rfl rfl) <| r0) rfl)
    (fun b30 h => wpC_skip <| kpN [(0, .d ((cLs (cXVariable cS cI) rfl).enc v0)), (1, .d ((cLs (cXEdit (cLs cI rfl)) rfl).enc v1)), (2, .d ((cLs cI rfl).enc v2)), (3, .d ((cLs (cXRecord cI cI (cLs cI rfl)) rfl).enc v3)), (4, .d ((cLs cI rfl).enc v4))] (by kernel_rfl) <| xn <| wpC_seq <| reg_s <| st rfl <| mvd rfl rfl <| bnd h fun x43 e44 h => st rfl <| o_call (a1 (c := (cLs (cXVariable cS cI) rfl)) (tLs (tXVariable tS tK)) rfl a0) (con_laws_toVariableS e44) (.inl (so1 (sLo (sXVariable sS sK)) so0)) <| st rfl <| mvd rfl rfl <| bnd h fun x45 e46 h => st rfl <| o_call (a1 (c := (cLs (cXEdit (cLs cI rfl)) rfl)) (tLs (tXEdit (tLs tK))) rfl a0) (con_laws_toEditS e46) (.inl (so1 (sLo (sXEdit (sLo sK))) so0)) <| st rfl <| mvd rfl rfl <| bnd h fun x47 e48 h => st rfl <| o_call (a1 (c := (cLs cI rfl)) (tLs tK) rfl a0) (con_laws_toIntS e48) (.inl (so1 (sLo sK) so0)) <| st rfl <| mvd rfl rfl <| bnd h fun x49 e50 h => st rfl <| o_call (a1 (c := (cLs (cXRecord cI cI (cLs cI rfl)) rfl)) (tLs (tXRecord tK tK (tLs tK))) rfl a0) (con_laws_toRecordS e50) (.inl (so1 (sLo (sXRecord sK sK (sLo sK))) so0)) <| st rfl <| mvd rfl rfl <| bnd h fun x51 e52 h => st rfl <| o_call (a1 (c := (cLs cI rfl)) (tLs tK) rfl a0) (con_laws_toIntS e52) (.inl (so1 (sLo sK) so0)) <| bnd h fun x53 e54 h => st rfl <| o_call (a1 (c := (cLo (cXVariable cS cI))) (tLo (tXVariable tS tK)) rfl (a1 (c := (cLo (cXEdit (cLo cI)))) (tLo (tXEdit (tLo tK))) rfl (a1 (c := (cLo cI)) (tLo tK) rfl (a1 (c := (cLo (cXRecord cI cI (cLo cI)))) (tLo (tXRecord tK tK (tLo tK))) rfl (a1 (c := (cLo cI)) (tLo tK) rfl a0))))) (con_spec_NearestDonor e54) (.inl (so1 sK (so1 sB so0))) <| x_mvt rfl <| x_ext rfl rfl <| x_ext rfl rfl <| x_asg (ss rfl rfl) <| x_asg (ss rfl rfl) <| seqN [(0, .d ((cLs (cXVariable cS cI) rfl).enc v0)), (1, .d ((cLs (cXEdit (cLs cI rfl)) rfl).enc v1)), (2, .d ((cLs cI rfl).enc v2)), (3, .d ((cLs (cXRecord cI cI (cLs cI rfl)) rfl).enc v3)), (4, .d ((cLs cI rfl).enc v4)), (12, .d (cI.enc x53.1)), (13, .d (cB.enc x53.2))] (by kernel_rfl) <|
    xn <| wpC_seq <| reg_s <| st rfl <| mvd rfl rfl <| bnd h fun x57 e58 h => st rfl <| o_call (a1 (c := (cLs (cXVariable cS cI) rfl)) (tLs (tXVariable tS tK)) rfl a0) (con_laws_toVariableS e58) (.inl (so1 (sLo (sXVariable sS sK)) so0)) <| x_asg (so rfl rfl) <| seqN [(0, .d ((cLs (cXVariable cS cI) rfl).enc v0)), (1, .d ((cLs (cXEdit (cLs cI rfl)) rfl).enc v1)), (2, .d ((cLs cI rfl).enc v2)), (3, .d ((cLs (cXRecord cI cI (cLs cI rfl)) rfl).enc v3)), (4, .d ((cLs cI rfl).enc v4)), (12, .d (cI.enc x53.1)), (13, .d (cB.enc x53.2)), (14, .d ((cLo (cXVariable cS cI)).enc x57))] (by kernel_rfl) <|
    xn <| wpC_seq <| reg_s <| st rfl <| mvd rfl rfl <| bnd h fun x61 e62 h => st rfl <| o_call (a1 (c := (cLs (cXEdit (cLs cI rfl)) rfl)) (tLs (tXEdit (tLs tK))) rfl a0) (con_laws_toEditS e62) (.inl (so1 (sLo (sXEdit (sLo sK))) so0)) <| x_asg (so rfl rfl) <| seqN [(0, .d ((cLs (cXVariable cS cI) rfl).enc v0)), (1, .d ((cLs (cXEdit (cLs cI rfl)) rfl).enc v1)), (2, .d ((cLs cI rfl).enc v2)), (3, .d ((cLs (cXRecord cI cI (cLs cI rfl)) rfl).enc v3)), (4, .d ((cLs cI rfl).enc v4)), (12, .d (cI.enc x53.1)), (13, .d (cB.enc x53.2)), (14, .d ((cLo (cXVariable cS cI)).enc x57)), (15, .d ((cLo (cXEdit (cLo cI))).enc x61))] (by kernel_rfl) <|
    xn <| wpC_seq <| reg_s <| st rfl <| mvd rfl rfl <| bnd h fun x65 e66 h => st rfl <| o_call (a1 (c := (cLs cI rfl)) (tLs tK) rfl a0) (con_laws_toIntS e66) (.inl (so1 (sLo sK) so0)) <| x_asg (so rfl rfl) <| seqN [(0, .d ((cLs (cXVariable cS cI) rfl).enc v0)), (1, .d ((cLs (cXEdit (cLs cI rfl)) rfl).enc v1)), (2, .d ((cLs cI rfl).enc v2)), (3, .d ((cLs (cXRecord cI cI (cLs cI rfl)) rfl).enc v3)), (4, .d ((cLs cI rfl).enc v4)), (12, .d (cI.enc x53.1)), (13, .d (cB.enc x53.2)), (14, .d ((cLo (cXVariable cS cI)).enc x57)), (15, .d ((cLo (cXEdit (cLo cI))).enc x61)), (16, .d ((cLo cI).enc x65))] (by kernel_rfl) <|
    xn <| wpC_seq <| reg_s <| st rfl <| mvd rfl rfl <| bnd h fun x69 e70 h => st rfl <| o_call (a1 (c := (cLs (cXRecord cI cI (cLs cI rfl)) rfl)) (tLs (tXRecord tK tK (tLs tK))) rfl a0) (con_laws_toRecordS e70) (.inl (so1 (sLo (sXRecord sK sK (sLo sK))) so0)) <| x_asg (so rfl rfl) <| seqN [(0, .d ((cLs (cXVariable cS cI) rfl).enc v0)), (1, .d ((cLs (cXEdit (cLs cI rfl)) rfl).enc v1)), (2, .d ((cLs cI rfl).enc v2)), (3, .d ((cLs (cXRecord cI cI (cLs cI rfl)) rfl).enc v3)), (4, .d ((cLs cI rfl).enc v4)), (12, .d (cI.enc x53.1)), (13, .d (cB.enc x53.2)), (14, .d ((cLo (cXVariable cS cI)).enc x57)), (15, .d ((cLo (cXEdit (cLo cI))).enc x61)), (16, .d ((cLo cI).enc x65)), (17, .d ((cLo (cXRecord cI cI (cLo cI))).enc x69))] (by kernel_rfl) <|
    xn <| wpC_seq <| reg_s <| st rfl <| mvd rfl rfl <| bnd h fun x73 e74 h => st rfl <| o_call (a1 (c := (cLs cI rfl)) (tLs tK) rfl a0) (con_laws_toIntS e74) (.inl (so1 (sLo sK) so0)) <| x_asg (so rfl rfl) <| seqN [(0, .d ((cLs (cXVariable cS cI) rfl).enc v0)), (1, .d ((cLs (cXEdit (cLs cI rfl)) rfl).enc v1)), (2, .d ((cLs cI rfl).enc v2)), (3, .d ((cLs (cXRecord cI cI (cLs cI rfl)) rfl).enc v3)), (4, .d ((cLs cI rfl).enc v4)), (12, .d (cI.enc x53.1)), (13, .d (cB.enc x53.2)), (14, .d ((cLo (cXVariable cS cI)).enc x57)), (15, .d ((cLo (cXEdit (cLo cI))).enc x61)), (16, .d ((cLo cI).enc x65)), (17, .d ((cLo (cXRecord cI cI (cLo cI))).enc x69)), (18, .d ((cLo cI).enc x73))] (by kernel_rfl) <|
    xn <| wpC_seq <| reg_s <| st rfl <| mvo rfl rfl <| st rfl <| mvo rfl rfl <| st rfl <| mvo rfl rfl <| st rfl <| mvo rfl rfl <| st rfl <| mvo rfl rfl <| bnd h fun x77 e78 h => st rfl <| o_call (a1 (c := (cLo (cXVariable cS cI))) (tLo (tXVariable tS tK)) rfl (a1 (c := (cLo (cXEdit (cLo cI)))) (tLo (tXEdit (tLo tK))) rfl (a1 (c := (cLo cI)) (tLo tK) rfl (a1 (c := (cLo (cXRecord cI cI (cLo cI)))) (tLo (tXRecord tK tK (tLo tK))) rfl (a1 (c := (cLo cI)) (tLo tK) rfl a0))))) (con_impl_NearestDonor e78) (.inl (so1 sK (so1 sB so0))) <| x_mvt rfl <| x_ext rfl rfl <| x_ext rfl rfl <| x_asg (ss rfl rfl) <| x_asg (ss rfl rfl) <| seqN [(0, .d ((cLs (cXVariable cS cI) rfl).enc v0)), (1, .d ((cLs (cXEdit (cLs cI rfl)) rfl).enc v1)), (2, .d ((cLs cI rfl).enc v2)), (3, .d ((cLs (cXRecord cI cI (cLs cI rfl)) rfl).enc v3)), (4, .d ((cLs cI rfl).enc v4)), (12, .d (cI.enc x53.1)), (13, .d (cB.enc x53.2)), (14, .d ((cLo (cXVariable cS cI)).enc x57)), (15, .d ((cLo (cXEdit (cLo cI))).enc x61)), (16, .d ((cLo cI).enc x65)), (17, .d ((cLo (cXRecord cI cI (cLo cI))).enc x69)), (18, .d ((cLo cI).enc x73)), (19, .d (cI.enc x77.1)), (20, .d (cB.enc x77.2))] (by kernel_rfl) <|
    xn <| wpC_seq <| wpC_kp <| wpC_seq <| reg_s <| st rfl <| mvd rfl rfl <| st rfl <| mvd rfl rfl <| st rfl <| b_neq (k := .i64) rfl rfl <| st rfl <| mvd rfl rfl <| ite_k h (fun b83 h => gf rfl b83 <| gf rfl b83 <| gf rfl b83 <| st rfl <| pick1 rfl b83 (cd := cB) (v := true) rfl rfl <| seqN [(0, .d ((cLs (cXVariable cS cI) rfl).enc v0)), (1, .d ((cLs (cXEdit (cLs cI rfl)) rfl).enc v1)), (2, .d ((cLs cI rfl).enc v2)), (3, .d ((cLs (cXRecord cI cI (cLs cI rfl)) rfl).enc v3)), (4, .d ((cLs cI rfl).enc v4)), (14, .d ((cLo (cXVariable cS cI)).enc x57)), (15, .d ((cLo (cXEdit (cLo cI))).enc x61)), (16, .d ((cLo cI).enc x65)), (17, .d ((cLo (cXRecord cI cI (cLo cI))).enc x69)), (18, .d ((cLo cI).enc x73)), (82, .d (cB.enc true))] (by kernel_rfl) <|
    xn <| cnd1 rfl rfl <| wpC_seq <| reg_s <| x_asg (sc cB false rfl) <| seqN [(10, .d (cB.enc false))] (by kernel_rfl) <|
    xn <| wpC_ret <| rt <| rt <| re <| fin h (r1 (ss rfl rfl) <| r0) rfl)
    (fun b83 h => gt' rfl b83 <| st rfl <| mvd rfl rfl <| gt' rfl b83 <| st rfl <| mvd rfl rfl <| gt' rfl b83 <| st rfl <| eqb1 rfl rfl <| st rfl <| pick0 rfl b83 (cd := cB) (v := (x77.2 != x53.2)) rfl rfl <| seqN [(0, .d ((cLs (cXVariable cS cI) rfl).enc v0)), (1, .d ((cLs (cXEdit (cLs cI rfl)) rfl).enc v1)), (2, .d ((cLs cI rfl).enc v2)), (3, .d ((cLs (cXRecord cI cI (cLs cI rfl)) rfl).enc v3)), (4, .d ((cLs cI rfl).enc v4)), (14, .d ((cLo (cXVariable cS cI)).enc x57)), (15, .d ((cLo (cXEdit (cLo cI))).enc x61)), (16, .d ((cLo cI).enc x65)), (17, .d ((cLo (cXRecord cI cI (cLo cI))).enc x69)), (18, .d ((cLo cI).enc x73)), (82, .d (cB.enc (x77.2 != x53.2)))] (by kernel_rfl) <|
    xn <| cnd rfl h (fun b84 h => wpC_seq <| reg_s <| x_asg (sc cB false rfl) <| seqN [(10, .d (cB.enc false))] (by kernel_rfl) <|
    xn <| wpC_ret <| rt <| rt <| re <| fin h (r1 (ss rfl rfl) <| r0) rfl)
    (fun b84 h => wpC_skip <| kpN [(0, .d ((cLs (cXVariable cS cI) rfl).enc v0)), (1, .d ((cLs (cXEdit (cLs cI rfl)) rfl).enc v1)), (2, .d ((cLs cI rfl).enc v2)), (3, .d ((cLs (cXRecord cI cI (cLs cI rfl)) rfl).enc v3)), (4, .d ((cLs cI rfl).enc v4)), (14, .d ((cLo (cXVariable cS cI)).enc x57)), (15, .d ((cLo (cXEdit (cLo cI))).enc x61)), (16, .d ((cLo cI).enc x65)), (17, .d ((cLo (cXRecord cI cI (cLo cI))).enc x69)), (18, .d ((cLo cI).enc x73))] (by kernel_rfl) <| xn <| wpC_seq <| wpC_kp <| wpC_seq <| reg_s <| st rfl <| mvo rfl rfl <| st rfl <| mvd rfl rfl <| bnd h fun x98 e99 h => st rfl <| o_call (a1 (c := (cLs (cXVariable cS cI) rfl)) (tLs (tXVariable tS tK)) rfl a0) (con_laws_toVariableS e99) (.inl (so1 (sLo (sXVariable sS sK)) so0)) <| bnd h fun x100 e101 h => st rfl <| o_call (a1 (c := (cLo (cXVariable cS cI))) (tLo (tXVariable tS tK)) rfl (a1 (c := (cLo (cXVariable cS cI))) (tLo (tXVariable tS tK)) rfl a0)) (con_laws_eqVariableS e101) (.inl (so1 sB so0)) <| st rfl <| o_nt rfl <| seqN [(1, .d ((cLs (cXEdit (cLs cI rfl)) rfl).enc v1)), (2, .d ((cLs cI rfl).enc v2)), (3, .d ((cLs (cXRecord cI cI (cLs cI rfl)) rfl).enc v3)), (4, .d ((cLs cI rfl).enc v4)), (15, .d ((cLo (cXEdit (cLo cI))).enc x61)), (16, .d ((cLo cI).enc x65)), (17, .d ((cLo (cXRecord cI cI (cLo cI))).enc x69)), (18, .d ((cLo cI).enc x73)), (87, .d (cB.enc (!x100)))] (by kernel_rfl) <|
    xn <| cnd rfl h (fun b102 h => wpC_seq <| reg_s <| x_asg (sc cB false rfl) <| seqN [(10, .d (cB.enc false))] (by kernel_rfl) <|
    xn <| wpC_ret <| rt <| rt <| re <| fin h (r1 (ss rfl rfl) <| r0) rfl)
    (fun b102 h => wpC_skip <| kpN [(1, .d ((cLs (cXEdit (cLs cI rfl)) rfl).enc v1)), (2, .d ((cLs cI rfl).enc v2)), (3, .d ((cLs (cXRecord cI cI (cLs cI rfl)) rfl).enc v3)), (4, .d ((cLs cI rfl).enc v4)), (15, .d ((cLo (cXEdit (cLo cI))).enc x61)), (16, .d ((cLo cI).enc x65)), (17, .d ((cLo (cXRecord cI cI (cLo cI))).enc x69)), (18, .d ((cLo cI).enc x73))] (by kernel_rfl) <| xn <| wpC_seq <| wpC_kp <| wpC_seq <| reg_s <| st rfl <| mvo rfl rfl <| st rfl <| mvd rfl rfl <| bnd h fun x116 e117 h => st rfl <| o_call (a1 (c := (cLs (cXEdit (cLs cI rfl)) rfl)) (tLs (tXEdit (tLs tK))) rfl a0) (con_laws_toEditS e117) (.inl (so1 (sLo (sXEdit (sLo sK))) so0)) <| bnd h fun x118 e119 h => st rfl <| o_call (a1 (c := (cLo (cXEdit (cLo cI)))) (tLo (tXEdit (tLo tK))) rfl (a1 (c := (cLo (cXEdit (cLo cI)))) (tLo (tXEdit (tLo tK))) rfl a0)) (con_laws_eqEditS e119) (.inl (so1 sB so0)) <| st rfl <| o_nt rfl <| seqN [(2, .d ((cLs cI rfl).enc v2)), (3, .d ((cLs (cXRecord cI cI (cLs cI rfl)) rfl).enc v3)), (4, .d ((cLs cI rfl).enc v4)), (16, .d ((cLo cI).enc x65)), (17, .d ((cLo (cXRecord cI cI (cLo cI))).enc x69)), (18, .d ((cLo cI).enc x73)), (92, .d (cB.enc (!x118)))] (by kernel_rfl) <|
    xn <| cnd rfl h (fun b120 h => wpC_seq <| reg_s <| x_asg (sc cB false rfl) <| seqN [(10, .d (cB.enc false))] (by kernel_rfl) <|
    xn <| wpC_ret <| rt <| rt <| re <| fin h (r1 (ss rfl rfl) <| r0) rfl)
    (fun b120 h => wpC_skip <| kpN [(2, .d ((cLs cI rfl).enc v2)), (3, .d ((cLs (cXRecord cI cI (cLs cI rfl)) rfl).enc v3)), (4, .d ((cLs cI rfl).enc v4)), (16, .d ((cLo cI).enc x65)), (17, .d ((cLo (cXRecord cI cI (cLo cI))).enc x69)), (18, .d ((cLo cI).enc x73))] (by kernel_rfl) <| xn <| wpC_seq <| wpC_kp <| wpC_seq <| reg_s <| st rfl <| mvo rfl rfl <| st rfl <| mvd rfl rfl <| bnd h fun x134 e135 h => st rfl <| o_call (a1 (c := (cLs cI rfl)) (tLs tK) rfl a0) (con_laws_toIntS e135) (.inl (so1 (sLo sK) so0)) <| bnd h fun x136 e137 h => st rfl <| o_call (a1 (c := (cLo cI)) (tLo tK) rfl (a1 (c := (cLo cI)) (tLo tK) rfl a0)) (con_laws_eqIntS e137) (.inl (so1 sB so0)) <| st rfl <| o_nt rfl <| seqN [(3, .d ((cLs (cXRecord cI cI (cLs cI rfl)) rfl).enc v3)), (4, .d ((cLs cI rfl).enc v4)), (17, .d ((cLo (cXRecord cI cI (cLo cI))).enc x69)), (18, .d ((cLo cI).enc x73)), (97, .d (cB.enc (!x136)))] (by kernel_rfl) <|
    xn <| cnd rfl h (fun b138 h => wpC_seq <| reg_s <| x_asg (sc cB false rfl) <| seqN [(10, .d (cB.enc false))] (by kernel_rfl) <|
    xn <| wpC_ret <| rt <| rt <| re <| fin h (r1 (ss rfl rfl) <| r0) rfl)
    (fun b138 h => wpC_skip <| kpN [(3, .d ((cLs (cXRecord cI cI (cLs cI rfl)) rfl).enc v3)), (4, .d ((cLs cI rfl).enc v4)), (17, .d ((cLo (cXRecord cI cI (cLo cI))).enc x69)), (18, .d ((cLo cI).enc x73))] (by kernel_rfl) <| xn <| wpC_seq <| wpC_kp <| wpC_seq <| reg_s <| st rfl <| mvo rfl rfl <| st rfl <| mvd rfl rfl <| bnd h fun x152 e153 h => st rfl <| o_call (a1 (c := (cLs (cXRecord cI cI (cLs cI rfl)) rfl)) (tLs (tXRecord tK tK (tLs tK))) rfl a0) (con_laws_toRecordS e153) (.inl (so1 (sLo (sXRecord sK sK (sLo sK))) so0)) <| bnd h fun x154 e155 h => st rfl <| o_call (a1 (c := (cLo (cXRecord cI cI (cLo cI)))) (tLo (tXRecord tK tK (tLo tK))) rfl (a1 (c := (cLo (cXRecord cI cI (cLo cI)))) (tLo (tXRecord tK tK (tLo tK))) rfl a0)) (con_laws_eqRecordS e155) (.inl (so1 sB so0)) <| st rfl <| o_nt rfl <| seqN [(4, .d ((cLs cI rfl).enc v4)), (18, .d ((cLo cI).enc x73)), (102, .d (cB.enc (!x154)))] (by kernel_rfl) <|
    xn <| cnd rfl h (fun b156 h => wpC_seq <| reg_s <| x_asg (sc cB false rfl) <| seqN [(10, .d (cB.enc false))] (by kernel_rfl) <|
    xn <| wpC_ret <| rt <| rt <| re <| fin h (r1 (ss rfl rfl) <| r0) rfl)
    (fun b156 h => wpC_skip <| kpN [(4, .d ((cLs cI rfl).enc v4)), (18, .d ((cLo cI).enc x73))] (by kernel_rfl) <| xn <| wpC_seq <| wpC_kp <| wpC_seq <| reg_s <| st rfl <| mvo rfl rfl <| st rfl <| mvd rfl rfl <| bnd h fun x170 e171 h => st rfl <| o_call (a1 (c := (cLs cI rfl)) (tLs tK) rfl a0) (con_laws_toIntS e171) (.inl (so1 (sLo sK) so0)) <| bnd h fun x172 e173 h => st rfl <| o_call (a1 (c := (cLo cI)) (tLo tK) rfl (a1 (c := (cLo cI)) (tLo tK) rfl a0)) (con_laws_eqIntS e173) (.inl (so1 sB so0)) <| st rfl <| o_nt rfl <| seqN [(107, .d (cB.enc (!x172)))] (by kernel_rfl) <|
    xn <| cnd rfl h (fun b174 h => wpC_seq <| reg_s <| x_asg (sc cB false rfl) <| seqN [(10, .d (cB.enc false))] (by kernel_rfl) <|
    xn <| wpC_ret <| rt <| rt <| re <| fin h (r1 (ss rfl rfl) <| r0) rfl)
    (fun b174 h => wpC_skip <| kpN [] (by kernel_rfl) <| xn <| wpC_seq <| reg_s <| x_asg (sc cB true rfl) <| seqN [(10, .d (cB.enc true))] (by kernel_rfl) <|
    xn <| wpC_ret <| re <| fin h (r1 (ss rfl rfl) <| r0) rfl))))))))))))
end AS.W
