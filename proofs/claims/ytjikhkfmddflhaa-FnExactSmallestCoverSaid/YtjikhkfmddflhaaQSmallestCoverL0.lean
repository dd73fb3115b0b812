/- The program computes the plain functions. No condition. -/
import Derived.Test.YtjikhkfmddflhaaQSmallestCoverS
import Derived.Test.YtjikhkfmddflhaaProg
set_option maxRecDepth 100000
set_option linter.unusedVariables false
set_option linter.unusedSimpArgs false
namespace AS.W
open Go Go.Proofs
def rs_spec_l1In (r : Bool) : List D := [cB.enc r]
def m111 : MC := .seq (.reg [⟨some 6, .asg (.c (.bool false)), none⟩] [0, 1, 2])
  (.seq (.reg [⟨some 7, .mv (.t 0), none⟩,
    ⟨some 8, .mv (.t 1), none⟩,
    ⟨some 9, .bin .geq (.t 7) (.t 8), none⟩,
    ⟨some 10, .mv (.t 9), none⟩,
    ⟨some 11, .mv (.t 0), some (10, true)⟩,
    ⟨some 12, .mv (.t 2), some (10, true)⟩,
    ⟨some 13, .bin .leq (.t 11) (.t 12), some (10, true)⟩,
    ⟨some 14, .pick (.t 10) (.t 13) (.c (.bool false)), none⟩,
    ⟨some 6, .asg (.t 14), none⟩] [6])
  (.ret))
theorem con_spec_l1In {v0 : Int} {v1 : Int} {v2 : Int} {r : Bool} (h : sh_spec_l1In v0 v1 v2 = some r) : Con Try.prog 111 [cI.enc v0, cI.enc v1, cI.enc v2] [] (rs_spec_l1In r) := by
  delta sh_spec_l1In at h
  refine top (out := none) (f := Try.f111) (m := m111) (rs := [.t 6]) (by kernel_rfl) rfl (by kernel_rfl) (by kernel_rfl) (by kernel_rfl) (by kernel_rfl) (by kernel_rfl) ?_
  exact
   ini [(0, .d (cI.enc v0)), (1, .d (cI.enc v1)), (2, .d (cI.enc v2))] rfl <| wpC_seq <| reg_s <| x_asg (sc cB false rfl) <| seqN [(0, .d (cI.enc v0)), (1, .d (cI.enc v1)), (2, .d (cI.enc v2))] (by kernel_rfl) <|
    xn <| wpC_seq <| reg_s <| st rfl <| mvd rfl rfl <| st rfl <| mvd rfl rfl <| st rfl <| b_geq (k := .i64) rfl rfl <| st rfl <| mvd rfl rfl <| ite_k h (fun b2 h => gt' rfl b2 <| st rfl <| mvd rfl rfl <| gt' rfl b2 <| st rfl <| mvd rfl rfl <| gt' rfl b2 <| st rfl <| b_leq (k := .i64) rfl rfl <| st rfl <| pick1 rfl b2 (cd := cB) (v := (decide (v0 ≤ v2))) rfl rfl <| x_asg (ss rfl rfl) <| seqN [(6, .d (cB.enc (decide (v0 ≤ v2))))] (by kernel_rfl) <|
    xn <| wpC_ret <| re <| fin h (r1 (ss rfl rfl) <| r0) rfl)
    (fun b2 h => gf rfl b2 <| gf rfl b2 <| gf rfl b2 <| st rfl <| pick0 rfl b2 (cd := cB) (v := false) rfl rfl <| x_asg (ss rfl rfl) <| seqN [(6, .d (cB.enc false))] (by kernel_rfl) <|
    xn <| wpC_ret <| re <| fin h (r1 (ss rfl rfl) <| r0) rfl)

def rs_laws_szIntS (r : Int) : List D := [cI.enc r]
def m109 : MC := .seq (.reg [⟨some 4, .asg (.c (.int .i64 0)), none⟩] [0, 1])
  (.seq (.reg [⟨some 5, .mv (.t 1), none⟩,
    ⟨some 6, .mv (.t 0), none⟩,
    ⟨some 7, .len false (.t 6), none⟩,
    ⟨some 8, .bin .sub (.t 5) (.t 7), none⟩,
    ⟨some 1, .asg (.t 8), none⟩] [1])
  (.seq (.kp [1] (.seq (.reg [⟨some 9, .mv (.t 1), none⟩,
    ⟨some 10, .bin .lss (.t 9) (.c (.int .i64 0)), none⟩] [1, 10])
  (.cond (.t 10) (.seq (.reg [⟨some 4, .asg (.c (.int .i64 (-1))), none⟩] [4])
  (.ret)) (.skip))))
  (.seq (.reg [⟨some 11, .mv (.t 1), none⟩,
    ⟨some 4, .asg (.t 11), none⟩] [4])
  (.ret))))
theorem con_laws_szIntS {v0 : (List Int)} {v1 : Int} {r : Int} (h : sh_laws_szIntS v0 v1 = some r) : Con Try.prog 109 [(cLs cI rfl).enc v0, cI.enc v1] [] (rs_laws_szIntS r) := by
  delta sh_laws_szIntS at h
  refine top (out := none) (f := Try.f109) (m := m109) (rs := [.t 4]) (by kernel_rfl) rfl (by kernel_rfl) (by kernel_rfl) (by kernel_rfl) (by kernel_rfl) (by kernel_rfl) ?_
  exact
   ini [(0, .d ((cLs cI rfl).enc v0)), (1, .d (cI.enc v1))] rfl <| wpC_seq <| reg_s <| x_asg (sc cI (0 : Int) rfl) <| seqN [(0, .d ((cLs cI rfl).enc v0)), (1, .d (cI.enc v1))] (by kernel_rfl) <|
    xn <| wpC_seq <| reg_s <| st rfl <| mvd rfl rfl <| st rfl <| mvd rfl rfl <| stw rfl <| lens rfl fun l3 => ckI_k h fun i4 h => st rfl <| b_sub (k := .i64) rfl rfl i4 <| x_asg (ss rfl rfl) <| seqN [(1, .d (cI.enc (v1 - (v0.length : Int))))] (by kernel_rfl) <|
    xn <| wpC_seq <| wpC_kp <| wpC_seq <| reg_s <| st rfl <| mvd rfl rfl <| st rfl <| b_lss (k := .i64) rfl rfl <| seqN [(1, .d (cI.enc (v1 - (v0.length : Int)))), (10, .d (cB.enc (decide ((v1 - (v0.length : Int)) < (0 : Int)))))] (by kernel_rfl) <|
    xn <| cnd rfl h (fun b6 h => wpC_seq <| reg_s <| x_asg (sc cI (-1 : Int) rfl) <| seqN [(4, .d (cI.enc (-1 : Int)))] (by kernel_rfl) <|
    xn <| wpC_ret <| rt <| rt <| re <| fin h (r1 (ss rfl rfl) <| r0) rfl)
    (fun b6 h => wpC_skip <| kpN [(1, .d (cI.enc (v1 - (v0.length : Int))))] (by kernel_rfl) <| xn <| wpC_seq <| reg_s <| st rfl <| mvd rfl rfl <| x_asg (ss rfl rfl) <| seqN [(4, .d (cI.enc (v1 - (v0.length : Int))))] (by kernel_rfl) <|
    xn <| wpC_ret <| re <| fin h (r1 (ss rfl rfl) <| r0) rfl)

def rs_laws_toIntS (r : (List Int)) : List D := [(cLo cI).enc r]
def m27 : MC := .seq (.reg [⟨some 2, .asg (.c (.slice true [])), none⟩] [0])
  (.seq (.reg [⟨some 5, .mv (.t 0), none⟩,
    ⟨some 6, .len false (.t 5), none⟩,
    ⟨some 7, .mk (.int .i64 0) (.t 6), none⟩,
    ⟨some 3, .asg (.t 7), none⟩] [0, 3])
  (.seq (.kp [3] (.seq (.reg [⟨some 4, .asg (.c (.int .i64 0)), none⟩] [0, 3, 4])
  (.blk 0 (.loop (.seq (.kp [0, 3, 4] (.seq (.reg [⟨some 8, .mv (.t 4), none⟩,
    ⟨some 9, .mv (.t 0), none⟩,
    ⟨some 10, .len false (.t 9), none⟩,
    ⟨some 11, .bin .lss (.t 8) (.t 10), none⟩] [0, 3, 4, 11])
  (.cond (.t 11) (.skip) (.exit 0))))
  (.seq (.kp [0, 3, 4] (.blk 1 (.reg [⟨some 14, .mv (.t 3), none⟩,
    ⟨some 15, .mv (.t 4), none⟩,
    ⟨some 16, .mv (.t 0), none⟩,
    ⟨some 17, .mv (.t 4), none⟩,
    ⟨some 18, .ia 16 (.t 17) 1, none⟩,
    ⟨some 19, .ld 18 1 false, none⟩,
    ⟨some 20, .ia 14 (.t 15) 1, none⟩,
    ⟨none, .st 20 (.t 19) 1, none⟩] [0, 3, 4])))
  (.reg [⟨some 12, .mv (.t 4), none⟩,
    ⟨some 13, .bin .add (.t 12) (.c (.int .i64 1)), none⟩,
    ⟨some 4, .asg (.t 13), none⟩] [0, 3, 4])))))))
  (.seq (.reg [⟨some 21, .mv (.t 3), none⟩,
    ⟨some 2, .asg (.t 21), none⟩] [2])
  (.ret))))
theorem con_laws_toIntS {v0 : (List Int)} {r : (List Int)} (h : sh_laws_toIntS v0 = some r) : Con Try.prog 27 [(cLs cI rfl).enc v0] [] (rs_laws_toIntS r) := by
  delta sh_laws_toIntS at h
  refine top (out := none) (f := Try.f27) (m := m27) (rs := [.t 2]) (by kernel_rfl) rfl (by kernel_rfl) (by kernel_rfl) (by kernel_rfl) (by kernel_rfl) (by kernel_rfl) ?_
  exact
   ini [(0, .d ((cLs cI rfl).enc v0))] rfl <| wpC_seq <| reg_s <| x_asg (sc (cLo cI) ([] : List Int) rfl) <| seqN [(0, .d ((cLs cI rfl).enc v0))] (by kernel_rfl) <|
    xn <| wpC_seq <| reg_s <| st rfl <| mvd rfl rfl <| stw rfl <| lens rfl fun l4 => mkO_k h fun i5 l6 h => st rfl <| o_mk (c := cI) (a0 := (0 : Int)) rfl (k := .i64) rfl i5 l6 <| x_asg (so rfl rfl) <| seqN [(0, .d ((cLs cI rfl).enc v0)), (3, .d ((cLo cI).enc (List.replicate ((v0.length : Int)).toNat (0 : Int))))] (by kernel_rfl) <|
    xn <| wpC_seq <| wpC_kp <| wpC_seq <| reg_s <| x_asg (sc cI (0 : Int) rfl) <| seqN [(0, .d ((cLs cI rfl).enc v0)), (3, .d ((cLo cI).enc (List.replicate ((v0.length : Int)).toNat (0 : Int)))), (4, .d (cI.enc (0 : Int)))] (by kernel_rfl) <|
    xn <| wpC_blk <| lpF (fun (s72 : ((List Int) × Int)) => [(0, .d ((cLs cI rfl).enc v0)), (3, .d ((cLo cI).enc s72.1)), (4, .d (cI.enc s72.2))]) ((List.replicate ((v0.length : Int)).toNat (0 : Int)), (0 : Int)) rfl h
    fun G117 nx115 s72 hn116 h => wpC_seq <| wpC_kp <| wpC_seq <| reg_s <| st rfl <| mvd rfl rfl <| st rfl <| mvd rfl rfl <| stw rfl <| lens rfl fun l122 => st rfl <| b_lss (k := .i64) rfl rfl <| seqN [(0, .d ((cLs cI rfl).enc v0)), (3, .d ((cLo cI).enc s72.1)), (4, .d (cI.enc s72.2)), (11, .d (cB.enc (decide (s72.2 < (v0.length : Int)))))] (by kernel_rfl) <|
    xn <| cnd rfl h (fun b123 h => wpC_skip <| kpN [(0, .d ((cLs cI rfl).enc v0)), (3, .d ((cLo cI).enc s72.1)), (4, .d (cI.enc s72.2))] (by kernel_rfl) <| xn <| wpC_seq <| wpC_kp <| wpC_blk <| reg_s <| st rfl <| mvo rfl rfl <| st rfl <| mvd rfl rfl <| st rfl <| mvd rfl rfl <| st rfl <| mvd rfl rfl <| getO_k h fun x130 i131 g132 h => st rfl <| ias rfl rfl i131 g132 rfl <| st rfl <| ldi rfl rfl rfl rfl <| getO_k h fun x133 i134 g135 h => st rfl <| iar rfl rfl rfl rfl i134 g135 rfl <| x_sta ((cLo cI).enc (s72.1.set (s72.2).toNat x130)) (ss rfl rfl) rfl rfl (Ln.idx g135 Ln.nil) (Cd.h_sz cI _) rfl <| seqN [(0, .d ((cLs cI rfl).enc v0)), (3, .d ((cLo cI).enc (s72.1.set (s72.2).toNat x130))), (4, .d (cI.enc s72.2))] (by kernel_rfl) <|
    xbb <| kpN [(0, .d ((cLs cI rfl).enc v0)), (3, .d ((cLo cI).enc (s72.1.set (s72.2).toNat x130))), (4, .d (cI.enc s72.2))] (by kernel_rfl) <| xn <| reg_s <| st rfl <| mvd rfl rfl <| ckI_k h fun i136 h => st rfl <| b_add (k := .i64) rfl rfl i136 <| x_asg (ss rfl rfl) <| seqN [(0, .d ((cLs cI rfl).enc v0)), (3, .d ((cLo cI).enc (s72.1.set (s72.2).toNat x130))), (4, .d (cI.enc (s72.2 + (1 : Int))))] (by kernel_rfl) <|
    xn <| hn116 ((s72.1.set (s72.2).toNat x130), (s72.2 + (1 : Int))) h)
    (fun b123 h => wpC_exit <| xt <| xt <| xt <| xb <| kpN [(3, .d ((cLo cI).enc s72.1))] (by kernel_rfl) <| xn <| wpC_seq <| reg_s <| st rfl <| mvo rfl rfl <| x_asg (sr rfl rfl) <| seqN [(2, .d ((cLo cI).enc s72.1))] (by kernel_rfl) <|
    xn <| wpC_ret <| re <| fin h (r1 (so rfl rfl) <| r0) rfl)

def rs_laws_eqIntS (r : Bool) : List D := [cB.enc r]
def m19 : MC := .seq (.reg [⟨some 4, .asg (.c (.bool false)), none⟩] [0, 1])
  (.seq (.kp [0, 1] (.seq (.reg [⟨some 6, .mv (.t 0), none⟩,
    ⟨some 7, .len false (.t 6), none⟩,
    ⟨some 8, .mv (.t 1), none⟩,
    ⟨some 9, .len false (.t 8), none⟩,
    ⟨some 10, .bin .neq (.t 7) (.t 9), none⟩] [0, 1, 10])
  (.cond (.t 10) (.seq (.reg [⟨some 4, .asg (.c (.bool false)), none⟩] [4])
  (.ret)) (.skip))))
  (.seq (.kp [] (.seq (.reg [⟨some 5, .asg (.c (.int .i64 0)), none⟩] [0, 1, 5])
  (.blk 0 (.loop (.seq (.kp [0, 1, 5] (.seq (.reg [⟨some 11, .mv (.t 5), none⟩,
    ⟨some 12, .mv (.t 0), none⟩,
    ⟨some 13, .len false (.t 12), none⟩,
    ⟨some 14, .bin .lss (.t 11) (.t 13), none⟩] [0, 1, 5, 14])
  (.cond (.t 14) (.skip) (.exit 0))))
  (.seq (.kp [0, 1, 5] (.blk 1 (.seq (.drw [⟨0, ⟨some 17, .mv (.t 0), none⟩, [18, 19, 20, 21, 22, 23, 24, 25]⟩,
    ⟨1, ⟨some 18, .mv (.t 5), none⟩, [17, 19, 20, 21, 22, 23, 24, 25]⟩,
    ⟨2, ⟨some 19, .ia 17 (.t 18) 1, none⟩, [20, 21, 22, 23, 24, 25]⟩,
    ⟨3, ⟨some 20, .ld 19 1 false, none⟩, [21, 22, 23, 24, 25]⟩,
    ⟨4, ⟨some 21, .mv (.t 1), none⟩, [17, 18, 19, 20, 22, 23, 24, 25]⟩,
    ⟨5, ⟨some 22, .mv (.t 5), none⟩, [17, 18, 19, 20, 21, 23, 24, 25]⟩,
    ⟨6, ⟨some 23, .ia 21 (.t 22) 1, none⟩, [17, 18, 19, 20, 24, 25]⟩,
    ⟨7, ⟨some 24, .ld 23 1 false, none⟩, [17, 18, 19, 20, 25]⟩,
    ⟨8, ⟨some 25, .bin .neq (.t 20) (.t 24), none⟩, []⟩]
    [] [0, 1, 5, 25])
  (.cond (.t 25) (.seq (.reg [⟨some 4, .asg (.c (.bool false)), none⟩] [4])
  (.ret)) (.skip)))))
  (.reg [⟨some 15, .mv (.t 5), none⟩,
    ⟨some 16, .bin .add (.t 15) (.c (.int .i64 1)), none⟩,
    ⟨some 5, .asg (.t 16), none⟩] [0, 1, 5])))))))
  (.seq (.reg [⟨some 4, .asg (.c (.bool true)), none⟩] [4])
  (.ret))))
theorem con_laws_eqIntS {v0 : (List Int)} {v1 : (List Int)} {r : Bool} (h : sh_laws_eqIntS v0 v1 = some r) : Con Try.prog 19 [(cLs cI rfl).enc v0, (cLs cI rfl).enc v1] [] (rs_laws_eqIntS r) := by
  delta sh_laws_eqIntS at h
  refine top (out := none) (f := Try.f19) (m := m19) (rs := [.t 4]) (by kernel_rfl) rfl (by kernel_rfl) (by kernel_rfl) (by kernel_rfl) (by kernel_rfl) (by kernel_rfl) ?_
  exact
   ini [(0, .d ((cLs cI rfl).enc v0)), (1, .d ((cLs cI rfl).enc v1))] rfl <| wpC_seq <| reg_s <| x_asg (sc cB false rfl) <| seqN [(0, .d ((cLs cI rfl).enc v0)), (1, .d ((cLs cI rfl).enc v1))] (by kernel_rfl) <|
    xn <| wpC_seq <| wpC_kp <| wpC_seq <| reg_s <| st rfl <| mvd rfl rfl <| stw rfl <| lens rfl fun l8 => st rfl <| mvd rfl rfl <| stw rfl <| lens rfl fun l9 => st rfl <| b_neq (k := .i64) rfl rfl <| seqN [(0, .d ((cLs cI rfl).enc v0)), (1, .d ((cLs cI rfl).enc v1)), (10, .d (cB.enc (decide ((v0.length : Int) ≠ (v1.length : Int)))))] (by kernel_rfl) <|
    xn <| cnd rfl h (fun b10 h => wpC_seq <| reg_s <| x_asg (sc cB false rfl) <| seqN [(4, .d (cB.enc false))] (by kernel_rfl) <|
    xn <| wpC_ret <| rt <| rt <| re <| fin h (r1 (ss rfl rfl) <| r0) rfl)
    (fun b10 h => wpC_skip <| kpN [(0, .d ((cLs cI rfl).enc v0)), (1, .d ((cLs cI rfl).enc v1))] (by kernel_rfl) <| xn <| wpC_seq <| wpC_kp <| wpC_seq <| reg_s <| x_asg (sc cI (0 : Int) rfl) <| seqN [(0, .d ((cLs cI rfl).enc v0)), (1, .d ((cLs cI rfl).enc v1)), (5, .d (cI.enc (0 : Int)))] (by kernel_rfl) <|
    xn <| wpC_blk <| lpF (fun (s118 : Int) => [(0, .d ((cLs cI rfl).enc v0)), (1, .d ((cLs cI rfl).enc v1)), (5, .d (cI.enc s118))]) (0 : Int) rfl h
    fun G191 nx189 s118 hn190 h => wpC_seq <| wpC_kp <| wpC_seq <| reg_s <| st rfl <| mvd rfl rfl <| st rfl <| mvd rfl rfl <| stw rfl <| lens rfl fun l196 => st rfl <| b_lss (k := .i64) rfl rfl <| seqN [(0, .d ((cLs cI rfl).enc v0)), (1, .d ((cLs cI rfl).enc v1)), (5, .d (cI.enc s118)), (14, .d (cB.enc (decide (s118 < (v0.length : Int)))))] (by kernel_rfl) <|
    xn <| cnd rfl h (fun b197 h => wpC_skip <| kpN [(0, .d ((cLs cI rfl).enc v0)), (1, .d ((cLs cI rfl).enc v1)), (5, .d (cI.enc s118))] (by kernel_rfl) <| xn <| wpC_seq <| wpC_kp <| wpC_blk <| wpC_seq <| drw_s <| pst rfl <| mvd rfl rfl ⟨rfl, pst rfl <| mvd rfl rfl ⟨rfl, getO_kp h fun x217 i218 g219 h => pst rfl <| ias rfl rfl i218 g219 rfl ⟨rfl, pst rfl <| ldi rfl rfl rfl rfl ⟨rfl, pst rfl <| mvd rfl rfl ⟨rfl, pst rfl <| mvd rfl rfl ⟨rfl, getO_kp h fun x220 i221 g222 h => pst rfl <| ias rfl rfl i221 g222 rfl ⟨rfl, pst rfl <| ldi rfl rfl rfl rfl ⟨rfl, pst rfl <| b_neq (k := .i64) rfl rfl ⟨rfl, preN <| seqN [(0, .d ((cLs cI rfl).enc v0)), (1, .d ((cLs cI rfl).enc v1)), (5, .d (cI.enc s118)), (25, .d (cB.enc (decide (x217 ≠ x220))))] (by kernel_rfl) <|
    xn <| cnd rfl h (fun b223 h => wpC_seq <| reg_s <| x_asg (sc cB false rfl) <| seqN [(4, .d (cB.enc false))] (by kernel_rfl) <|
    xn <| wpC_ret <| rb <| rt <| rt <| rt <| rb <| rt <| rt <| re <| fin h (r1 (ss rfl rfl) <| r0) rfl)
    (fun b223 h => wpC_skip <| xbb <| kpN [(0, .d ((cLs cI rfl).enc v0)), (1, .d ((cLs cI rfl).enc v1)), (5, .d (cI.enc s118))] (by kernel_rfl) <| xn <| reg_s <| st rfl <| mvd rfl rfl <| ckI_k h fun i224 h => st rfl <| b_add (k := .i64) rfl rfl i224 <| x_asg (ss rfl rfl) <| seqN [(0, .d ((cLs cI rfl).enc v0)), (1, .d ((cLs cI rfl).enc v1)), (5, .d (cI.enc (s118 + (1 : Int))))] (by kernel_rfl) <|
    xn <| hn190 (s118 + (1 : Int)) h)⟩⟩⟩⟩⟩⟩⟩⟩⟩)
    (fun b197 h => wpC_exit <| xt <| xt <| xt <| xb <| kpN [] (by kernel_rfl) <| xn <| wpC_seq <| reg_s <| x_asg (sc cB true rfl) <| seqN [(4, .d (cB.enc true))] (by kernel_rfl) <|
    xn <| wpC_ret <| re <| fin h (r1 (ss rfl rfl) <| r0) rfl))

def os_laws_markIntS (r : ((List Int) × Int)) : D := (cLo cI).enc r.1
def rs_laws_markIntS (r : ((List Int) × Int)) : List D := [cI.enc r.2]
def m24 : MC := .seq (.reg [⟨some 4, .asg (.c (.int .i64 0)), none⟩] [0, 1])
  (.seq (.kp [0, 1] (.seq (.reg [⟨some 5, .asg (.c (.int .i64 0)), none⟩] [0, 1, 5])
  (.blk 0 (.loop (.seq (.kp [0, 1, 5] (.seq (.reg [⟨some 6, .mv (.t 5), none⟩,
    ⟨some 7, .mv (.t 0), none⟩,
    ⟨some 8, .len false (.t 7), none⟩,
    ⟨some 9, .bin .lss (.t 6) (.t 8), none⟩] [0, 1, 5, 9])
  (.cond (.t 9) (.skip) (.exit 0))))
  (.seq (.kp [0, 1, 5] (.blk 1 (.seq (.reg [⟨some 12, .mv (.t 0), none⟩,
    ⟨some 13, .mv (.t 5), none⟩,
    ⟨some 14, .mv (.t 1), none⟩,
    ⟨some 15, .ia 12 (.t 13) 1, none⟩,
    ⟨none, .st 15 (.t 14) 1, none⟩] [0, 1, 5])
  (.reg [⟨some 16, .mv (.t 1), none⟩,
    ⟨some 17, .bin .add (.t 16) (.c (.int .i64 1)), none⟩,
    ⟨some 1, .asg (.t 17), none⟩] [0, 1, 5]))))
  (.reg [⟨some 10, .mv (.t 5), none⟩,
    ⟨some 11, .bin .add (.t 10) (.c (.int .i64 1)), none⟩,
    ⟨some 5, .asg (.t 11), none⟩] [0, 1, 5])))))))
  (.seq (.reg [⟨some 18, .mv (.t 1), none⟩,
    ⟨some 4, .asg (.t 18), none⟩] [0, 4])
  (.ret)))
theorem con_laws_markIntS {v0 : (List Int)} {v1 : Int} {r : ((List Int) × Int)} (h : sh_laws_markIntS v0 v1 = some r) : Con Try.prog 24 [(cLo cI).enc v0, cI.enc v1] (outsOf (some (0, os_laws_markIntS r))) (rs_laws_markIntS r) := by
  delta sh_laws_markIntS at h
  refine top (out := some (0, os_laws_markIntS r)) (f := Try.f24) (m := m24) (rs := [.t 4]) (by kernel_rfl) rfl (by kernel_rfl) (by kernel_rfl) (by kernel_rfl) (by kernel_rfl) (by kernel_rfl) ?_
  exact
   ini [(0, .d ((cLo cI).enc v0)), (1, .d (cI.enc v1))] rfl <| wpC_seq <| reg_s <| x_asg (sc cI (0 : Int) rfl) <| seqN [(0, .d ((cLo cI).enc v0)), (1, .d (cI.enc v1))] (by kernel_rfl) <|
    xn <| wpC_seq <| wpC_kp <| wpC_seq <| reg_s <| x_asg (sc cI (0 : Int) rfl) <| seqN [(0, .d ((cLo cI).enc v0)), (1, .d (cI.enc v1)), (5, .d (cI.enc (0 : Int)))] (by kernel_rfl) <|
    xn <| wpC_blk <| lpF (fun (s72 : ((List Int) × Int × Int)) => [(0, .d ((cLo cI).enc s72.1)), (1, .d (cI.enc s72.2.1)), (5, .d (cI.enc s72.2.2))]) (v0, v1, (0 : Int)) rfl h
    fun G121 nx119 s72 hn120 h => wpC_seq <| wpC_kp <| wpC_seq <| reg_s <| st rfl <| mvd rfl rfl <| st rfl <| mvo rfl rfl <| stw rfl <| leno rfl fun l126 => st rfl <| b_lss (k := .i64) rfl rfl <| seqN [(0, .d ((cLo cI).enc s72.1)), (1, .d (cI.enc s72.2.1)), (5, .d (cI.enc s72.2.2)), (9, .d (cB.enc (decide (s72.2.2 < (s72.1.length : Int)))))] (by kernel_rfl) <|
    xn <| cnd rfl h (fun b127 h => wpC_skip <| kpN [(0, .d ((cLo cI).enc s72.1)), (1, .d (cI.enc s72.2.1)), (5, .d (cI.enc s72.2.2))] (by kernel_rfl) <| xn <| wpC_seq <| wpC_kp <| wpC_blk <| wpC_seq <| reg_s <| st rfl <| mvo rfl rfl <| st rfl <| mvd rfl rfl <| st rfl <| mvd rfl rfl <| getO_k h fun x138 i139 g140 h => st rfl <| iar rfl rfl rfl rfl i139 g140 rfl <| x_sta ((cLo cI).enc (s72.1.set (s72.2.2).toNat s72.2.1)) (ss rfl rfl) rfl rfl (Ln.idx g140 Ln.nil) (Cd.h_sz cI _) rfl <| seqN [(0, .d ((cLo cI).enc (s72.1.set (s72.2.2).toNat s72.2.1))), (1, .d (cI.enc s72.2.1)), (5, .d (cI.enc s72.2.2))] (by kernel_rfl) <|
    xn <| reg_s <| st rfl <| mvd rfl rfl <| ckI_k h fun i141 h => st rfl <| b_add (k := .i64) rfl rfl i141 <| x_asg (ss rfl rfl) <| seqN [(0, .d ((cLo cI).enc (s72.1.set (s72.2.2).toNat s72.2.1))), (1, .d (cI.enc (s72.2.1 + (1 : Int)))), (5, .d (cI.enc s72.2.2))] (by kernel_rfl) <|
    xbb <| kpN [(0, .d ((cLo cI).enc (s72.1.set (s72.2.2).toNat s72.2.1))), (1, .d (cI.enc (s72.2.1 + (1 : Int)))), (5, .d (cI.enc s72.2.2))] (by kernel_rfl) <| xn <| reg_s <| st rfl <| mvd rfl rfl <| ckI_k h fun i142 h => st rfl <| b_add (k := .i64) rfl rfl i142 <| x_asg (ss rfl rfl) <| seqN [(0, .d ((cLo cI).enc (s72.1.set (s72.2.2).toNat s72.2.1))), (1, .d (cI.enc (s72.2.1 + (1 : Int)))), (5, .d (cI.enc (s72.2.2 + (1 : Int))))] (by kernel_rfl) <|
    xn <| hn120 ((s72.1.set (s72.2.2).toNat s72.2.1), (s72.2.1 + (1 : Int)), (s72.2.2 + (1 : Int))) h)
    (fun b127 h => wpC_exit <| xt <| xt <| xt <| xb <| kpN [(0, .d ((cLo cI).enc s72.1)), (1, .d (cI.enc s72.2.1))] (by kernel_rfl) <| xn <| wpC_seq <| reg_s <| st rfl <| mvd rfl rfl <| x_asg (ss rfl rfl) <| seqN [(0, .d ((cLo cI).enc s72.1)), (4, .d (cI.enc s72.2.1))] (by kernel_rfl) <|
    xn <| wpC_ret <| re <| finO h (r1 (ss rfl rfl) <| r0) rfl rfl)

def rs_laws_heldIntS (r : Int) : List D := [cI.enc r]
def m25 : MC := .seq (.reg [⟨some 4, .asg (.c (.int .i64 0)), none⟩] [0, 1])
  (.seq (.kp [1] (.seq (.reg [⟨some 5, .asg (.c (.int .i64 0)), none⟩] [0, 1, 5])
  (.blk 0 (.loop (.seq (.kp [0, 1, 5] (.seq (.reg [⟨some 6, .mv (.t 5), none⟩,
    ⟨some 7, .mv (.t 0), none⟩,
    ⟨some 8, .len false (.t 7), none⟩,
    ⟨some 9, .bin .lss (.t 6) (.t 8), none⟩] [0, 1, 5, 9])
  (.cond (.t 9) (.skip) (.exit 0))))
  (.seq (.kp [0, 1, 5] (.blk 1 (.seq (.kp [0, 1, 5] (.seq (.reg [⟨some 12, .mv (.t 0), none⟩,
    ⟨some 13, .mv (.t 5), none⟩,
    ⟨some 14, .ia 12 (.t 13) 1, none⟩,
    ⟨some 15, .ld 14 1 false, none⟩,
    ⟨some 16, .mv (.t 1), none⟩,
    ⟨some 17, .bin .neq (.t 15) (.t 16), none⟩] [0, 1, 5, 17])
  (.cond (.t 17) (.seq (.reg [⟨some 4, .asg (.c (.int .i64 (-1))), none⟩] [4])
  (.ret)) (.skip))))
  (.reg [⟨some 18, .mv (.t 1), none⟩,
    ⟨some 19, .bin .add (.t 18) (.c (.int .i64 1)), none⟩,
    ⟨some 1, .asg (.t 19), none⟩] [0, 1, 5]))))
  (.reg [⟨some 10, .mv (.t 5), none⟩,
    ⟨some 11, .bin .add (.t 10) (.c (.int .i64 1)), none⟩,
    ⟨some 5, .asg (.t 11), none⟩] [0, 1, 5])))))))
  (.seq (.reg [⟨some 20, .mv (.t 1), none⟩,
    ⟨some 4, .asg (.t 20), none⟩] [4])
  (.ret)))
theorem con_laws_heldIntS {v0 : (List Int)} {v1 : Int} {r : Int} (h : sh_laws_heldIntS v0 v1 = some r) : Con Try.prog 25 [(cLs cI rfl).enc v0, cI.enc v1] [] (rs_laws_heldIntS r) := by
  delta sh_laws_heldIntS at h
  refine top (out := none) (f := Try.f25) (m := m25) (rs := [.t 4]) (by kernel_rfl) rfl (by kernel_rfl) (by kernel_rfl) (by kernel_rfl) (by kernel_rfl) (by kernel_rfl) ?_
  exact
   ini [(0, .d ((cLs cI rfl).enc v0)), (1, .d (cI.enc v1))] rfl <| wpC_seq <| reg_s <| x_asg (sc cI (0 : Int) rfl) <| seqN [(0, .d ((cLs cI rfl).enc v0)), (1, .d (cI.enc v1))] (by kernel_rfl) <|
    xn <| wpC_seq <| wpC_kp <| wpC_seq <| reg_s <| x_asg (sc cI (0 : Int) rfl) <| seqN [(0, .d ((cLs cI rfl).enc v0)), (1, .d (cI.enc v1)), (5, .d (cI.enc (0 : Int)))] (by kernel_rfl) <|
    xn <| wpC_blk <| lpF (fun (s120 : (Int × Int)) => [(0, .d ((cLs cI rfl).enc v0)), (1, .d (cI.enc s120.1)), (5, .d (cI.enc s120.2))]) (v1, (0 : Int)) rfl h
    fun G201 nx199 s120 hn200 h => wpC_seq <| wpC_kp <| wpC_seq <| reg_s <| st rfl <| mvd rfl rfl <| st rfl <| mvd rfl rfl <| stw rfl <| lens rfl fun l206 => st rfl <| b_lss (k := .i64) rfl rfl <| seqN [(0, .d ((cLs cI rfl).enc v0)), (1, .d (cI.enc s120.1)), (5, .d (cI.enc s120.2)), (9, .d (cB.enc (decide (s120.2 < (v0.length : Int)))))] (by kernel_rfl) <|
    xn <| cnd rfl h (fun b207 h => wpC_skip <| kpN [(0, .d ((cLs cI rfl).enc v0)), (1, .d (cI.enc s120.1)), (5, .d (cI.enc s120.2))] (by kernel_rfl) <| xn <| wpC_seq <| wpC_kp <| wpC_blk <| wpC_seq <| wpC_kp <| wpC_seq <| reg_s <| st rfl <| mvd rfl rfl <| st rfl <| mvd rfl rfl <| getO_k h fun x233 i234 g235 h => st rfl <| ias rfl rfl i234 g235 rfl <| st rfl <| ldi rfl rfl rfl rfl <| st rfl <| mvd rfl rfl <| st rfl <| b_neq (k := .i64) rfl rfl <| seqN [(0, .d ((cLs cI rfl).enc v0)), (1, .d (cI.enc s120.1)), (5, .d (cI.enc s120.2)), (17, .d (cB.enc (decide (x233 ≠ s120.1))))] (by kernel_rfl) <|
    xn <| cnd rfl h (fun b236 h => wpC_seq <| reg_s <| x_asg (sc cI (-1 : Int) rfl) <| seqN [(4, .d (cI.enc (-1 : Int)))] (by kernel_rfl) <|
    xn <| wpC_ret <| rt <| rt <| rb <| rt <| rt <| rt <| rb <| rt <| rt <| re <| fin h (r1 (ss rfl rfl) <| r0) rfl)
    (fun b236 h => wpC_skip <| kpN [(0, .d ((cLs cI rfl).enc v0)), (1, .d (cI.enc s120.1)), (5, .d (cI.enc s120.2))] (by kernel_rfl) <| xn <| reg_s <| st rfl <| mvd rfl rfl <| ckI_k h fun i237 h => st rfl <| b_add (k := .i64) rfl rfl i237 <| x_asg (ss rfl rfl) <| seqN [(0, .d ((cLs cI rfl).enc v0)), (1, .d (cI.enc (s120.1 + (1 : Int)))), (5, .d (cI.enc s120.2))] (by kernel_rfl) <|
    xbb <| kpN [(0, .d ((cLs cI rfl).enc v0)), (1, .d (cI.enc (s120.1 + (1 : Int)))), (5, .d (cI.enc s120.2))] (by kernel_rfl) <| xn <| reg_s <| st rfl <| mvd rfl rfl <| ckI_k h fun i238 h => st rfl <| b_add (k := .i64) rfl rfl i238 <| x_asg (ss rfl rfl) <| seqN [(0, .d ((cLs cI rfl).enc v0)), (1, .d (cI.enc (s120.1 + (1 : Int)))), (5, .d (cI.enc (s120.2 + (1 : Int))))] (by kernel_rfl) <|
    xn <| hn200 ((s120.1 + (1 : Int)), (s120.2 + (1 : Int))) h))
    (fun b207 h => wpC_exit <| xt <| xt <| xt <| xb <| kpN [(1, .d (cI.enc s120.1))] (by kernel_rfl) <| xn <| wpC_seq <| reg_s <| st rfl <| mvd rfl rfl <| x_asg (ss rfl rfl) <| seqN [(4, .d (cI.enc s120.1))] (by kernel_rfl) <|
    xn <| wpC_ret <| re <| fin h (r1 (ss rfl rfl) <| r0) rfl)

def rs_slices_Index_int (r : Int) : List D := [cI.enc r]
def m164 : MC := .seq (.reg [⟨some 4, .asg (.c (.int .i64 0)), none⟩] [0, 1])
  (.seq (.kp [] (.seq (.reg [⟨some 6, .mv (.t 0), none⟩,
    ⟨some 7, .len false (.t 6), none⟩,
    ⟨some 8, .mv (.c (.int .i64 0)), none⟩] [0, 1, 7, 8])
  (.blk 0 (.loop (.seq (.reg [⟨some 9, .bin .lss (.t 8) (.t 7), none⟩] [0, 1, 7, 8, 9])
  (.seq (.kp [0, 1, 7, 8] (.cond (.t 9) (.skip) (.exit 0)))
  (.seq (.kp [0, 1, 7, 8] (.blk 1 (.seq (.reg [⟨some 10, .mv (.t 8), none⟩,
    ⟨some 5, .asg (.t 10), none⟩] [0, 1, 5, 7, 8])
  (.seq (.reg [⟨some 11, .mv (.t 1), none⟩,
    ⟨some 12, .mv (.t 0), none⟩,
    ⟨some 13, .mv (.t 5), none⟩,
    ⟨some 14, .ia 12 (.t 13) 1, none⟩,
    ⟨some 15, .ld 14 1 false, none⟩,
    ⟨some 16, .bin .eql (.t 11) (.t 15), none⟩] [0, 1, 5, 7, 8, 16])
  (.cond (.t 16) (.seq (.reg [⟨some 17, .mv (.t 5), none⟩,
    ⟨some 4, .asg (.t 17), none⟩] [4])
  (.ret)) (.skip))))))
  (.reg [⟨some 18, .bin .add (.t 8) (.c (.int .i64 1)), none⟩,
    ⟨some 8, .mv (.t 18), none⟩] [0, 1, 7, 8]))))))))
  (.seq (.reg [⟨some 4, .asg (.c (.int .i64 (-1))), none⟩] [4])
  (.ret)))
theorem con_slices_Index_int {v0 : (List Int)} {v1 : Int} {r : Int} (h : sh_slices_Index_int v0 v1 = some r) : Con Try.prog 164 [(cLs cI rfl).enc v0, cI.enc v1] [] (rs_slices_Index_int r) := by
  delta sh_slices_Index_int at h
  refine top (out := none) (f := Try.f164) (m := m164) (rs := [.t 4]) (by kernel_rfl) rfl (by kernel_rfl) (by kernel_rfl) (by kernel_rfl) (by kernel_rfl) (by kernel_rfl) ?_
  exact
   ini [(0, .d ((cLs cI rfl).enc v0)), (1, .d (cI.enc v1))] rfl <| wpC_seq <| reg_s <| x_asg (sc cI (0 : Int) rfl) <| seqN [(0, .d ((cLs cI rfl).enc v0)), (1, .d (cI.enc v1))] (by kernel_rfl) <|
    xn <| wpC_seq <| wpC_kp <| wpC_seq <| reg_s <| st rfl <| mvd rfl rfl <| stw rfl <| lens rfl fun l16 => st rfl <| mvc cI (0 : Int) rfl <| seqN [(0, .d ((cLs cI rfl).enc v0)), (1, .d (cI.enc v1)), (7, .d (cI.enc (v0.length : Int))), (8, .d (cI.enc (0 : Int)))] (by kernel_rfl) <|
    xn <| wpC_blk <| lpR (fun (k18 : Nat) (s17 : Unit) => [(0, .d ((cLs cI rfl).enc v0)), (1, .d (cI.enc v1)), (7, .d (cI.enc (v0.length : Int))), (8, .d (cI.enc (k18 : Int)))]) () rfl h
    (fun G26 s17 h => wpC_seq <| reg_s <| st rfl <| b_lss (k := .i64) rfl rfl <| seqN [(0, .d ((cLs cI rfl).enc v0)), (1, .d (cI.enc v1)), (7, .d (cI.enc (v0.length : Int))), (8, .d (cI.enc (v0.length : Int))), (9, .d (cB.enc (decide ((v0.length : Int) < (v0.length : Int)))))] (by kernel_rfl) <|
    xn <| wpC_seq <| wpC_kp <| cnd0 rfl (dlf _) <| wpC_exit <| xt <| xt <| xt <| xb <| kpN [] (by kernel_rfl) <| xn <| wpC_seq <| reg_s <| x_asg (sc cI (-1 : Int) rfl) <| seqN [(4, .d (cI.enc (-1 : Int)))] (by kernel_rfl) <|
    xn <| wpC_ret <| re <| fin h (r1 (ss rfl rfl) <| r0) rfl)
    (fun G26 nx24 k18 s17 x19 hk20 hx21 hn25 h => wpC_seq <| reg_s <| st rfl <| b_lss (k := .i64) rfl rfl <| seqN [(0, .d ((cLs cI rfl).enc v0)), (1, .d (cI.enc v1)), (7, .d (cI.enc (v0.length : Int))), (8, .d (cI.enc (k18 : Int))), (9, .d (cB.enc (decide ((k18 : Int) < (v0.length : Int)))))] (by kernel_rfl) <|
    xn <| wpC_seq <| wpC_kp <| cnd1 rfl (dlt hk20) <| wpC_skip <| kpN [(0, .d ((cLs cI rfl).enc v0)), (1, .d (cI.enc v1)), (7, .d (cI.enc (v0.length : Int))), (8, .d (cI.enc (k18 : Int)))] (by kernel_rfl) <| xn <| wpC_seq <| wpC_kp <| wpC_blk <| wpC_seq <| reg_s <| st rfl <| mvd rfl rfl <| x_asg (ss rfl rfl) <| seqN [(0, .d ((cLs cI rfl).enc v0)), (1, .d (cI.enc v1)), (5, .d (cI.enc (k18 : Int))), (7, .d (cI.enc (v0.length : Int))), (8, .d (cI.enc (k18 : Int)))] (by kernel_rfl) <|
    xn <| wpC_seq <| reg_s <| st rfl <| mvd rfl rfl <| st rfl <| mvd rfl rfl <| st rfl <| mvd rfl rfl <| st rfl <| ias rfl rfl (Int.natCast_nonneg _) hx21 rfl <| st rfl <| ldi rfl rfl rfl rfl <| st rfl <| b_eql (k := .i64) rfl rfl <| seqN [(0, .d ((cLs cI rfl).enc v0)), (1, .d (cI.enc v1)), (5, .d (cI.enc (k18 : Int))), (7, .d (cI.enc (v0.length : Int))), (8, .d (cI.enc (k18 : Int))), (16, .d (cB.enc (decide (v1 = x19))))] (by kernel_rfl) <|
    xn <| cnd rfl h (fun b28 h => wpC_seq <| reg_s <| st rfl <| mvd rfl rfl <| x_asg (ss rfl rfl) <| seqN [(4, .d (cI.enc (k18 : Int)))] (by kernel_rfl) <|
    xn <| wpC_ret <| rb <| rt <| rt <| rt <| rb <| rt <| rt <| re <| fin h (r1 (ss rfl rfl) <| r0) rfl)
    (fun b28 h => wpC_skip <| xbb <| kpN [(0, .d ((cLs cI rfl).enc v0)), (1, .d (cI.enc v1)), (7, .d (cI.enc (v0.length : Int))), (8, .d (cI.enc (k18 : Int)))] (by kernel_rfl) <| xn <| reg_s <| st rfl <| b_inc rfl rfl l16 hk20 <| st rfl <| mvd rfl rfl <| seqN [(0, .d ((cLs cI rfl).enc v0)), (1, .d (cI.enc v1)), (7, .d (cI.enc (v0.length : Int))), (8, .d (cI.enc ((k18 + 1 : Nat) : Int)))] (by kernel_rfl) <|
    xn <| hn25 () h))

def rs_slices_Contains_int (r : Bool) : List D := [cB.enc r]
def m143 : MC := .seq (.reg [⟨some 4, .asg (.c (.bool false)), none⟩] [0, 1])
  (.seq (.reg [⟨some 5, .mv (.t 0), none⟩,
    ⟨some 6, .mv (.t 1), none⟩,
    ⟨some 7, .call 164 [(.t 5), (.t 6)], none⟩,
    ⟨some 8, .bin .geq (.t 7) (.c (.int .i64 0)), none⟩,
    ⟨some 4, .asg (.t 8), none⟩] [4])
  (.ret))
theorem con_slices_Contains_int {v0 : (List Int)} {v1 : Int} {r : Bool} (h : sh_slices_Contains_int v0 v1 = some r) : Con Try.prog 143 [(cLs cI rfl).enc v0, cI.enc v1] [] (rs_slices_Contains_int r) := by
  delta sh_slices_Contains_int at h
  refine top (out := none) (f := Try.f143) (m := m143) (rs := [.t 4]) (by kernel_rfl) rfl (by kernel_rfl) (by kernel_rfl) (by kernel_rfl) (by kernel_rfl) (by kernel_rfl) ?_
  exact
   ini [(0, .d ((cLs cI rfl).enc v0)), (1, .d (cI.enc v1))] rfl <| wpC_seq <| reg_s <| x_asg (sc cB false rfl) <| seqN [(0, .d ((cLs cI rfl).enc v0)), (1, .d (cI.enc v1))] (by kernel_rfl) <|
    xn <| wpC_seq <| reg_s <| st rfl <| mvd rfl rfl <| st rfl <| mvd rfl rfl <| bnd h fun x3 e4 h => st rfl <| o_call (a1 (c := (cLs cI rfl)) (tLs tK) rfl (a1 (c := cI) tK rfl a0)) (con_slices_Index_int e4) (.inl (so1 sK so0)) <| st rfl <| b_geq (k := .i64) rfl rfl <| x_asg (ss rfl rfl) <| seqN [(4, .d (cB.enc (decide ((0 : Int) ≤ x3))))] (by kernel_rfl) <|
    xn <| wpC_ret <| re <| fin h (r1 (ss rfl rfl) <| r0) rfl

def rs_laws_szVariable (r : Int) : List D := [cI.enc r]
def m56 : MC := .seq (.reg [⟨some 2, .box (.t 0), none⟩,
    ⟨some 4, .asg (.c (.int .i64 0)), none⟩] [1, 2])
  (.seq (.reg [⟨some 5, .mv (.t 1), none⟩,
    ⟨some 6, .fa 2 0 0, none⟩,
    ⟨some 7, .ld 6 1 false, none⟩,
    ⟨some 8, .len true (.t 7), none⟩,
    ⟨some 9, .bin .sub (.t 5) (.t 8), none⟩,
    ⟨some 1, .asg (.t 9), none⟩] [1])
  (.seq (.kp [1] (.seq (.reg [⟨some 10, .mv (.t 1), none⟩,
    ⟨some 11, .bin .lss (.t 10) (.c (.int .i64 0)), none⟩] [1, 11])
  (.cond (.t 11) (.seq (.reg [⟨some 4, .asg (.c (.int .i64 (-1))), none⟩] [4])
  (.ret)) (.skip))))
  (.seq (.reg [⟨some 12, .mv (.t 1), none⟩,
    ⟨some 4, .asg (.t 12), none⟩] [4])
  (.ret))))
theorem con_laws_szVariable {v0 : XVariable} {v1 : Int} {r : Int} (h : sh_laws_szVariable v0 v1 = some r) : Con Try.prog 56 [(cXVariable cS cI).enc v0, cI.enc v1] [] (rs_laws_szVariable r) := by
  delta sh_laws_szVariable at h
  refine top (out := none) (f := Try.f56) (m := m56) (rs := [.t 4]) (by kernel_rfl) rfl (by kernel_rfl) (by kernel_rfl) (by kernel_rfl) (by kernel_rfl) (by kernel_rfl) ?_
  exact
   ini [(0, .d ((cXVariable cS cI).enc v0)), (1, .d (cI.enc v1))] rfl <| wpC_seq <| reg_s <| x_box (ss rfl rfl) <| x_asg (sc cI (0 : Int) rfl) <| seqN [(1, .d (cI.enc v1)), (2, .box ((cXVariable cS cI).enc v0))] (by kernel_rfl) <|
    xn <| wpC_seq <| reg_s <| st rfl <| mvd rfl rfl <| st rfl <| fab rfl rfl rfl rfl <| st rfl <| lda rfl rfl rfl rfl rfl rfl <| stw rfl <| lent rfl fun l3 => ckI_k h fun i4 h => st rfl <| b_sub (k := .i64) rfl rfl i4 <| x_asg (ss rfl rfl) <| seqN [(1, .d (cI.enc (v1 - (v0.Name.length : Int))))] (by kernel_rfl) <|
    xn <| wpC_seq <| wpC_kp <| wpC_seq <| reg_s <| st rfl <| mvd rfl rfl <| st rfl <| b_lss (k := .i64) rfl rfl <| seqN [(1, .d (cI.enc (v1 - (v0.Name.length : Int)))), (11, .d (cB.enc (decide ((v1 - (v0.Name.length : Int)) < (0 : Int)))))] (by kernel_rfl) <|
    xn <| cnd rfl h (fun b6 h => wpC_seq <| reg_s <| x_asg (sc cI (-1 : Int) rfl) <| seqN [(4, .d (cI.enc (-1 : Int)))] (by kernel_rfl) <|
    xn <| wpC_ret <| rt <| rt <| re <| fin h (r1 (ss rfl rfl) <| r0) rfl)
    (fun b6 h => wpC_skip <| kpN [(1, .d (cI.enc (v1 - (v0.Name.length : Int))))] (by kernel_rfl) <| xn <| wpC_seq <| reg_s <| st rfl <| mvd rfl rfl <| x_asg (ss rfl rfl) <| seqN [(4, .d (cI.enc (v1 - (v0.Name.length : Int))))] (by kernel_rfl) <|
    xn <| wpC_ret <| re <| fin h (r1 (ss rfl rfl) <| r0) rfl)

def rs_laws_szVariableS (r : Int) : List D := [cI.enc r]
def m13 : MC := .seq (.reg [⟨some 4, .asg (.c (.int .i64 0)), none⟩] [0, 1])
  (.seq (.reg [⟨some 6, .mv (.t 1), none⟩,
    ⟨some 7, .mv (.t 0), none⟩,
    ⟨some 8, .len false (.t 7), none⟩,
    ⟨some 9, .bin .sub (.t 6) (.t 8), none⟩,
    ⟨some 1, .asg (.t 9), none⟩] [0, 1])
  (.seq (.kp [0, 1] (.seq (.reg [⟨some 10, .mv (.t 1), none⟩,
    ⟨some 11, .bin .lss (.t 10) (.c (.int .i64 0)), none⟩] [0, 1, 11])
  (.cond (.t 11) (.seq (.reg [⟨some 4, .asg (.c (.int .i64 (-1))), none⟩] [4])
  (.ret)) (.skip))))
  (.seq (.kp [1] (.seq (.reg [⟨some 5, .asg (.c (.int .i64 0)), none⟩] [0, 1, 5])
  (.blk 0 (.loop (.seq (.kp [0, 1, 5] (.seq (.reg [⟨some 12, .mv (.t 5), none⟩,
    ⟨some 13, .mv (.t 0), none⟩,
    ⟨some 14, .len false (.t 13), none⟩,
    ⟨some 15, .bin .lss (.t 12) (.t 14), none⟩] [0, 1, 5, 15])
  (.cond (.t 15) (.skip) (.exit 0))))
  (.seq (.kp [0, 1, 5] (.blk 1 (.seq (.reg [⟨some 18, .mv (.t 0), none⟩,
    ⟨some 19, .mv (.t 5), none⟩,
    ⟨some 20, .ia 18 (.t 19) 2, none⟩,
    ⟨some 21, .ld 20 2 true, none⟩,
    ⟨some 22, .mv (.t 1), none⟩,
    ⟨some 23, .call 56 [(.t 21), (.t 22)], none⟩,
    ⟨some 1, .asg (.t 23), none⟩] [0, 1, 5])
  (.seq (.reg [⟨some 24, .mv (.t 1), none⟩,
    ⟨some 25, .bin .lss (.t 24) (.c (.int .i64 0)), none⟩] [0, 1, 5, 25])
  (.cond (.t 25) (.seq (.reg [⟨some 4, .asg (.c (.int .i64 (-1))), none⟩] [4])
  (.ret)) (.skip))))))
  (.reg [⟨some 16, .mv (.t 5), none⟩,
    ⟨some 17, .bin .add (.t 16) (.c (.int .i64 1)), none⟩,
    ⟨some 5, .asg (.t 17), none⟩] [0, 1, 5])))))))
  (.seq (.reg [⟨some 26, .mv (.t 1), none⟩,
    ⟨some 4, .asg (.t 26), none⟩] [4])
  (.ret)))))
theorem con_laws_szVariableS {v0 : (List XVariable)} {v1 : Int} {r : Int} (h : sh_laws_szVariableS v0 v1 = some r) : Con Try.prog 13 [(cLs (cXVariable cS cI) rfl).enc v0, cI.enc v1] [] (rs_laws_szVariableS r) := by
  delta sh_laws_szVariableS at h
  refine top (out := none) (f := Try.f13) (m := m13) (rs := [.t 4]) (by kernel_rfl) rfl (by kernel_rfl) (by kernel_rfl) (by kernel_rfl) (by kernel_rfl) (by kernel_rfl) ?_
  exact
   ini [(0, .d ((cLs (cXVariable cS cI) rfl).enc v0)), (1, .d (cI.enc v1))] rfl <| wpC_seq <| reg_s <| x_asg (sc cI (0 : Int) rfl) <| seqN [(0, .d ((cLs (cXVariable cS cI) rfl).enc v0)), (1, .d (cI.enc v1))] (by kernel_rfl) <|
    xn <| wpC_seq <| reg_s <| st rfl <| mvd rfl rfl <| st rfl <| mvd rfl rfl <| stw rfl <| lens rfl fun l3 => ckI_k h fun i4 h => st rfl <| b_sub (k := .i64) rfl rfl i4 <| x_asg (ss rfl rfl) <| seqN [(0, .d ((cLs (cXVariable cS cI) rfl).enc v0)), (1, .d (cI.enc (v1 - (v0.length : Int))))] (by kernel_rfl) <|
    xn <| wpC_seq <| wpC_kp <| wpC_seq <| reg_s <| st rfl <| mvd rfl rfl <| st rfl <| b_lss (k := .i64) rfl rfl <| seqN [(0, .d ((cLs (cXVariable cS cI) rfl).enc v0)), (1, .d (cI.enc (v1 - (v0.length : Int)))), (11, .d (cB.enc (decide ((v1 - (v0.length : Int)) < (0 : Int)))))] (by kernel_rfl) <|
    xn <| cnd rfl h (fun b6 h => wpC_seq <| reg_s <| x_asg (sc cI (-1 : Int) rfl) <| seqN [(4, .d (cI.enc (-1 : Int)))] (by kernel_rfl) <|
    xn <| wpC_ret <| rt <| rt <| re <| fin h (r1 (ss rfl rfl) <| r0) rfl)
    (fun b6 h => wpC_skip <| kpN [(0, .d ((cLs (cXVariable cS cI) rfl).enc v0)), (1, .d (cI.enc (v1 - (v0.length : Int))))] (by kernel_rfl) <| xn <| wpC_seq <| wpC_kp <| wpC_seq <| reg_s <| x_asg (sc cI (0 : Int) rfl) <| seqN [(0, .d ((cLs (cXVariable cS cI) rfl).enc v0)), (1, .d (cI.enc (v1 - (v0.length : Int)))), (5, .d (cI.enc (0 : Int)))] (by kernel_rfl) <|
    xn <| wpC_blk <| lpF (fun (s102 : (Int × Int)) => [(0, .d ((cLs (cXVariable cS cI) rfl).enc v0)), (1, .d (cI.enc s102.1)), (5, .d (cI.enc s102.2))]) ((v1 - (v0.length : Int)), (0 : Int)) rfl h
    fun G167 nx165 s102 hn166 h => wpC_seq <| wpC_kp <| wpC_seq <| reg_s <| st rfl <| mvd rfl rfl <| st rfl <| mvd rfl rfl <| stw rfl <| lens rfl fun l172 => st rfl <| b_lss (k := .i64) rfl rfl <| seqN [(0, .d ((cLs (cXVariable cS cI) rfl).enc v0)), (1, .d (cI.enc s102.1)), (5, .d (cI.enc s102.2)), (15, .d (cB.enc (decide (s102.2 < (v0.length : Int)))))] (by kernel_rfl) <|
    xn <| cnd rfl h (fun b173 h => wpC_skip <| kpN [(0, .d ((cLs (cXVariable cS cI) rfl).enc v0)), (1, .d (cI.enc s102.1)), (5, .d (cI.enc s102.2))] (by kernel_rfl) <| xn <| wpC_seq <| wpC_kp <| wpC_blk <| wpC_seq <| reg_s <| st rfl <| mvd rfl rfl <| st rfl <| mvd rfl rfl <| getO_k h fun x190 i191 g192 h => st rfl <| ias rfl rfl i191 g192 rfl <| st rfl <| ldi rfl rfl rfl rfl <| st rfl <| mvd rfl rfl <| bnd h fun x193 e194 h => st rfl <| o_call (a1 (c := (cXVariable cS cI)) (tXVariable tS tK) rfl (a1 (c := cI) tK rfl a0)) (con_laws_szVariable e194) (.inl (so1 sK so0)) <| x_asg (ss rfl rfl) <| seqN [(0, .d ((cLs (cXVariable cS cI) rfl).enc v0)), (1, .d (cI.enc x193)), (5, .d (cI.enc s102.2))] (by kernel_rfl) <|
    xn <| wpC_seq <| reg_s <| st rfl <| mvd rfl rfl <| st rfl <| b_lss (k := .i64) rfl rfl <| seqN [(0, .d ((cLs (cXVariable cS cI) rfl).enc v0)), (1, .d (cI.enc x193)), (5, .d (cI.enc s102.2)), (25, .d (cB.enc (decide (x193 < (0 : Int)))))] (by kernel_rfl) <|
    xn <| cnd rfl h (fun b195 h => wpC_seq <| reg_s <| x_asg (sc cI (-1 : Int) rfl) <| seqN [(4, .d (cI.enc (-1 : Int)))] (by kernel_rfl) <|
    xn <| wpC_ret <| rb <| rt <| rt <| rt <| rb <| rt <| rt <| re <| fin h (r1 (ss rfl rfl) <| r0) rfl)
    (fun b195 h => wpC_skip <| xbb <| kpN [(0, .d ((cLs (cXVariable cS cI) rfl).enc v0)), (1, .d (cI.enc x193)), (5, .d (cI.enc s102.2))] (by kernel_rfl) <| xn <| reg_s <| st rfl <| mvd rfl rfl <| ckI_k h fun i196 h => st rfl <| b_add (k := .i64) rfl rfl i196 <| x_asg (ss rfl rfl) <| seqN [(0, .d ((cLs (cXVariable cS cI) rfl).enc v0)), (1, .d (cI.enc x193)), (5, .d (cI.enc (s102.2 + (1 : Int))))] (by kernel_rfl) <|
    xn <| hn166 (x193, (s102.2 + (1 : Int))) h))
    (fun b173 h => wpC_exit <| xt <| xt <| xt <| xb <| kpN [(1, .d (cI.enc s102.1))] (by kernel_rfl) <| xn <| wpC_seq <| reg_s <| st rfl <| mvd rfl rfl <| x_asg (ss rfl rfl) <| seqN [(4, .d (cI.enc s102.1))] (by kernel_rfl) <|
    xn <| wpC_ret <| re <| fin h (r1 (ss rfl rfl) <| r0) rfl))

def rs_laws_szEdit (r : Int) : List D := [cI.enc r]
def m57 : MC := .seq (.reg [⟨some 2, .box (.t 0), none⟩,
    ⟨some 4, .asg (.c (.int .i64 0)), none⟩] [1, 2])
  (.seq (.reg [⟨some 5, .fa 2 0 0, none⟩,
    ⟨some 6, .ld 5 1 false, none⟩,
    ⟨some 7, .mv (.t 1), none⟩,
    ⟨some 8, .call 109 [(.t 6), (.t 7)], none⟩,
    ⟨some 1, .asg (.t 8), none⟩] [1])
  (.seq (.kp [1] (.seq (.reg [⟨some 9, .mv (.t 1), none⟩,
    ⟨some 10, .bin .lss (.t 9) (.c (.int .i64 0)), none⟩] [1, 10])
  (.cond (.t 10) (.seq (.reg [⟨some 4, .asg (.c (.int .i64 (-1))), none⟩] [4])
  (.ret)) (.skip))))
  (.seq (.reg [⟨some 11, .mv (.t 1), none⟩,
    ⟨some 4, .asg (.t 11), none⟩] [4])
  (.ret))))
theorem con_laws_szEdit {v0 : XEdit} {v1 : Int} {r : Int} (h : sh_laws_szEdit v0 v1 = some r) : Con Try.prog 57 [(cXEdit (cLs cI rfl)).enc v0, cI.enc v1] [] (rs_laws_szEdit r) := by
  delta sh_laws_szEdit at h
  refine top (out := none) (f := Try.f57) (m := m57) (rs := [.t 4]) (by kernel_rfl) rfl (by kernel_rfl) (by kernel_rfl) (by kernel_rfl) (by kernel_rfl) (by kernel_rfl) ?_
  exact
   ini [(0, .d ((cXEdit (cLs cI rfl)).enc v0)), (1, .d (cI.enc v1))] rfl <| wpC_seq <| reg_s <| x_box (ss rfl rfl) <| x_asg (sc cI (0 : Int) rfl) <| seqN [(1, .d (cI.enc v1)), (2, .box ((cXEdit (cLs cI rfl)).enc v0))] (by kernel_rfl) <|
    xn <| wpC_seq <| reg_s <| st rfl <| fab rfl rfl rfl rfl <| st rfl <| lda rfl rfl rfl rfl rfl rfl <| st rfl <| mvd rfl rfl <| bnd h fun x3 e4 h => st rfl <| o_call (a1 (c := (cLs cI rfl)) (tLs tK) rfl (a1 (c := cI) tK rfl a0)) (con_laws_szIntS e4) (.inl (so1 sK so0)) <| x_asg (ss rfl rfl) <| seqN [(1, .d (cI.enc x3))] (by kernel_rfl) <|
    xn <| wpC_seq <| wpC_kp <| wpC_seq <| reg_s <| st rfl <| mvd rfl rfl <| st rfl <| b_lss (k := .i64) rfl rfl <| seqN [(1, .d (cI.enc x3)), (10, .d (cB.enc (decide (x3 < (0 : Int)))))] (by kernel_rfl) <|
    xn <| cnd rfl h (fun b6 h => wpC_seq <| reg_s <| x_asg (sc cI (-1 : Int) rfl) <| seqN [(4, .d (cI.enc (-1 : Int)))] (by kernel_rfl) <|
    xn <| wpC_ret <| rt <| rt <| re <| fin h (r1 (ss rfl rfl) <| r0) rfl)
    (fun b6 h => wpC_skip <| kpN [(1, .d (cI.enc x3))] (by kernel_rfl) <| xn <| wpC_seq <| reg_s <| st rfl <| mvd rfl rfl <| x_asg (ss rfl rfl) <| seqN [(4, .d (cI.enc x3))] (by kernel_rfl) <|
    xn <| wpC_ret <| re <| fin h (r1 (ss rfl rfl) <| r0) rfl)

def rs_laws_szEditS (r : Int) : List D := [cI.enc r]
def m14 : MC := .seq (.reg [⟨some 4, .asg (.c (.int .i64 0)), none⟩] [0, 1])
  (.seq (.reg [⟨some 6, .mv (.t 1), none⟩,
    ⟨some 7, .mv (.t 0), none⟩,
    ⟨some 8, .len false (.t 7), none⟩,
    ⟨some 9, .bin .sub (.t 6) (.t 8), none⟩,
    ⟨some 1, .asg (.t 9), none⟩] [0, 1])
  (.seq (.kp [0, 1] (.seq (.reg [⟨some 10, .mv (.t 1), none⟩,
    ⟨some 11, .bin .lss (.t 10) (.c (.int .i64 0)), none⟩] [0, 1, 11])
  (.cond (.t 11) (.seq (.reg [⟨some 4, .asg (.c (.int .i64 (-1))), none⟩] [4])
  (.ret)) (.skip))))
  (.seq (.kp [1] (.seq (.reg [⟨some 5, .asg (.c (.int .i64 0)), none⟩] [0, 1, 5])
  (.blk 0 (.loop (.seq (.kp [0, 1, 5] (.seq (.reg [⟨some 12, .mv (.t 5), none⟩,
    ⟨some 13, .mv (.t 0), none⟩,
    ⟨some 14, .len false (.t 13), none⟩,
    ⟨some 15, .bin .lss (.t 12) (.t 14), none⟩] [0, 1, 5, 15])
  (.cond (.t 15) (.skip) (.exit 0))))
  (.seq (.kp [0, 1, 5] (.blk 1 (.seq (.reg [⟨some 18, .mv (.t 0), none⟩,
    ⟨some 19, .mv (.t 5), none⟩,
    ⟨some 20, .ia 18 (.t 19) 1, none⟩,
    ⟨some 21, .ld 20 1 true, none⟩,
    ⟨some 22, .mv (.t 1), none⟩,
    ⟨some 23, .call 57 [(.t 21), (.t 22)], none⟩,
    ⟨some 1, .asg (.t 23), none⟩] [0, 1, 5])
  (.seq (.reg [⟨some 24, .mv (.t 1), none⟩,
    ⟨some 25, .bin .lss (.t 24) (.c (.int .i64 0)), none⟩] [0, 1, 5, 25])
  (.cond (.t 25) (.seq (.reg [⟨some 4, .asg (.c (.int .i64 (-1))), none⟩] [4])
  (.ret)) (.skip))))))
  (.reg [⟨some 16, .mv (.t 5), none⟩,
    ⟨some 17, .bin .add (.t 16) (.c (.int .i64 1)), none⟩,
    ⟨some 5, .asg (.t 17), none⟩] [0, 1, 5])))))))
  (.seq (.reg [⟨some 26, .mv (.t 1), none⟩,
    ⟨some 4, .asg (.t 26), none⟩] [4])
  (.ret)))))
theorem con_laws_szEditS {v0 : (List XEdit)} {v1 : Int} {r : Int} (h : sh_laws_szEditS v0 v1 = some r) : Con Try.prog 14 [(cLs (cXEdit (cLs cI rfl)) rfl).enc v0, cI.enc v1] [] (rs_laws_szEditS r) := by
  delta sh_laws_szEditS at h
  refine top (out := none) (f := Try.f14) (m := m14) (rs := [.t 4]) (by kernel_rfl) rfl (by kernel_rfl) (by kernel_rfl) (by kernel_rfl) (by kernel_rfl) (by kernel_rfl) ?_
  exact
   ini [(0, .d ((cLs (cXEdit (cLs cI rfl)) rfl).enc v0)), (1, .d (cI.enc v1))] rfl <| wpC_seq <| reg_s <| x_asg (sc cI (0 : Int) rfl) <| seqN [(0, .d ((cLs (cXEdit (cLs cI rfl)) rfl).enc v0)), (1, .d (cI.enc v1))] (by kernel_rfl) <|
    xn <| wpC_seq <| reg_s <| st rfl <| mvd rfl rfl <| st rfl <| mvd rfl rfl <| stw rfl <| lens rfl fun l3 => ckI_k h fun i4 h => st rfl <| b_sub (k := .i64) rfl rfl i4 <| x_asg (ss rfl rfl) <| seqN [(0, .d ((cLs (cXEdit (cLs cI rfl)) rfl).enc v0)), (1, .d (cI.enc (v1 - (v0.length : Int))))] (by kernel_rfl) <|
    xn <| wpC_seq <| wpC_kp <| wpC_seq <| reg_s <| st rfl <| mvd rfl rfl <| st rfl <| b_lss (k := .i64) rfl rfl <| seqN [(0, .d ((cLs (cXEdit (cLs cI rfl)) rfl).enc v0)), (1, .d (cI.enc (v1 - (v0.length : Int)))), (11, .d (cB.enc (decide ((v1 - (v0.length : Int)) < (0 : Int)))))] (by kernel_rfl) <|
    xn <| cnd rfl h (fun b6 h => wpC_seq <| reg_s <| x_asg (sc cI (-1 : Int) rfl) <| seqN [(4, .d (cI.enc (-1 : Int)))] (by kernel_rfl) <|
    xn <| wpC_ret <| rt <| rt <| re <| fin h (r1 (ss rfl rfl) <| r0) rfl)
    (fun b6 h => wpC_skip <| kpN [(0, .d ((cLs (cXEdit (cLs cI rfl)) rfl).enc v0)), (1, .d (cI.enc (v1 - (v0.length : Int))))] (by kernel_rfl) <| xn <| wpC_seq <| wpC_kp <| wpC_seq <| reg_s <| x_asg (sc cI (0 : Int) rfl) <| seqN [(0, .d ((cLs (cXEdit (cLs cI rfl)) rfl).enc v0)), (1, .d (cI.enc (v1 - (v0.length : Int)))), (5, .d (cI.enc (0 : Int)))] (by kernel_rfl) <|
    xn <| wpC_blk <| lpF (fun (s102 : (Int × Int)) => [(0, .d ((cLs (cXEdit (cLs cI rfl)) rfl).enc v0)), (1, .d (cI.enc s102.1)), (5, .d (cI.enc s102.2))]) ((v1 - (v0.length : Int)), (0 : Int)) rfl h
    fun G167 nx165 s102 hn166 h => wpC_seq <| wpC_kp <| wpC_seq <| reg_s <| st rfl <| mvd rfl rfl <| st rfl <| mvd rfl rfl <| stw rfl <| lens rfl fun l172 => st rfl <| b_lss (k := .i64) rfl rfl <| seqN [(0, .d ((cLs (cXEdit (cLs cI rfl)) rfl).enc v0)), (1, .d (cI.enc s102.1)), (5, .d (cI.enc s102.2)), (15, .d (cB.enc (decide (s102.2 < (v0.length : Int)))))] (by kernel_rfl) <|
    xn <| cnd rfl h (fun b173 h => wpC_skip <| kpN [(0, .d ((cLs (cXEdit (cLs cI rfl)) rfl).enc v0)), (1, .d (cI.enc s102.1)), (5, .d (cI.enc s102.2))] (by kernel_rfl) <| xn <| wpC_seq <| wpC_kp <| wpC_blk <| wpC_seq <| reg_s <| st rfl <| mvd rfl rfl <| st rfl <| mvd rfl rfl <| getO_k h fun x190 i191 g192 h => st rfl <| ias rfl rfl i191 g192 rfl <| st rfl <| ldi rfl rfl rfl rfl <| st rfl <| mvd rfl rfl <| bnd h fun x193 e194 h => st rfl <| o_call (a1 (c := (cXEdit (cLs cI rfl))) (tXEdit (tLs tK)) rfl (a1 (c := cI) tK rfl a0)) (con_laws_szEdit e194) (.inl (so1 sK so0)) <| x_asg (ss rfl rfl) <| seqN [(0, .d ((cLs (cXEdit (cLs cI rfl)) rfl).enc v0)), (1, .d (cI.enc x193)), (5, .d (cI.enc s102.2))] (by kernel_rfl) <|
    xn <| wpC_seq <| reg_s <| st rfl <| mvd rfl rfl <| st rfl <| b_lss (k := .i64) rfl rfl <| seqN [(0, .d ((cLs (cXEdit (cLs cI rfl)) rfl).enc v0)), (1, .d (cI.enc x193)), (5, .d (cI.enc s102.2)), (25, .d (cB.enc (decide (x193 < (0 : Int)))))] (by kernel_rfl) <|
    xn <| cnd rfl h (fun b195 h => wpC_seq <| reg_s <| x_asg (sc cI (-1 : Int) rfl) <| seqN [(4, .d (cI.enc (-1 : Int)))] (by kernel_rfl) <|
    xn <| wpC_ret <| rb <| rt <| rt <| rt <| rb <| rt <| rt <| re <| fin h (r1 (ss rfl rfl) <| r0) rfl)
    (fun b195 h => wpC_skip <| xbb <| kpN [(0, .d ((cLs (cXEdit (cLs cI rfl)) rfl).enc v0)), (1, .d (cI.enc x193)), (5, .d (cI.enc s102.2))] (by kernel_rfl) <| xn <| reg_s <| st rfl <| mvd rfl rfl <| ckI_k h fun i196 h => st rfl <| b_add (k := .i64) rfl rfl i196 <| x_asg (ss rfl rfl) <| seqN [(0, .d ((cLs (cXEdit (cLs cI rfl)) rfl).enc v0)), (1, .d (cI.enc x193)), (5, .d (cI.enc (s102.2 + (1 : Int))))] (by kernel_rfl) <|
    xn <| hn166 (x193, (s102.2 + (1 : Int))) h))
    (fun b173 h => wpC_exit <| xt <| xt <| xt <| xb <| kpN [(1, .d (cI.enc s102.1))] (by kernel_rfl) <| xn <| wpC_seq <| reg_s <| st rfl <| mvd rfl rfl <| x_asg (ss rfl rfl) <| seqN [(4, .d (cI.enc s102.1))] (by kernel_rfl) <|
    xn <| wpC_ret <| re <| fin h (r1 (ss rfl rfl) <| r0) rfl))

def rs_laws_toVariable (r : XVariable) : List D := [(cXVariable cS cI).enc r]
def m61 : MC := .seq (.reg [⟨some 1, .box (.t 0), none⟩,
    ⟨some 2, .alloc (.agg [.str [], .int .i64 0]), none⟩] [1, 2])
  (.seq (.reg [⟨some 3, .alloc (.agg [.str [], .int .i64 0]), none⟩] [1, 2, 3])
  (.seq (.reg [⟨some 4, .fa 1 0 0, none⟩,
    ⟨some 5, .ld 4 1 false, none⟩,
    ⟨some 6, .fa 3 0 0, none⟩,
    ⟨none, .st 6 (.t 5) 1, none⟩] [1, 2, 3])
  (.seq (.reg [⟨some 7, .fa 1 1 1, none⟩,
    ⟨some 8, .ld 7 1 false, none⟩,
    ⟨some 9, .fa 3 1 1, none⟩,
    ⟨none, .st 9 (.t 8) 1, none⟩] [2, 3])
  (.seq (.reg [⟨some 10, .ld 3 2 true, none⟩,
    ⟨none, .st 2 (.t 10) 2, none⟩] [2])
  (.ret)))))
theorem con_laws_toVariable {v0 : XVariable} {r : XVariable} (h : sh_laws_toVariable v0 = some r) : Con Try.prog 61 [(cXVariable cS cI).enc v0] [] (rs_laws_toVariable r) := by
  delta sh_laws_toVariable at h
  refine top (out := none) (f := Try.f61) (m := m61) (rs := [.c 2 2 true]) (by kernel_rfl) rfl (by kernel_rfl) (by kernel_rfl) (by kernel_rfl) (by kernel_rfl) (by kernel_rfl) ?_
  exact
   ini [(0, .d ((cXVariable cS cI).enc v0))] rfl <| wpC_seq <| reg_s <| x_box (ss rfl rfl) <| x_all (cXVariable cS cI) (⟨([] : List UInt8), (0 : Int)⟩ : XVariable) rfl <| seqN [(1, .box ((cXVariable cS cI).enc v0)), (2, .box ((cXVariable cS cI).enc (⟨([] : List UInt8), (0 : Int)⟩ : XVariable)))] (by kernel_rfl) <|
    xn <| wpC_seq <| reg_s <| x_all (cXVariable cS cI) (⟨([] : List UInt8), (0 : Int)⟩ : XVariable) rfl <| seqN [(1, .box ((cXVariable cS cI).enc v0)), (2, .box ((cXVariable cS cI).enc (⟨([] : List UInt8), (0 : Int)⟩ : XVariable))), (3, .box ((cXVariable cS cI).enc (⟨([] : List UInt8), (0 : Int)⟩ : XVariable)))] (by kernel_rfl) <|
    xn <| wpC_seq <| reg_s <| st rfl <| fab rfl rfl rfl rfl <| st rfl <| lda rfl rfl rfl rfl rfl rfl <| st rfl <| fab rfl rfl rfl rfl <| x_sta ((cXVariable cS cI).enc (⟨v0.Name, (0 : Int)⟩ : XVariable)) (ss rfl rfl) rfl rfl (Ln.fld rfl rfl Ln.nil rfl) (Cd.h_sz cS _) rfl <| seqN [(1, .box ((cXVariable cS cI).enc v0)), (2, .box ((cXVariable cS cI).enc (⟨([] : List UInt8), (0 : Int)⟩ : XVariable))), (3, .box ((cXVariable cS cI).enc (⟨v0.Name, (0 : Int)⟩ : XVariable)))] (by kernel_rfl) <|
    xn <| wpC_seq <| reg_s <| st rfl <| fab rfl rfl rfl rfl <| st rfl <| lda rfl rfl rfl rfl rfl rfl <| st rfl <| fab rfl rfl rfl rfl <| x_sta ((cXVariable cS cI).enc (⟨v0.Name, v0.Levels⟩ : XVariable)) (ss rfl rfl) rfl rfl (Ln.fld rfl rfl Ln.nil rfl) (Cd.h_sz cI _) rfl <| seqN [(2, .box ((cXVariable cS cI).enc (⟨([] : List UInt8), (0 : Int)⟩ : XVariable))), (3, .box ((cXVariable cS cI).enc (⟨v0.Name, v0.Levels⟩ : XVariable)))] (by kernel_rfl) <|
    xn <| wpC_seq <| reg_s <| st rfl <| ldb rfl rfl rfl rfl <| x_stb (ss rfl rfl) rfl (Cd.h_sz _ _) rfl <| seqN [(2, .box ((cXVariable cS cI).enc (⟨v0.Name, v0.Levels⟩ : XVariable)))] (by kernel_rfl) <|
    xn <| wpC_ret <| re <| fin h (r2 rfl rfl rfl <| r0) rfl

def rs_laws_toVariableS (r : (List XVariable)) : List D := [(cLo (cXVariable cS cI)).enc r]
def m16 : MC := .seq (.reg [⟨some 2, .asg (.c (.slice true [])), none⟩] [0])
  (.seq (.reg [⟨some 5, .mv (.t 0), none⟩,
    ⟨some 6, .len false (.t 5), none⟩,
    ⟨some 7, .mk (.agg [.str [], .int .i64 0]) (.t 6), none⟩,
    ⟨some 3, .asg (.t 7), none⟩] [0, 3])
  (.seq (.kp [3] (.seq (.reg [⟨some 4, .asg (.c (.int .i64 0)), none⟩] [0, 3, 4])
  (.blk 0 (.loop (.seq (.kp [0, 3, 4] (.seq (.reg [⟨some 8, .mv (.t 4), none⟩,
    ⟨some 9, .mv (.t 0), none⟩,
    ⟨some 10, .len false (.t 9), none⟩,
    ⟨some 11, .bin .lss (.t 8) (.t 10), none⟩] [0, 3, 4, 11])
  (.cond (.t 11) (.skip) (.exit 0))))
  (.seq (.kp [0, 3, 4] (.blk 1 (.reg [⟨some 14, .mv (.t 3), none⟩,
    ⟨some 15, .mv (.t 4), none⟩,
    ⟨some 16, .mv (.t 0), none⟩,
    ⟨some 17, .mv (.t 4), none⟩,
    ⟨some 18, .ia 16 (.t 17) 2, none⟩,
    ⟨some 19, .ld 18 2 true, none⟩,
    ⟨some 20, .call 61 [(.t 19)], none⟩,
    ⟨some 21, .ia 14 (.t 15) 2, none⟩,
    ⟨none, .st 21 (.t 20) 2, none⟩] [0, 3, 4])))
  (.reg [⟨some 12, .mv (.t 4), none⟩,
    ⟨some 13, .bin .add (.t 12) (.c (.int .i64 1)), none⟩,
    ⟨some 4, .asg (.t 13), none⟩] [0, 3, 4])))))))
  (.seq (.reg [⟨some 22, .mv (.t 3), none⟩,
    ⟨some 2, .asg (.t 22), none⟩] [2])
  (.ret))))
theorem con_laws_toVariableS {v0 : (List XVariable)} {r : (List XVariable)} (h : sh_laws_toVariableS v0 = some r) : Con Try.prog 16 [(cLs (cXVariable cS cI) rfl).enc v0] [] (rs_laws_toVariableS r) := by
  delta sh_laws_toVariableS at h
  refine top (out := none) (f := Try.f16) (m := m16) (rs := [.t 2]) (by kernel_rfl) rfl (by kernel_rfl) (by kernel_rfl) (by kernel_rfl) (by kernel_rfl) (by kernel_rfl) ?_
  exact
   ini [(0, .d ((cLs (cXVariable cS cI) rfl).enc v0))] rfl <| wpC_seq <| reg_s <| x_asg (sc (cLo (cXVariable cS cI)) ([] : List XVariable) rfl) <| seqN [(0, .d ((cLs (cXVariable cS cI) rfl).enc v0))] (by kernel_rfl) <|
    xn <| wpC_seq <| reg_s <| st rfl <| mvd rfl rfl <| stw rfl <| lens rfl fun l4 => mkO_k h fun i5 l6 h => st rfl <| o_mk (c := (cXVariable cS cI)) (a0 := (⟨([] : List UInt8), (0 : Int)⟩ : XVariable)) rfl (k := .i64) rfl i5 l6 <| x_asg (so rfl rfl) <| seqN [(0, .d ((cLs (cXVariable cS cI) rfl).enc v0)), (3, .d ((cLo (cXVariable cS cI)).enc (List.replicate ((v0.length : Int)).toNat (⟨([] : List UInt8), (0 : Int)⟩ : XVariable))))] (by kernel_rfl) <|
    xn <| wpC_seq <| wpC_kp <| wpC_seq <| reg_s <| x_asg (sc cI (0 : Int) rfl) <| seqN [(0, .d ((cLs (cXVariable cS cI) rfl).enc v0)), (3, .d ((cLo (cXVariable cS cI)).enc (List.replicate ((v0.length : Int)).toNat (⟨([] : List UInt8), (0 : Int)⟩ : XVariable)))), (4, .d (cI.enc (0 : Int)))] (by kernel_rfl) <|
    xn <| wpC_blk <| lpF (fun (s84 : ((List XVariable) × Int)) => [(0, .d ((cLs (cXVariable cS cI) rfl).enc v0)), (3, .d ((cLo (cXVariable cS cI)).enc s84.1)), (4, .d (cI.enc s84.2))]) ((List.replicate ((v0.length : Int)).toNat (⟨([] : List UInt8), (0 : Int)⟩ : XVariable)), (0 : Int)) rfl h
    fun G137 nx135 s84 hn136 h => wpC_seq <| wpC_kp <| wpC_seq <| reg_s <| st rfl <| mvd rfl rfl <| st rfl <| mvd rfl rfl <| stw rfl <| lens rfl fun l142 => st rfl <| b_lss (k := .i64) rfl rfl <| seqN [(0, .d ((cLs (cXVariable cS cI) rfl).enc v0)), (3, .d ((cLo (cXVariable cS cI)).enc s84.1)), (4, .d (cI.enc s84.2)), (11, .d (cB.enc (decide (s84.2 < (v0.length : Int)))))] (by kernel_rfl) <|
    xn <| cnd rfl h (fun b143 h => wpC_skip <| kpN [(0, .d ((cLs (cXVariable cS cI) rfl).enc v0)), (3, .d ((cLo (cXVariable cS cI)).enc s84.1)), (4, .d (cI.enc s84.2))] (by kernel_rfl) <| xn <| wpC_seq <| wpC_kp <| wpC_blk <| reg_s <| st rfl <| mvo rfl rfl <| st rfl <| mvd rfl rfl <| st rfl <| mvd rfl rfl <| st rfl <| mvd rfl rfl <| getO_k h fun x152 i153 g154 h => st rfl <| ias rfl rfl i153 g154 rfl <| st rfl <| ldi rfl rfl rfl rfl <| bnd h fun x155 e156 h => st rfl <| o_call (a1 (c := (cXVariable cS cI)) (tXVariable tS tK) rfl a0) (con_laws_toVariable e156) (.inl (so1 (sXVariable sS sK) so0)) <| getO_k h fun x157 i158 g159 h => st rfl <| iar rfl rfl rfl rfl i158 g159 rfl <| x_sta ((cLo (cXVariable cS cI)).enc (s84.1.set (s84.2).toNat x155)) (ss rfl rfl) rfl rfl (Ln.idx g159 Ln.nil) (Cd.h_sz (cXVariable cS cI) _) rfl <| seqN [(0, .d ((cLs (cXVariable cS cI) rfl).enc v0)), (3, .d ((cLo (cXVariable cS cI)).enc (s84.1.set (s84.2).toNat x155))), (4, .d (cI.enc s84.2))] (by kernel_rfl) <|
    xbb <| kpN [(0, .d ((cLs (cXVariable cS cI) rfl).enc v0)), (3, .d ((cLo (cXVariable cS cI)).enc (s84.1.set (s84.2).toNat x155))), (4, .d (cI.enc s84.2))] (by kernel_rfl) <| xn <| reg_s <| st rfl <| mvd rfl rfl <| ckI_k h fun i160 h => st rfl <| b_add (k := .i64) rfl rfl i160 <| x_asg (ss rfl rfl) <| seqN [(0, .d ((cLs (cXVariable cS cI) rfl).enc v0)), (3, .d ((cLo (cXVariable cS cI)).enc (s84.1.set (s84.2).toNat x155))), (4, .d (cI.enc (s84.2 + (1 : Int))))] (by kernel_rfl) <|
    xn <| hn136 ((s84.1.set (s84.2).toNat x155), (s84.2 + (1 : Int))) h)
    (fun b143 h => wpC_exit <| xt <| xt <| xt <| xb <| kpN [(3, .d ((cLo (cXVariable cS cI)).enc s84.1))] (by kernel_rfl) <| xn <| wpC_seq <| reg_s <| st rfl <| mvo rfl rfl <| x_asg (sr rfl rfl) <| seqN [(2, .d ((cLo (cXVariable cS cI)).enc s84.1))] (by kernel_rfl) <|
    xn <| wpC_ret <| re <| fin h (r1 (so rfl rfl) <| r0) rfl)

def rs_laws_toVariableS_fz (r : (List XVariable)) : List D := [(cLs (cXVariable cS cI) rfl).enc r]
theorem con_laws_toVariableS_fz {v0 : (List XVariable)} {r : (List XVariable)} (h : sh_laws_toVariableS v0 = some r) : Con Try.prog 16 [(cLs (cXVariable cS cI) rfl).enc v0] [] (rs_laws_toVariableS_fz r) := con_fz (tLo (tXVariable tS tK)) (con_laws_toVariableS h)

def rs_laws_toEdit (r : XEdit) : List D := [(cXEdit (cLo cI)).enc r]
def m62 : MC := .seq (.reg [⟨some 1, .box (.t 0), none⟩,
    ⟨some 2, .alloc (.agg [.slice true []]), none⟩] [1, 2])
  (.seq (.reg [⟨some 3, .alloc (.agg [.slice true []]), none⟩] [1, 2, 3])
  (.seq (.reg [⟨some 4, .fa 1 0 0, none⟩,
    ⟨some 5, .ld 4 1 false, none⟩,
    ⟨some 6, .call 27 [(.t 5)], none⟩,
    ⟨some 7, .fa 3 0 0, none⟩,
    ⟨none, .st 7 (.t 6) 1, none⟩] [2, 3])
  (.seq (.reg [⟨some 8, .ld 3 1 true, none⟩,
    ⟨none, .st 2 (.t 8) 1, none⟩] [2])
  (.ret))))
theorem con_laws_toEdit {v0 : XEdit} {r : XEdit} (h : sh_laws_toEdit v0 = some r) : Con Try.prog 62 [(cXEdit (cLs cI rfl)).enc v0] [] (rs_laws_toEdit r) := by
  delta sh_laws_toEdit at h
  refine top (out := none) (f := Try.f62) (m := m62) (rs := [.c 2 1 true]) (by kernel_rfl) rfl (by kernel_rfl) (by kernel_rfl) (by kernel_rfl) (by kernel_rfl) (by kernel_rfl) ?_
  exact
   ini [(0, .d ((cXEdit (cLs cI rfl)).enc v0))] rfl <| wpC_seq <| reg_s <| x_box (ss rfl rfl) <| x_all (cXEdit (cLo cI)) (⟨([] : List Int)⟩ : XEdit) rfl <| seqN [(1, .box ((cXEdit (cLs cI rfl)).enc v0)), (2, .box ((cXEdit (cLo cI)).enc (⟨([] : List Int)⟩ : XEdit)))] (by kernel_rfl) <|
    xn <| wpC_seq <| reg_s <| x_all (cXEdit (cLo cI)) (⟨([] : List Int)⟩ : XEdit) rfl <| seqN [(1, .box ((cXEdit (cLs cI rfl)).enc v0)), (2, .box ((cXEdit (cLo cI)).enc (⟨([] : List Int)⟩ : XEdit))), (3, .box ((cXEdit (cLo cI)).enc (⟨([] : List Int)⟩ : XEdit)))] (by kernel_rfl) <|
    xn <| wpC_seq <| reg_s <| st rfl <| fab rfl rfl rfl rfl <| st rfl <| lda rfl rfl rfl rfl rfl rfl <| bnd h fun x3 e4 h => st rfl <| o_call (a1 (c := (cLs cI rfl)) (tLs tK) rfl a0) (con_laws_toIntS e4) (.inl (so1 (sLo sK) so0)) <| st rfl <| fab rfl rfl rfl rfl <| x_sta ((cXEdit (cLo cI)).enc (⟨x3⟩ : XEdit)) (so rfl rfl) rfl rfl (Ln.fld rfl rfl Ln.nil rfl) (Cd.h_sz (cLo cI) _) rfl <| seqN [(2, .box ((cXEdit (cLo cI)).enc (⟨([] : List Int)⟩ : XEdit))), (3, .box ((cXEdit (cLo cI)).enc (⟨x3⟩ : XEdit)))] (by kernel_rfl) <|
    xn <| wpC_seq <| reg_s <| st rfl <| ldbo rfl rfl rfl rfl <| x_stb (sb rfl rfl) rfl (Cd.h_sz _ _) rfl <| seqN [(2, .box ((cXEdit (cLo cI)).enc (⟨x3⟩ : XEdit)))] (by kernel_rfl) <|
    xn <| wpC_ret <| re <| fin h (r2 rfl rfl rfl <| r0) rfl

def rs_laws_toEditS (r : (List XEdit)) : List D := [(cLo (cXEdit (cLo cI))).enc r]
def m17 : MC := .seq (.reg [⟨some 2, .asg (.c (.slice true [])), none⟩] [0])
  (.seq (.reg [⟨some 5, .mv (.t 0), none⟩,
    ⟨some 6, .len false (.t 5), none⟩,
    ⟨some 7, .mk (.agg [.slice true []]) (.t 6), none⟩,
    ⟨some 3, .asg (.t 7), none⟩] [0, 3])
  (.seq (.kp [3] (.seq (.reg [⟨some 4, .asg (.c (.int .i64 0)), none⟩] [0, 3, 4])
  (.blk 0 (.loop (.seq (.kp [0, 3, 4] (.seq (.reg [⟨some 8, .mv (.t 4), none⟩,
    ⟨some 9, .mv (.t 0), none⟩,
    ⟨some 10, .len false (.t 9), none⟩,
    ⟨some 11, .bin .lss (.t 8) (.t 10), none⟩] [0, 3, 4, 11])
  (.cond (.t 11) (.skip) (.exit 0))))
  (.seq (.kp [0, 3, 4] (.blk 1 (.reg [⟨some 14, .mv (.t 3), none⟩,
    ⟨some 15, .mv (.t 4), none⟩,
    ⟨some 16, .mv (.t 0), none⟩,
    ⟨some 17, .mv (.t 4), none⟩,
    ⟨some 18, .ia 16 (.t 17) 1, none⟩,
    ⟨some 19, .ld 18 1 true, none⟩,
    ⟨some 20, .call 62 [(.t 19)], none⟩,
    ⟨some 21, .ia 14 (.t 15) 1, none⟩,
    ⟨none, .st 21 (.t 20) 1, none⟩] [0, 3, 4])))
  (.reg [⟨some 12, .mv (.t 4), none⟩,
    ⟨some 13, .bin .add (.t 12) (.c (.int .i64 1)), none⟩,
    ⟨some 4, .asg (.t 13), none⟩] [0, 3, 4])))))))
  (.seq (.reg [⟨some 22, .mv (.t 3), none⟩,
    ⟨some 2, .asg (.t 22), none⟩] [2])
  (.ret))))
theorem con_laws_toEditS {v0 : (List XEdit)} {r : (List XEdit)} (h : sh_laws_toEditS v0 = some r) : Con Try.prog 17 [(cLs (cXEdit (cLs cI rfl)) rfl).enc v0] [] (rs_laws_toEditS r) := by
  delta sh_laws_toEditS at h
  refine top (out := none) (f := Try.f17) (m := m17) (rs := [.t 2]) (by kernel_rfl) rfl (by kernel_rfl) (by kernel_rfl) (by kernel_rfl) (by kernel_rfl) (by kernel_rfl) ?_
  exact
   ini [(0, .d ((cLs (cXEdit (cLs cI rfl)) rfl).enc v0))] rfl <| wpC_seq <| reg_s <| x_asg (sc (cLo (cXEdit (cLo cI))) ([] : List XEdit) rfl) <| seqN [(0, .d ((cLs (cXEdit (cLs cI rfl)) rfl).enc v0))] (by kernel_rfl) <|
    xn <| wpC_seq <| reg_s <| st rfl <| mvd rfl rfl <| stw rfl <| lens rfl fun l4 => mkO_k h fun i5 l6 h => st rfl <| o_mk (c := (cXEdit (cLo cI))) (a0 := (⟨([] : List Int)⟩ : XEdit)) rfl (k := .i64) rfl i5 l6 <| x_asg (so rfl rfl) <| seqN [(0, .d ((cLs (cXEdit (cLs cI rfl)) rfl).enc v0)), (3, .d ((cLo (cXEdit (cLo cI))).enc (List.replicate ((v0.length : Int)).toNat (⟨([] : List Int)⟩ : XEdit))))] (by kernel_rfl) <|
    xn <| wpC_seq <| wpC_kp <| wpC_seq <| reg_s <| x_asg (sc cI (0 : Int) rfl) <| seqN [(0, .d ((cLs (cXEdit (cLs cI rfl)) rfl).enc v0)), (3, .d ((cLo (cXEdit (cLo cI))).enc (List.replicate ((v0.length : Int)).toNat (⟨([] : List Int)⟩ : XEdit)))), (4, .d (cI.enc (0 : Int)))] (by kernel_rfl) <|
    xn <| wpC_blk <| lpF (fun (s84 : ((List XEdit) × Int)) => [(0, .d ((cLs (cXEdit (cLs cI rfl)) rfl).enc v0)), (3, .d ((cLo (cXEdit (cLo cI))).enc s84.1)), (4, .d (cI.enc s84.2))]) ((List.replicate ((v0.length : Int)).toNat (⟨([] : List Int)⟩ : XEdit)), (0 : Int)) rfl h
    fun G137 nx135 s84 hn136 h => wpC_seq <| wpC_kp <| wpC_seq <| reg_s <| st rfl <| mvd rfl rfl <| st rfl <| mvd rfl rfl <| stw rfl <| lens rfl fun l142 => st rfl <| b_lss (k := .i64) rfl rfl <| seqN [(0, .d ((cLs (cXEdit (cLs cI rfl)) rfl).enc v0)), (3, .d ((cLo (cXEdit (cLo cI))).enc s84.1)), (4, .d (cI.enc s84.2)), (11, .d (cB.enc (decide (s84.2 < (v0.length : Int)))))] (by kernel_rfl) <|
    xn <| cnd rfl h (fun b143 h => wpC_skip <| kpN [(0, .d ((cLs (cXEdit (cLs cI rfl)) rfl).enc v0)), (3, .d ((cLo (cXEdit (cLo cI))).enc s84.1)), (4, .d (cI.enc s84.2))] (by kernel_rfl) <| xn <| wpC_seq <| wpC_kp <| wpC_blk <| reg_s <| st rfl <| mvo rfl rfl <| st rfl <| mvd rfl rfl <| st rfl <| mvd rfl rfl <| st rfl <| mvd rfl rfl <| getO_k h fun x152 i153 g154 h => st rfl <| ias rfl rfl i153 g154 rfl <| st rfl <| ldi rfl rfl rfl rfl <| bnd h fun x155 e156 h => st rfl <| o_call (a1 (c := (cXEdit (cLs cI rfl))) (tXEdit (tLs tK)) rfl a0) (con_laws_toEdit e156) (.inl (so1 (sXEdit (sLo sK)) so0)) <| getO_k h fun x157 i158 g159 h => st rfl <| iar rfl rfl rfl rfl i158 g159 rfl <| x_sta ((cLo (cXEdit (cLo cI))).enc (s84.1.set (s84.2).toNat x155)) (so rfl rfl) rfl rfl (Ln.idx g159 Ln.nil) (Cd.h_sz (cXEdit (cLo cI)) _) rfl <| seqN [(0, .d ((cLs (cXEdit (cLs cI rfl)) rfl).enc v0)), (3, .d ((cLo (cXEdit (cLo cI))).enc (s84.1.set (s84.2).toNat x155))), (4, .d (cI.enc s84.2))] (by kernel_rfl) <|
    xbb <| kpN [(0, .d ((cLs (cXEdit (cLs cI rfl)) rfl).enc v0)), (3, .d ((cLo (cXEdit (cLo cI))).enc (s84.1.set (s84.2).toNat x155))), (4, .d (cI.enc s84.2))] (by kernel_rfl) <| xn <| reg_s <| st rfl <| mvd rfl rfl <| ckI_k h fun i160 h => st rfl <| b_add (k := .i64) rfl rfl i160 <| x_asg (ss rfl rfl) <| seqN [(0, .d ((cLs (cXEdit (cLs cI rfl)) rfl).enc v0)), (3, .d ((cLo (cXEdit (cLo cI))).enc (s84.1.set (s84.2).toNat x155))), (4, .d (cI.enc (s84.2 + (1 : Int))))] (by kernel_rfl) <|
    xn <| hn136 ((s84.1.set (s84.2).toNat x155), (s84.2 + (1 : Int))) h)
    (fun b143 h => wpC_exit <| xt <| xt <| xt <| xb <| kpN [(3, .d ((cLo (cXEdit (cLo cI))).enc s84.1))] (by kernel_rfl) <| xn <| wpC_seq <| reg_s <| st rfl <| mvo rfl rfl <| x_asg (sr rfl rfl) <| seqN [(2, .d ((cLo (cXEdit (cLo cI))).enc s84.1))] (by kernel_rfl) <|
    xn <| wpC_ret <| re <| fin h (r1 (so rfl rfl) <| r0) rfl)

def rs_laws_toEditS_fz (r : (List XEdit)) : List D := [(cLs (cXEdit (cLs cI rfl)) rfl).enc r]
theorem con_laws_toEditS_fz {v0 : (List XEdit)} {r : (List XEdit)} (h : sh_laws_toEditS v0 = some r) : Con Try.prog 17 [(cLs (cXEdit (cLs cI rfl)) rfl).enc v0] [] (rs_laws_toEditS_fz r) := con_fz (tLo (tXEdit (tLo tK))) (con_laws_toEditS h)

def rs_spec_sName (r : Bool) : List D := [cB.enc r]
def m159 : MC := .seq (.reg [⟨some 2, .asg (.c (.bool false)), none⟩] [0])
  (.seq (.kp [0] (.seq (.reg [⟨some 3, .asg (.c (.int .i64 0)), none⟩] [0, 3])
  (.blk 0 (.loop (.seq (.kp [0, 3] (.seq (.reg [⟨some 4, .mv (.t 3), none⟩,
    ⟨some 5, .mv (.t 0), none⟩,
    ⟨some 6, .len true (.t 5), none⟩,
    ⟨some 7, .bin .lss (.t 4) (.t 6), none⟩] [0, 3, 7])
  (.cond (.t 7) (.skip) (.exit 0))))
  (.seq (.kp [0, 3] (.blk 1 (.seq (.reg [⟨some 10, .mv (.t 0), none⟩,
    ⟨some 11, .mv (.t 3), none⟩,
    ⟨some 12, .ix (.t 10) (.t 11), none⟩,
    ⟨some 13, .bin .lss (.t 12) (.c (.int .u8 97)), none⟩,
    ⟨some 14, .mv (.t 13), none⟩,
    ⟨some 15, .mv (.t 0), some (14, false)⟩,
    ⟨some 16, .mv (.t 3), some (14, false)⟩,
    ⟨some 17, .ix (.t 15) (.t 16), some (14, false)⟩,
    ⟨some 18, .bin .gtr (.t 17) (.c (.int .u8 122)), some (14, false)⟩,
    ⟨some 19, .pick (.t 14) (.c (.bool true)) (.t 18), none⟩] [0, 3, 19])
  (.cond (.t 19) (.seq (.reg [⟨some 2, .asg (.c (.bool false)), none⟩] [2])
  (.ret)) (.skip)))))
  (.reg [⟨some 8, .mv (.t 3), none⟩,
    ⟨some 9, .bin .add (.t 8) (.c (.int .i64 1)), none⟩,
    ⟨some 3, .asg (.t 9), none⟩] [0, 3])))))))
  (.seq (.reg [⟨some 20, .mv (.t 0), none⟩,
    ⟨some 21, .len true (.t 20), none⟩,
    ⟨some 22, .call 111 [(.t 21), (.c (.int .i64 1)), (.c (.int .i64 8))], none⟩,
    ⟨some 2, .asg (.t 22), none⟩] [2])
  (.ret)))
theorem con_spec_sName {v0 : (List UInt8)} {r : Bool} (h : sh_spec_sName v0 = some r) : Con Try.prog 159 [cS.enc v0] [] (rs_spec_sName r) := by
  delta sh_spec_sName at h
  refine top (out := none) (f := Try.f159) (m := m159) (rs := [.t 2]) (by kernel_rfl) rfl (by kernel_rfl) (by kernel_rfl) (by kernel_rfl) (by kernel_rfl) (by kernel_rfl) ?_
  exact
   ini [(0, .d (cS.enc v0))] rfl <| wpC_seq <| reg_s <| x_asg (sc cB false rfl) <| seqN [(0, .d (cS.enc v0))] (by kernel_rfl) <|
    xn <| wpC_seq <| wpC_kp <| wpC_seq <| reg_s <| x_asg (sc cI (0 : Int) rfl) <| seqN [(0, .d (cS.enc v0)), (3, .d (cI.enc (0 : Int)))] (by kernel_rfl) <|
    xn <| wpC_blk <| lpF (fun (s84 : Int) => [(0, .d (cS.enc v0)), (3, .d (cI.enc s84))]) (0 : Int) rfl h
    fun G141 nx139 s84 hn140 h => wpC_seq <| wpC_kp <| wpC_seq <| reg_s <| st rfl <| mvd rfl rfl <| st rfl <| mvd rfl rfl <| stw rfl <| lent rfl fun l146 => st rfl <| b_lss (k := .i64) rfl rfl <| seqN [(0, .d (cS.enc v0)), (3, .d (cI.enc s84)), (7, .d (cB.enc (decide (s84 < (v0.length : Int)))))] (by kernel_rfl) <|
    xn <| cnd rfl h (fun b147 h => wpC_skip <| kpN [(0, .d (cS.enc v0)), (3, .d (cI.enc s84))] (by kernel_rfl) <| xn <| wpC_seq <| wpC_kp <| wpC_blk <| wpC_seq <| reg_s <| st rfl <| mvd rfl rfl <| st rfl <| mvd rfl rfl <| getO_k h fun x161 i162 g163 h => st rfl <| o_ix (k := .i64) rfl rfl i162 g163 <| st rfl <| b_lss (k := .u8) rfl rfl <| st rfl <| mvd rfl rfl <| ite_k h (fun b164 h => gf rfl b164 <| gf rfl b164 <| gf rfl b164 <| gf rfl b164 <| st rfl <| pick1 rfl b164 (cd := cB) (v := true) rfl rfl <| seqN [(0, .d (cS.enc v0)), (3, .d (cI.enc s84)), (19, .d (cB.enc true))] (by kernel_rfl) <|
    xn <| cnd1 rfl rfl <| wpC_seq <| reg_s <| x_asg (sc cB false rfl) <| seqN [(2, .d (cB.enc false))] (by kernel_rfl) <|
    xn <| wpC_ret <| rb <| rt <| rt <| rt <| rb <| rt <| rt <| re <| fin h (r1 (ss rfl rfl) <| r0) rfl)
    (fun b164 h => gt' rfl b164 <| st rfl <| mvd rfl rfl <| gt' rfl b164 <| st rfl <| mvd rfl rfl <| gt' rfl b164 <| st rfl <| o_ix (k := .i64) rfl rfl i162 g163 <| gt' rfl b164 <| st rfl <| b_gtr (k := .u8) rfl rfl <| st rfl <| pick0 rfl b164 (cd := cB) (v := (decide ((122 : Int) < (x161.toNat : Int)))) rfl rfl <| seqN [(0, .d (cS.enc v0)), (3, .d (cI.enc s84)), (19, .d (cB.enc (decide ((122 : Int) < (x161.toNat : Int)))))] (by kernel_rfl) <|
    xn <| cnd rfl h (fun b165 h => wpC_seq <| reg_s <| x_asg (sc cB false rfl) <| seqN [(2, .d (cB.enc false))] (by kernel_rfl) <|
    xn <| wpC_ret <| rb <| rt <| rt <| rt <| rb <| rt <| rt <| re <| fin h (r1 (ss rfl rfl) <| r0) rfl)
    (fun b165 h => wpC_skip <| xbb <| kpN [(0, .d (cS.enc v0)), (3, .d (cI.enc s84))] (by kernel_rfl) <| xn <| reg_s <| st rfl <| mvd rfl rfl <| ckI_k h fun i166 h => st rfl <| b_add (k := .i64) rfl rfl i166 <| x_asg (ss rfl rfl) <| seqN [(0, .d (cS.enc v0)), (3, .d (cI.enc (s84 + (1 : Int))))] (by kernel_rfl) <|
    xn <| hn140 (s84 + (1 : Int)) h)))
    (fun b147 h => wpC_exit <| xt <| xt <| xt <| xb <| kpN [(0, .d (cS.enc v0))] (by kernel_rfl) <| xn <| wpC_seq <| reg_s <| st rfl <| mvd rfl rfl <| stw rfl <| lent rfl fun l170 => bnd h fun x171 e172 h => st rfl <| o_call (a1 (c := cI) tK rfl (a1 (c := cI) tK rfl (a1 (c := cI) tK rfl a0))) (con_spec_l1In e172) (.inl (so1 sB so0)) <| x_asg (ss rfl rfl) <| seqN [(2, .d (cB.enc x171))] (by kernel_rfl) <|
    xn <| wpC_ret <| re <| fin h (r1 (ss rfl rfl) <| r0) rfl)

def rs_spec_sFind (r : Int) : List D := [cI.enc r]
def m160 : MC := .seq (.reg [⟨some 4, .asg (.c (.int .i64 0)), none⟩] [0, 1])
  (.seq (.kp [] (.seq (.reg [⟨some 7, .mv (.t 0), none⟩,
    ⟨some 8, .len false (.t 7), none⟩,
    ⟨some 9, .mv (.c (.int .i64 0)), none⟩] [0, 1, 7, 8, 9])
  (.blk 0 (.loop (.seq (.reg [⟨some 10, .bin .lss (.t 9) (.t 8), none⟩] [0, 1, 7, 8, 9, 10])
  (.seq (.kp [0, 1, 7, 8, 9] (.cond (.t 10) (.skip) (.exit 0)))
  (.seq (.kp [0, 1, 7, 8, 9] (.blk 1 (.seq (.reg [⟨some 11, .mv (.t 9), none⟩,
    ⟨some 12, .ia 7 (.t 9) 2, none⟩,
    ⟨some 13, .ld 12 2 true, none⟩,
    ⟨some 6, .alloc (.agg [.str [], .int .i64 0]), none⟩,
    ⟨some 5, .asg (.t 11), none⟩,
    ⟨none, .st 6 (.t 13) 2, none⟩] [0, 1, 5, 6, 7, 8, 9])
  (.seq (.reg [⟨some 14, .fa 6 0 0, none⟩,
    ⟨some 15, .ld 14 1 false, none⟩,
    ⟨some 16, .mv (.t 1), none⟩,
    ⟨some 17, .bin .eql (.t 15) (.t 16), none⟩] [0, 1, 5, 7, 8, 9, 17])
  (.cond (.t 17) (.seq (.reg [⟨some 18, .mv (.t 5), none⟩,
    ⟨some 4, .asg (.t 18), none⟩] [4])
  (.ret)) (.skip))))))
  (.reg [⟨some 19, .bin .add (.t 9) (.c (.int .i64 1)), none⟩,
    ⟨some 9, .mv (.t 19), none⟩] [0, 1, 7, 8, 9]))))))))
  (.seq (.reg [⟨some 4, .asg (.c (.int .i64 (-1))), none⟩] [4])
  (.ret)))
theorem con_spec_sFind {v0 : (List XVariable)} {v1 : (List UInt8)} {r : Int} (h : sh_spec_sFind v0 v1 = some r) : Con Try.prog 160 [(cLs (cXVariable cS cI) rfl).enc v0, cS.enc v1] [] (rs_spec_sFind r) := by
  delta sh_spec_sFind at h
  refine top (out := none) (f := Try.f160) (m := m160) (rs := [.t 4]) (by kernel_rfl) rfl (by kernel_rfl) (by kernel_rfl) (by kernel_rfl) (by kernel_rfl) (by kernel_rfl) ?_
  exact
   ini [(0, .d ((cLs (cXVariable cS cI) rfl).enc v0)), (1, .d (cS.enc v1))] rfl <| wpC_seq <| reg_s <| x_asg (sc cI (0 : Int) rfl) <| seqN [(0, .d ((cLs (cXVariable cS cI) rfl).enc v0)), (1, .d (cS.enc v1))] (by kernel_rfl) <|
    xn <| wpC_seq <| wpC_kp <| wpC_seq <| reg_s <| st rfl <| mvd rfl rfl <| stw rfl <| lens rfl fun l16 => st rfl <| mvc cI (0 : Int) rfl <| seqN [(0, .d ((cLs (cXVariable cS cI) rfl).enc v0)), (1, .d (cS.enc v1)), (7, .d ((cLs (cXVariable cS cI) rfl).enc v0)), (8, .d (cI.enc (v0.length : Int))), (9, .d (cI.enc (0 : Int)))] (by kernel_rfl) <|
    xn <| wpC_blk <| lpR (fun (k18 : Nat) (s17 : Unit) => [(0, .d ((cLs (cXVariable cS cI) rfl).enc v0)), (1, .d (cS.enc v1)), (7, .d ((cLs (cXVariable cS cI) rfl).enc v0)), (8, .d (cI.enc (v0.length : Int))), (9, .d (cI.enc (k18 : Int)))]) () rfl h
    (fun G26 s17 h => wpC_seq <| reg_s <| st rfl <| b_lss (k := .i64) rfl rfl <| seqN [(0, .d ((cLs (cXVariable cS cI) rfl).enc v0)), (1, .d (cS.enc v1)), (7, .d ((cLs (cXVariable cS cI) rfl).enc v0)), (8, .d (cI.enc (v0.length : Int))), (9, .d (cI.enc (v0.length : Int))), (10, .d (cB.enc (decide ((v0.length : Int) < (v0.length : Int)))))] (by kernel_rfl) <|
    xn <| wpC_seq <| wpC_kp <| cnd0 rfl (dlf _) <| wpC_exit <| xt <| xt <| xt <| xb <| kpN [] (by kernel_rfl) <| xn <| wpC_seq <| reg_s <| x_asg (sc cI (-1 : Int) rfl) <| seqN [(4, .d (cI.enc (-1 : Int)))] (by kernel_rfl) <|
    xn <| wpC_ret <| re <| fin h (r1 (ss rfl rfl) <| r0) rfl)
    (fun G26 nx24 k18 s17 x19 hk20 hx21 hn25 h => wpC_seq <| reg_s <| st rfl <| b_lss (k := .i64) rfl rfl <| seqN [(0, .d ((cLs (cXVariable cS cI) rfl).enc v0)), (1, .d (cS.enc v1)), (7, .d ((cLs (cXVariable cS cI) rfl).enc v0)), (8, .d (cI.enc (v0.length : Int))), (9, .d (cI.enc (k18 : Int))), (10, .d (cB.enc (decide ((k18 : Int) < (v0.length : Int)))))] (by kernel_rfl) <|
    xn <| wpC_seq <| wpC_kp <| cnd1 rfl (dlt hk20) <| wpC_skip <| kpN [(0, .d ((cLs (cXVariable cS cI) rfl).enc v0)), (1, .d (cS.enc v1)), (7, .d ((cLs (cXVariable cS cI) rfl).enc v0)), (8, .d (cI.enc (v0.length : Int))), (9, .d (cI.enc (k18 : Int)))] (by kernel_rfl) <| xn <| wpC_seq <| wpC_kp <| wpC_blk <| wpC_seq <| reg_s <| st rfl <| mvd rfl rfl <| st rfl <| ias rfl rfl (Int.natCast_nonneg _) hx21 rfl <| st rfl <| ldi rfl rfl rfl rfl <| x_all (cXVariable cS cI) (⟨([] : List UInt8), (0 : Int)⟩ : XVariable) rfl <| x_asg (ss rfl rfl) <| x_stb (ss rfl rfl) rfl (Cd.h_sz _ _) rfl <| seqN [(0, .d ((cLs (cXVariable cS cI) rfl).enc v0)), (1, .d (cS.enc v1)), (5, .d (cI.enc (k18 : Int))), (6, .box ((cXVariable cS cI).enc x19)), (7, .d ((cLs (cXVariable cS cI) rfl).enc v0)), (8, .d (cI.enc (v0.length : Int))), (9, .d (cI.enc (k18 : Int)))] (by kernel_rfl) <|
    xn <| wpC_seq <| reg_s <| st rfl <| fab rfl rfl rfl rfl <| st rfl <| lda rfl rfl rfl rfl rfl rfl <| st rfl <| mvd rfl rfl <| st rfl <| b_seq rfl rfl <| seqN [(0, .d ((cLs (cXVariable cS cI) rfl).enc v0)), (1, .d (cS.enc v1)), (5, .d (cI.enc (k18 : Int))), (7, .d ((cLs (cXVariable cS cI) rfl).enc v0)), (8, .d (cI.enc (v0.length : Int))), (9, .d (cI.enc (k18 : Int))), (17, .d (cB.enc (decide (x19.Name = v1))))] (by kernel_rfl) <|
    xn <| cnd rfl h (fun b28 h => wpC_seq <| reg_s <| st rfl <| mvd rfl rfl <| x_asg (ss rfl rfl) <| seqN [(4, .d (cI.enc (k18 : Int)))] (by kernel_rfl) <|
    xn <| wpC_ret <| rb <| rt <| rt <| rt <| rb <| rt <| rt <| re <| fin h (r1 (ss rfl rfl) <| r0) rfl)
    (fun b28 h => wpC_skip <| xbb <| kpN [(0, .d ((cLs (cXVariable cS cI) rfl).enc v0)), (1, .d (cS.enc v1)), (7, .d ((cLs (cXVariable cS cI) rfl).enc v0)), (8, .d (cI.enc (v0.length : Int))), (9, .d (cI.enc (k18 : Int)))] (by kernel_rfl) <| xn <| reg_s <| st rfl <| b_inc rfl rfl l16 hk20 <| st rfl <| mvd rfl rfl <| seqN [(0, .d ((cLs (cXVariable cS cI) rfl).enc v0)), (1, .d (cS.enc v1)), (7, .d ((cLs (cXVariable cS cI) rfl).enc v0)), (8, .d (cI.enc (v0.length : Int))), (9, .d (cI.enc ((k18 + 1 : Nat) : Int)))] (by kernel_rfl) <|
    xn <| hn25 () h))

def rs_spec_sGood (r : Bool) : List D := [cB.enc r]
def m123 : MC := .seq (.reg [⟨some 2, .asg (.c (.bool false)), none⟩] [0])
  (.seq (.kp [0] (.seq (.reg [⟨some 5, .mv (.t 0), none⟩,
    ⟨some 6, .len false (.t 5), none⟩,
    ⟨some 7, .call 111 [(.t 6), (.c (.int .i64 1)), (.c (.int .i64 6))], none⟩,
    ⟨some 8, .nt (.t 7), none⟩] [0, 8])
  (.cond (.t 8) (.seq (.reg [⟨some 2, .asg (.c (.bool false)), none⟩] [2])
  (.ret)) (.skip))))
  (.seq (.kp [] (.seq (.reg [⟨some 9, .mv (.t 0), none⟩,
    ⟨some 10, .len false (.t 9), none⟩,
    ⟨some 11, .mv (.c (.int .i64 0)), none⟩] [0, 9, 10, 11])
  (.blk 0 (.loop (.seq (.reg [⟨some 12, .bin .lss (.t 11) (.t 10), none⟩] [0, 9, 10, 11, 12])
  (.seq (.kp [0, 9, 10, 11] (.cond (.t 12) (.skip) (.exit 0)))
  (.seq (.kp [0, 9, 10, 11] (.blk 1 (.seq (.reg [⟨some 13, .mv (.t 11), none⟩,
    ⟨some 14, .ia 9 (.t 11) 2, none⟩,
    ⟨some 15, .ld 14 2 true, none⟩,
    ⟨some 4, .alloc (.agg [.str [], .int .i64 0]), none⟩,
    ⟨some 3, .asg (.t 13), none⟩,
    ⟨none, .st 4 (.t 15) 2, none⟩] [0, 3, 4, 9, 10, 11])
  (.seq (.drw [⟨0, ⟨some 16, .fa 4 0 0, none⟩, [17, 18, 19, 20, 21, 22, 23, 24, 25, 26, 27, 28, 29, 30, 31, 32, 33, 34]⟩,
    ⟨1, ⟨some 17, .ld 16 1 false, none⟩, [18, 19, 20, 21, 22, 23, 24, 25, 26, 27, 28, 29, 30, 31, 32, 33, 34]⟩,
    ⟨2, ⟨some 18, .call 159 [(.t 17)], none⟩, [19, 20, 21, 22, 23, 24, 25, 26, 27, 28, 29, 30, 31, 32, 33, 34]⟩,
    ⟨3, ⟨some 19, .nt (.t 18), none⟩, [20, 21, 22, 23, 24, 25, 26, 27, 28, 29, 30, 31, 32, 33, 34]⟩,
    ⟨4, ⟨some 20, .mv (.t 19), none⟩, [21, 22, 23, 24, 25, 26, 27, 28, 29, 30, 31, 32, 33, 34]⟩,
    ⟨5, ⟨some 21, .fa 4 1 1, some (20, false)⟩, [22, 23, 24, 25, 26, 27, 28, 29, 30, 31, 32, 33, 34]⟩,
    ⟨6, ⟨some 22, .ld 21 1 false, some (20, false)⟩, [23, 24, 25, 26, 27, 28, 29, 30, 31, 32, 33, 34]⟩,
    ⟨7, ⟨some 23, .call 111 [(.t 22), (.c (.int .i64 2)), (.c (.int .i64 8))], some (20, false)⟩, [24, 25, 26, 27, 28, 29, 30, 31, 32, 33, 34]⟩,
    ⟨8, ⟨some 24, .nt (.t 23), some (20, false)⟩, [25, 26, 27, 28, 29, 30, 31, 32, 33, 34]⟩,
    ⟨9, ⟨some 25, .pick (.t 20) (.c (.bool true)) (.t 24), none⟩, [26, 27, 28, 29, 30, 31, 32, 33, 34]⟩,
    ⟨10, ⟨some 26, .mv (.t 25), none⟩, [27, 28, 29, 30, 31, 32, 33, 34]⟩,
    ⟨11, ⟨some 27, .mv (.t 0), some (26, false)⟩, [28, 29, 30, 31, 32, 33, 34]⟩,
    ⟨12, ⟨some 28, .mv (.t 3), some (26, false)⟩, [27, 29, 30, 31, 32, 33, 34]⟩,
    ⟨13, ⟨some 29, .sl (.t 27) none (some (.t 28)) 2, some (26, false)⟩, [30, 31, 32, 33, 34]⟩,
    ⟨14, ⟨some 30, .fa 4 0 0, some (26, false)⟩, [27, 28, 29, 31, 32, 33, 34]⟩,
    ⟨15, ⟨some 31, .ld 30 1 false, some (26, false)⟩, [27, 28, 29, 32, 33, 34]⟩,
    ⟨16, ⟨some 32, .call 160 [(.t 29), (.t 31)], some (26, false)⟩, [33, 34]⟩,
    ⟨17, ⟨some 33, .bin .geq (.t 32) (.c (.int .i64 0)), some (26, false)⟩, [34]⟩,
    ⟨18, ⟨some 34, .pick (.t 26) (.c (.bool true)) (.t 33), none⟩, []⟩]
    [] [0, 9, 10, 11, 34])
  (.cond (.t 34) (.seq (.reg [⟨some 2, .asg (.c (.bool false)), none⟩] [2])
  (.ret)) (.skip))))))
  (.reg [⟨some 35, .bin .add (.t 11) (.c (.int .i64 1)), none⟩,
    ⟨some 11, .mv (.t 35), none⟩] [0, 9, 10, 11]))))))))
  (.seq (.reg [⟨some 2, .asg (.c (.bool true)), none⟩] [2])
  (.ret))))
theorem con_spec_sGood {v0 : (List XVariable)} {r : Bool} (h : sh_spec_sGood v0 = some r) : Con Try.prog 123 [(cLs (cXVariable cS cI) rfl).enc v0] [] (rs_spec_sGood r) := by
  delta sh_spec_sGood at h
  refine top (out := none) (f := Try.f123) (m := m123) (rs := [.t 2]) (by kernel_rfl) rfl (by kernel_rfl) (by kernel_rfl) (by kernel_rfl) (by kernel_rfl) (by kernel_rfl) ?_
  exact
   ini [(0, .d ((cLs (cXVariable cS cI) rfl).enc v0))] rfl <| wpC_seq <| reg_s <| x_asg (sc cB false rfl) <| seqN [(0, .d ((cLs (cXVariable cS cI) rfl).enc v0))] (by kernel_rfl) <|
    xn <| wpC_seq <| wpC_kp <| wpC_seq <| reg_s <| st rfl <| mvd rfl rfl <| stw rfl <| lens rfl fun l11 => bnd h fun x12 e13 h => st rfl <| o_call (a1 (c := cI) tK rfl (a1 (c := cI) tK rfl (a1 (c := cI) tK rfl a0))) (con_spec_l1In e13) (.inl (so1 sB so0)) <| st rfl <| o_nt rfl <| seqN [(0, .d ((cLs (cXVariable cS cI) rfl).enc v0)), (8, .d (cB.enc (!x12)))] (by kernel_rfl) <|
    xn <| cnd rfl h (fun b14 h => wpC_seq <| reg_s <| x_asg (sc cB false rfl) <| seqN [(2, .d (cB.enc false))] (by kernel_rfl) <|
    xn <| wpC_ret <| rt <| rt <| re <| fin h (r1 (ss rfl rfl) <| r0) rfl)
    (fun b14 h => wpC_skip <| kpN [(0, .d ((cLs (cXVariable cS cI) rfl).enc v0))] (by kernel_rfl) <| xn <| wpC_seq <| wpC_kp <| wpC_seq <| reg_s <| st rfl <| mvd rfl rfl <| stw rfl <| lens rfl fun l102 => st rfl <| mvc cI (0 : Int) rfl <| seqN [(0, .d ((cLs (cXVariable cS cI) rfl).enc v0)), (9, .d ((cLs (cXVariable cS cI) rfl).enc v0)), (10, .d (cI.enc (v0.length : Int))), (11, .d (cI.enc (0 : Int)))] (by kernel_rfl) <|
    xn <| wpC_blk <| lpR (fun (k104 : Nat) (s103 : Unit) => [(0, .d ((cLs (cXVariable cS cI) rfl).enc v0)), (9, .d ((cLs (cXVariable cS cI) rfl).enc v0)), (10, .d (cI.enc (v0.length : Int))), (11, .d (cI.enc (k104 : Int)))]) () rfl h
    (fun G148 s103 h => wpC_seq <| reg_s <| st rfl <| b_lss (k := .i64) rfl rfl <| seqN [(0, .d ((cLs (cXVariable cS cI) rfl).enc v0)), (9, .d ((cLs (cXVariable cS cI) rfl).enc v0)), (10, .d (cI.enc (v0.length : Int))), (11, .d (cI.enc (v0.length : Int))), (12, .d (cB.enc (decide ((v0.length : Int) < (v0.length : Int)))))] (by kernel_rfl) <|
    xn <| wpC_seq <| wpC_kp <| cnd0 rfl (dlf _) <| wpC_exit <| xt <| xt <| xt <| xb <| kpN [] (by kernel_rfl) <| xn <| wpC_seq <| reg_s <| x_asg (sc cB true rfl) <| seqN [(2, .d (cB.enc true))] (by kernel_rfl) <|
    xn <| wpC_ret <| re <| fin h (r1 (ss rfl rfl) <| r0) rfl)
    (fun G148 nx146 k104 s103 x105 hk106 hx107 hn147 h => wpC_seq <| reg_s <| st rfl <| b_lss (k := .i64) rfl rfl <| seqN [(0, .d ((cLs (cXVariable cS cI) rfl).enc v0)), (9, .d ((cLs (cXVariable cS cI) rfl).enc v0)), (10, .d (cI.enc (v0.length : Int))), (11, .d (cI.enc (k104 : Int))), (12, .d (cB.enc (decide ((k104 : Int) < (v0.length : Int)))))] (by kernel_rfl) <|
    xn <| wpC_seq <| wpC_kp <| cnd1 rfl (dlt hk106) <| wpC_skip <| kpN [(0, .d ((cLs (cXVariable cS cI) rfl).enc v0)), (9, .d ((cLs (cXVariable cS cI) rfl).enc v0)), (10, .d (cI.enc (v0.length : Int))), (11, .d (cI.enc (k104 : Int)))] (by kernel_rfl) <| xn <| wpC_seq <| wpC_kp <| wpC_blk <| wpC_seq <| reg_s <| st rfl <| mvd rfl rfl <| st rfl <| ias rfl rfl (Int.natCast_nonneg _) hx107 rfl <| st rfl <| ldi rfl rfl rfl rfl <| x_all (cXVariable cS cI) (⟨([] : List UInt8), (0 : Int)⟩ : XVariable) rfl <| x_asg (ss rfl rfl) <| x_stb (ss rfl rfl) rfl (Cd.h_sz _ _) rfl <| seqN [(0, .d ((cLs (cXVariable cS cI) rfl).enc v0)), (3, .d (cI.enc (k104 : Int))), (4, .box ((cXVariable cS cI).enc x105)), (9, .d ((cLs (cXVariable cS cI) rfl).enc v0)), (10, .d (cI.enc (v0.length : Int))), (11, .d (cI.enc (k104 : Int)))] (by kernel_rfl) <|
    xn <| wpC_seq <| drw_s <| pst rfl <| fab rfl rfl rfl rfl ⟨rfl, pst rfl <| lda rfl rfl rfl rfl rfl rfl ⟨rfl, bndp h fun x177 e178 h => pst rfl <| o_call (a1 (c := cS) tS rfl a0) (con_spec_sName e178) (.inl (so1 sB so0)) ⟨rfl, pst rfl <| o_nt rfl ⟨rfl, pst rfl <| mvd rfl rfl ⟨rfl, ite_kp h (fun b179 h => pgf rfl rfl b179 <| pgf rfl rfl b179 <| pgf rfl rfl b179 <| pgf rfl rfl b179 <| pst rfl <| pick1 rfl b179 (cd := cB) (v := true) rfl rfl ⟨rfl, pst rfl <| mvd rfl rfl ⟨rfl, pgf rfl rfl rfl <| pgf rfl rfl rfl <| pgf rfl rfl rfl <| pgf rfl rfl rfl <| pgf rfl rfl rfl <| pgf rfl rfl rfl <| pgf rfl rfl rfl <| pst rfl <| pick1 rfl rfl (cd := cB) (v := true) rfl rfl ⟨rfl, preN <| seqN [(0, .d ((cLs (cXVariable cS cI) rfl).enc v0)), (9, .d ((cLs (cXVariable cS cI) rfl).enc v0)), (10, .d (cI.enc (v0.length : Int))), (11, .d (cI.enc (k104 : Int))), (34, .d (cB.enc true))] (by kernel_rfl) <|
    xn <| cnd1 rfl rfl <| wpC_seq <| reg_s <| x_asg (sc cB false rfl) <| seqN [(2, .d (cB.enc false))] (by kernel_rfl) <|
    xn <| wpC_ret <| rb <| rt <| rt <| rt <| rb <| rt <| rt <| re <| fin h (r1 (ss rfl rfl) <| r0) rfl⟩⟩⟩)
    (fun b179 h => pgt rfl b179 <| pst rfl <| fab rfl rfl rfl rfl ⟨rfl, pgt rfl b179 <| pst rfl <| lda rfl rfl rfl rfl rfl rfl ⟨rfl, pgt rfl b179 <| bndp h fun x180 e181 h => pst rfl <| o_call (a1 (c := cI) tK rfl (a1 (c := cI) tK rfl (a1 (c := cI) tK rfl a0))) (con_spec_l1In e181) (.inl (so1 sB so0)) ⟨rfl, pgt rfl b179 <| pst rfl <| o_nt rfl ⟨rfl, pst rfl <| pick0 rfl b179 (cd := cB) (v := (!x180)) rfl rfl ⟨rfl, pst rfl <| mvd rfl rfl ⟨rfl, ite_kp h (fun b182 h => pgf rfl rfl b182 <| pgf rfl rfl b182 <| pgf rfl rfl b182 <| pgf rfl rfl b182 <| pgf rfl rfl b182 <| pgf rfl rfl b182 <| pgf rfl rfl b182 <| pst rfl <| pick1 rfl b182 (cd := cB) (v := true) rfl rfl ⟨rfl, preN <| seqN [(0, .d ((cLs (cXVariable cS cI) rfl).enc v0)), (9, .d ((cLs (cXVariable cS cI) rfl).enc v0)), (10, .d (cI.enc (v0.length : Int))), (11, .d (cI.enc (k104 : Int))), (34, .d (cB.enc true))] (by kernel_rfl) <|
    xn <| cnd1 rfl rfl <| wpC_seq <| reg_s <| x_asg (sc cB false rfl) <| seqN [(2, .d (cB.enc false))] (by kernel_rfl) <|
    xn <| wpC_ret <| rb <| rt <| rt <| rt <| rb <| rt <| rt <| re <| fin h (r1 (ss rfl rfl) <| r0) rfl⟩)
    (fun b182 h => pgt rfl b182 <| pst rfl <| mvd rfl rfl ⟨rfl, pgt rfl b182 <| pst rfl <| mvd rfl rfl ⟨rfl, pgt rfl b182 <| ck_kp h fun i183 h => pst rfl <| o_sl rfl rfl lo0 (hi1 (k := .i64) rfl i183.1) i183.2 ⟨rfl, pgt rfl b182 <| pst rfl <| fab rfl rfl rfl rfl ⟨rfl, pgt rfl b182 <| pst rfl <| lda rfl rfl rfl rfl rfl rfl ⟨rfl, pgt rfl b182 <| bndp h fun x184 e185 h => pst rfl <| o_call (a1 (c := (cLs (cXVariable cS cI) rfl)) (tLs (tXVariable tS tK)) rfl (a1 (c := cS) tS rfl a0)) (con_spec_sFind e185) (.inl (so1 sK so0)) ⟨rfl, pgt rfl b182 <| pst rfl <| b_geq (k := .i64) rfl rfl ⟨rfl, pst rfl <| pick0 rfl b182 (cd := cB) (v := (decide ((0 : Int) ≤ x184))) rfl rfl ⟨rfl, preN <| seqN [(0, .d ((cLs (cXVariable cS cI) rfl).enc v0)), (9, .d ((cLs (cXVariable cS cI) rfl).enc v0)), (10, .d (cI.enc (v0.length : Int))), (11, .d (cI.enc (k104 : Int))), (34, .d (cB.enc (decide ((0 : Int) ≤ x184))))] (by kernel_rfl) <|
    xn <| cnd rfl h (fun b186 h => wpC_seq <| reg_s <| x_asg (sc cB false rfl) <| seqN [(2, .d (cB.enc false))] (by kernel_rfl) <|
    xn <| wpC_ret <| rb <| rt <| rt <| rt <| rb <| rt <| rt <| re <| fin h (r1 (ss rfl rfl) <| r0) rfl)
    (fun b186 h => wpC_skip <| xbb <| kpN [(0, .d ((cLs (cXVariable cS cI) rfl).enc v0)), (9, .d ((cLs (cXVariable cS cI) rfl).enc v0)), (10, .d (cI.enc (v0.length : Int))), (11, .d (cI.enc (k104 : Int)))] (by kernel_rfl) <| xn <| reg_s <| st rfl <| b_inc rfl rfl l102 hk106 <| st rfl <| mvd rfl rfl <| seqN [(0, .d ((cLs (cXVariable cS cI) rfl).enc v0)), (9, .d ((cLs (cXVariable cS cI) rfl).enc v0)), (10, .d (cI.enc (v0.length : Int))), (11, .d (cI.enc ((k104 + 1 : Nat) : Int)))] (by kernel_rfl) <|
    xn <| hn147 () h)⟩⟩⟩⟩⟩⟩⟩⟩)⟩⟩⟩⟩⟩⟩)⟩⟩⟩⟩⟩))

def rs_spec_eFull (r : Int) : List D := [cI.enc r]
def m161 : MC := .seq (.reg [⟨some 4, .asg (.c (.int .i64 0)), none⟩] [0, 1])
  (.seq (.reg [⟨some 5, .mv (.t 0), none⟩,
    ⟨some 6, .mv (.t 1), none⟩,
    ⟨some 7, .ia 5 (.t 6) 2, none⟩,
    ⟨some 8, .fa 7 1 1, none⟩,
    ⟨some 9, .ld 8 1 false, none⟩,
    ⟨some 10, .cvi .u64 (.t 9), none⟩,
    ⟨some 11, .bin .shl (.c (.int .i64 1)) (.t 10), none⟩,
    ⟨some 12, .bin .sub (.t 11) (.c (.int .i64 1)), none⟩,
    ⟨some 4, .asg (.t 12), none⟩] [4])
  (.ret))
theorem con_spec_eFull {v0 : (List XVariable)} {v1 : Int} {r : Int} (h : sh_spec_eFull v0 v1 = some r) : Con Try.prog 161 [(cLs (cXVariable cS cI) rfl).enc v0, cI.enc v1] [] (rs_spec_eFull r) := by
  delta sh_spec_eFull at h
  refine top (out := none) (f := Try.f161) (m := m161) (rs := [.t 4]) (by kernel_rfl) rfl (by kernel_rfl) (by kernel_rfl) (by kernel_rfl) (by kernel_rfl) (by kernel_rfl) ?_
  exact
   ini [(0, .d ((cLs (cXVariable cS cI) rfl).enc v0)), (1, .d (cI.enc v1))] rfl <| wpC_seq <| reg_s <| x_asg (sc cI (0 : Int) rfl) <| seqN [(0, .d ((cLs (cXVariable cS cI) rfl).enc v0)), (1, .d (cI.enc v1))] (by kernel_rfl) <|
    xn <| wpC_seq <| reg_s <| st rfl <| mvd rfl rfl <| st rfl <| mvd rfl rfl <| getO_k h fun x8 i9 g10 h => st rfl <| ias rfl rfl i9 g10 rfl <| st rfl <| fai rfl rfl rfl rfl <| st rfl <| ldi rfl rfl rfl rfl <| ckK_k h fun i11 h => st rfl <| o_cvi (k := .i64) (k' := .u64) rfl i11 <| ck_k h fun i12 h => ckI_k h fun i13 h => st rfl <| b_shl (k := .i64) (k' := .u64) rfl rfl i12 rfl i13 <| ckI_k h fun i14 h => st rfl <| b_sub (k := .i64) rfl rfl i14 <| x_asg (ss rfl rfl) <| seqN [(4, .d (cI.enc (((1 : Int) * 2 ^ (x8.Levels).toNat) - (1 : Int))))] (by kernel_rfl) <|
    xn <| wpC_ret <| re <| fin h (r1 (ss rfl rfl) <| r0) rfl

def rs_spec_eGood (r : Bool) : List D := [cB.enc r]
def m124 : MC := .seq (.reg [⟨some 3, .box (.t 1), none⟩,
    ⟨some 4, .asg (.c (.bool false)), none⟩] [0, 3])
  (.seq (.kp [0, 3] (.seq (.reg [⟨some 7, .fa 3 0 0, none⟩,
    ⟨some 8, .ld 7 1 false, none⟩,
    ⟨some 9, .len false (.t 8), none⟩,
    ⟨some 10, .mv (.t 0), none⟩,
    ⟨some 11, .len false (.t 10), none⟩,
    ⟨some 12, .bin .neq (.t 9) (.t 11), none⟩] [0, 3, 12])
  (.cond (.t 12) (.seq (.reg [⟨some 4, .asg (.c (.bool false)), none⟩] [4])
  (.ret)) (.skip))))
  (.seq (.kp [] (.seq (.reg [⟨some 13, .fa 3 0 0, none⟩,
    ⟨some 14, .ld 13 1 false, none⟩,
    ⟨some 15, .len false (.t 14), none⟩,
    ⟨some 16, .mv (.c (.int .i64 0)), none⟩] [0, 3, 13, 14, 15, 16])
  (.blk 0 (.loop (.seq (.reg [⟨some 17, .bin .lss (.t 16) (.t 15), none⟩] [0, 3, 13, 14, 15, 16, 17])
  (.seq (.kp [0, 3, 13, 14, 15, 16] (.cond (.t 17) (.skip) (.exit 0)))
  (.seq (.kp [0, 3, 13, 14, 15, 16] (.blk 1 (.seq (.reg [⟨some 18, .mv (.t 16), none⟩,
    ⟨some 19, .ia 14 (.t 16) 1, none⟩,
    ⟨some 20, .ld 19 1 false, none⟩,
    ⟨some 5, .asg (.t 18), none⟩,
    ⟨some 6, .asg (.t 20), none⟩] [0, 3, 5, 6, 13, 14, 15, 16])
  (.seq (.reg [⟨some 21, .mv (.t 6), none⟩,
    ⟨some 22, .mv (.t 0), none⟩,
    ⟨some 23, .mv (.t 5), none⟩,
    ⟨some 24, .call 161 [(.t 22), (.t 23)], none⟩,
    ⟨some 25, .call 111 [(.t 21), (.c (.int .i64 1)), (.t 24)], none⟩,
    ⟨some 26, .nt (.t 25), none⟩] [0, 3, 13, 14, 15, 16, 26])
  (.cond (.t 26) (.seq (.reg [⟨some 4, .asg (.c (.bool false)), none⟩] [4])
  (.ret)) (.skip))))))
  (.reg [⟨some 27, .bin .add (.t 16) (.c (.int .i64 1)), none⟩,
    ⟨some 16, .mv (.t 27), none⟩] [0, 3, 13, 14, 15, 16]))))))))
  (.seq (.reg [⟨some 4, .asg (.c (.bool true)), none⟩] [4])
  (.ret))))
theorem con_spec_eGood {v0 : (List XVariable)} {v1 : XEdit} {r : Bool} (h : sh_spec_eGood v0 v1 = some r) : Con Try.prog 124 [(cLs (cXVariable cS cI) rfl).enc v0, (cXEdit (cLs cI rfl)).enc v1] [] (rs_spec_eGood r) := by
  delta sh_spec_eGood at h
  refine top (out := none) (f := Try.f124) (m := m124) (rs := [.t 4]) (by kernel_rfl) rfl (by kernel_rfl) (by kernel_rfl) (by kernel_rfl) (by kernel_rfl) (by kernel_rfl) ?_
  exact
   ini [(0, .d ((cLs (cXVariable cS cI) rfl).enc v0)), (1, .d ((cXEdit (cLs cI rfl)).enc v1))] rfl <| wpC_seq <| reg_s <| x_box (ss rfl rfl) <| x_asg (sc cB false rfl) <| seqN [(0, .d ((cLs (cXVariable cS cI) rfl).enc v0)), (3, .box ((cXEdit (cLs cI rfl)).enc v1))] (by kernel_rfl) <|
    xn <| wpC_seq <| wpC_kp <| wpC_seq <| reg_s <| st rfl <| fab rfl rfl rfl rfl <| st rfl <| lda rfl rfl rfl rfl rfl rfl <| stw rfl <| lens rfl fun l8 => st rfl <| mvd rfl rfl <| stw rfl <| lens rfl fun l9 => st rfl <| b_neq (k := .i64) rfl rfl <| seqN [(0, .d ((cLs (cXVariable cS cI) rfl).enc v0)), (3, .box ((cXEdit (cLs cI rfl)).enc v1)), (12, .d (cB.enc (decide ((v1.Sets.length : Int) ≠ (v0.length : Int)))))] (by kernel_rfl) <|
    xn <| cnd rfl h (fun b10 h => wpC_seq <| reg_s <| x_asg (sc cB false rfl) <| seqN [(4, .d (cB.enc false))] (by kernel_rfl) <|
    xn <| wpC_ret <| rt <| rt <| re <| fin h (r1 (ss rfl rfl) <| r0) rfl)
    (fun b10 h => wpC_skip <| kpN [(0, .d ((cLs (cXVariable cS cI) rfl).enc v0)), (3, .box ((cXEdit (cLs cI rfl)).enc v1))] (by kernel_rfl) <| xn <| wpC_seq <| wpC_kp <| wpC_seq <| reg_s <| st rfl <| fab rfl rfl rfl rfl <| st rfl <| lda rfl rfl rfl rfl rfl rfl <| stw rfl <| lens rfl fun l58 => st rfl <| mvc cI (0 : Int) rfl <| seqN [(0, .d ((cLs (cXVariable cS cI) rfl).enc v0)), (3, .box ((cXEdit (cLs cI rfl)).enc v1)), (13, .adr 3 [.fld 0]), (14, .d ((cLs cI rfl).enc v1.Sets)), (15, .d (cI.enc (v1.Sets.length : Int))), (16, .d (cI.enc (0 : Int)))] (by kernel_rfl) <|
    xn <| wpC_blk <| lpR (fun (k60 : Nat) (s59 : Unit) => [(0, .d ((cLs (cXVariable cS cI) rfl).enc v0)), (3, .box ((cXEdit (cLs cI rfl)).enc v1)), (13, .adr 3 [.fld 0]), (14, .d ((cLs cI rfl).enc v1.Sets)), (15, .d (cI.enc (v1.Sets.length : Int))), (16, .d (cI.enc (k60 : Int)))]) () rfl h
    (fun G84 s59 h => wpC_seq <| reg_s <| st rfl <| b_lss (k := .i64) rfl rfl <| seqN [(0, .d ((cLs (cXVariable cS cI) rfl).enc v0)), (3, .box ((cXEdit (cLs cI rfl)).enc v1)), (13, .adr 3 [.fld 0]), (14, .d ((cLs cI rfl).enc v1.Sets)), (15, .d (cI.enc (v1.Sets.length : Int))), (16, .d (cI.enc (v1.Sets.length : Int))), (17, .d (cB.enc (decide ((v1.Sets.length : Int) < (v1.Sets.length : Int)))))] (by kernel_rfl) <|
    xn <| wpC_seq <| wpC_kp <| cnd0 rfl (dlf _) <| wpC_exit <| xt <| xt <| xt <| xb <| kpN [] (by kernel_rfl) <| xn <| wpC_seq <| reg_s <| x_asg (sc cB true rfl) <| seqN [(4, .d (cB.enc true))] (by kernel_rfl) <|
    xn <| wpC_ret <| re <| fin h (r1 (ss rfl rfl) <| r0) rfl)
    (fun G84 nx82 k60 s59 x61 hk62 hx63 hn83 h => wpC_seq <| reg_s <| st rfl <| b_lss (k := .i64) rfl rfl <| seqN [(0, .d ((cLs (cXVariable cS cI) rfl).enc v0)), (3, .box ((cXEdit (cLs cI rfl)).enc v1)), (13, .adr 3 [.fld 0]), (14, .d ((cLs cI rfl).enc v1.Sets)), (15, .d (cI.enc (v1.Sets.length : Int))), (16, .d (cI.enc (k60 : Int))), (17, .d (cB.enc (decide ((k60 : Int) < (v1.Sets.length : Int)))))] (by kernel_rfl) <|
    xn <| wpC_seq <| wpC_kp <| cnd1 rfl (dlt hk62) <| wpC_skip <| kpN [(0, .d ((cLs (cXVariable cS cI) rfl).enc v0)), (3, .box ((cXEdit (cLs cI rfl)).enc v1)), (13, .adr 3 [.fld 0]), (14, .d ((cLs cI rfl).enc v1.Sets)), (15, .d (cI.enc (v1.Sets.length : Int))), (16, .d (cI.enc (k60 : Int)))] (by kernel_rfl) <| xn <| wpC_seq <| wpC_kp <| wpC_blk <| wpC_seq <| reg_s <| st rfl <| mvd rfl rfl <| st rfl <| ias rfl rfl (Int.natCast_nonneg _) hx63 rfl <| st rfl <| ldi rfl rfl rfl rfl <| x_asg (ss rfl rfl) <| x_asg (ss rfl rfl) <| seqN [(0, .d ((cLs (cXVariable cS cI) rfl).enc v0)), (3, .box ((cXEdit (cLs cI rfl)).enc v1)), (5, .d (cI.enc (k60 : Int))), (6, .d (cI.enc x61)), (13, .adr 3 [.fld 0]), (14, .d ((cLs cI rfl).enc v1.Sets)), (15, .d (cI.enc (v1.Sets.length : Int))), (16, .d (cI.enc (k60 : Int)))] (by kernel_rfl) <|
    xn <| wpC_seq <| reg_s <| st rfl <| mvd rfl rfl <| st rfl <| mvd rfl rfl <| st rfl <| mvd rfl rfl <| bnd h fun x98 e99 h => st rfl <| o_call (a1 (c := (cLs (cXVariable cS cI) rfl)) (tLs (tXVariable tS tK)) rfl (a1 (c := cI) tK rfl a0)) (con_spec_eFull e99) (.inl (so1 sK so0)) <| bnd h fun x100 e101 h => st rfl <| o_call (a1 (c := cI) tK rfl (a1 (c := cI) tK rfl (a1 (c := cI) tK rfl a0))) (con_spec_l1In e101) (.inl (so1 sB so0)) <| st rfl <| o_nt rfl <| seqN [(0, .d ((cLs (cXVariable cS cI) rfl).enc v0)), (3, .box ((cXEdit (cLs cI rfl)).enc v1)), (13, .adr 3 [.fld 0]), (14, .d ((cLs cI rfl).enc v1.Sets)), (15, .d (cI.enc (v1.Sets.length : Int))), (16, .d (cI.enc (k60 : Int))), (26, .d (cB.enc (!x100)))] (by kernel_rfl) <|
    xn <| cnd rfl h (fun b102 h => wpC_seq <| reg_s <| x_asg (sc cB false rfl) <| seqN [(4, .d (cB.enc false))] (by kernel_rfl) <|
    xn <| wpC_ret <| rb <| rt <| rt <| rt <| rb <| rt <| rt <| re <| fin h (r1 (ss rfl rfl) <| r0) rfl)
    (fun b102 h => wpC_skip <| xbb <| kpN [(0, .d ((cLs (cXVariable cS cI) rfl).enc v0)), (3, .box ((cXEdit (cLs cI rfl)).enc v1)), (13, .adr 3 [.fld 0]), (14, .d ((cLs cI rfl).enc v1.Sets)), (15, .d (cI.enc (v1.Sets.length : Int))), (16, .d (cI.enc (k60 : Int)))] (by kernel_rfl) <| xn <| reg_s <| st rfl <| b_inc rfl rfl l58 hk62 <| st rfl <| mvd rfl rfl <| seqN [(0, .d ((cLs (cXVariable cS cI) rfl).enc v0)), (3, .box ((cXEdit (cLs cI rfl)).enc v1)), (13, .adr 3 [.fld 0]), (14, .d ((cLs cI rfl).enc v1.Sets)), (15, .d (cI.enc (v1.Sets.length : Int))), (16, .d (cI.enc ((k60 + 1 : Nat) : Int)))] (by kernel_rfl) <|
    xn <| hn83 () h)))

def rs_spec_eList (r : Bool) : List D := [cB.enc r]
def m58 : MC := .seq (.reg [⟨some 4, .asg (.c (.bool false)), none⟩] [0, 1])
  (.seq (.kp [0, 1] (.seq (.reg [⟨some 7, .mv (.t 0), none⟩,
    ⟨some 8, .call 123 [(.t 7)], none⟩,
    ⟨some 9, .nt (.t 8), none⟩,
    ⟨some 10, .mv (.t 9), none⟩,
    ⟨some 11, .mv (.t 1), some (10, false)⟩,
    ⟨some 12, .len false (.t 11), some (10, false)⟩,
    ⟨some 13, .bin .gtr (.t 12) (.c (.int .i64 40)), some (10, false)⟩,
    ⟨some 14, .pick (.t 10) (.c (.bool true)) (.t 13), none⟩] [0, 1, 14])
  (.cond (.t 14) (.seq (.reg [⟨some 4, .asg (.c (.bool false)), none⟩] [4])
  (.ret)) (.skip))))
  (.seq (.kp [] (.seq (.reg [⟨some 15, .mv (.t 1), none⟩,
    ⟨some 16, .len false (.t 15), none⟩,
    ⟨some 17, .mv (.c (.int .i64 0)), none⟩] [0, 1, 15, 16, 17])
  (.blk 0 (.loop (.seq (.reg [⟨some 18, .bin .lss (.t 17) (.t 16), none⟩] [0, 1, 15, 16, 17, 18])
  (.seq (.kp [0, 1, 15, 16, 17] (.cond (.t 18) (.skip) (.exit 0)))
  (.seq (.kp [0, 1, 15, 16, 17] (.blk 1 (.seq (.reg [⟨some 19, .ia 15 (.t 17) 1, none⟩,
    ⟨some 20, .ld 19 1 true, none⟩,
    ⟨some 6, .alloc (.agg [.slice true []]), none⟩,
    ⟨none, .st 6 (.t 20) 1, none⟩] [0, 1, 6, 15, 16, 17])
  (.seq (.reg [⟨some 21, .mv (.t 0), none⟩,
    ⟨some 22, .ld 6 1 true, none⟩,
    ⟨some 23, .call 124 [(.t 21), (.t 22)], none⟩,
    ⟨some 24, .nt (.t 23), none⟩] [0, 1, 15, 16, 17, 24])
  (.cond (.t 24) (.seq (.reg [⟨some 4, .asg (.c (.bool false)), none⟩] [4])
  (.ret)) (.skip))))))
  (.reg [⟨some 25, .bin .add (.t 17) (.c (.int .i64 1)), none⟩,
    ⟨some 17, .mv (.t 25), none⟩] [0, 1, 15, 16, 17]))))))))
  (.seq (.reg [⟨some 4, .asg (.c (.bool true)), none⟩] [4])
  (.ret))))
theorem con_spec_eList {v0 : (List XVariable)} {v1 : (List XEdit)} {r : Bool} (h : sh_spec_eList v0 v1 = some r) : Con Try.prog 58 [(cLs (cXVariable cS cI) rfl).enc v0, (cLs (cXEdit (cLs cI rfl)) rfl).enc v1] [] (rs_spec_eList r) := by
  delta sh_spec_eList at h
  refine top (out := none) (f := Try.f58) (m := m58) (rs := [.t 4]) (by kernel_rfl) rfl (by kernel_rfl) (by kernel_rfl) (by kernel_rfl) (by kernel_rfl) (by kernel_rfl) ?_
  exact
   ini [(0, .d ((cLs (cXVariable cS cI) rfl).enc v0)), (1, .d ((cLs (cXEdit (cLs cI rfl)) rfl).enc v1))] rfl <| wpC_seq <| reg_s <| x_asg (sc cB false rfl) <| seqN [(0, .d ((cLs (cXVariable cS cI) rfl).enc v0)), (1, .d ((cLs (cXEdit (cLs cI rfl)) rfl).enc v1))] (by kernel_rfl) <|
    xn <| wpC_seq <| wpC_kp <| wpC_seq <| reg_s <| st rfl <| mvd rfl rfl <| bnd h fun x14 e15 h => st rfl <| o_call (a1 (c := (cLs (cXVariable cS cI) rfl)) (tLs (tXVariable tS tK)) rfl a0) (con_spec_sGood e15) (.inl (so1 sB so0)) <| st rfl <| o_nt rfl <| st rfl <| mvd rfl rfl <| ite_k h (fun b16 h => gf rfl b16 <| gf rfl b16 <| gf rfl b16 <| st rfl <| pick1 rfl b16 (cd := cB) (v := true) rfl rfl <| seqN [(0, .d ((cLs (cXVariable cS cI) rfl).enc v0)), (1, .d ((cLs (cXEdit (cLs cI rfl)) rfl).enc v1)), (14, .d (cB.enc true))] (by kernel_rfl) <|
    xn <| cnd1 rfl rfl <| wpC_seq <| reg_s <| x_asg (sc cB false rfl) <| seqN [(4, .d (cB.enc false))] (by kernel_rfl) <|
    xn <| wpC_ret <| rt <| rt <| re <| fin h (r1 (ss rfl rfl) <| r0) rfl)
    (fun b16 h => gt' rfl b16 <| st rfl <| mvd rfl rfl <| gt' rfl b16 <| stw rfl <| lens rfl fun l17 => gt' rfl b16 <| st rfl <| b_gtr (k := .i64) rfl rfl <| st rfl <| pick0 rfl b16 (cd := cB) (v := (decide ((40 : Int) < (v1.length : Int)))) rfl rfl <| seqN [(0, .d ((cLs (cXVariable cS cI) rfl).enc v0)), (1, .d ((cLs (cXEdit (cLs cI rfl)) rfl).enc v1)), (14, .d (cB.enc (decide ((40 : Int) < (v1.length : Int)))))] (by kernel_rfl) <|
    xn <| cnd rfl h (fun b18 h => wpC_seq <| reg_s <| x_asg (sc cB false rfl) <| seqN [(4, .d (cB.enc false))] (by kernel_rfl) <|
    xn <| wpC_ret <| rt <| rt <| re <| fin h (r1 (ss rfl rfl) <| r0) rfl)
    (fun b18 h => wpC_skip <| kpN [(0, .d ((cLs (cXVariable cS cI) rfl).enc v0)), (1, .d ((cLs (cXEdit (cLs cI rfl)) rfl).enc v1))] (by kernel_rfl) <| xn <| wpC_seq <| wpC_kp <| wpC_seq <| reg_s <| st rfl <| mvd rfl rfl <| stw rfl <| lens rfl fun l50 => st rfl <| mvc cI (0 : Int) rfl <| seqN [(0, .d ((cLs (cXVariable cS cI) rfl).enc v0)), (1, .d ((cLs (cXEdit (cLs cI rfl)) rfl).enc v1)), (15, .d ((cLs (cXEdit (cLs cI rfl)) rfl).enc v1)), (16, .d (cI.enc (v1.length : Int))), (17, .d (cI.enc (0 : Int)))] (by kernel_rfl) <|
    xn <| wpC_blk <| lpR (fun (k52 : Nat) (s51 : Unit) => [(0, .d ((cLs (cXVariable cS cI) rfl).enc v0)), (1, .d ((cLs (cXEdit (cLs cI rfl)) rfl).enc v1)), (15, .d ((cLs (cXEdit (cLs cI rfl)) rfl).enc v1)), (16, .d (cI.enc (v1.length : Int))), (17, .d (cI.enc (k52 : Int)))]) () rfl h
    (fun G68 s51 h => wpC_seq <| reg_s <| st rfl <| b_lss (k := .i64) rfl rfl <| seqN [(0, .d ((cLs (cXVariable cS cI) rfl).enc v0)), (1, .d ((cLs (cXEdit (cLs cI rfl)) rfl).enc v1)), (15, .d ((cLs (cXEdit (cLs cI rfl)) rfl).enc v1)), (16, .d (cI.enc (v1.length : Int))), (17, .d (cI.enc (v1.length : Int))), (18, .d (cB.enc (decide ((v1.length : Int) < (v1.length : Int)))))] (by kernel_rfl) <|
    xn <| wpC_seq <| wpC_kp <| cnd0 rfl (dlf _) <| wpC_exit <| xt <| xt <| xt <| xb <| kpN [] (by kernel_rfl) <| xn <| wpC_seq <| reg_s <| x_asg (sc cB true rfl) <| seqN [(4, .d (cB.enc true))] (by kernel_rfl) <|
    xn <| wpC_ret <| re <| fin h (r1 (ss rfl rfl) <| r0) rfl)
    (fun G68 nx66 k52 s51 x53 hk54 hx55 hn67 h => wpC_seq <| reg_s <| st rfl <| b_lss (k := .i64) rfl rfl <| seqN [(0, .d ((cLs (cXVariable cS cI) rfl).enc v0)), (1, .d ((cLs (cXEdit (cLs cI rfl)) rfl).enc v1)), (15, .d ((cLs (cXEdit (cLs cI rfl)) rfl).enc v1)), (16, .d (cI.enc (v1.length : Int))), (17, .d (cI.enc (k52 : Int))), (18, .d (cB.enc (decide ((k52 : Int) < (v1.length : Int)))))] (by kernel_rfl) <|
    xn <| wpC_seq <| wpC_kp <| cnd1 rfl (dlt hk54) <| wpC_skip <| kpN [(0, .d ((cLs (cXVariable cS cI) rfl).enc v0)), (1, .d ((cLs (cXEdit (cLs cI rfl)) rfl).enc v1)), (15, .d ((cLs (cXEdit (cLs cI rfl)) rfl).enc v1)), (16, .d (cI.enc (v1.length : Int))), (17, .d (cI.enc (k52 : Int)))] (by kernel_rfl) <| xn <| wpC_seq <| wpC_kp <| wpC_blk <| wpC_seq <| reg_s <| st rfl <| ias rfl rfl (Int.natCast_nonneg _) hx55 rfl <| st rfl <| ldi rfl rfl rfl rfl <| x_all (cXEdit (cLo cI)) (⟨([] : List Int)⟩ : XEdit) rfl <| x_stb (ss rfl rfl) rfl (Cd.h_sz _ _) rfl <| seqN [(0, .d ((cLs (cXVariable cS cI) rfl).enc v0)), (1, .d ((cLs (cXEdit (cLs cI rfl)) rfl).enc v1)), (6, .box ((cXEdit (cLs cI rfl)).enc x53)), (15, .d ((cLs (cXEdit (cLs cI rfl)) rfl).enc v1)), (16, .d (cI.enc (v1.length : Int))), (17, .d (cI.enc (k52 : Int)))] (by kernel_rfl) <|
    xn <| wpC_seq <| reg_s <| st rfl <| mvd rfl rfl <| st rfl <| ldb rfl rfl rfl rfl <| bnd h fun x76 e77 h => st rfl <| o_call (a1 (c := (cLs (cXVariable cS cI) rfl)) (tLs (tXVariable tS tK)) rfl (a1 (c := (cXEdit (cLs cI rfl))) (tXEdit (tLs tK)) rfl a0)) (con_spec_eGood e77) (.inl (so1 sB so0)) <| st rfl <| o_nt rfl <| seqN [(0, .d ((cLs (cXVariable cS cI) rfl).enc v0)), (1, .d ((cLs (cXEdit (cLs cI rfl)) rfl).enc v1)), (15, .d ((cLs (cXEdit (cLs cI rfl)) rfl).enc v1)), (16, .d (cI.enc (v1.length : Int))), (17, .d (cI.enc (k52 : Int))), (24, .d (cB.enc (!x76)))] (by kernel_rfl) <|
    xn <| cnd rfl h (fun b78 h => wpC_seq <| reg_s <| x_asg (sc cB false rfl) <| seqN [(4, .d (cB.enc false))] (by kernel_rfl) <|
    xn <| wpC_ret <| rb <| rt <| rt <| rt <| rb <| rt <| rt <| re <| fin h (r1 (ss rfl rfl) <| r0) rfl)
    (fun b78 h => wpC_skip <| xbb <| kpN [(0, .d ((cLs (cXVariable cS cI) rfl).enc v0)), (1, .d ((cLs (cXEdit (cLs cI rfl)) rfl).enc v1)), (15, .d ((cLs (cXEdit (cLs cI rfl)) rfl).enc v1)), (16, .d (cI.enc (v1.length : Int))), (17, .d (cI.enc (k52 : Int)))] (by kernel_rfl) <| xn <| reg_s <| st rfl <| b_inc rfl rfl l50 hk54 <| st rfl <| mvd rfl rfl <| seqN [(0, .d ((cLs (cXVariable cS cI) rfl).enc v0)), (1, .d ((cLs (cXEdit (cLs cI rfl)) rfl).enc v1)), (15, .d ((cLs (cXEdit (cLs cI rfl)) rfl).enc v1)), (16, .d (cI.enc (v1.length : Int))), (17, .d (cI.enc ((k52 + 1 : Nat) : Int)))] (by kernel_rfl) <|
    xn <| hn67 () h))))

def rs_spec_sCount (r : Int) : List D := [cI.enc r]
def m59 : MC := .seq (.reg [⟨some 2, .asg (.c (.int .i64 0)), none⟩] [0])
  (.seq (.reg [⟨some 3, .asg (.c (.int .i64 1)), none⟩] [0, 3])
  (.seq (.kp [3] (.seq (.reg [⟨some 6, .mv (.t 0), none⟩,
    ⟨some 7, .len false (.t 6), none⟩,
    ⟨some 8, .mv (.c (.int .i64 0)), none⟩] [0, 3, 6, 7, 8])
  (.blk 0 (.loop (.seq (.reg [⟨some 9, .bin .lss (.t 8) (.t 7), none⟩] [0, 3, 6, 7, 8, 9])
  (.seq (.kp [0, 3, 6, 7, 8] (.cond (.t 9) (.skip) (.exit 0)))
  (.seq (.kp [0, 3, 6, 7, 8] (.blk 1 (.seq (.reg [⟨some 10, .ia 6 (.t 8) 2, none⟩,
    ⟨some 11, .ld 10 2 true, none⟩,
    ⟨some 5, .alloc (.agg [.str [], .int .i64 0]), none⟩,
    ⟨none, .st 5 (.t 11) 2, none⟩] [0, 3, 5, 6, 7, 8])
  (.reg [⟨some 12, .mv (.t 3), none⟩,
    ⟨some 13, .fa 5 1 1, none⟩,
    ⟨some 14, .ld 13 1 false, none⟩,
    ⟨some 15, .bin .mul (.t 12) (.t 14), none⟩,
    ⟨some 3, .asg (.t 15), none⟩] [0, 3, 6, 7, 8]))))
  (.reg [⟨some 16, .bin .add (.t 8) (.c (.int .i64 1)), none⟩,
    ⟨some 8, .mv (.t 16), none⟩] [0, 3, 6, 7, 8]))))))))
  (.seq (.reg [⟨some 17, .mv (.t 3), none⟩,
    ⟨some 2, .asg (.t 17), none⟩] [2])
  (.ret))))
theorem con_spec_sCount {v0 : (List XVariable)} {r : Int} (h : sh_spec_sCount v0 = some r) : Con Try.prog 59 [(cLs (cXVariable cS cI) rfl).enc v0] [] (rs_spec_sCount r) := by
  delta sh_spec_sCount at h
  refine top (out := none) (f := Try.f59) (m := m59) (rs := [.t 2]) (by kernel_rfl) rfl (by kernel_rfl) (by kernel_rfl) (by kernel_rfl) (by kernel_rfl) (by kernel_rfl) ?_
  exact
   ini [(0, .d ((cLs (cXVariable cS cI) rfl).enc v0))] rfl <| wpC_seq <| reg_s <| x_asg (sc cI (0 : Int) rfl) <| seqN [(0, .d ((cLs (cXVariable cS cI) rfl).enc v0))] (by kernel_rfl) <|
    xn <| wpC_seq <| reg_s <| x_asg (sc cI (1 : Int) rfl) <| seqN [(0, .d ((cLs (cXVariable cS cI) rfl).enc v0)), (3, .d (cI.enc (1 : Int)))] (by kernel_rfl) <|
    xn <| wpC_seq <| wpC_kp <| wpC_seq <| reg_s <| st rfl <| mvd rfl rfl <| stw rfl <| lens rfl fun l18 => st rfl <| mvc cI (0 : Int) rfl <| seqN [(0, .d ((cLs (cXVariable cS cI) rfl).enc v0)), (3, .d (cI.enc (1 : Int))), (6, .d ((cLs (cXVariable cS cI) rfl).enc v0)), (7, .d (cI.enc (v0.length : Int))), (8, .d (cI.enc (0 : Int)))] (by kernel_rfl) <|
    xn <| wpC_blk <| lpR (fun (k20 : Nat) (s19 : Int) => [(0, .d ((cLs (cXVariable cS cI) rfl).enc v0)), (3, .d (cI.enc s19)), (6, .d ((cLs (cXVariable cS cI) rfl).enc v0)), (7, .d (cI.enc (v0.length : Int))), (8, .d (cI.enc (k20 : Int)))]) (1 : Int) rfl h
    (fun G30 s19 h => wpC_seq <| reg_s <| st rfl <| b_lss (k := .i64) rfl rfl <| seqN [(0, .d ((cLs (cXVariable cS cI) rfl).enc v0)), (3, .d (cI.enc s19)), (6, .d ((cLs (cXVariable cS cI) rfl).enc v0)), (7, .d (cI.enc (v0.length : Int))), (8, .d (cI.enc (v0.length : Int))), (9, .d (cB.enc (decide ((v0.length : Int) < (v0.length : Int)))))] (by kernel_rfl) <|
    xn <| wpC_seq <| wpC_kp <| cnd0 rfl (dlf _) <| wpC_exit <| xt <| xt <| xt <| xb <| kpN [(3, .d (cI.enc s19))] (by kernel_rfl) <| xn <| wpC_seq <| reg_s <| st rfl <| mvd rfl rfl <| x_asg (ss rfl rfl) <| seqN [(2, .d (cI.enc s19))] (by kernel_rfl) <|
    xn <| wpC_ret <| re <| fin h (r1 (ss rfl rfl) <| r0) rfl)
    (fun G30 nx28 k20 s19 x21 hk22 hx23 hn29 h => wpC_seq <| reg_s <| st rfl <| b_lss (k := .i64) rfl rfl <| seqN [(0, .d ((cLs (cXVariable cS cI) rfl).enc v0)), (3, .d (cI.enc s19)), (6, .d ((cLs (cXVariable cS cI) rfl).enc v0)), (7, .d (cI.enc (v0.length : Int))), (8, .d (cI.enc (k20 : Int))), (9, .d (cB.enc (decide ((k20 : Int) < (v0.length : Int)))))] (by kernel_rfl) <|
    xn <| wpC_seq <| wpC_kp <| cnd1 rfl (dlt hk22) <| wpC_skip <| kpN [(0, .d ((cLs (cXVariable cS cI) rfl).enc v0)), (3, .d (cI.enc s19)), (6, .d ((cLs (cXVariable cS cI) rfl).enc v0)), (7, .d (cI.enc (v0.length : Int))), (8, .d (cI.enc (k20 : Int)))] (by kernel_rfl) <| xn <| wpC_seq <| wpC_kp <| wpC_blk <| wpC_seq <| reg_s <| st rfl <| ias rfl rfl (Int.natCast_nonneg _) hx23 rfl <| st rfl <| ldi rfl rfl rfl rfl <| x_all (cXVariable cS cI) (⟨([] : List UInt8), (0 : Int)⟩ : XVariable) rfl <| x_stb (ss rfl rfl) rfl (Cd.h_sz _ _) rfl <| seqN [(0, .d ((cLs (cXVariable cS cI) rfl).enc v0)), (3, .d (cI.enc s19)), (5, .box ((cXVariable cS cI).enc x21)), (6, .d ((cLs (cXVariable cS cI) rfl).enc v0)), (7, .d (cI.enc (v0.length : Int))), (8, .d (cI.enc (k20 : Int)))] (by kernel_rfl) <|
    xn <| reg_s <| st rfl <| mvd rfl rfl <| st rfl <| fab rfl rfl rfl rfl <| st rfl <| lda rfl rfl rfl rfl rfl rfl <| ckI_k h fun i32 h => st rfl <| b_mul (k := .i64) rfl rfl i32 <| x_asg (ss rfl rfl) <| seqN [(0, .d ((cLs (cXVariable cS cI) rfl).enc v0)), (3, .d (cI.enc (s19 * x21.Levels))), (6, .d ((cLs (cXVariable cS cI) rfl).enc v0)), (7, .d (cI.enc (v0.length : Int))), (8, .d (cI.enc (k20 : Int)))] (by kernel_rfl) <|
    xbb <| kpN [(0, .d ((cLs (cXVariable cS cI) rfl).enc v0)), (3, .d (cI.enc (s19 * x21.Levels))), (6, .d ((cLs (cXVariable cS cI) rfl).enc v0)), (7, .d (cI.enc (v0.length : Int))), (8, .d (cI.enc (k20 : Int)))] (by kernel_rfl) <| xn <| reg_s <| st rfl <| b_inc rfl rfl l18 hk22 <| st rfl <| mvd rfl rfl <| seqN [(0, .d ((cLs (cXVariable cS cI) rfl).enc v0)), (3, .d (cI.enc (s19 * x21.Levels))), (6, .d ((cLs (cXVariable cS cI) rfl).enc v0)), (7, .d (cI.enc (v0.length : Int))), (8, .d (cI.enc ((k20 + 1 : Nat) : Int)))] (by kernel_rfl) <|
    xn <| hn29 (s19 * x21.Levels) h)

def rs_spec_sAt (r : (List Int)) : List D := [(cLo cI).enc r]
def m125 : MC := .seq (.reg [⟨some 4, .asg (.c (.slice true [])), none⟩] [0, 1])
  (.seq (.reg [⟨some 7, .mv (.t 0), none⟩,
    ⟨some 8, .len false (.t 7), none⟩,
    ⟨some 9, .mk (.int .i64 0) (.t 8), none⟩,
    ⟨some 5, .asg (.t 9), none⟩] [0, 1, 5])
  (.seq (.kp [5] (.seq (.reg [⟨some 10, .mv (.t 0), none⟩,
    ⟨some 11, .len false (.t 10), none⟩,
    ⟨some 12, .bin .sub (.t 11) (.c (.int .i64 1)), none⟩,
    ⟨some 6, .asg (.t 12), none⟩] [0, 1, 5, 6])
  (.blk 0 (.loop (.seq (.kp [0, 1, 5, 6] (.seq (.reg [⟨some 13, .mv (.t 6), none⟩,
    ⟨some 14, .bin .geq (.t 13) (.c (.int .i64 0)), none⟩] [0, 1, 5, 6, 14])
  (.cond (.t 14) (.skip) (.exit 0))))
  (.seq (.kp [0, 1, 5, 6] (.blk 1 (.seq (.reg [⟨some 17, .mv (.t 5), none⟩,
    ⟨some 18, .mv (.t 6), none⟩,
    ⟨some 19, .mv (.t 1), none⟩,
    ⟨some 20, .mv (.t 0), none⟩,
    ⟨some 21, .mv (.t 6), none⟩,
    ⟨some 22, .ia 20 (.t 21) 2, none⟩,
    ⟨some 23, .fa 22 1 1, none⟩,
    ⟨some 24, .ld 23 1 false, none⟩,
    ⟨some 25, .bin .rem (.t 19) (.t 24), none⟩,
    ⟨some 26, .ia 17 (.t 18) 1, none⟩,
    ⟨none, .st 26 (.t 25) 1, none⟩] [0, 1, 5, 6])
  (.reg [⟨some 27, .mv (.t 1), none⟩,
    ⟨some 28, .mv (.t 0), none⟩,
    ⟨some 29, .mv (.t 6), none⟩,
    ⟨some 30, .ia 28 (.t 29) 2, none⟩,
    ⟨some 31, .fa 30 1 1, none⟩,
    ⟨some 32, .ld 31 1 false, none⟩,
    ⟨some 33, .bin .quo (.t 27) (.t 32), none⟩,
    ⟨some 1, .asg (.t 33), none⟩] [0, 1, 5, 6]))))
  (.reg [⟨some 15, .mv (.t 6), none⟩,
    ⟨some 16, .bin .sub (.t 15) (.c (.int .i64 1)), none⟩,
    ⟨some 6, .asg (.t 16), none⟩] [0, 1, 5, 6])))))))
  (.seq (.reg [⟨some 34, .mv (.t 5), none⟩,
    ⟨some 4, .asg (.t 34), none⟩] [4])
  (.ret))))
theorem con_spec_sAt {v0 : (List XVariable)} {v1 : Int} {r : (List Int)} (h : sh_spec_sAt v0 v1 = some r) : Con Try.prog 125 [(cLs (cXVariable cS cI) rfl).enc v0, cI.enc v1] [] (rs_spec_sAt r) := by
  delta sh_spec_sAt at h
  refine top (out := none) (f := Try.f125) (m := m125) (rs := [.t 4]) (by kernel_rfl) rfl (by kernel_rfl) (by kernel_rfl) (by kernel_rfl) (by kernel_rfl) (by kernel_rfl) ?_
  exact
   ini [(0, .d ((cLs (cXVariable cS cI) rfl).enc v0)), (1, .d (cI.enc v1))] rfl <| wpC_seq <| reg_s <| x_asg (sc (cLo cI) ([] : List Int) rfl) <| seqN [(0, .d ((cLs (cXVariable cS cI) rfl).enc v0)), (1, .d (cI.enc v1))] (by kernel_rfl) <|
    xn <| wpC_seq <| reg_s <| st rfl <| mvd rfl rfl <| stw rfl <| lens rfl fun l4 => mkO_k h fun i5 l6 h => st rfl <| o_mk (c := cI) (a0 := (0 : Int)) rfl (k := .i64) rfl i5 l6 <| x_asg (so rfl rfl) <| seqN [(0, .d ((cLs (cXVariable cS cI) rfl).enc v0)), (1, .d (cI.enc v1)), (5, .d ((cLo cI).enc (List.replicate ((v0.length : Int)).toNat (0 : Int))))] (by kernel_rfl) <|
    xn <| wpC_seq <| wpC_kp <| wpC_seq <| reg_s <| st rfl <| mvd rfl rfl <| stw rfl <| lens rfl fun l126 => ckI_k h fun i127 h => st rfl <| b_sub (k := .i64) rfl rfl i127 <| x_asg (ss rfl rfl) <| seqN [(0, .d ((cLs (cXVariable cS cI) rfl).enc v0)), (1, .d (cI.enc v1)), (5, .d ((cLo cI).enc (List.replicate ((v0.length : Int)).toNat (0 : Int)))), (6, .d (cI.enc ((v0.length : Int) - (1 : Int))))] (by kernel_rfl) <|
    xn <| wpC_blk <| lpF (fun (s128 : (Int × (List Int) × Int)) => [(0, .d ((cLs (cXVariable cS cI) rfl).enc v0)), (1, .d (cI.enc s128.1)), (5, .d ((cLo cI).enc s128.2.1)), (6, .d (cI.enc s128.2.2))]) (v1, (List.replicate ((v0.length : Int)).toNat (0 : Int)), ((v0.length : Int) - (1 : Int))) rfl h
    fun G205 nx203 s128 hn204 h => wpC_seq <| wpC_kp <| wpC_seq <| reg_s <| st rfl <| mvd rfl rfl <| st rfl <| b_geq (k := .i64) rfl rfl <| seqN [(0, .d ((cLs (cXVariable cS cI) rfl).enc v0)), (1, .d (cI.enc s128.1)), (5, .d ((cLo cI).enc s128.2.1)), (6, .d (cI.enc s128.2.2)), (14, .d (cB.enc (decide ((0 : Int) ≤ s128.2.2))))] (by kernel_rfl) <|
    xn <| cnd rfl h (fun b207 h => wpC_skip <| kpN [(0, .d ((cLs (cXVariable cS cI) rfl).enc v0)), (1, .d (cI.enc s128.1)), (5, .d ((cLo cI).enc s128.2.1)), (6, .d (cI.enc s128.2.2))] (by kernel_rfl) <| xn <| wpC_seq <| wpC_kp <| wpC_blk <| wpC_seq <| reg_s <| st rfl <| mvo rfl rfl <| st rfl <| mvd rfl rfl <| st rfl <| mvd rfl rfl <| st rfl <| mvd rfl rfl <| st rfl <| mvd rfl rfl <| getO_k h fun x231 i232 g233 h => st rfl <| ias rfl rfl i232 g233 rfl <| st rfl <| fai rfl rfl rfl rfl <| st rfl <| ldi rfl rfl rfl rfl <| ck_k h fun i234 h => st rfl <| b_rem (k := .i64) rfl rfl i234 <| getO_k h fun x235 i236 g237 h => st rfl <| iar rfl rfl rfl rfl i236 g237 rfl <| x_sta ((cLo cI).enc (s128.2.1.set (s128.2.2).toNat (s128.1.tmod x231.Levels))) (ss rfl rfl) rfl rfl (Ln.idx g237 Ln.nil) (Cd.h_sz cI _) rfl <| seqN [(0, .d ((cLs (cXVariable cS cI) rfl).enc v0)), (1, .d (cI.enc s128.1)), (5, .d ((cLo cI).enc (s128.2.1.set (s128.2.2).toNat (s128.1.tmod x231.Levels)))), (6, .d (cI.enc s128.2.2))] (by kernel_rfl) <|
    xn <| reg_s <| st rfl <| mvd rfl rfl <| st rfl <| mvd rfl rfl <| st rfl <| mvd rfl rfl <| st rfl <| ias rfl rfl i232 g233 rfl <| st rfl <| fai rfl rfl rfl rfl <| st rfl <| ldi rfl rfl rfl rfl <| ck_k h fun i238 h => ckI_k h fun i239 h => st rfl <| b_quo (k := .i64) rfl rfl i238 i239 <| x_asg (ss rfl rfl) <| seqN [(0, .d ((cLs (cXVariable cS cI) rfl).enc v0)), (1, .d (cI.enc (s128.1.tdiv x231.Levels))), (5, .d ((cLo cI).enc (s128.2.1.set (s128.2.2).toNat (s128.1.tmod x231.Levels)))), (6, .d (cI.enc s128.2.2))] (by kernel_rfl) <|
    xbb <| kpN [(0, .d ((cLs (cXVariable cS cI) rfl).enc v0)), (1, .d (cI.enc (s128.1.tdiv x231.Levels))), (5, .d ((cLo cI).enc (s128.2.1.set (s128.2.2).toNat (s128.1.tmod x231.Levels)))), (6, .d (cI.enc s128.2.2))] (by kernel_rfl) <| xn <| reg_s <| st rfl <| mvd rfl rfl <| ckI_k h fun i240 h => st rfl <| b_sub (k := .i64) rfl rfl i240 <| x_asg (ss rfl rfl) <| seqN [(0, .d ((cLs (cXVariable cS cI) rfl).enc v0)), (1, .d (cI.enc (s128.1.tdiv x231.Levels))), (5, .d ((cLo cI).enc (s128.2.1.set (s128.2.2).toNat (s128.1.tmod x231.Levels)))), (6, .d (cI.enc (s128.2.2 - (1 : Int))))] (by kernel_rfl) <|
    xn <| hn204 ((s128.1.tdiv x231.Levels), (s128.2.1.set (s128.2.2).toNat (s128.1.tmod x231.Levels)), (s128.2.2 - (1 : Int))) h)
    (fun b207 h => wpC_exit <| xt <| xt <| xt <| xb <| kpN [(5, .d ((cLo cI).enc s128.2.1))] (by kernel_rfl) <| xn <| wpC_seq <| reg_s <| st rfl <| mvo rfl rfl <| x_asg (sr rfl rfl) <| seqN [(4, .d ((cLo cI).enc s128.2.1))] (by kernel_rfl) <|
    xn <| wpC_ret <| re <| fin h (r1 (so rfl rfl) <| r0) rfl)

def rs_spec_eFails (r : Bool) : List D := [cB.enc r]
def m141 : MC := .seq (.reg [⟨some 2, .box (.t 0), none⟩,
    ⟨some 4, .asg (.c (.bool false)), none⟩] [1, 2])
  (.seq (.kp [] (.seq (.reg [⟨some 7, .mv (.t 1), none⟩,
    ⟨some 8, .len false (.t 7), none⟩,
    ⟨some 9, .mv (.c (.int .i64 0)), none⟩] [1, 2, 7, 8, 9])
  (.blk 0 (.loop (.seq (.reg [⟨some 10, .bin .lss (.t 9) (.t 8), none⟩] [1, 2, 7, 8, 9, 10])
  (.seq (.kp [1, 2, 7, 8, 9] (.cond (.t 10) (.skip) (.exit 0)))
  (.seq (.kp [1, 2, 7, 8, 9] (.blk 1 (.seq (.reg [⟨some 11, .mv (.t 9), none⟩,
    ⟨some 12, .ia 7 (.t 9) 1, none⟩,
    ⟨some 13, .ld 12 1 false, none⟩,
    ⟨some 5, .asg (.t 11), none⟩,
    ⟨some 6, .asg (.t 13), none⟩] [1, 2, 5, 6, 7, 8, 9])
  (.seq (.reg [⟨some 14, .fa 2 0 0, none⟩,
    ⟨some 15, .ld 14 1 false, none⟩,
    ⟨some 16, .mv (.t 5), none⟩,
    ⟨some 17, .ia 15 (.t 16) 1, none⟩,
    ⟨some 18, .ld 17 1 false, none⟩,
    ⟨some 19, .mv (.t 6), none⟩,
    ⟨some 20, .cvi .u64 (.t 19), none⟩,
    ⟨some 21, .bin .shr (.t 18) (.t 20), none⟩,
    ⟨some 22, .bin .and (.t 21) (.c (.int .i64 1)), none⟩,
    ⟨some 23, .bin .eql (.t 22) (.c (.int .i64 0)), none⟩] [1, 2, 7, 8, 9, 23])
  (.cond (.t 23) (.seq (.reg [⟨some 4, .asg (.c (.bool false)), none⟩] [4])
  (.ret)) (.skip))))))
  (.reg [⟨some 24, .bin .add (.t 9) (.c (.int .i64 1)), none⟩,
    ⟨some 9, .mv (.t 24), none⟩] [1, 2, 7, 8, 9]))))))))
  (.seq (.reg [⟨some 4, .asg (.c (.bool true)), none⟩] [4])
  (.ret)))
theorem con_spec_eFails {v0 : XEdit} {v1 : (List Int)} {r : Bool} (h : sh_spec_eFails v0 v1 = some r) : Con Try.prog 141 [(cXEdit (cLs cI rfl)).enc v0, (cLs cI rfl).enc v1] [] (rs_spec_eFails r) := by
  delta sh_spec_eFails at h
  refine top (out := none) (f := Try.f141) (m := m141) (rs := [.t 4]) (by kernel_rfl) rfl (by kernel_rfl) (by kernel_rfl) (by kernel_rfl) (by kernel_rfl) (by kernel_rfl) ?_
  exact
   ini [(0, .d ((cXEdit (cLs cI rfl)).enc v0)), (1, .d ((cLs cI rfl).enc v1))] rfl <| wpC_seq <| reg_s <| x_box (ss rfl rfl) <| x_asg (sc cB false rfl) <| seqN [(1, .d ((cLs cI rfl).enc v1)), (2, .box ((cXEdit (cLs cI rfl)).enc v0))] (by kernel_rfl) <|
    xn <| wpC_seq <| wpC_kp <| wpC_seq <| reg_s <| st rfl <| mvd rfl rfl <| stw rfl <| lens rfl fun l88 => st rfl <| mvc cI (0 : Int) rfl <| seqN [(1, .d ((cLs cI rfl).enc v1)), (2, .box ((cXEdit (cLs cI rfl)).enc v0)), (7, .d ((cLs cI rfl).enc v1)), (8, .d (cI.enc (v1.length : Int))), (9, .d (cI.enc (0 : Int)))] (by kernel_rfl) <|
    xn <| wpC_blk <| lpR (fun (k90 : Nat) (s89 : Unit) => [(1, .d ((cLs cI rfl).enc v1)), (2, .box ((cXEdit (cLs cI rfl)).enc v0)), (7, .d ((cLs cI rfl).enc v1)), (8, .d (cI.enc (v1.length : Int))), (9, .d (cI.enc (k90 : Int)))]) () rfl h
    (fun G134 s89 h => wpC_seq <| reg_s <| st rfl <| b_lss (k := .i64) rfl rfl <| seqN [(1, .d ((cLs cI rfl).enc v1)), (2, .box ((cXEdit (cLs cI rfl)).enc v0)), (7, .d ((cLs cI rfl).enc v1)), (8, .d (cI.enc (v1.length : Int))), (9, .d (cI.enc (v1.length : Int))), (10, .d (cB.enc (decide ((v1.length : Int) < (v1.length : Int)))))] (by kernel_rfl) <|
    xn <| wpC_seq <| wpC_kp <| cnd0 rfl (dlf _) <| wpC_exit <| xt <| xt <| xt <| xb <| kpN [] (by kernel_rfl) <| xn <| wpC_seq <| reg_s <| x_asg (sc cB true rfl) <| seqN [(4, .d (cB.enc true))] (by kernel_rfl) <|
    xn <| wpC_ret <| re <| fin h (r1 (ss rfl rfl) <| r0) rfl)
    (fun G134 nx132 k90 s89 x91 hk92 hx93 hn133 h => wpC_seq <| reg_s <| st rfl <| b_lss (k := .i64) rfl rfl <| seqN [(1, .d ((cLs cI rfl).enc v1)), (2, .box ((cXEdit (cLs cI rfl)).enc v0)), (7, .d ((cLs cI rfl).enc v1)), (8, .d (cI.enc (v1.length : Int))), (9, .d (cI.enc (k90 : Int))), (10, .d (cB.enc (decide ((k90 : Int) < (v1.length : Int)))))] (by kernel_rfl) <|
    xn <| wpC_seq <| wpC_kp <| cnd1 rfl (dlt hk92) <| wpC_skip <| kpN [(1, .d ((cLs cI rfl).enc v1)), (2, .box ((cXEdit (cLs cI rfl)).enc v0)), (7, .d ((cLs cI rfl).enc v1)), (8, .d (cI.enc (v1.length : Int))), (9, .d (cI.enc (k90 : Int)))] (by kernel_rfl) <| xn <| wpC_seq <| wpC_kp <| wpC_blk <| wpC_seq <| reg_s <| st rfl <| mvd rfl rfl <| st rfl <| ias rfl rfl (Int.natCast_nonneg _) hx93 rfl <| st rfl <| ldi rfl rfl rfl rfl <| x_asg (ss rfl rfl) <| x_asg (ss rfl rfl) <| seqN [(1, .d ((cLs cI rfl).enc v1)), (2, .box ((cXEdit (cLs cI rfl)).enc v0)), (5, .d (cI.enc (k90 : Int))), (6, .d (cI.enc x91)), (7, .d ((cLs cI rfl).enc v1)), (8, .d (cI.enc (v1.length : Int))), (9, .d (cI.enc (k90 : Int)))] (by kernel_rfl) <|
    xn <| wpC_seq <| reg_s <| st rfl <| fab rfl rfl rfl rfl <| st rfl <| lda rfl rfl rfl rfl rfl rfl <| st rfl <| mvd rfl rfl <| getO_k h fun x163 i164 g165 h => st rfl <| ias rfl rfl i164 g165 rfl <| st rfl <| ldi rfl rfl rfl rfl <| st rfl <| mvd rfl rfl <| ckK_k h fun i166 h => st rfl <| o_cvi (k := .i64) (k' := .u64) rfl i166 <| ck_k h fun i167 h => st rfl <| b_shr (k := .i64) (k' := .u64) rfl rfl i167 rfl <| ck_k h fun i168 h => ckK_k h fun i169 h => ck_k h fun i170 h => ckK_k h fun i171 h => st rfl <| b_and (k := .i64) rfl rfl ⟨i168, i169⟩ ⟨i170, i171⟩ <| st rfl <| b_eql (k := .i64) rfl rfl <| seqN [(1, .d ((cLs cI rfl).enc v1)), (2, .box ((cXEdit (cLs cI rfl)).enc v0)), (7, .d ((cLs cI rfl).enc v1)), (8, .d (cI.enc (v1.length : Int))), (9, .d (cI.enc (k90 : Int))), (23, .d (cB.enc (decide ((((x163 / 2 ^ (x91).toNat).toNat &&& (1 : Int).toNat : Nat) : Int) = (0 : Int)))))] (by kernel_rfl) <|
    xn <| cnd rfl h (fun b172 h => wpC_seq <| reg_s <| x_asg (sc cB false rfl) <| seqN [(4, .d (cB.enc false))] (by kernel_rfl) <|
    xn <| wpC_ret <| rb <| rt <| rt <| rt <| rb <| rt <| rt <| re <| fin h (r1 (ss rfl rfl) <| r0) rfl)
    (fun b172 h => wpC_skip <| xbb <| kpN [(1, .d ((cLs cI rfl).enc v1)), (2, .box ((cXEdit (cLs cI rfl)).enc v0)), (7, .d ((cLs cI rfl).enc v1)), (8, .d (cI.enc (v1.length : Int))), (9, .d (cI.enc (k90 : Int)))] (by kernel_rfl) <| xn <| reg_s <| st rfl <| b_inc rfl rfl l88 hk92 <| st rfl <| mvd rfl rfl <| seqN [(1, .d ((cLs cI rfl).enc v1)), (2, .box ((cXEdit (cLs cI rfl)).enc v0)), (7, .d ((cLs cI rfl).enc v1)), (8, .d (cI.enc (v1.length : Int))), (9, .d (cI.enc ((k90 + 1 : Nat) : Int)))] (by kernel_rfl) <|
    xn <| hn133 () h))

def rs_spec_eFailed (r : (List Int)) : List D := [(cLo cI).enc r]
def m91 : MC := .seq (.reg [⟨some 4, .asg (.c (.slice true [])), none⟩] [0, 1])
  (.seq (.reg [⟨some 5, .asg (.c (.slice true [])), none⟩] [0, 1, 5])
  (.seq (.kp [5] (.seq (.reg [⟨some 8, .mv (.t 0), none⟩,
    ⟨some 9, .len false (.t 8), none⟩,
    ⟨some 10, .mv (.c (.int .i64 0)), none⟩] [0, 1, 5, 8, 9, 10])
  (.blk 0 (.loop (.seq (.reg [⟨some 11, .bin .lss (.t 10) (.t 9), none⟩] [0, 1, 5, 8, 9, 10, 11])
  (.seq (.kp [0, 1, 5, 8, 9, 10] (.cond (.t 11) (.skip) (.exit 0)))
  (.seq (.kp [0, 1, 5, 8, 9, 10] (.blk 1 (.seq (.reg [⟨some 12, .mv (.t 10), none⟩,
    ⟨some 13, .ia 8 (.t 10) 1, none⟩,
    ⟨some 14, .ld 13 1 true, none⟩,
    ⟨some 7, .alloc (.agg [.slice true []]), none⟩,
    ⟨some 6, .asg (.t 12), none⟩,
    ⟨none, .st 7 (.t 14) 1, none⟩] [0, 1, 5, 6, 7, 8, 9, 10])
  (.seq (.reg [⟨some 15, .ld 7 1 true, none⟩,
    ⟨some 16, .mv (.t 1), none⟩,
    ⟨some 17, .call 141 [(.t 15), (.t 16)], none⟩] [0, 1, 5, 6, 8, 9, 10, 17])
  (.cond (.t 17) (.reg [⟨some 18, .mv (.t 5), none⟩,
    ⟨some 19, .mv (.t 6), none⟩,
    ⟨some 20, .bsl [(.t 19)] 1, none⟩,
    ⟨some 21, .app (.t 18) (.t 20) 1, none⟩,
    ⟨some 5, .asg (.t 21), none⟩] [0, 1, 5, 8, 9, 10]) (.skip))))))
  (.reg [⟨some 22, .bin .add (.t 10) (.c (.int .i64 1)), none⟩,
    ⟨some 10, .mv (.t 22), none⟩] [0, 1, 5, 8, 9, 10]))))))))
  (.seq (.reg [⟨some 23, .mv (.t 5), none⟩,
    ⟨some 4, .asg (.t 23), none⟩] [4])
  (.ret))))
theorem con_spec_eFailed {v0 : (List XEdit)} {v1 : (List Int)} {r : (List Int)} (h : sh_spec_eFailed v0 v1 = some r) : Con Try.prog 91 [(cLs (cXEdit (cLs cI rfl)) rfl).enc v0, (cLs cI rfl).enc v1] [] (rs_spec_eFailed r) := by
  delta sh_spec_eFailed at h
  refine top (out := none) (f := Try.f91) (m := m91) (rs := [.t 4]) (by kernel_rfl) rfl (by kernel_rfl) (by kernel_rfl) (by kernel_rfl) (by kernel_rfl) (by kernel_rfl) ?_
  exact
   ini [(0, .d ((cLs (cXEdit (cLs cI rfl)) rfl).enc v0)), (1, .d ((cLs cI rfl).enc v1))] rfl <| wpC_seq <| reg_s <| x_asg (sc (cLo cI) ([] : List Int) rfl) <| seqN [(0, .d ((cLs (cXEdit (cLs cI rfl)) rfl).enc v0)), (1, .d ((cLs cI rfl).enc v1))] (by kernel_rfl) <|
    xn <| wpC_seq <| reg_s <| x_asg (sc (cLo cI) ([] : List Int) rfl) <| seqN [(0, .d ((cLs (cXEdit (cLs cI rfl)) rfl).enc v0)), (1, .d ((cLs cI rfl).enc v1)), (5, .d ((cLo cI).enc ([] : List Int)))] (by kernel_rfl) <|
    xn <| wpC_seq <| wpC_kp <| wpC_seq <| reg_s <| st rfl <| mvd rfl rfl <| stw rfl <| lens rfl fun l48 => st rfl <| mvc cI (0 : Int) rfl <| seqN [(0, .d ((cLs (cXEdit (cLs cI rfl)) rfl).enc v0)), (1, .d ((cLs cI rfl).enc v1)), (5, .d ((cLo cI).enc ([] : List Int))), (8, .d ((cLs (cXEdit (cLs cI rfl)) rfl).enc v0)), (9, .d (cI.enc (v0.length : Int))), (10, .d (cI.enc (0 : Int)))] (by kernel_rfl) <|
    xn <| wpC_blk <| lpR (fun (k50 : Nat) (s49 : (List Int)) => [(0, .d ((cLs (cXEdit (cLs cI rfl)) rfl).enc v0)), (1, .d ((cLs cI rfl).enc v1)), (5, .d ((cLo cI).enc s49)), (8, .d ((cLs (cXEdit (cLs cI rfl)) rfl).enc v0)), (9, .d (cI.enc (v0.length : Int))), (10, .d (cI.enc (k50 : Int)))]) ([] : List Int) rfl h
    (fun G80 s49 h => wpC_seq <| reg_s <| st rfl <| b_lss (k := .i64) rfl rfl <| seqN [(0, .d ((cLs (cXEdit (cLs cI rfl)) rfl).enc v0)), (1, .d ((cLs cI rfl).enc v1)), (5, .d ((cLo cI).enc s49)), (8, .d ((cLs (cXEdit (cLs cI rfl)) rfl).enc v0)), (9, .d (cI.enc (v0.length : Int))), (10, .d (cI.enc (v0.length : Int))), (11, .d (cB.enc (decide ((v0.length : Int) < (v0.length : Int)))))] (by kernel_rfl) <|
    xn <| wpC_seq <| wpC_kp <| cnd0 rfl (dlf _) <| wpC_exit <| xt <| xt <| xt <| xb <| kpN [(5, .d ((cLo cI).enc s49))] (by kernel_rfl) <| xn <| wpC_seq <| reg_s <| st rfl <| mvo rfl rfl <| x_asg (sr rfl rfl) <| seqN [(4, .d ((cLo cI).enc s49))] (by kernel_rfl) <|
    xn <| wpC_ret <| re <| fin h (r1 (so rfl rfl) <| r0) rfl)
    (fun G80 nx78 k50 s49 x51 hk52 hx53 hn79 h => wpC_seq <| reg_s <| st rfl <| b_lss (k := .i64) rfl rfl <| seqN [(0, .d ((cLs (cXEdit (cLs cI rfl)) rfl).enc v0)), (1, .d ((cLs cI rfl).enc v1)), (5, .d ((cLo cI).enc s49)), (8, .d ((cLs (cXEdit (cLs cI rfl)) rfl).enc v0)), (9, .d (cI.enc (v0.length : Int))), (10, .d (cI.enc (k50 : Int))), (11, .d (cB.enc (decide ((k50 : Int) < (v0.length : Int)))))] (by kernel_rfl) <|
    xn <| wpC_seq <| wpC_kp <| cnd1 rfl (dlt hk52) <| wpC_skip <| kpN [(0, .d ((cLs (cXEdit (cLs cI rfl)) rfl).enc v0)), (1, .d ((cLs cI rfl).enc v1)), (5, .d ((cLo cI).enc s49)), (8, .d ((cLs (cXEdit (cLs cI rfl)) rfl).enc v0)), (9, .d (cI.enc (v0.length : Int))), (10, .d (cI.enc (k50 : Int)))] (by kernel_rfl) <| xn <| wpC_seq <| wpC_kp <| wpC_blk <| wpC_seq <| reg_s <| st rfl <| mvd rfl rfl <| st rfl <| ias rfl rfl (Int.natCast_nonneg _) hx53 rfl <| st rfl <| ldi rfl rfl rfl rfl <| x_all (cXEdit (cLo cI)) (⟨([] : List Int)⟩ : XEdit) rfl <| x_asg (ss rfl rfl) <| x_stb (ss rfl rfl) rfl (Cd.h_sz _ _) rfl <| seqN [(0, .d ((cLs (cXEdit (cLs cI rfl)) rfl).enc v0)), (1, .d ((cLs cI rfl).enc v1)), (5, .d ((cLo cI).enc s49)), (6, .d (cI.enc (k50 : Int))), (7, .box ((cXEdit (cLs cI rfl)).enc x51)), (8, .d ((cLs (cXEdit (cLs cI rfl)) rfl).enc v0)), (9, .d (cI.enc (v0.length : Int))), (10, .d (cI.enc (k50 : Int)))] (by kernel_rfl) <|
    xn <| wpC_seq <| reg_s <| st rfl <| ldb rfl rfl rfl rfl <| st rfl <| mvd rfl rfl <| bnd h fun x89 e90 h => st rfl <| o_call (a1 (c := (cXEdit (cLs cI rfl))) (tXEdit (tLs tK)) rfl (a1 (c := (cLs cI rfl)) (tLs tK) rfl a0)) (con_spec_eFails e90) (.inl (so1 sB so0)) <| seqN [(0, .d ((cLs (cXEdit (cLs cI rfl)) rfl).enc v0)), (1, .d ((cLs cI rfl).enc v1)), (5, .d ((cLo cI).enc s49)), (6, .d (cI.enc (k50 : Int))), (8, .d ((cLs (cXEdit (cLs cI rfl)) rfl).enc v0)), (9, .d (cI.enc (v0.length : Int))), (10, .d (cI.enc (k50 : Int))), (17, .d (cB.enc x89))] (by kernel_rfl) <|
    xn <| cnd rfl h (fun b91 h => reg_s <| st rfl <| mvo rfl rfl <| st rfl <| mvd rfl rfl <| x_bsl cI [(k50 : Int)] (t1 (ss rfl rfl) rfl t0) rfl rfl <| lnO_k h fun l92 h => x_app (sr rfl rfl) (to rfl rfl) l92 rfl <| x_asg (so rfl rfl) <| seqN [(0, .d ((cLs (cXEdit (cLs cI rfl)) rfl).enc v0)), (1, .d ((cLs cI rfl).enc v1)), (5, .d ((cLo cI).enc (s49 ++ [(k50 : Int)]))), (8, .d ((cLs (cXEdit (cLs cI rfl)) rfl).enc v0)), (9, .d (cI.enc (v0.length : Int))), (10, .d (cI.enc (k50 : Int)))] (by kernel_rfl) <|
    xbb <| kpN [(0, .d ((cLs (cXEdit (cLs cI rfl)) rfl).enc v0)), (1, .d ((cLs cI rfl).enc v1)), (5, .d ((cLo cI).enc (s49 ++ [(k50 : Int)]))), (8, .d ((cLs (cXEdit (cLs cI rfl)) rfl).enc v0)), (9, .d (cI.enc (v0.length : Int))), (10, .d (cI.enc (k50 : Int)))] (by kernel_rfl) <| xn <| reg_s <| st rfl <| b_inc rfl rfl l48 hk52 <| st rfl <| mvd rfl rfl <| seqN [(0, .d ((cLs (cXEdit (cLs cI rfl)) rfl).enc v0)), (1, .d ((cLs cI rfl).enc v1)), (5, .d ((cLo cI).enc (s49 ++ [(k50 : Int)]))), (8, .d ((cLs (cXEdit (cLs cI rfl)) rfl).enc v0)), (9, .d (cI.enc (v0.length : Int))), (10, .d (cI.enc ((k50 + 1 : Nat) : Int)))] (by kernel_rfl) <|
    xn <| hn79 (s49 ++ [(k50 : Int)]) h)
    (fun b91 h => wpC_skip <| xbb <| kpN [(0, .d ((cLs (cXEdit (cLs cI rfl)) rfl).enc v0)), (1, .d ((cLs cI rfl).enc v1)), (5, .d ((cLo cI).enc s49)), (8, .d ((cLs (cXEdit (cLs cI rfl)) rfl).enc v0)), (9, .d (cI.enc (v0.length : Int))), (10, .d (cI.enc (k50 : Int)))] (by kernel_rfl) <| xn <| reg_s <| st rfl <| b_inc rfl rfl l48 hk52 <| st rfl <| mvd rfl rfl <| seqN [(0, .d ((cLs (cXEdit (cLs cI rfl)) rfl).enc v0)), (1, .d ((cLs cI rfl).enc v1)), (5, .d ((cLo cI).enc s49)), (8, .d ((cLs (cXEdit (cLs cI rfl)) rfl).enc v0)), (9, .d (cI.enc (v0.length : Int))), (10, .d (cI.enc ((k50 + 1 : Nat) : Int)))] (by kernel_rfl) <|
    xn <| hn79 s49 h))

def rs_impl_isWord (r : Bool) : List D := [cB.enc r]
def m126 : MC := .seq (.reg [⟨some 2, .asg (.c (.bool false)), none⟩] [0])
  (.seq (.kp [0] (.seq (.reg [⟨some 4, .mv (.t 0), none⟩,
    ⟨some 5, .len true (.t 4), none⟩,
    ⟨some 6, .bin .lss (.t 5) (.c (.int .i64 1)), none⟩,
    ⟨some 7, .mv (.t 6), none⟩,
    ⟨some 8, .mv (.t 0), some (7, false)⟩,
    ⟨some 9, .len true (.t 8), some (7, false)⟩,
    ⟨some 10, .bin .gtr (.t 9) (.c (.int .i64 8)), some (7, false)⟩,
    ⟨some 11, .pick (.t 7) (.c (.bool true)) (.t 10), none⟩] [0, 11])
  (.cond (.t 11) (.seq (.reg [⟨some 2, .asg (.c (.bool false)), none⟩] [2])
  (.ret)) (.skip))))
  (.seq (.kp [] (.seq (.reg [⟨some 12, .mv (.t 0), none⟩,
    ⟨some 13, .len true (.t 12), none⟩,
    ⟨some 14, .mv (.c (.int .i64 0)), none⟩] [0, 13, 14])
  (.blk 0 (.loop (.seq (.reg [⟨some 15, .bin .lss (.t 14) (.t 13), none⟩] [0, 13, 14, 15])
  (.seq (.kp [0, 13, 14] (.cond (.t 15) (.skip) (.exit 0)))
  (.seq (.kp [0, 13, 14] (.blk 1 (.seq (.reg [⟨some 16, .mv (.t 14), none⟩,
    ⟨some 3, .asg (.t 16), none⟩] [0, 3, 13, 14])
  (.seq (.reg [⟨some 17, .mv (.t 0), none⟩,
    ⟨some 18, .mv (.t 3), none⟩,
    ⟨some 19, .ix (.t 17) (.t 18), none⟩,
    ⟨some 20, .bin .lss (.t 19) (.c (.int .u8 97)), none⟩,
    ⟨some 21, .mv (.t 20), none⟩,
    ⟨some 22, .mv (.t 0), some (21, false)⟩,
    ⟨some 23, .mv (.t 3), some (21, false)⟩,
    ⟨some 24, .ix (.t 22) (.t 23), some (21, false)⟩,
    ⟨some 25, .bin .gtr (.t 24) (.c (.int .u8 122)), some (21, false)⟩,
    ⟨some 26, .pick (.t 21) (.c (.bool true)) (.t 25), none⟩] [0, 13, 14, 26])
  (.cond (.t 26) (.seq (.reg [⟨some 2, .asg (.c (.bool false)), none⟩] [2])
  (.ret)) (.skip))))))
  (.reg [⟨some 27, .bin .add (.t 14) (.c (.int .i64 1)), none⟩,
    ⟨some 14, .mv (.t 27), none⟩] [0, 13, 14]))))))))
  (.seq (.reg [⟨some 2, .asg (.c (.bool true)), none⟩] [2])
  (.ret))))
theorem con_impl_isWord {v0 : (List UInt8)} {r : Bool} (h : sh_impl_isWord v0 = some r) : Con Try.prog 126 [cS.enc v0] [] (rs_impl_isWord r) := by
  delta sh_impl_isWord at h
  refine top (out := none) (f := Try.f126) (m := m126) (rs := [.t 2]) (by kernel_rfl) rfl (by kernel_rfl) (by kernel_rfl) (by kernel_rfl) (by kernel_rfl) (by kernel_rfl) ?_
  exact
   ini [(0, .d (cS.enc v0))] rfl <| wpC_seq <| reg_s <| x_asg (sc cB false rfl) <| seqN [(0, .d (cS.enc v0))] (by kernel_rfl) <|
    xn <| wpC_seq <| wpC_kp <| wpC_seq <| reg_s <| st rfl <| mvd rfl rfl <| stw rfl <| lent rfl fun l11 => st rfl <| b_lss (k := .i64) rfl rfl <| st rfl <| mvd rfl rfl <| ite_k h (fun b12 h => gf rfl b12 <| gf rfl b12 <| gf rfl b12 <| st rfl <| pick1 rfl b12 (cd := cB) (v := true) rfl rfl <| seqN [(0, .d (cS.enc v0)), (11, .d (cB.enc true))] (by kernel_rfl) <|
    xn <| cnd1 rfl rfl <| wpC_seq <| reg_s <| x_asg (sc cB false rfl) <| seqN [(2, .d (cB.enc false))] (by kernel_rfl) <|
    xn <| wpC_ret <| rt <| rt <| re <| fin h (r1 (ss rfl rfl) <| r0) rfl)
    (fun b12 h => gt' rfl b12 <| st rfl <| mvd rfl rfl <| gt' rfl b12 <| stw rfl <| lent rfl fun l13 => gt' rfl b12 <| st rfl <| b_gtr (k := .i64) rfl rfl <| st rfl <| pick0 rfl b12 (cd := cB) (v := (decide ((8 : Int) < (v0.length : Int)))) rfl rfl <| seqN [(0, .d (cS.enc v0)), (11, .d (cB.enc (decide ((8 : Int) < (v0.length : Int)))))] (by kernel_rfl) <|
    xn <| cnd rfl h (fun b14 h => wpC_seq <| reg_s <| x_asg (sc cB false rfl) <| seqN [(2, .d (cB.enc false))] (by kernel_rfl) <|
    xn <| wpC_ret <| rt <| rt <| re <| fin h (r1 (ss rfl rfl) <| r0) rfl)
    (fun b14 h => wpC_skip <| kpN [(0, .d (cS.enc v0))] (by kernel_rfl) <| xn <| wpC_seq <| wpC_kp <| wpC_seq <| reg_s <| st rfl <| mvd rfl rfl <| stw rfl <| lent rfl fun l38 => st rfl <| mvc cI (0 : Int) rfl <| seqN [(0, .d (cS.enc v0)), (13, .d (cI.enc (v0.length : Int))), (14, .d (cI.enc (0 : Int)))] (by kernel_rfl) <|
    xn <| wpC_blk <| lpR (fun (k40 : Nat) (s39 : Unit) => [(0, .d (cS.enc v0)), (13, .d (cI.enc (v0.length : Int))), (14, .d (cI.enc (k40 : Int)))]) () rfl h
    (fun G52 s39 h => wpC_seq <| reg_s <| st rfl <| b_lss (k := .i64) rfl rfl <| seqN [(0, .d (cS.enc v0)), (13, .d (cI.enc (v0.length : Int))), (14, .d (cI.enc (v0.length : Int))), (15, .d (cB.enc (decide ((v0.length : Int) < (v0.length : Int)))))] (by kernel_rfl) <|
    xn <| wpC_seq <| wpC_kp <| cnd0 rfl (dlf _) <| wpC_exit <| xt <| xt <| xt <| xb <| kpN [] (by kernel_rfl) <| xn <| wpC_seq <| reg_s <| x_asg (sc cB true rfl) <| seqN [(2, .d (cB.enc true))] (by kernel_rfl) <|
    xn <| wpC_ret <| re <| fin h (r1 (ss rfl rfl) <| r0) rfl)
    (fun G52 nx50 k40 s39 x41 hk42 hx43 hn51 h => wpC_seq <| reg_s <| st rfl <| b_lss (k := .i64) rfl rfl <| seqN [(0, .d (cS.enc v0)), (13, .d (cI.enc (v0.length : Int))), (14, .d (cI.enc (k40 : Int))), (15, .d (cB.enc (decide ((k40 : Int) < (v0.length : Int)))))] (by kernel_rfl) <|
    xn <| wpC_seq <| wpC_kp <| cnd1 rfl (dlt hk42) <| wpC_skip <| kpN [(0, .d (cS.enc v0)), (13, .d (cI.enc (v0.length : Int))), (14, .d (cI.enc (k40 : Int)))] (by kernel_rfl) <| xn <| wpC_seq <| wpC_kp <| wpC_blk <| wpC_seq <| reg_s <| st rfl <| mvd rfl rfl <| x_asg (ss rfl rfl) <| seqN [(0, .d (cS.enc v0)), (3, .d (cI.enc (k40 : Int))), (13, .d (cI.enc (v0.length : Int))), (14, .d (cI.enc (k40 : Int)))] (by kernel_rfl) <|
    xn <| wpC_seq <| reg_s <| st rfl <| mvd rfl rfl <| st rfl <| mvd rfl rfl <| st rfl <| o_ix (k := .i64) rfl rfl (Int.natCast_nonneg _) hx43 <| st rfl <| b_lss (k := .u8) rfl rfl <| st rfl <| mvd rfl rfl <| ite_k h (fun b57 h => gf rfl b57 <| gf rfl b57 <| gf rfl b57 <| gf rfl b57 <| st rfl <| pick1 rfl b57 (cd := cB) (v := true) rfl rfl <| seqN [(0, .d (cS.enc v0)), (13, .d (cI.enc (v0.length : Int))), (14, .d (cI.enc (k40 : Int))), (26, .d (cB.enc true))] (by kernel_rfl) <|
    xn <| cnd1 rfl rfl <| wpC_seq <| reg_s <| x_asg (sc cB false rfl) <| seqN [(2, .d (cB.enc false))] (by kernel_rfl) <|
    xn <| wpC_ret <| rb <| rt <| rt <| rt <| rb <| rt <| rt <| re <| fin h (r1 (ss rfl rfl) <| r0) rfl)
    (fun b57 h => gt' rfl b57 <| st rfl <| mvd rfl rfl <| gt' rfl b57 <| st rfl <| mvd rfl rfl <| gt' rfl b57 <| st rfl <| o_ix (k := .i64) rfl rfl (Int.natCast_nonneg _) hx43 <| gt' rfl b57 <| st rfl <| b_gtr (k := .u8) rfl rfl <| st rfl <| pick0 rfl b57 (cd := cB) (v := (decide ((122 : Int) < (x41.toNat : Int)))) rfl rfl <| seqN [(0, .d (cS.enc v0)), (13, .d (cI.enc (v0.length : Int))), (14, .d (cI.enc (k40 : Int))), (26, .d (cB.enc (decide ((122 : Int) < (x41.toNat : Int)))))] (by kernel_rfl) <|
    xn <| cnd rfl h (fun b58 h => wpC_seq <| reg_s <| x_asg (sc cB false rfl) <| seqN [(2, .d (cB.enc false))] (by kernel_rfl) <|
    xn <| wpC_ret <| rb <| rt <| rt <| rt <| rb <| rt <| rt <| re <| fin h (r1 (ss rfl rfl) <| r0) rfl)
    (fun b58 h => wpC_skip <| xbb <| kpN [(0, .d (cS.enc v0)), (13, .d (cI.enc (v0.length : Int))), (14, .d (cI.enc (k40 : Int)))] (by kernel_rfl) <| xn <| reg_s <| st rfl <| b_inc rfl rfl l38 hk42 <| st rfl <| mvd rfl rfl <| seqN [(0, .d (cS.enc v0)), (13, .d (cI.enc (v0.length : Int))), (14, .d (cI.enc ((k40 + 1 : Nat) : Int)))] (by kernel_rfl) <|
    xn <| hn51 () h)))))

end AS.W
