/- The program computes the plain functions. No condition. -/
import Derived.Test.YtnjjldjgknkijaaSaa
import Derived.Test.YtnjjldjgknkijaaProg
set_option maxRecDepth 100000
set_option linter.unusedVariables false
set_option linter.unusedSimpArgs false
namespace AS.W
open Go Go.Proofs
def rs_laws_toIntS (r : (List Int)) : List D := [(cLo cI).enc r]
def m16 : MC := .seq (.reg [⟨some 2, .asg (.c (.slice true [])), none⟩] [0])
  (.seq (.reg [⟨some 5, .mv (.t 0), none⟩,
    ⟨some 6, .len false (.t 5), none⟩,
    ⟨some 7, .mk (.int .i64 0) (.t 6), none⟩,
    ⟨some 3, .asg (.t 7), none⟩] [0, 3])
  (.seq (.kp [3] (.seq (.reg [⟨some 4, .asg (.c (.int .i64 0)), none⟩] [0, 3, 4])
  (.blk 0 (.loop (.seq (.kp [0, 3, 4] (.seq (.reg [⟨some 8, .mv (.t 4), none⟩,
    ⟨some 9, .mv (.t 0), none⟩,
    ⟨some 10, .len false (.t 9), none⟩,
    ⟨some 11, .bin .lss (.t 8) (.t 10), none⟩] [0, 3, 4, 11])
  (.cond (.t 11) (.skip) (.exit 0))))
  (.seq (.kp [0, 3, 4] (.blk 1 (.reg [⟨some 14, .mv (.t 3), none⟩,
    ⟨some 15, .mv (.t 4), none⟩,
    ⟨some 16, .mv (.t 0), none⟩,
    ⟨some 17, .mv (.t 4), none⟩,
    ⟨some 18, .ia 16 (.t 17) 1, none⟩,
    ⟨some 19, .ld 18 1 false, none⟩,
    ⟨some 20, .ia 14 (.t 15) 1, none⟩,
    ⟨none, .st 20 (.t 19) 1, none⟩] [0, 3, 4])))
  (.reg [⟨some 12, .mv (.t 4), none⟩,
    ⟨some 13, .bin .add (.t 12) (.c (.int .i64 1)), none⟩,
    ⟨some 4, .asg (.t 13), none⟩] [0, 3, 4])))))))
  (.seq (.reg [⟨some 21, .mv (.t 3), none⟩,
    ⟨some 2, .asg (.t 21), none⟩] [2])
  (.ret))))
theorem con_laws_toIntS {v0 : (List Int)} {r : (List Int)} (h : sh_laws_toIntS v0 = some r) : Con Try.prog 16 [(cLs cI rfl).enc v0] [] (rs_laws_toIntS r) := by
  delta sh_laws_toIntS at h
  refine top (out := none) (f := Try.f16) (m := m16) (rs := [.t 2]) (by kernel_rfl) rfl (by kernel_rfl) (by kernel_rfl) (by kernel_rfl) (by kernel_rfl) (by kernel_rfl) ?_
  exact
   ini [(0, .d ((cLs cI rfl).enc v0))] rfl <| wpC_seq <| reg_s <| x_asg (sc (cLo cI) ([] : List Int) rfl) <| seqN [(0, .d ((cLs cI rfl).enc v0))] (by kernel_rfl) <|
    xn <| wpC_seq <| reg_s <| st rfl <| mvd rfl rfl <| stw rfl <| lens rfl fun l4 => mkO_k h fun i5 l6 h => st rfl <| o_mk (c := cI) (a0 := (0 : Int)) rfl (k := .i64) rfl i5 l6 <| x_asg (so rfl rfl) <| seqN [(0, .d ((cLs cI rfl).enc v0)), (3, .d ((cLo cI).enc (List.replicate ((v0.length : Int)).toNat (0 : Int))))] (by kernel_rfl) <|
    xn <| wpC_seq <| wpC_kp <| wpC_seq <| reg_s <| x_asg (sc cI (0 : Int) rfl) <| seqN [(0, .d ((cLs cI rfl).enc v0)), (3, .d ((cLo cI).enc (List.replicate ((v0.length : Int)).toNat (0 : Int)))), (4, .d (cI.enc (0 : Int)))] (by kernel_rfl) <|
    xn <| wpC_blk <| lpF (fun (s72 : ((List Int) × Int)) => [(0, .d ((cLs cI rfl).enc v0)), (3, .d ((cLo cI).enc s72.1)), (4, .d (cI.enc s72.2))]) ((List.replicate ((v0.length : Int)).toNat (0 : Int)), (0 : Int)) rfl h
    fun G117 nx115 s72 hn116 h => wpC_seq <| wpC_kp <| wpC_seq <| reg_s <| st rfl <| mvd rfl rfl <| st rfl <| mvd rfl rfl <| stw rfl <| lens rfl fun l122 => st rfl <| b_lss (k := .i64) rfl rfl <| seqN [(0, .d ((cLs cI rfl).enc v0)), (3, .d ((cLo cI).enc s72.1)), (4, .d (cI.enc s72.2)), (11, .d (cB.enc (decide (s72.2 < (v0.length : Int)))))] (by kernel_rfl) <|
    xn <| cnd rfl h (fun b123 h => wpC_skip <| kpN [(0, .d ((cLs cI rfl).enc v0)), (3, .d ((cLo cI).enc s72.1)), (4, .d (cI.enc s72.2))] (by kernel_rfl) <| xn <| wpC_seq <| wpC_kp <| wpC_blk <| reg_s <| st rfl <| mvo rfl rfl <| st rfl <| mvd rfl rfl <| st rfl <| mvd rfl rfl <| st rfl <| mvd rfl rfl <| getO_k h fun x130 i131 g132 h => st rfl <| ias rfl rfl i131 g132 rfl <| st rfl <| ldi rfl rfl rfl rfl <| getO_k h fun x133 i134 g135 h => st rfl <| iar rfl rfl rfl rfl i134 g135 rfl <| x_sta ((cLo cI).enc (s72.1.set (s72.2).toNat x130)) (ss rfl rfl) rfl rfl (Ln.idx g135 Ln.nil) (Cd.h_sz cI _) rfl <| seqN [(0, .d ((cLs cI rfl).enc v0)), (3, .d ((cLo cI).enc (s72.1.set (s72.2).toNat x130))), (4, .d (cI.enc s72.2))] (by kernel_rfl) <|
    xbb <| kpN [(0, .d ((cLs cI rfl).enc v0)), (3, .d ((cLo cI).enc (s72.1.set (s72.2).toNat x130))), (4, .d (cI.enc s72.2))] (by kernel_rfl) <| xn <| reg_s <| st rfl <| mvd rfl rfl <| ckI_k h fun i136 h => st rfl <| b_add (k := .i64) rfl rfl i136 <| x_asg (ss rfl rfl) <| seqN [(0, .d ((cLs cI rfl).enc v0)), (3, .d ((cLo cI).enc (s72.1.set (s72.2).toNat x130))), (4, .d (cI.enc (s72.2 + (1 : Int))))] (by kernel_rfl) <|
    xn <| hn116 ((s72.1.set (s72.2).toNat x130), (s72.2 + (1 : Int))) h)
    (fun b123 h => wpC_exit <| xt <| xt <| xt <| xb <| kpN [(3, .d ((cLo cI).enc s72.1))] (by kernel_rfl) <| xn <| wpC_seq <| reg_s <| st rfl <| mvo rfl rfl <| x_asg (sr rfl rfl) <| seqN [(2, .d ((cLo cI).enc s72.1))] (by kernel_rfl) <|
    xn <| wpC_ret <| re <| fin h (r1 (so rfl rfl) <| r0) rfl)

def rs_spec_l1In (r : Bool) : List D := [cB.enc r]
def m58 : MC := .seq (.reg [⟨some 6, .asg (.c (.bool false)), none⟩] [0, 1, 2])
  (.seq (.reg [⟨some 7, .mv (.t 0), none⟩,
    ⟨some 8, .mv (.t 1), none⟩,
    ⟨some 9, .bin .geq (.t 7) (.t 8), none⟩,
    ⟨some 10, .mv (.t 9), none⟩,
    ⟨some 11, .mv (.t 0), some (10, true)⟩,
    ⟨some 12, .mv (.t 2), some (10, true)⟩,
    ⟨some 13, .bin .leq (.t 11) (.t 12), some (10, true)⟩,
    ⟨some 14, .pick (.t 10) (.t 13) (.c (.bool false)), none⟩,
    ⟨some 6, .asg (.t 14), none⟩] [6])
  (.ret))
theorem con_spec_l1In {v0 : Int} {v1 : Int} {v2 : Int} {r : Bool} (h : sh_spec_l1In v0 v1 v2 = some r) : Con Try.prog 58 [cI.enc v0, cI.enc v1, cI.enc v2] [] (rs_spec_l1In r) := by
  delta sh_spec_l1In at h
  refine top (out := none) (f := Try.f58) (m := m58) (rs := [.t 6]) (by kernel_rfl) rfl (by kernel_rfl) (by kernel_rfl) (by kernel_rfl) (by kernel_rfl) (by kernel_rfl) ?_
  exact
   ini [(0, .d (cI.enc v0)), (1, .d (cI.enc v1)), (2, .d (cI.enc v2))] rfl <| wpC_seq <| reg_s <| x_asg (sc cB false rfl) <| seqN [(0, .d (cI.enc v0)), (1, .d (cI.enc v1)), (2, .d (cI.enc v2))] (by kernel_rfl) <|
    xn <| wpC_seq <| reg_s <| st rfl <| mvd rfl rfl <| st rfl <| mvd rfl rfl <| st rfl <| b_geq (k := .i64) rfl rfl <| st rfl <| mvd rfl rfl <| ite_k h (fun b2 h => gt' rfl b2 <| st rfl <| mvd rfl rfl <| gt' rfl b2 <| st rfl <| mvd rfl rfl <| gt' rfl b2 <| st rfl <| b_leq (k := .i64) rfl rfl <| st rfl <| pick1 rfl b2 (cd := cB) (v := (decide (v0 ≤ v2))) rfl rfl <| x_asg (ss rfl rfl) <| seqN [(6, .d (cB.enc (decide (v0 ≤ v2))))] (by kernel_rfl) <|
    xn <| wpC_ret <| re <| fin h (r1 (ss rfl rfl) <| r0) rfl)
    (fun b2 h => gf rfl b2 <| gf rfl b2 <| gf rfl b2 <| st rfl <| pick0 rfl b2 (cd := cB) (v := false) rfl rfl <| x_asg (ss rfl rfl) <| seqN [(6, .d (cB.enc false))] (by kernel_rfl) <|
    xn <| wpC_ret <| re <| fin h (r1 (ss rfl rfl) <| r0) rfl)

def rs_spec_l1All (r : Bool) : List D := [cB.enc r]
def m54 : MC := .seq (.reg [⟨some 6, .asg (.c (.bool false)), none⟩] [0, 1, 2])
  (.seq (.kp [] (.seq (.reg [⟨some 9, .mv (.t 0), none⟩,
    ⟨some 10, .len false (.t 9), none⟩,
    ⟨some 11, .mv (.c (.int .i64 0)), none⟩] [0, 1, 2, 9, 10, 11])
  (.blk 0 (.loop (.seq (.reg [⟨some 12, .bin .lss (.t 11) (.t 10), none⟩] [0, 1, 2, 9, 10, 11, 12])
  (.seq (.kp [0, 1, 2, 9, 10, 11] (.cond (.t 12) (.skip) (.exit 0)))
  (.seq (.kp [0, 1, 2, 9, 10, 11] (.blk 1 (.seq (.reg [⟨some 13, .ia 9 (.t 11) 1, none⟩,
    ⟨some 14, .ld 13 1 false, none⟩,
    ⟨some 8, .asg (.t 14), none⟩] [0, 1, 2, 8, 9, 10, 11])
  (.seq (.reg [⟨some 15, .mv (.t 8), none⟩,
    ⟨some 16, .mv (.t 1), none⟩,
    ⟨some 17, .mv (.t 2), none⟩,
    ⟨some 18, .call 58 [(.t 15), (.t 16), (.t 17)], none⟩,
    ⟨some 19, .nt (.t 18), none⟩] [0, 1, 2, 9, 10, 11, 19])
  (.cond (.t 19) (.seq (.reg [⟨some 6, .asg (.c (.bool false)), none⟩] [6])
  (.ret)) (.skip))))))
  (.reg [⟨some 20, .bin .add (.t 11) (.c (.int .i64 1)), none⟩,
    ⟨some 11, .mv (.t 20), none⟩] [0, 1, 2, 9, 10, 11]))))))))
  (.seq (.reg [⟨some 6, .asg (.c (.bool true)), none⟩] [6])
  (.ret)))
theorem con_spec_l1All {v0 : (List Int)} {v1 : Int} {v2 : Int} {r : Bool} (h : sh_spec_l1All v0 v1 v2 = some r) : Con Try.prog 54 [(cLs cI rfl).enc v0, cI.enc v1, cI.enc v2] [] (rs_spec_l1All r) := by
  delta sh_spec_l1All at h
  refine top (out := none) (f := Try.f54) (m := m54) (rs := [.t 6]) (by kernel_rfl) rfl (by kernel_rfl) (by kernel_rfl) (by kernel_rfl) (by kernel_rfl) (by kernel_rfl) ?_
  exact
   ini [(0, .d ((cLs cI rfl).enc v0)), (1, .d (cI.enc v1)), (2, .d (cI.enc v2))] rfl <| wpC_seq <| reg_s <| x_asg (sc cB false rfl) <| seqN [(0, .d ((cLs cI rfl).enc v0)), (1, .d (cI.enc v1)), (2, .d (cI.enc v2))] (by kernel_rfl) <|
    xn <| wpC_seq <| wpC_kp <| wpC_seq <| reg_s <| st rfl <| mvd rfl rfl <| stw rfl <| lens rfl fun l32 => st rfl <| mvc cI (0 : Int) rfl <| seqN [(0, .d ((cLs cI rfl).enc v0)), (1, .d (cI.enc v1)), (2, .d (cI.enc v2)), (9, .d ((cLs cI rfl).enc v0)), (10, .d (cI.enc (v0.length : Int))), (11, .d (cI.enc (0 : Int)))] (by kernel_rfl) <|
    xn <| wpC_blk <| lpR (fun (k34 : Nat) (s33 : Unit) => [(0, .d ((cLs cI rfl).enc v0)), (1, .d (cI.enc v1)), (2, .d (cI.enc v2)), (9, .d ((cLs cI rfl).enc v0)), (10, .d (cI.enc (v0.length : Int))), (11, .d (cI.enc (k34 : Int)))]) () rfl h
    (fun G50 s33 h => wpC_seq <| reg_s <| st rfl <| b_lss (k := .i64) rfl rfl <| seqN [(0, .d ((cLs cI rfl).enc v0)), (1, .d (cI.enc v1)), (2, .d (cI.enc v2)), (9, .d ((cLs cI rfl).enc v0)), (10, .d (cI.enc (v0.length : Int))), (11, .d (cI.enc (v0.length : Int))), (12, .d (cB.enc (decide ((v0.length : Int) < (v0.length : Int)))))] (by kernel_rfl) <|
    xn <| wpC_seq <| wpC_kp <| cnd0 rfl (dlf _) <| wpC_exit <| xt <| xt <| xt <| xb <| kpN [] (by kernel_rfl) <| xn <| wpC_seq <| reg_s <| x_asg (sc cB true rfl) <| seqN [(6, .d (cB.enc true))] (by kernel_rfl) <|
    xn <| wpC_ret <| re <| fin h (r1 (ss rfl rfl) <| r0) rfl)
    (fun G50 nx48 k34 s33 x35 hk36 hx37 hn49 h => wpC_seq <| reg_s <| st rfl <| b_lss (k := .i64) rfl rfl <| seqN [(0, .d ((cLs cI rfl).enc v0)), (1, .d (cI.enc v1)), (2, .d (cI.enc v2)), (9, .d ((cLs cI rfl).enc v0)), (10, .d (cI.enc (v0.length : Int))), (11, .d (cI.enc (k34 : Int))), (12, .d (cB.enc (decide ((k34 : Int) < (v0.length : Int)))))] (by kernel_rfl) <|
    xn <| wpC_seq <| wpC_kp <| cnd1 rfl (dlt hk36) <| wpC_skip <| kpN [(0, .d ((cLs cI rfl).enc v0)), (1, .d (cI.enc v1)), (2, .d (cI.enc v2)), (9, .d ((cLs cI rfl).enc v0)), (10, .d (cI.enc (v0.length : Int))), (11, .d (cI.enc (k34 : Int)))] (by kernel_rfl) <| xn <| wpC_seq <| wpC_kp <| wpC_blk <| wpC_seq <| reg_s <| st rfl <| ias rfl rfl (Int.natCast_nonneg _) hx37 rfl <| st rfl <| ldi rfl rfl rfl rfl <| x_asg (ss rfl rfl) <| seqN [(0, .d ((cLs cI rfl).enc v0)), (1, .d (cI.enc v1)), (2, .d (cI.enc v2)), (8, .d (cI.enc x35)), (9, .d ((cLs cI rfl).enc v0)), (10, .d (cI.enc (v0.length : Int))), (11, .d (cI.enc (k34 : Int)))] (by kernel_rfl) <|
    xn <| wpC_seq <| reg_s <| st rfl <| mvd rfl rfl <| st rfl <| mvd rfl rfl <| st rfl <| mvd rfl rfl <| bnd h fun x58 e59 h => st rfl <| o_call (a1 (c := cI) tK rfl (a1 (c := cI) tK rfl (a1 (c := cI) tK rfl a0))) (con_spec_l1In e59) (.inl (so1 sB so0)) <| st rfl <| o_nt rfl <| seqN [(0, .d ((cLs cI rfl).enc v0)), (1, .d (cI.enc v1)), (2, .d (cI.enc v2)), (9, .d ((cLs cI rfl).enc v0)), (10, .d (cI.enc (v0.length : Int))), (11, .d (cI.enc (k34 : Int))), (19, .d (cB.enc (!x58)))] (by kernel_rfl) <|
    xn <| cnd rfl h (fun b60 h => wpC_seq <| reg_s <| x_asg (sc cB false rfl) <| seqN [(6, .d (cB.enc false))] (by kernel_rfl) <|
    xn <| wpC_ret <| rb <| rt <| rt <| rt <| rb <| rt <| rt <| re <| fin h (r1 (ss rfl rfl) <| r0) rfl)
    (fun b60 h => wpC_skip <| xbb <| kpN [(0, .d ((cLs cI rfl).enc v0)), (1, .d (cI.enc v1)), (2, .d (cI.enc v2)), (9, .d ((cLs cI rfl).enc v0)), (10, .d (cI.enc (v0.length : Int))), (11, .d (cI.enc (k34 : Int)))] (by kernel_rfl) <| xn <| reg_s <| st rfl <| b_inc rfl rfl l32 hk36 <| st rfl <| mvd rfl rfl <| seqN [(0, .d ((cLs cI rfl).enc v0)), (1, .d (cI.enc v1)), (2, .d (cI.enc v2)), (9, .d ((cLs cI rfl).enc v0)), (10, .d (cI.enc (v0.length : Int))), (11, .d (cI.enc ((k34 + 1 : Nat) : Int)))] (by kernel_rfl) <|
    xn <| hn49 () h))

def rs_spec_l1Own (r : (List Int)) : List D := [(cLo cI).enc r]
def m55 : MC := .seq (.reg [⟨some 2, .asg (.c (.slice true [])), none⟩] [0])
  (.seq (.reg [⟨some 3, .bsl [] 1, none⟩,
    ⟨some 4, .mv (.t 0), none⟩,
    ⟨some 5, .app (.t 3) (.t 4) 1, none⟩,
    ⟨some 2, .asg (.t 5), none⟩] [2])
  (.ret))
theorem con_spec_l1Own {v0 : (List Int)} {r : (List Int)} (h : sh_spec_l1Own v0 = some r) : Con Try.prog 55 [(cLs cI rfl).enc v0] [] (rs_spec_l1Own r) := by
  delta sh_spec_l1Own at h
  refine top (out := none) (f := Try.f55) (m := m55) (rs := [.t 2]) (by kernel_rfl) rfl (by kernel_rfl) (by kernel_rfl) (by kernel_rfl) (by kernel_rfl) (by kernel_rfl) ?_
  exact
   ini [(0, .d ((cLs cI rfl).enc v0))] rfl <| wpC_seq <| reg_s <| x_asg (sc (cLo cI) ([] : List Int) rfl) <| seqN [(0, .d ((cLs cI rfl).enc v0))] (by kernel_rfl) <|
    xn <| wpC_seq <| reg_s <| x_bsl cI ([] : List Int) t0 rfl rfl <| st rfl <| mvd rfl rfl <| lnO_k h fun l2 h => x_app (so rfl rfl) (ts rfl) l2 rfl <| x_asg (so rfl rfl) <| seqN [(2, .d ((cLo cI).enc (([] : List Int) ++ v0)))] (by kernel_rfl) <|
    xn <| wpC_ret <| re <| fin h (r1 (so rfl rfl) <| r0) rfl

def rs_spec_AddCells (r : ((List Int) × Bool)) : List D := [(cLo cI).enc r.1, cB.enc r.2]
def m15 : MC := .seq (.reg [⟨some 4, .asg (.c (.slice true [])), none⟩,
    ⟨some 5, .asg (.c (.bool false)), none⟩] [0, 1])
  (.seq (.kp [0, 1] (.seq (.reg [⟨some 9, .mv (.t 0), none⟩,
    ⟨some 10, .len false (.t 9), none⟩,
    ⟨some 11, .mv (.t 1), none⟩,
    ⟨some 12, .len false (.t 11), none⟩,
    ⟨some 13, .bin .neq (.t 10) (.t 12), none⟩,
    ⟨some 14, .mv (.t 13), none⟩,
    ⟨some 15, .mv (.t 0), some (14, false)⟩,
    ⟨some 16, .len false (.t 15), some (14, false)⟩,
    ⟨some 17, .bin .gtr (.t 16) (.c (.int .i64 600)), some (14, false)⟩,
    ⟨some 18, .pick (.t 14) (.c (.bool true)) (.t 17), none⟩,
    ⟨some 19, .mv (.t 18), none⟩,
    ⟨some 20, .mv (.t 0), some (19, false)⟩,
    ⟨some 21, .call 54 [(.t 20), (.c (.int .i64 (-1000000))), (.c (.int .i64 1000000))], some (19, false)⟩,
    ⟨some 22, .nt (.t 21), some (19, false)⟩,
    ⟨some 23, .pick (.t 19) (.c (.bool true)) (.t 22), none⟩,
    ⟨some 24, .mv (.t 23), none⟩,
    ⟨some 25, .mv (.t 1), some (24, false)⟩,
    ⟨some 26, .call 54 [(.t 25), (.c (.int .i64 (-1000000))), (.c (.int .i64 1000000))], some (24, false)⟩,
    ⟨some 27, .nt (.t 26), some (24, false)⟩,
    ⟨some 28, .pick (.t 24) (.c (.bool true)) (.t 27), none⟩] [0, 1, 28])
  (.cond (.t 28) (.seq (.reg [⟨some 4, .asg (.c (.slice true [])), none⟩,
    ⟨some 5, .asg (.c (.bool false)), none⟩] [4, 5])
  (.ret)) (.skip))))
  (.seq (.reg [⟨some 29, .mv (.t 0), none⟩,
    ⟨some 30, .call 55 [(.t 29)], none⟩,
    ⟨some 6, .asg (.t 30), none⟩] [1, 6])
  (.seq (.kp [6] (.seq (.reg [⟨some 31, .mv (.t 1), none⟩,
    ⟨some 32, .len false (.t 31), none⟩,
    ⟨some 33, .mv (.c (.int .i64 0)), none⟩] [1, 6, 31, 32, 33])
  (.blk 0 (.loop (.seq (.reg [⟨some 34, .bin .lss (.t 33) (.t 32), none⟩] [1, 6, 31, 32, 33, 34])
  (.seq (.kp [1, 6, 31, 32, 33] (.cond (.t 34) (.skip) (.exit 0)))
  (.seq (.kp [1, 6, 31, 32, 33] (.blk 1 (.seq (.reg [⟨some 35, .mv (.t 33), none⟩,
    ⟨some 36, .ia 31 (.t 33) 1, none⟩,
    ⟨some 37, .ld 36 1 false, none⟩,
    ⟨some 7, .asg (.t 35), none⟩,
    ⟨some 8, .asg (.t 37), none⟩] [1, 6, 7, 8, 31, 32, 33])
  (.reg [⟨some 38, .mv (.t 6), none⟩,
    ⟨some 39, .mv (.t 7), none⟩,
    ⟨some 40, .ia 38 (.t 39) 1, none⟩,
    ⟨some 41, .ld 40 1 false, none⟩,
    ⟨some 42, .mv (.t 8), none⟩,
    ⟨some 43, .bin .add (.t 41) (.t 42), none⟩,
    ⟨some 44, .ia 38 (.t 39) 1, none⟩,
    ⟨none, .st 44 (.t 43) 1, none⟩] [1, 6, 31, 32, 33]))))
  (.reg [⟨some 45, .bin .add (.t 33) (.c (.int .i64 1)), none⟩,
    ⟨some 33, .mv (.t 45), none⟩] [1, 6, 31, 32, 33]))))))))
  (.seq (.reg [⟨some 46, .mv (.t 6), none⟩,
    ⟨some 4, .asg (.t 46), none⟩,
    ⟨some 5, .asg (.c (.bool true)), none⟩] [4, 5])
  (.ret)))))
theorem con_spec_AddCells {v0 : (List Int)} {v1 : (List Int)} {r : ((List Int) × Bool)} (h : sh_spec_AddCells v0 v1 = some r) : Con Try.prog 15 [(cLs cI rfl).enc v0, (cLs cI rfl).enc v1] [] (rs_spec_AddCells r) := by
  delta sh_spec_AddCells at h
  refine top (out := none) (f := Try.f15) (m := m15) (rs := [.t 4, .t 5]) (by kernel_rfl) rfl (by kernel_rfl) (by kernel_rfl) (by kernel_rfl) (by kernel_rfl) (by kernel_rfl) ?_
  exact
   ini [(0, .d ((cLs cI rfl).enc v0)), (1, .d ((cLs cI rfl).enc v1))] rfl <| wpC_seq <| reg_s <| x_asg (sc (cLo cI) ([] : List Int) rfl) <| x_asg (sc cB false rfl) <| seqN [(0, .d ((cLs cI rfl).enc v0)), (1, .d ((cLs cI rfl).enc v1))] (by kernel_rfl) <|
    xn <| wpC_seq <| wpC_kp <| wpC_seq <| jw (fun (s34 : Bool) => [(0, .d ((cLs cI rfl).enc v0)), (1, .d ((cLs cI rfl).enc v1)), (28, .d (cB.enc s34))]) h (fun s34 h => xn <| cnd rfl h (fun b36 h => wpC_seq <| reg_s <| x_asg (sc (cLo cI) ([] : List Int) rfl) <| x_asg (sc cB false rfl) <| seqN [(4, .d ((cLo cI).enc ([] : List Int))), (5, .d (cB.enc false))] (by kernel_rfl) <|
    xn <| wpC_ret <| rt <| rt <| re <| fin h (r1 (so rfl rfl) <| r1 (ss rfl rfl) <| r0) rfl)
    (fun b36 h => wpC_skip <| kpN [(0, .d ((cLs cI rfl).enc v0)), (1, .d ((cLs cI rfl).enc v1))] (by kernel_rfl) <| xn <| wpC_seq <| reg_s <| st rfl <| mvd rfl rfl <| bnd h fun x39 e40 h => st rfl <| o_call (a1 (c := (cLs cI rfl)) (tLs tK) rfl a0) (con_spec_l1Own e40) (.inl (so1 (sLo sK) so0)) <| x_asg (so rfl rfl) <| seqN [(1, .d ((cLs cI rfl).enc v1)), (6, .d ((cLo cI).enc x39))] (by kernel_rfl) <|
    xn <| wpC_seq <| wpC_kp <| wpC_seq <| reg_s <| st rfl <| mvd rfl rfl <| stw rfl <| lens rfl fun l76 => st rfl <| mvc cI (0 : Int) rfl <| seqN [(1, .d ((cLs cI rfl).enc v1)), (6, .d ((cLo cI).enc x39)), (31, .d ((cLs cI rfl).enc v1)), (32, .d (cI.enc (v1.length : Int))), (33, .d (cI.enc (0 : Int)))] (by kernel_rfl) <|
    xn <| wpC_blk <| lpR (fun (k78 : Nat) (s77 : (List Int)) => [(1, .d ((cLs cI rfl).enc v1)), (6, .d ((cLo cI).enc s77)), (31, .d ((cLs cI rfl).enc v1)), (32, .d (cI.enc (v1.length : Int))), (33, .d (cI.enc (k78 : Int)))]) x39 rfl h
    (fun G100 s77 h => wpC_seq <| reg_s <| st rfl <| b_lss (k := .i64) rfl rfl <| seqN [(1, .d ((cLs cI rfl).enc v1)), (6, .d ((cLo cI).enc s77)), (31, .d ((cLs cI rfl).enc v1)), (32, .d (cI.enc (v1.length : Int))), (33, .d (cI.enc (v1.length : Int))), (34, .d (cB.enc (decide ((v1.length : Int) < (v1.length : Int)))))] (by kernel_rfl) <|
    xn <| wpC_seq <| wpC_kp <| cnd0 rfl (dlf _) <| wpC_exit <| xt <| xt <| xt <| xb <| kpN [(6, .d ((cLo cI).enc s77))] (by kernel_rfl) <| xn <| wpC_seq <| reg_s <| st rfl <| mvo rfl rfl <| x_asg (sr rfl rfl) <| x_asg (sc cB true rfl) <| seqN [(4, .d ((cLo cI).enc s77)), (5, .d (cB.enc true))] (by kernel_rfl) <|
    xn <| wpC_ret <| re <| fin h (r1 (so rfl rfl) <| r1 (ss rfl rfl) <| r0) rfl)
    (fun G100 nx98 k78 s77 x79 hk80 hx81 hn99 h => wpC_seq <| reg_s <| st rfl <| b_lss (k := .i64) rfl rfl <| seqN [(1, .d ((cLs cI rfl).enc v1)), (6, .d ((cLo cI).enc s77)), (31, .d ((cLs cI rfl).enc v1)), (32, .d (cI.enc (v1.length : Int))), (33, .d (cI.enc (k78 : Int))), (34, .d (cB.enc (decide ((k78 : Int) < (v1.length : Int)))))] (by kernel_rfl) <|
    xn <| wpC_seq <| wpC_kp <| cnd1 rfl (dlt hk80) <| wpC_skip <| kpN [(1, .d ((cLs cI rfl).enc v1)), (6, .d ((cLo cI).enc s77)), (31, .d ((cLs cI rfl).enc v1)), (32, .d (cI.enc (v1.length : Int))), (33, .d (cI.enc (k78 : Int)))] (by kernel_rfl) <| xn <| wpC_seq <| wpC_kp <| wpC_blk <| wpC_seq <| reg_s <| st rfl <| mvd rfl rfl <| st rfl <| ias rfl rfl (Int.natCast_nonneg _) hx81 rfl <| st rfl <| ldi rfl rfl rfl rfl <| x_asg (ss rfl rfl) <| x_asg (ss rfl rfl) <| seqN [(1, .d ((cLs cI rfl).enc v1)), (6, .d ((cLo cI).enc s77)), (7, .d (cI.enc (k78 : Int))), (8, .d (cI.enc x79)), (31, .d ((cLs cI rfl).enc v1)), (32, .d (cI.enc (v1.length : Int))), (33, .d (cI.enc (k78 : Int)))] (by kernel_rfl) <|
    xn <| reg_s <| st rfl <| mvo rfl rfl <| st rfl <| mvd rfl rfl <| getO_k h fun x105 i106 g107 h => st rfl <| iar rfl rfl rfl rfl i106 g107 rfl <| st rfl <| lda rfl rfl (Gt.idx g107 Gt.nil) rfl rfl rfl <| st rfl <| mvd rfl rfl <| ckI_k h fun i108 h => st rfl <| b_add (k := .i64) rfl rfl i108 <| st rfl <| iar rfl rfl rfl rfl i106 g107 rfl <| x_sta ((cLo cI).enc (s77.set ((k78 : Int)).toNat (x105 + x79))) (ss rfl rfl) rfl rfl (Ln.idx g107 Ln.nil) (Cd.h_sz cI _) rfl <| seqN [(1, .d ((cLs cI rfl).enc v1)), (6, .d ((cLo cI).enc (s77.set ((k78 : Int)).toNat (x105 + x79)))), (31, .d ((cLs cI rfl).enc v1)), (32, .d (cI.enc (v1.length : Int))), (33, .d (cI.enc (k78 : Int)))] (by kernel_rfl) <|
    xbb <| kpN [(1, .d ((cLs cI rfl).enc v1)), (6, .d ((cLo cI).enc (s77.set ((k78 : Int)).toNat (x105 + x79)))), (31, .d ((cLs cI rfl).enc v1)), (32, .d (cI.enc (v1.length : Int))), (33, .d (cI.enc (k78 : Int)))] (by kernel_rfl) <| xn <| reg_s <| st rfl <| b_inc rfl rfl l76 hk80 <| st rfl <| mvd rfl rfl <| seqN [(1, .d ((cLs cI rfl).enc v1)), (6, .d ((cLo cI).enc (s77.set ((k78 : Int)).toNat (x105 + x79)))), (31, .d ((cLs cI rfl).enc v1)), (32, .d (cI.enc (v1.length : Int))), (33, .d (cI.enc ((k78 + 1 : Nat) : Int)))] (by kernel_rfl) <|
    xn <| hn99 (s77.set ((k78 : Int)).toNat (x105 + x79)) h)))
    fun s34' q35 h => reg_s <| st rfl <| mvd rfl rfl <| stw rfl <| lens rfl fun l109 => st rfl <| mvd rfl rfl <| stw rfl <| lens rfl fun l110 => st rfl <| b_neq (k := .i64) rfl rfl <| st rfl <| mvd rfl rfl <| ite_k h (fun b111 h => gf rfl b111 <| gf rfl b111 <| gf rfl b111 <| st rfl <| pick1 rfl b111 (cd := cB) (v := true) rfl rfl <| st rfl <| mvd rfl rfl <| gf rfl rfl <| gf rfl rfl <| gf rfl rfl <| st rfl <| pick1 rfl rfl (cd := cB) (v := true) rfl rfl <| st rfl <| mvd rfl rfl <| gf rfl rfl <| gf rfl rfl <| gf rfl rfl <| st rfl <| pick1 rfl rfl (cd := cB) (v := true) rfl rfl <| seqN [(0, .d ((cLs cI rfl).enc v0)), (1, .d ((cLs cI rfl).enc v1)), (28, .d (cB.enc true))] (by kernel_rfl) <|
    lfn (S := (fun (s34 : Bool) => [(0, .d ((cLs cI rfl).enc v0)), (1, .d ((cLs cI rfl).enc v1)), (28, .d (cB.enc s34))])) h q35 rfl)
    (fun b111 h => gt' rfl b111 <| st rfl <| mvd rfl rfl <| gt' rfl b111 <| stw rfl <| lens rfl fun l112 => gt' rfl b111 <| st rfl <| b_gtr (k := .i64) rfl rfl <| st rfl <| pick0 rfl b111 (cd := cB) (v := (decide ((600 : Int) < (v0.length : Int)))) rfl rfl <| st rfl <| mvd rfl rfl <| ite_k h (fun b113 h => gf rfl b113 <| gf rfl b113 <| gf rfl b113 <| st rfl <| pick1 rfl b113 (cd := cB) (v := true) rfl rfl <| st rfl <| mvd rfl rfl <| gf rfl rfl <| gf rfl rfl <| gf rfl rfl <| st rfl <| pick1 rfl rfl (cd := cB) (v := true) rfl rfl <| seqN [(0, .d ((cLs cI rfl).enc v0)), (1, .d ((cLs cI rfl).enc v1)), (28, .d (cB.enc true))] (by kernel_rfl) <|
    lfn (S := (fun (s34 : Bool) => [(0, .d ((cLs cI rfl).enc v0)), (1, .d ((cLs cI rfl).enc v1)), (28, .d (cB.enc s34))])) h q35 rfl)
    (fun b113 h => gt' rfl b113 <| st rfl <| mvd rfl rfl <| gt' rfl b113 <| bnd h fun x114 e115 h => st rfl <| o_call (a1 (c := (cLs cI rfl)) (tLs tK) rfl (a1 (c := cI) tK rfl (a1 (c := cI) tK rfl a0))) (con_spec_l1All e115) (.inl (so1 sB so0)) <| gt' rfl b113 <| st rfl <| o_nt rfl <| st rfl <| pick0 rfl b113 (cd := cB) (v := (!x114)) rfl rfl <| st rfl <| mvd rfl rfl <| ite_k h (fun b116 h => gf rfl b116 <| gf rfl b116 <| gf rfl b116 <| st rfl <| pick1 rfl b116 (cd := cB) (v := true) rfl rfl <| seqN [(0, .d ((cLs cI rfl).enc v0)), (1, .d ((cLs cI rfl).enc v1)), (28, .d (cB.enc true))] (by kernel_rfl) <|
    lfn (S := (fun (s34 : Bool) => [(0, .d ((cLs cI rfl).enc v0)), (1, .d ((cLs cI rfl).enc v1)), (28, .d (cB.enc s34))])) h q35 rfl)
    (fun b116 h => gt' rfl b116 <| st rfl <| mvd rfl rfl <| gt' rfl b116 <| bnd h fun x117 e118 h => st rfl <| o_call (a1 (c := (cLs cI rfl)) (tLs tK) rfl (a1 (c := cI) tK rfl (a1 (c := cI) tK rfl a0))) (con_spec_l1All e118) (.inl (so1 sB so0)) <| gt' rfl b116 <| st rfl <| o_nt rfl <| st rfl <| pick0 rfl b116 (cd := cB) (v := (!x117)) rfl rfl <| seqN [(0, .d ((cLs cI rfl).enc v0)), (1, .d ((cLs cI rfl).enc v1)), (28, .d (cB.enc (!x117)))] (by kernel_rfl) <|
    lfn (S := (fun (s34 : Bool) => [(0, .d ((cLs cI rfl).enc v0)), (1, .d ((cLs cI rfl).enc v1)), (28, .d (cB.enc s34))])) h q35 rfl)))

def rs_impl_areSmallIntegers (r : Bool) : List D := [cB.enc r]
def m56 : MC := .seq (.reg [⟨some 4, .asg (.c (.bool false)), none⟩] [0, 1])
  (.seq (.kp [0] (.seq (.reg [⟨some 7, .mv (.t 0), none⟩,
    ⟨some 8, .len false (.t 7), none⟩,
    ⟨some 9, .mv (.t 1), none⟩,
    ⟨some 10, .bin .neq (.t 8) (.t 9), none⟩] [0, 10])
  (.cond (.t 10) (.seq (.reg [⟨some 4, .asg (.c (.bool false)), none⟩] [4])
  (.ret)) (.skip))))
  (.seq (.kp [] (.seq (.reg [⟨some 11, .mv (.t 0), none⟩,
    ⟨some 12, .len false (.t 11), none⟩,
    ⟨some 13, .mv (.c (.int .i64 0)), none⟩] [0, 11, 12, 13])
  (.blk 0 (.loop (.seq (.reg [⟨some 14, .bin .lss (.t 13) (.t 12), none⟩] [0, 11, 12, 13, 14])
  (.seq (.kp [0, 11, 12, 13] (.cond (.t 14) (.skip) (.exit 0)))
  (.seq (.kp [0, 11, 12, 13] (.blk 1 (.seq (.reg [⟨some 15, .ia 11 (.t 13) 1, none⟩,
    ⟨some 16, .ld 15 1 false, none⟩,
    ⟨some 6, .asg (.t 16), none⟩] [0, 6, 11, 12, 13])
  (.seq (.reg [⟨some 17, .mv (.t 6), none⟩,
    ⟨some 18, .bin .lss (.t 17) (.c (.int .i64 (-1000000))), none⟩,
    ⟨some 19, .mv (.t 18), none⟩,
    ⟨some 20, .mv (.t 6), some (19, false)⟩,
    ⟨some 21, .bin .gtr (.t 20) (.c (.int .i64 1000000)), some (19, false)⟩,
    ⟨some 22, .pick (.t 19) (.c (.bool true)) (.t 21), none⟩] [0, 11, 12, 13, 22])
  (.cond (.t 22) (.seq (.reg [⟨some 4, .asg (.c (.bool false)), none⟩] [4])
  (.ret)) (.skip))))))
  (.reg [⟨some 23, .bin .add (.t 13) (.c (.int .i64 1)), none⟩,
    ⟨some 13, .mv (.t 23), none⟩] [0, 11, 12, 13]))))))))
  (.seq (.reg [⟨some 4, .asg (.c (.bool true)), none⟩] [4])
  (.ret))))
theorem con_impl_areSmallIntegers {v0 : (List Int)} {v1 : Int} {r : Bool} (h : sh_impl_areSmallIntegers v0 v1 = some r) : Con Try.prog 56 [(cLs cI rfl).enc v0, cI.enc v1] [] (rs_impl_areSmallIntegers r) := by
  delta sh_impl_areSmallIntegers at h
  refine top (out := none) (f := Try.f56) (m := m56) (rs := [.t 4]) (by kernel_rfl) rfl (by kernel_rfl) (by kernel_rfl) (by kernel_rfl) (by kernel_rfl) (by kernel_rfl) ?_
  exact
   ini [(0, .d ((cLs cI rfl).enc v0)), (1, .d (cI.enc v1))] rfl <| wpC_seq <| reg_s <| x_asg (sc cB false rfl) <| seqN [(0, .d ((cLs cI rfl).enc v0)), (1, .d (cI.enc v1))] (by kernel_rfl) <|
    xn <| wpC_seq <| wpC_kp <| wpC_seq <| reg_s <| st rfl <| mvd rfl rfl <| stw rfl <| lens rfl fun l5 => st rfl <| mvd rfl rfl <| st rfl <| b_neq (k := .i64) rfl rfl <| seqN [(0, .d ((cLs cI rfl).enc v0)), (10, .d (cB.enc (decide ((v0.length : Int) ≠ v1))))] (by kernel_rfl) <|
    xn <| cnd rfl h (fun b6 h => wpC_seq <| reg_s <| x_asg (sc cB false rfl) <| seqN [(4, .d (cB.enc false))] (by kernel_rfl) <|
    xn <| wpC_ret <| rt <| rt <| re <| fin h (r1 (ss rfl rfl) <| r0) rfl)
    (fun b6 h => wpC_skip <| kpN [(0, .d ((cLs cI rfl).enc v0))] (by kernel_rfl) <| xn <| wpC_seq <| wpC_kp <| wpC_seq <| reg_s <| st rfl <| mvd rfl rfl <| stw rfl <| lens rfl fun l30 => st rfl <| mvc cI (0 : Int) rfl <| seqN [(0, .d ((cLs cI rfl).enc v0)), (11, .d ((cLs cI rfl).enc v0)), (12, .d (cI.enc (v0.length : Int))), (13, .d (cI.enc (0 : Int)))] (by kernel_rfl) <|
    xn <| wpC_blk <| lpR (fun (k32 : Nat) (s31 : Unit) => [(0, .d ((cLs cI rfl).enc v0)), (11, .d ((cLs cI rfl).enc v0)), (12, .d (cI.enc (v0.length : Int))), (13, .d (cI.enc (k32 : Int)))]) () rfl h
    (fun G44 s31 h => wpC_seq <| reg_s <| st rfl <| b_lss (k := .i64) rfl rfl <| seqN [(0, .d ((cLs cI rfl).enc v0)), (11, .d ((cLs cI rfl).enc v0)), (12, .d (cI.enc (v0.length : Int))), (13, .d (cI.enc (v0.length : Int))), (14, .d (cB.enc (decide ((v0.length : Int) < (v0.length : Int)))))] (by kernel_rfl) <|
    xn <| wpC_seq <| wpC_kp <| cnd0 rfl (dlf _) <| wpC_exit <| xt <| xt <| xt <| xb <| kpN [] (by kernel_rfl) <| xn <| wpC_seq <| reg_s <| x_asg (sc cB true rfl) <| seqN [(4, .d (cB.enc true))] (by kernel_rfl) <|
    xn <| wpC_ret <| re <| fin h (r1 (ss rfl rfl) <| r0) rfl)
    (fun G44 nx42 k32 s31 x33 hk34 hx35 hn43 h => wpC_seq <| reg_s <| st rfl <| b_lss (k := .i64) rfl rfl <| seqN [(0, .d ((cLs cI rfl).enc v0)), (11, .d ((cLs cI rfl).enc v0)), (12, .d (cI.enc (v0.length : Int))), (13, .d (cI.enc (k32 : Int))), (14, .d (cB.enc (decide ((k32 : Int) < (v0.length : Int)))))] (by kernel_rfl) <|
    xn <| wpC_seq <| wpC_kp <| cnd1 rfl (dlt hk34) <| wpC_skip <| kpN [(0, .d ((cLs cI rfl).enc v0)), (11, .d ((cLs cI rfl).enc v0)), (12, .d (cI.enc (v0.length : Int))), (13, .d (cI.enc (k32 : Int)))] (by kernel_rfl) <| xn <| wpC_seq <| wpC_kp <| wpC_blk <| wpC_seq <| reg_s <| st rfl <| ias rfl rfl (Int.natCast_nonneg _) hx35 rfl <| st rfl <| ldi rfl rfl rfl rfl <| x_asg (ss rfl rfl) <| seqN [(0, .d ((cLs cI rfl).enc v0)), (6, .d (cI.enc x33)), (11, .d ((cLs cI rfl).enc v0)), (12, .d (cI.enc (v0.length : Int))), (13, .d (cI.enc (k32 : Int)))] (by kernel_rfl) <|
    xn <| wpC_seq <| reg_s <| st rfl <| mvd rfl rfl <| st rfl <| b_lss (k := .i64) rfl rfl <| st rfl <| mvd rfl rfl <| ite_k h (fun b49 h => gf rfl b49 <| gf rfl b49 <| st rfl <| pick1 rfl b49 (cd := cB) (v := true) rfl rfl <| seqN [(0, .d ((cLs cI rfl).enc v0)), (11, .d ((cLs cI rfl).enc v0)), (12, .d (cI.enc (v0.length : Int))), (13, .d (cI.enc (k32 : Int))), (22, .d (cB.enc true))] (by kernel_rfl) <|
    xn <| cnd1 rfl rfl <| wpC_seq <| reg_s <| x_asg (sc cB false rfl) <| seqN [(4, .d (cB.enc false))] (by kernel_rfl) <|
    xn <| wpC_ret <| rb <| rt <| rt <| rt <| rb <| rt <| rt <| re <| fin h (r1 (ss rfl rfl) <| r0) rfl)
    (fun b49 h => gt' rfl b49 <| st rfl <| mvd rfl rfl <| gt' rfl b49 <| st rfl <| b_gtr (k := .i64) rfl rfl <| st rfl <| pick0 rfl b49 (cd := cB) (v := (decide ((1000000 : Int) < x33))) rfl rfl <| seqN [(0, .d ((cLs cI rfl).enc v0)), (11, .d ((cLs cI rfl).enc v0)), (12, .d (cI.enc (v0.length : Int))), (13, .d (cI.enc (k32 : Int))), (22, .d (cB.enc (decide ((1000000 : Int) < x33))))] (by kernel_rfl) <|
    xn <| cnd rfl h (fun b50 h => wpC_seq <| reg_s <| x_asg (sc cB false rfl) <| seqN [(4, .d (cB.enc false))] (by kernel_rfl) <|
    xn <| wpC_ret <| rb <| rt <| rt <| rt <| rb <| rt <| rt <| re <| fin h (r1 (ss rfl rfl) <| r0) rfl)
    (fun b50 h => wpC_skip <| xbb <| kpN [(0, .d ((cLs cI rfl).enc v0)), (11, .d ((cLs cI rfl).enc v0)), (12, .d (cI.enc (v0.length : Int))), (13, .d (cI.enc (k32 : Int)))] (by kernel_rfl) <| xn <| reg_s <| st rfl <| b_inc rfl rfl l30 hk34 <| st rfl <| mvd rfl rfl <| seqN [(0, .d ((cLs cI rfl).enc v0)), (11, .d ((cLs cI rfl).enc v0)), (12, .d (cI.enc (v0.length : Int))), (13, .d (cI.enc ((k32 + 1 : Nat) : Int)))] (by kernel_rfl) <|
    xn <| hn43 () h))))

def rs_slices_Clone_int (r : (List Int)) : List D := [(cLo cI).enc r]
def m57 : MC := .seq (.reg [⟨some 2, .asg (.c (.slice true [])), none⟩] [0])
  (.seq (.kp [0] (.seq (.reg [⟨some 3, .mv (.t 0), none⟩,
    ⟨some 4, .eqn false (.t 3), none⟩] [0, 4])
  (.cond (.t 4) (.seq (.reg [⟨some 2, .asg (.c (.slice true [])), none⟩] [2])
  (.ret)) (.skip))))
  (.seq (.reg [⟨some 5, .bsl [] 1, none⟩,
    ⟨some 6, .mv (.t 0), none⟩,
    ⟨some 7, .app (.t 5) (.t 6) 1, none⟩,
    ⟨some 2, .asg (.t 7), none⟩] [2])
  (.ret)))
theorem con_slices_Clone_int {v0 : (List Int)} {r : (List Int)} (h : sh_slices_Clone_int v0 = some r) : Con Try.prog 57 [(cLs cI rfl).enc v0] [] (rs_slices_Clone_int r) := by
  delta sh_slices_Clone_int at h
  refine top (out := none) (f := Try.f57) (m := m57) (rs := [.t 2]) (by kernel_rfl) rfl (by kernel_rfl) (by kernel_rfl) (by kernel_rfl) (by kernel_rfl) (by kernel_rfl) ?_
  exact
   ini [(0, .d ((cLs cI rfl).enc v0))] rfl <| wpC_seq <| reg_s <| x_asg (sc (cLo cI) ([] : List Int) rfl) <| seqN [(0, .d ((cLs cI rfl).enc v0))] (by kernel_rfl) <|
    xn <| wpC_seq <| wpC_kp <| wpC_seq <| reg_s <| st rfl <| mvd rfl rfl <| nilO_k h fun u12 w13 => stw rfl <| eqs rfl u12 w13 fun b11 h => seqN [(0, .d ((cLs cI rfl).enc v0)), (4, .d (cB.enc b11))] (by kernel_rfl) <|
    xn <| cnd rfl h (fun b14 h => wpC_seq <| reg_s <| x_asg (sc (cLo cI) ([] : List Int) rfl) <| seqN [(2, .d ((cLo cI).enc ([] : List Int)))] (by kernel_rfl) <|
    xn <| wpC_ret <| rt <| rt <| re <| fin h (r1 (so rfl rfl) <| r0) rfl)
    (fun b14 h => wpC_skip <| kpN [(0, .d ((cLs cI rfl).enc v0))] (by kernel_rfl) <| xn <| wpC_seq <| reg_s <| x_bsl cI ([] : List Int) t0 rfl rfl <| st rfl <| mvd rfl rfl <| lnO_k h fun l16 h => x_app (so rfl rfl) (ts rfl) l16 rfl <| x_asg (so rfl rfl) <| seqN [(2, .d ((cLo cI).enc (([] : List Int) ++ v0)))] (by kernel_rfl) <|
    xn <| wpC_ret <| re <| fin h (r1 (so rfl rfl) <| r0) rfl)

def rs_impl_AddCells (r : ((List Int) × Bool)) : List D := [(cLo cI).enc r.1, cB.enc r.2]
def m17 : MC := .seq (.reg [⟨some 4, .asg (.c (.slice true [])), none⟩,
    ⟨some 5, .asg (.c (.bool false)), none⟩] [0, 1])
  (.seq (.kp [0, 1] (.seq (.reg [⟨some 9, .mv (.t 0), none⟩,
    ⟨some 10, .len false (.t 9), none⟩,
    ⟨some 11, .bin .gtr (.t 10) (.c (.int .i64 600)), none⟩,
    ⟨some 12, .mv (.t 11), none⟩,
    ⟨some 13, .mv (.t 0), some (12, false)⟩,
    ⟨some 14, .mv (.t 0), some (12, false)⟩,
    ⟨some 15, .len false (.t 14), some (12, false)⟩,
    ⟨some 16, .call 56 [(.t 13), (.t 15)], some (12, false)⟩,
    ⟨some 17, .nt (.t 16), some (12, false)⟩,
    ⟨some 18, .pick (.t 12) (.c (.bool true)) (.t 17), none⟩,
    ⟨some 19, .mv (.t 18), none⟩,
    ⟨some 20, .mv (.t 1), some (19, false)⟩,
    ⟨some 21, .mv (.t 0), some (19, false)⟩,
    ⟨some 22, .len false (.t 21), some (19, false)⟩,
    ⟨some 23, .call 56 [(.t 20), (.t 22)], some (19, false)⟩,
    ⟨some 24, .nt (.t 23), some (19, false)⟩,
    ⟨some 25, .pick (.t 19) (.c (.bool true)) (.t 24), none⟩] [0, 1, 25])
  (.cond (.t 25) (.seq (.reg [⟨some 4, .asg (.c (.slice true [])), none⟩,
    ⟨some 5, .asg (.c (.bool false)), none⟩] [4, 5])
  (.ret)) (.skip))))
  (.seq (.reg [⟨some 26, .mv (.t 0), none⟩,
    ⟨some 27, .call 57 [(.t 26)], none⟩,
    ⟨some 6, .asg (.t 27), none⟩] [1, 6])
  (.seq (.kp [6] (.seq (.reg [⟨some 28, .mv (.t 1), none⟩,
    ⟨some 29, .len false (.t 28), none⟩,
    ⟨some 30, .mv (.c (.int .i64 0)), none⟩] [1, 6, 28, 29, 30])
  (.blk 0 (.loop (.seq (.reg [⟨some 31, .bin .lss (.t 30) (.t 29), none⟩] [1, 6, 28, 29, 30, 31])
  (.seq (.kp [1, 6, 28, 29, 30] (.cond (.t 31) (.skip) (.exit 0)))
  (.seq (.kp [1, 6, 28, 29, 30] (.blk 1 (.seq (.reg [⟨some 32, .mv (.t 30), none⟩,
    ⟨some 33, .ia 28 (.t 30) 1, none⟩,
    ⟨some 34, .ld 33 1 false, none⟩,
    ⟨some 7, .asg (.t 32), none⟩,
    ⟨some 8, .asg (.t 34), none⟩] [1, 6, 7, 8, 28, 29, 30])
  (.reg [⟨some 35, .mv (.t 6), none⟩,
    ⟨some 36, .mv (.t 7), none⟩,
    ⟨some 37, .ia 35 (.t 36) 1, none⟩,
    ⟨some 38, .ld 37 1 false, none⟩,
    ⟨some 39, .mv (.t 8), none⟩,
    ⟨some 40, .bin .add (.t 38) (.t 39), none⟩,
    ⟨some 41, .ia 35 (.t 36) 1, none⟩,
    ⟨none, .st 41 (.t 40) 1, none⟩] [1, 6, 28, 29, 30]))))
  (.reg [⟨some 42, .bin .add (.t 30) (.c (.int .i64 1)), none⟩,
    ⟨some 30, .mv (.t 42), none⟩] [1, 6, 28, 29, 30]))))))))
  (.seq (.reg [⟨some 43, .mv (.t 6), none⟩,
    ⟨some 4, .asg (.t 43), none⟩,
    ⟨some 5, .asg (.c (.bool true)), none⟩] [4, 5])
  (.ret)))))
theorem con_impl_AddCells {v0 : (List Int)} {v1 : (List Int)} {r : ((List Int) × Bool)} (h : sh_impl_AddCells v0 v1 = some r) : Con Try.prog 17 [(cLs cI rfl).enc v0, (cLs cI rfl).enc v1] [] (rs_impl_AddCells r) := by
  delta sh_impl_AddCells at h
  refine top (out := none) (f := Try.f17) (m := m17) (rs := [.t 4, .t 5]) (by kernel_rfl) rfl (by kernel_rfl) (by kernel_rfl) (by kernel_rfl) (by kernel_rfl) (by kernel_rfl) ?_
  exact
   ini [(0, .d ((cLs cI rfl).enc v0)), (1, .d ((cLs cI rfl).enc v1))] rfl <| wpC_seq <| reg_s <| x_asg (sc (cLo cI) ([] : List Int) rfl) <| x_asg (sc cB false rfl) <| seqN [(0, .d ((cLs cI rfl).enc v0)), (1, .d ((cLs cI rfl).enc v1))] (by kernel_rfl) <|
    xn <| wpC_seq <| wpC_kp <| wpC_seq <| reg_s <| st rfl <| mvd rfl rfl <| stw rfl <| lens rfl fun l29 => st rfl <| b_gtr (k := .i64) rfl rfl <| st rfl <| mvd rfl rfl <| ite_k h (fun b30 h => gf rfl b30 <| gf rfl b30 <| gf rfl b30 <| gf rfl b30 <| gf rfl b30 <| st rfl <| pick1 rfl b30 (cd := cB) (v := true) rfl rfl <| st rfl <| mvd rfl rfl <| gf rfl rfl <| gf rfl rfl <| gf rfl rfl <| gf rfl rfl <| gf rfl rfl <| st rfl <| pick1 rfl rfl (cd := cB) (v := true) rfl rfl <| seqN [(0, .d ((cLs cI rfl).enc v0)), (1, .d ((cLs cI rfl).enc v1)), (25, .d (cB.enc true))] (by kernel_rfl) <|
    xn <| cnd1 rfl rfl <| wpC_seq <| reg_s <| x_asg (sc (cLo cI) ([] : List Int) rfl) <| x_asg (sc cB false rfl) <| seqN [(4, .d ((cLo cI).enc ([] : List Int))), (5, .d (cB.enc false))] (by kernel_rfl) <|
    xn <| wpC_ret <| rt <| rt <| re <| fin h (r1 (so rfl rfl) <| r1 (ss rfl rfl) <| r0) rfl)
    (fun b30 h => gt' rfl b30 <| st rfl <| mvd rfl rfl <| gt' rfl b30 <| st rfl <| mvd rfl rfl <| gt' rfl b30 <| stw rfl <| lens rfl fun l31 => gt' rfl b30 <| bnd h fun x32 e33 h => st rfl <| o_call (a1 (c := (cLs cI rfl)) (tLs tK) rfl (a1 (c := cI) tK rfl a0)) (con_impl_areSmallIntegers e33) (.inl (so1 sB so0)) <| gt' rfl b30 <| st rfl <| o_nt rfl <| st rfl <| pick0 rfl b30 (cd := cB) (v := (!x32)) rfl rfl <| st rfl <| mvd rfl rfl <| ite_k h (fun b34 h => gf rfl b34 <| gf rfl b34 <| gf rfl b34 <| gf rfl b34 <| gf rfl b34 <| st rfl <| pick1 rfl b34 (cd := cB) (v := true) rfl rfl <| seqN [(0, .d ((cLs cI rfl).enc v0)), (1, .d ((cLs cI rfl).enc v1)), (25, .d (cB.enc true))] (by kernel_rfl) <|
    xn <| cnd1 rfl rfl <| wpC_seq <| reg_s <| x_asg (sc (cLo cI) ([] : List Int) rfl) <| x_asg (sc cB false rfl) <| seqN [(4, .d ((cLo cI).enc ([] : List Int))), (5, .d (cB.enc false))] (by kernel_rfl) <|
    xn <| wpC_ret <| rt <| rt <| re <| fin h (r1 (so rfl rfl) <| r1 (ss rfl rfl) <| r0) rfl)
    (fun b34 h => gt' rfl b34 <| st rfl <| mvd rfl rfl <| gt' rfl b34 <| st rfl <| mvd rfl rfl <| gt' rfl b34 <| stw rfl <| lens rfl fun l35 => gt' rfl b34 <| bnd h fun x36 e37 h => st rfl <| o_call (a1 (c := (cLs cI rfl)) (tLs tK) rfl (a1 (c := cI) tK rfl a0)) (con_impl_areSmallIntegers e37) (.inl (so1 sB so0)) <| gt' rfl b34 <| st rfl <| o_nt rfl <| st rfl <| pick0 rfl b34 (cd := cB) (v := (!x36)) rfl rfl <| seqN [(0, .d ((cLs cI rfl).enc v0)), (1, .d ((cLs cI rfl).enc v1)), (25, .d (cB.enc (!x36)))] (by kernel_rfl) <|
    xn <| cnd rfl h (fun b38 h => wpC_seq <| reg_s <| x_asg (sc (cLo cI) ([] : List Int) rfl) <| x_asg (sc cB false rfl) <| seqN [(4, .d ((cLo cI).enc ([] : List Int))), (5, .d (cB.enc false))] (by kernel_rfl) <|
    xn <| wpC_ret <| rt <| rt <| re <| fin h (r1 (so rfl rfl) <| r1 (ss rfl rfl) <| r0) rfl)
    (fun b38 h => wpC_skip <| kpN [(0, .d ((cLs cI rfl).enc v0)), (1, .d ((cLs cI rfl).enc v1))] (by kernel_rfl) <| xn <| wpC_seq <| reg_s <| st rfl <| mvd rfl rfl <| bnd h fun x41 e42 h => st rfl <| o_call (a1 (c := (cLs cI rfl)) (tLs tK) rfl a0) (con_slices_Clone_int e42) (.inl (so1 (sLo sK) so0)) <| x_asg (so rfl rfl) <| seqN [(1, .d ((cLs cI rfl).enc v1)), (6, .d ((cLo cI).enc x41))] (by kernel_rfl) <|
    xn <| wpC_seq <| wpC_kp <| wpC_seq <| reg_s <| st rfl <| mvd rfl rfl <| stw rfl <| lens rfl fun l78 => st rfl <| mvc cI (0 : Int) rfl <| seqN [(1, .d ((cLs cI rfl).enc v1)), (6, .d ((cLo cI).enc x41)), (28, .d ((cLs cI rfl).enc v1)), (29, .d (cI.enc (v1.length : Int))), (30, .d (cI.enc (0 : Int)))] (by kernel_rfl) <|
    xn <| wpC_blk <| lpR (fun (k80 : Nat) (s79 : (List Int)) => [(1, .d ((cLs cI rfl).enc v1)), (6, .d ((cLo cI).enc s79)), (28, .d ((cLs cI rfl).enc v1)), (29, .d (cI.enc (v1.length : Int))), (30, .d (cI.enc (k80 : Int)))]) x41 rfl h
    (fun G102 s79 h => wpC_seq <| reg_s <| st rfl <| b_lss (k := .i64) rfl rfl <| seqN [(1, .d ((cLs cI rfl).enc v1)), (6, .d ((cLo cI).enc s79)), (28, .d ((cLs cI rfl).enc v1)), (29, .d (cI.enc (v1.length : Int))), (30, .d (cI.enc (v1.length : Int))), (31, .d (cB.enc (decide ((v1.length : Int) < (v1.length : Int)))))] (by kernel_rfl) <|
    xn <| wpC_seq <| wpC_kp <| cnd0 rfl (dlf _) <| wpC_exit <| xt <| xt <| xt <| xb <| kpN [(6, .d ((cLo cI).enc s79))] (by kernel_rfl) <| xn <| wpC_seq <| reg_s <| st rfl <| mvo rfl rfl <| x_asg (sr rfl rfl) <| x_asg (sc cB true rfl) <| seqN [(4, .d ((cLo cI).enc s79)), (5, .d (cB.enc true))] (by kernel_rfl) <|
    xn <| wpC_ret <| re <| fin h (r1 (so rfl rfl) <| r1 (ss rfl rfl) <| r0) rfl)
    (fun G102 nx100 k80 s79 x81 hk82 hx83 hn101 h => wpC_seq <| reg_s <| st rfl <| b_lss (k := .i64) rfl rfl <| seqN [(1, .d ((cLs cI rfl).enc v1)), (6, .d ((cLo cI).enc s79)), (28, .d ((cLs cI rfl).enc v1)), (29, .d (cI.enc (v1.length : Int))), (30, .d (cI.enc (k80 : Int))), (31, .d (cB.enc (decide ((k80 : Int) < (v1.length : Int)))))] (by kernel_rfl) <|
    xn <| wpC_seq <| wpC_kp <| cnd1 rfl (dlt hk82) <| wpC_skip <| kpN [(1, .d ((cLs cI rfl).enc v1)), (6, .d ((cLo cI).enc s79)), (28, .d ((cLs cI rfl).enc v1)), (29, .d (cI.enc (v1.length : Int))), (30, .d (cI.enc (k80 : Int)))] (by kernel_rfl) <| xn <| wpC_seq <| wpC_kp <| wpC_blk <| wpC_seq <| reg_s <| st rfl <| mvd rfl rfl <| st rfl <| ias rfl rfl (Int.natCast_nonneg _) hx83 rfl <| st rfl <| ldi rfl rfl rfl rfl <| x_asg (ss rfl rfl) <| x_asg (ss rfl rfl) <| seqN [(1, .d ((cLs cI rfl).enc v1)), (6, .d ((cLo cI).enc s79)), (7, .d (cI.enc (k80 : Int))), (8, .d (cI.enc x81)), (28, .d ((cLs cI rfl).enc v1)), (29, .d (cI.enc (v1.length : Int))), (30, .d (cI.enc (k80 : Int)))] (by kernel_rfl) <|
    xn <| reg_s <| st rfl <| mvo rfl rfl <| st rfl <| mvd rfl rfl <| getO_k h fun x107 i108 g109 h => st rfl <| iar rfl rfl rfl rfl i108 g109 rfl <| st rfl <| lda rfl rfl (Gt.idx g109 Gt.nil) rfl rfl rfl <| st rfl <| mvd rfl rfl <| ckI_k h fun i110 h => st rfl <| b_add (k := .i64) rfl rfl i110 <| st rfl <| iar rfl rfl rfl rfl i108 g109 rfl <| x_sta ((cLo cI).enc (s79.set ((k80 : Int)).toNat (x107 + x81))) (ss rfl rfl) rfl rfl (Ln.idx g109 Ln.nil) (Cd.h_sz cI _) rfl <| seqN [(1, .d ((cLs cI rfl).enc v1)), (6, .d ((cLo cI).enc (s79.set ((k80 : Int)).toNat (x107 + x81)))), (28, .d ((cLs cI rfl).enc v1)), (29, .d (cI.enc (v1.length : Int))), (30, .d (cI.enc (k80 : Int)))] (by kernel_rfl) <|
    xbb <| kpN [(1, .d ((cLs cI rfl).enc v1)), (6, .d ((cLo cI).enc (s79.set ((k80 : Int)).toNat (x107 + x81)))), (28, .d ((cLs cI rfl).enc v1)), (29, .d (cI.enc (v1.length : Int))), (30, .d (cI.enc (k80 : Int)))] (by kernel_rfl) <| xn <| reg_s <| st rfl <| b_inc rfl rfl l78 hk82 <| st rfl <| mvd rfl rfl <| seqN [(1, .d ((cLs cI rfl).enc v1)), (6, .d ((cLo cI).enc (s79.set ((k80 : Int)).toNat (x107 + x81)))), (28, .d ((cLs cI rfl).enc v1)), (29, .d (cI.enc (v1.length : Int))), (30, .d (cI.enc ((k80 + 1 : Nat) : Int)))] (by kernel_rfl) <|
    xn <| hn101 (s79.set ((k80 : Int)).toNat (x107 + x81)) h))))

def rs_laws_eqIntS (r : Bool) : List D := [cB.enc r]
def m18 : MC := .seq (.reg [⟨some 4, .asg (.c (.bool false)), none⟩] [0, 1])
  (.seq (.kp [0, 1] (.seq (.reg [⟨some 6, .mv (.t 0), none⟩,
    ⟨some 7, .len false (.t 6), none⟩,
    ⟨some 8, .mv (.t 1), none⟩,
    ⟨some 9, .len false (.t 8), none⟩,
    ⟨some 10, .bin .neq (.t 7) (.t 9), none⟩] [0, 1, 10])
  (.cond (.t 10) (.seq (.reg [⟨some 4, .asg (.c (.bool false)), none⟩] [4])
  (.ret)) (.skip))))
  (.seq (.kp [] (.seq (.reg [⟨some 5, .asg (.c (.int .i64 0)), none⟩] [0, 1, 5])
  (.blk 0 (.loop (.seq (.kp [0, 1, 5] (.seq (.reg [⟨some 11, .mv (.t 5), none⟩,
    ⟨some 12, .mv (.t 0), none⟩,
    ⟨some 13, .len false (.t 12), none⟩,
    ⟨some 14, .bin .lss (.t 11) (.t 13), none⟩] [0, 1, 5, 14])
  (.cond (.t 14) (.skip) (.exit 0))))
  (.seq (.kp [0, 1, 5] (.blk 1 (.seq (.drw [⟨0, ⟨some 17, .mv (.t 0), none⟩, [18, 19, 20, 21, 22, 23, 24, 25]⟩,
    ⟨1, ⟨some 18, .mv (.t 5), none⟩, [17, 19, 20, 21, 22, 23, 24, 25]⟩,
    ⟨2, ⟨some 19, .ia 17 (.t 18) 1, none⟩, [20, 21, 22, 23, 24, 25]⟩,
    ⟨3, ⟨some 20, .ld 19 1 false, none⟩, [21, 22, 23, 24, 25]⟩,
    ⟨4, ⟨some 21, .mv (.t 1), none⟩, [17, 18, 19, 20, 22, 23, 24, 25]⟩,
    ⟨5, ⟨some 22, .mv (.t 5), none⟩, [17, 18, 19, 20, 21, 23, 24, 25]⟩,
    ⟨6, ⟨some 23, .ia 21 (.t 22) 1, none⟩, [17, 18, 19, 20, 24, 25]⟩,
    ⟨7, ⟨some 24, .ld 23 1 false, none⟩, [17, 18, 19, 20, 25]⟩,
    ⟨8, ⟨some 25, .bin .neq (.t 20) (.t 24), none⟩, []⟩]
    [] [0, 1, 5, 25])
  (.cond (.t 25) (.seq (.reg [⟨some 4, .asg (.c (.bool false)), none⟩] [4])
  (.ret)) (.skip)))))
  (.reg [⟨some 15, .mv (.t 5), none⟩,
    ⟨some 16, .bin .add (.t 15) (.c (.int .i64 1)), none⟩,
    ⟨some 5, .asg (.t 16), none⟩] [0, 1, 5])))))))
  (.seq (.reg [⟨some 4, .asg (.c (.bool true)), none⟩] [4])
  (.ret))))
theorem con_laws_eqIntS {v0 : (List Int)} {v1 : (List Int)} {r : Bool} (h : sh_laws_eqIntS v0 v1 = some r) : Con Try.prog 18 [(cLs cI rfl).enc v0, (cLs cI rfl).enc v1] [] (rs_laws_eqIntS r) := by
  delta sh_laws_eqIntS at h
  refine top (out := none) (f := Try.f18) (m := m18) (rs := [.t 4]) (by kernel_rfl) rfl (by kernel_rfl) (by kernel_rfl) (by kernel_rfl) (by kernel_rfl) (by kernel_rfl) ?_
  exact
   ini [(0, .d ((cLs cI rfl).enc v0)), (1, .d ((cLs cI rfl).enc v1))] rfl <| wpC_seq <| reg_s <| x_asg (sc cB false rfl) <| seqN [(0, .d ((cLs cI rfl).enc v0)), (1, .d ((cLs cI rfl).enc v1))] (by kernel_rfl) <|
    xn <| wpC_seq <| wpC_kp <| wpC_seq <| reg_s <| st rfl <| mvd rfl rfl <| stw rfl <| lens rfl fun l8 => st rfl <| mvd rfl rfl <| stw rfl <| lens rfl fun l9 => st rfl <| b_neq (k := .i64) rfl rfl <| seqN [(0, .d ((cLs cI rfl).enc v0)), (1, .d ((cLs cI rfl).enc v1)), (10, .d (cB.enc (decide ((v0.length : Int) ≠ (v1.length : Int)))))] (by kernel_rfl) <|
    xn <| cnd rfl h (fun b10 h => wpC_seq <| reg_s <| x_asg (sc cB false rfl) <| seqN [(4, .d (cB.enc false))] (by kernel_rfl) <|
    xn <| wpC_ret <| rt <| rt <| re <| fin h (r1 (ss rfl rfl) <| r0) rfl)
    (fun b10 h => wpC_skip <| kpN [(0, .d ((cLs cI rfl).enc v0)), (1, .d ((cLs cI rfl).enc v1))] (by kernel_rfl) <| xn <| wpC_seq <| wpC_kp <| wpC_seq <| reg_s <| x_asg (sc cI (0 : Int) rfl) <| seqN [(0, .d ((cLs cI rfl).enc v0)), (1, .d ((cLs cI rfl).enc v1)), (5, .d (cI.enc (0 : Int)))] (by kernel_rfl) <|
    xn <| wpC_blk <| lpF (fun (s118 : Int) => [(0, .d ((cLs cI rfl).enc v0)), (1, .d ((cLs cI rfl).enc v1)), (5, .d (cI.enc s118))]) (0 : Int) rfl h
    fun G191 nx189 s118 hn190 h => wpC_seq <| wpC_kp <| wpC_seq <| reg_s <| st rfl <| mvd rfl rfl <| st rfl <| mvd rfl rfl <| stw rfl <| lens rfl fun l196 => st rfl <| b_lss (k := .i64) rfl rfl <| seqN [(0, .d ((cLs cI rfl).enc v0)), (1, .d ((cLs cI rfl).enc v1)), (5, .d (cI.enc s118)), (14, .d (cB.enc (decide (s118 < (v0.length : Int)))))] (by kernel_rfl) <|
    xn <| cnd rfl h (fun b197 h => wpC_skip <| kpN [(0, .d ((cLs cI rfl).enc v0)), (1, .d ((cLs cI rfl).enc v1)), (5, .d (cI.enc s118))] (by kernel_rfl) <| xn <| wpC_seq <| wpC_kp <| wpC_blk <| wpC_seq <| drw_s <| pst rfl <| mvd rfl rfl ⟨rfl, pst rfl <| mvd rfl rfl ⟨rfl, getO_kp h fun x217 i218 g219 h => pst rfl <| ias rfl rfl i218 g219 rfl ⟨rfl, pst rfl <| ldi rfl rfl rfl rfl ⟨rfl, pst rfl <| mvd rfl rfl ⟨rfl, pst rfl <| mvd rfl rfl ⟨rfl, getO_kp h fun x220 i221 g222 h => pst rfl <| ias rfl rfl i221 g222 rfl ⟨rfl, pst rfl <| ldi rfl rfl rfl rfl ⟨rfl, pst rfl <| b_neq (k := .i64) rfl rfl ⟨rfl, preN <| seqN [(0, .d ((cLs cI rfl).enc v0)), (1, .d ((cLs cI rfl).enc v1)), (5, .d (cI.enc s118)), (25, .d (cB.enc (decide (x217 ≠ x220))))] (by kernel_rfl) <|
    xn <| cnd rfl h (fun b223 h => wpC_seq <| reg_s <| x_asg (sc cB false rfl) <| seqN [(4, .d (cB.enc false))] (by kernel_rfl) <|
    xn <| wpC_ret <| rb <| rt <| rt <| rt <| rb <| rt <| rt <| re <| fin h (r1 (ss rfl rfl) <| r0) rfl)
    (fun b223 h => wpC_skip <| xbb <| kpN [(0, .d ((cLs cI rfl).enc v0)), (1, .d ((cLs cI rfl).enc v1)), (5, .d (cI.enc s118))] (by kernel_rfl) <| xn <| reg_s <| st rfl <| mvd rfl rfl <| ckI_k h fun i224 h => st rfl <| b_add (k := .i64) rfl rfl i224 <| x_asg (ss rfl rfl) <| seqN [(0, .d ((cLs cI rfl).enc v0)), (1, .d ((cLs cI rfl).enc v1)), (5, .d (cI.enc (s118 + (1 : Int))))] (by kernel_rfl) <|
    xn <| hn190 (s118 + (1 : Int)) h)⟩⟩⟩⟩⟩⟩⟩⟩⟩)
    (fun b197 h => wpC_exit <| xt <| xt <| xt <| xb <| kpN [] (by kernel_rfl) <| xn <| wpC_seq <| reg_s <| x_asg (sc cB true rfl) <| seqN [(4, .d (cB.enc true))] (by kernel_rfl) <|
    xn <| wpC_ret <| re <| fin h (r1 (ss rfl rfl) <| r0) rfl))

def os_laws_markIntS (r : ((List Int) × Int)) : D := (cLo cI).enc r.1
def rs_laws_markIntS (r : ((List Int) × Int)) : List D := [cI.enc r.2]
def m19 : MC := .seq (.reg [⟨some 4, .asg (.c (.int .i64 0)), none⟩] [0, 1])
  (.seq (.kp [0, 1] (.seq (.reg [⟨some 5, .asg (.c (.int .i64 0)), none⟩] [0, 1, 5])
  (.blk 0 (.loop (.seq (.kp [0, 1, 5] (.seq (.reg [⟨some 6, .mv (.t 5), none⟩,
    ⟨some 7, .mv (.t 0), none⟩,
    ⟨some 8, .len false (.t 7), none⟩,
    ⟨some 9, .bin .lss (.t 6) (.t 8), none⟩] [0, 1, 5, 9])
  (.cond (.t 9) (.skip) (.exit 0))))
  (.seq (.kp [0, 1, 5] (.blk 1 (.seq (.reg [⟨some 12, .mv (.t 0), none⟩,
    ⟨some 13, .mv (.t 5), none⟩,
    ⟨some 14, .mv (.t 1), none⟩,
    ⟨some 15, .ia 12 (.t 13) 1, none⟩,
    ⟨none, .st 15 (.t 14) 1, none⟩] [0, 1, 5])
  (.reg [⟨some 16, .mv (.t 1), none⟩,
    ⟨some 17, .bin .add (.t 16) (.c (.int .i64 1)), none⟩,
    ⟨some 1, .asg (.t 17), none⟩] [0, 1, 5]))))
  (.reg [⟨some 10, .mv (.t 5), none⟩,
    ⟨some 11, .bin .add (.t 10) (.c (.int .i64 1)), none⟩,
    ⟨some 5, .asg (.t 11), none⟩] [0, 1, 5])))))))
  (.seq (.reg [⟨some 18, .mv (.t 1), none⟩,
    ⟨some 4, .asg (.t 18), none⟩] [0, 4])
  (.ret)))
theorem con_laws_markIntS {v0 : (List Int)} {v1 : Int} {r : ((List Int) × Int)} (h : sh_laws_markIntS v0 v1 = some r) : Con Try.prog 19 [(cLo cI).enc v0, cI.enc v1] (outsOf (some (os_laws_markIntS r))) (rs_laws_markIntS r) := by
  delta sh_laws_markIntS at h
  refine top (out := some (os_laws_markIntS r)) (f := Try.f19) (m := m19) (rs := [.t 4]) (by kernel_rfl) rfl (by kernel_rfl) (by kernel_rfl) (by kernel_rfl) (by kernel_rfl) (by kernel_rfl) ?_
  exact
   ini [(0, .d ((cLo cI).enc v0)), (1, .d (cI.enc v1))] rfl <| wpC_seq <| reg_s <| x_asg (sc cI (0 : Int) rfl) <| seqN [(0, .d ((cLo cI).enc v0)), (1, .d (cI.enc v1))] (by kernel_rfl) <|
    xn <| wpC_seq <| wpC_kp <| wpC_seq <| reg_s <| x_asg (sc cI (0 : Int) rfl) <| seqN [(0, .d ((cLo cI).enc v0)), (1, .d (cI.enc v1)), (5, .d (cI.enc (0 : Int)))] (by kernel_rfl) <|
    xn <| wpC_blk <| lpF (fun (s72 : ((List Int) × Int × Int)) => [(0, .d ((cLo cI).enc s72.1)), (1, .d (cI.enc s72.2.1)), (5, .d (cI.enc s72.2.2))]) (v0, v1, (0 : Int)) rfl h
    fun G121 nx119 s72 hn120 h => wpC_seq <| wpC_kp <| wpC_seq <| reg_s <| st rfl <| mvd rfl rfl <| st rfl <| mvo rfl rfl <| stw rfl <| leno rfl fun l126 => st rfl <| b_lss (k := .i64) rfl rfl <| seqN [(0, .d ((cLo cI).enc s72.1)), (1, .d (cI.enc s72.2.1)), (5, .d (cI.enc s72.2.2)), (9, .d (cB.enc (decide (s72.2.2 < (s72.1.length : Int)))))] (by kernel_rfl) <|
    xn <| cnd rfl h (fun b127 h => wpC_skip <| kpN [(0, .d ((cLo cI).enc s72.1)), (1, .d (cI.enc s72.2.1)), (5, .d (cI.enc s72.2.2))] (by kernel_rfl) <| xn <| wpC_seq <| wpC_kp <| wpC_blk <| wpC_seq <| reg_s <| st rfl <| mvo rfl rfl <| st rfl <| mvd rfl rfl <| st rfl <| mvd rfl rfl <| getO_k h fun x138 i139 g140 h => st rfl <| iar rfl rfl rfl rfl i139 g140 rfl <| x_sta ((cLo cI).enc (s72.1.set (s72.2.2).toNat s72.2.1)) (ss rfl rfl) rfl rfl (Ln.idx g140 Ln.nil) (Cd.h_sz cI _) rfl <| seqN [(0, .d ((cLo cI).enc (s72.1.set (s72.2.2).toNat s72.2.1))), (1, .d (cI.enc s72.2.1)), (5, .d (cI.enc s72.2.2))] (by kernel_rfl) <|
    xn <| reg_s <| st rfl <| mvd rfl rfl <| ckI_k h fun i141 h => st rfl <| b_add (k := .i64) rfl rfl i141 <| x_asg (ss rfl rfl) <| seqN [(0, .d ((cLo cI).enc (s72.1.set (s72.2.2).toNat s72.2.1))), (1, .d (cI.enc (s72.2.1 + (1 : Int)))), (5, .d (cI.enc s72.2.2))] (by kernel_rfl) <|
    xbb <| kpN [(0, .d ((cLo cI).enc (s72.1.set (s72.2.2).toNat s72.2.1))), (1, .d (cI.enc (s72.2.1 + (1 : Int)))), (5, .d (cI.enc s72.2.2))] (by kernel_rfl) <| xn <| reg_s <| st rfl <| mvd rfl rfl <| ckI_k h fun i142 h => st rfl <| b_add (k := .i64) rfl rfl i142 <| x_asg (ss rfl rfl) <| seqN [(0, .d ((cLo cI).enc (s72.1.set (s72.2.2).toNat s72.2.1))), (1, .d (cI.enc (s72.2.1 + (1 : Int)))), (5, .d (cI.enc (s72.2.2 + (1 : Int))))] (by kernel_rfl) <|
    xn <| hn120 ((s72.1.set (s72.2.2).toNat s72.2.1), (s72.2.1 + (1 : Int)), (s72.2.2 + (1 : Int))) h)
    (fun b127 h => wpC_exit <| xt <| xt <| xt <| xb <| kpN [(0, .d ((cLo cI).enc s72.1)), (1, .d (cI.enc s72.2.1))] (by kernel_rfl) <| xn <| wpC_seq <| reg_s <| st rfl <| mvd rfl rfl <| x_asg (ss rfl rfl) <| seqN [(0, .d ((cLo cI).enc s72.1)), (4, .d (cI.enc s72.2.1))] (by kernel_rfl) <|
    xn <| wpC_ret <| re <| finO h (r1 (ss rfl rfl) <| r0) rfl rfl)

def rs_laws_heldIntS (r : Int) : List D := [cI.enc r]
def m20 : MC := .seq (.reg [⟨some 4, .asg (.c (.int .i64 0)), none⟩] [0, 1])
  (.seq (.kp [1] (.seq (.reg [⟨some 5, .asg (.c (.int .i64 0)), none⟩] [0, 1, 5])
  (.blk 0 (.loop (.seq (.kp [0, 1, 5] (.seq (.reg [⟨some 6, .mv (.t 5), none⟩,
    ⟨some 7, .mv (.t 0), none⟩,
    ⟨some 8, .len false (.t 7), none⟩,
    ⟨some 9, .bin .lss (.t 6) (.t 8), none⟩] [0, 1, 5, 9])
  (.cond (.t 9) (.skip) (.exit 0))))
  (.seq (.kp [0, 1, 5] (.blk 1 (.seq (.kp [0, 1, 5] (.seq (.reg [⟨some 12, .mv (.t 0), none⟩,
    ⟨some 13, .mv (.t 5), none⟩,
    ⟨some 14, .ia 12 (.t 13) 1, none⟩,
    ⟨some 15, .ld 14 1 false, none⟩,
    ⟨some 16, .mv (.t 1), none⟩,
    ⟨some 17, .bin .neq (.t 15) (.t 16), none⟩] [0, 1, 5, 17])
  (.cond (.t 17) (.seq (.reg [⟨some 4, .asg (.c (.int .i64 (-1))), none⟩] [4])
  (.ret)) (.skip))))
  (.reg [⟨some 18, .mv (.t 1), none⟩,
    ⟨some 19, .bin .add (.t 18) (.c (.int .i64 1)), none⟩,
    ⟨some 1, .asg (.t 19), none⟩] [0, 1, 5]))))
  (.reg [⟨some 10, .mv (.t 5), none⟩,
    ⟨some 11, .bin .add (.t 10) (.c (.int .i64 1)), none⟩,
    ⟨some 5, .asg (.t 11), none⟩] [0, 1, 5])))))))
  (.seq (.reg [⟨some 20, .mv (.t 1), none⟩,
    ⟨some 4, .asg (.t 20), none⟩] [4])
  (.ret)))
theorem con_laws_heldIntS {v0 : (List Int)} {v1 : Int} {r : Int} (h : sh_laws_heldIntS v0 v1 = some r) : Con Try.prog 20 [(cLs cI rfl).enc v0, cI.enc v1] [] (rs_laws_heldIntS r) := by
  delta sh_laws_heldIntS at h
  refine top (out := none) (f := Try.f20) (m := m20) (rs := [.t 4]) (by kernel_rfl) rfl (by kernel_rfl) (by kernel_rfl) (by kernel_rfl) (by kernel_rfl) (by kernel_rfl) ?_
  exact
   ini [(0, .d ((cLs cI rfl).enc v0)), (1, .d (cI.enc v1))] rfl <| wpC_seq <| reg_s <| x_asg (sc cI (0 : Int) rfl) <| seqN [(0, .d ((cLs cI rfl).enc v0)), (1, .d (cI.enc v1))] (by kernel_rfl) <|
    xn <| wpC_seq <| wpC_kp <| wpC_seq <| reg_s <| x_asg (sc cI (0 : Int) rfl) <| seqN [(0, .d ((cLs cI rfl).enc v0)), (1, .d (cI.enc v1)), (5, .d (cI.enc (0 : Int)))] (by kernel_rfl) <|
    xn <| wpC_blk <| lpF (fun (s120 : (Int × Int)) => [(0, .d ((cLs cI rfl).enc v0)), (1, .d (cI.enc s120.1)), (5, .d (cI.enc s120.2))]) (v1, (0 : Int)) rfl h
    fun G201 nx199 s120 hn200 h => wpC_seq <| wpC_kp <| wpC_seq <| reg_s <| st rfl <| mvd rfl rfl <| st rfl <| mvd rfl rfl <| stw rfl <| lens rfl fun l206 => st rfl <| b_lss (k := .i64) rfl rfl <| seqN [(0, .d ((cLs cI rfl).enc v0)), (1, .d (cI.enc s120.1)), (5, .d (cI.enc s120.2)), (9, .d (cB.enc (decide (s120.2 < (v0.length : Int)))))] (by kernel_rfl) <|
    xn <| cnd rfl h (fun b207 h => wpC_skip <| kpN [(0, .d ((cLs cI rfl).enc v0)), (1, .d (cI.enc s120.1)), (5, .d (cI.enc s120.2))] (by kernel_rfl) <| xn <| wpC_seq <| wpC_kp <| wpC_blk <| wpC_seq <| wpC_kp <| wpC_seq <| reg_s <| st rfl <| mvd rfl rfl <| st rfl <| mvd rfl rfl <| getO_k h fun x233 i234 g235 h => st rfl <| ias rfl rfl i234 g235 rfl <| st rfl <| ldi rfl rfl rfl rfl <| st rfl <| mvd rfl rfl <| st rfl <| b_neq (k := .i64) rfl rfl <| seqN [(0, .d ((cLs cI rfl).enc v0)), (1, .d (cI.enc s120.1)), (5, .d (cI.enc s120.2)), (17, .d (cB.enc (decide (x233 ≠ s120.1))))] (by kernel_rfl) <|
    xn <| cnd rfl h (fun b236 h => wpC_seq <| reg_s <| x_asg (sc cI (-1 : Int) rfl) <| seqN [(4, .d (cI.enc (-1 : Int)))] (by kernel_rfl) <|
    xn <| wpC_ret <| rt <| rt <| rb <| rt <| rt <| rt <| rb <| rt <| rt <| re <| fin h (r1 (ss rfl rfl) <| r0) rfl)
    (fun b236 h => wpC_skip <| kpN [(0, .d ((cLs cI rfl).enc v0)), (1, .d (cI.enc s120.1)), (5, .d (cI.enc s120.2))] (by kernel_rfl) <| xn <| reg_s <| st rfl <| mvd rfl rfl <| ckI_k h fun i237 h => st rfl <| b_add (k := .i64) rfl rfl i237 <| x_asg (ss rfl rfl) <| seqN [(0, .d ((cLs cI rfl).enc v0)), (1, .d (cI.enc (s120.1 + (1 : Int)))), (5, .d (cI.enc s120.2))] (by kernel_rfl) <|
    xbb <| kpN [(0, .d ((cLs cI rfl).enc v0)), (1, .d (cI.enc (s120.1 + (1 : Int)))), (5, .d (cI.enc s120.2))] (by kernel_rfl) <| xn <| reg_s <| st rfl <| mvd rfl rfl <| ckI_k h fun i238 h => st rfl <| b_add (k := .i64) rfl rfl i238 <| x_asg (ss rfl rfl) <| seqN [(0, .d ((cLs cI rfl).enc v0)), (1, .d (cI.enc (s120.1 + (1 : Int)))), (5, .d (cI.enc (s120.2 + (1 : Int))))] (by kernel_rfl) <|
    xn <| hn200 ((s120.1 + (1 : Int)), (s120.2 + (1 : Int))) h))
    (fun b207 h => wpC_exit <| xt <| xt <| xt <| xb <| kpN [(1, .d (cI.enc s120.1))] (by kernel_rfl) <| xn <| wpC_seq <| reg_s <| st rfl <| mvd rfl rfl <| x_asg (ss rfl rfl) <| seqN [(4, .d (cI.enc s120.1))] (by kernel_rfl) <|
    xn <| wpC_ret <| re <| fin h (r1 (ss rfl rfl) <| r0) rfl)

def rs_laws_FnExactAddCells (r : Bool) : List D := [cB.enc r]
def m3 : MC := .seq (.reg [⟨some 4, .asg (.c (.bool false)), none⟩] [0, 1])
  (.seq (.kp [0, 1] (.seq (.reg [⟨some 16, .mv (.t 0), none⟩,
    ⟨some 17, .len false (.t 16), none⟩,
    ⟨some 18, .bin .gtr (.t 17) (.c (.int .i64 1048576)), none⟩] [0, 1, 18])
  (.cond (.t 18) (.seq (.reg [⟨some 4, .asg (.c (.bool true)), none⟩] [4])
  (.ret)) (.skip))))
  (.seq (.kp [0, 1] (.seq (.reg [⟨some 19, .mv (.t 1), none⟩,
    ⟨some 20, .len false (.t 19), none⟩,
    ⟨some 21, .bin .gtr (.t 20) (.c (.int .i64 1048576)), none⟩] [0, 1, 21])
  (.cond (.t 21) (.seq (.reg [⟨some 4, .asg (.c (.bool true)), none⟩] [4])
  (.ret)) (.skip))))
  (.seq (.reg [⟨some 23, .mv (.t 0), none⟩,
    ⟨some 24, .call 16 [(.t 23)], none⟩,
    ⟨some 25, .mv (.t 1), none⟩,
    ⟨some 26, .call 16 [(.t 25)], none⟩,
    ⟨some 27, .call 15 [(.t 24), (.t 26)], none⟩,
    ⟨some 22, .mvt 27, none⟩,
    ⟨some 28, .ext 22 0, none⟩,
    ⟨some 29, .ext 22 1, none⟩,
    ⟨some 5, .asg (.t 28), none⟩,
    ⟨some 6, .asg (.t 29), none⟩] [0, 1, 5, 6])
  (.seq (.reg [⟨some 30, .mv (.t 0), none⟩,
    ⟨some 31, .call 16 [(.t 30)], none⟩,
    ⟨some 7, .asg (.t 31), none⟩] [0, 1, 5, 6, 7])
  (.seq (.reg [⟨some 32, .mv (.t 1), none⟩,
    ⟨some 33, .call 16 [(.t 32)], none⟩,
    ⟨some 8, .asg (.t 33), none⟩] [0, 1, 5, 6, 7, 8])
  (.seq (.reg [⟨some 35, .mv (.t 7), none⟩,
    ⟨some 36, .mv (.t 8), none⟩,
    ⟨some 37, .call 17 [(.t 35), (.t 36)], none⟩,
    ⟨some 34, .mvt 37, none⟩,
    ⟨some 38, .ext 34 0, none⟩,
    ⟨some 39, .ext 34 1, none⟩,
    ⟨some 9, .asg (.t 38), none⟩,
    ⟨some 10, .asg (.t 39), none⟩] [0, 1, 5, 6, 7, 8, 9, 10])
  (.seq (.kp [0, 1, 5, 6, 7, 8, 9, 10] (.seq (.reg [⟨some 40, .mv (.t 9), none⟩,
    ⟨some 41, .mv (.t 5), none⟩,
    ⟨some 42, .call 18 [(.t 40), (.t 41)], none⟩,
    ⟨some 43, .nt (.t 42), none⟩,
    ⟨some 44, .mv (.t 43), none⟩,
    ⟨some 45, .mv (.t 10), some (44, false)⟩,
    ⟨some 46, .mv (.t 6), some (44, false)⟩,
    ⟨some 47, .eqb true (.t 45) (.t 46), some (44, false)⟩,
    ⟨some 48, .pick (.t 44) (.c (.bool true)) (.t 47), none⟩] [0, 1, 5, 6, 7, 8, 9, 10, 48])
  (.cond (.t 48) (.seq (.reg [⟨some 4, .asg (.c (.bool false)), none⟩] [4])
  (.ret)) (.skip))))
  (.seq (.kp [0, 1, 5, 6, 7, 8, 9, 10] (.seq (.reg [⟨some 49, .mv (.t 7), none⟩,
    ⟨some 50, .mv (.t 0), none⟩,
    ⟨some 51, .call 16 [(.t 50)], none⟩,
    ⟨some 52, .call 18 [(.t 49), (.t 51)], none⟩,
    ⟨some 53, .nt (.t 52), none⟩] [0, 1, 5, 6, 7, 8, 9, 10, 53])
  (.cond (.t 53) (.seq (.reg [⟨some 4, .asg (.c (.bool false)), none⟩] [4])
  (.ret)) (.skip))))
  (.seq (.kp [0, 1, 5, 6, 7, 8, 9, 10] (.seq (.reg [⟨some 54, .mv (.t 8), none⟩,
    ⟨some 55, .mv (.t 1), none⟩,
    ⟨some 56, .call 16 [(.t 55)], none⟩,
    ⟨some 57, .call 18 [(.t 54), (.t 56)], none⟩,
    ⟨some 58, .nt (.t 57), none⟩] [0, 1, 5, 6, 7, 8, 9, 10, 58])
  (.cond (.t 58) (.seq (.reg [⟨some 4, .asg (.c (.bool false)), none⟩] [4])
  (.ret)) (.skip))))
  (.seq (.reg [⟨some 11, .asg (.c (.int .i64 1)), none⟩] [0, 1, 5, 6, 7, 8, 9, 10, 11])
  (.seq (.reg [⟨some 59, .mv (.t 7), none⟩,
    ⟨some 60, .mv (.t 11), none⟩,
    ⟨some 61, .callO 19 [(.t 59), (.t 60)], none⟩,
    ⟨some 11, .asg (.t 61), none⟩] [0, 1, 5, 6, 8, 9, 10, 11])
  (.seq (.reg [⟨some 62, .mv (.t 8), none⟩,
    ⟨some 63, .mv (.t 11), none⟩,
    ⟨some 64, .callO 19 [(.t 62), (.t 63)], none⟩,
    ⟨some 11, .asg (.t 64), none⟩] [0, 1, 5, 6, 9, 10, 11])
  (.seq (.kp [0, 1, 5, 6, 9] (.seq (.reg [⟨some 65, .mv (.t 11), none⟩,
    ⟨some 66, .bin .lss (.t 65) (.c (.int .i64 0)), none⟩,
    ⟨some 67, .mv (.t 66), none⟩,
    ⟨some 68, .mv (.t 9), some (67, false)⟩,
    ⟨some 69, .mv (.t 5), some (67, false)⟩,
    ⟨some 70, .call 18 [(.t 68), (.t 69)], some (67, false)⟩,
    ⟨some 71, .nt (.t 70), some (67, false)⟩,
    ⟨some 72, .pick (.t 67) (.c (.bool true)) (.t 71), none⟩,
    ⟨some 73, .mv (.t 72), none⟩,
    ⟨some 74, .mv (.t 10), some (73, false)⟩,
    ⟨some 75, .mv (.t 6), some (73, false)⟩,
    ⟨some 76, .eqb true (.t 74) (.t 75), some (73, false)⟩,
    ⟨some 77, .pick (.t 73) (.c (.bool true)) (.t 76), none⟩] [0, 1, 5, 6, 9, 77])
  (.cond (.t 77) (.seq (.reg [⟨some 4, .asg (.c (.bool false)), none⟩] [4])
  (.ret)) (.skip))))
  (.seq (.reg [⟨some 12, .asg (.c (.int .i64 1)), none⟩] [0, 1, 5, 6, 9, 12])
  (.seq (.reg [⟨some 78, .mv (.t 9), none⟩,
    ⟨some 79, .mv (.t 12), none⟩,
    ⟨some 80, .callO 19 [(.t 78), (.t 79)], none⟩,
    ⟨some 12, .asg (.t 80), none⟩] [0, 1, 5, 6, 9, 12])
  (.seq (.reg [⟨some 13, .asg (.c (.int .i64 1)), none⟩] [0, 1, 5, 6, 9, 12, 13])
  (.seq (.reg [⟨some 81, .mv (.t 9), none⟩,
    ⟨some 82, .mv (.t 13), none⟩,
    ⟨some 83, .call 20 [(.t 81), (.t 82)], none⟩,
    ⟨some 13, .asg (.t 83), none⟩] [0, 1, 5, 6, 9, 12, 13])
  (.seq (.kp [0, 1, 5, 6, 9, 12, 13] (.seq (.reg [⟨some 84, .mv (.t 13), none⟩,
    ⟨some 85, .bin .lss (.t 84) (.c (.int .i64 0)), none⟩] [0, 1, 5, 6, 9, 12, 13, 85])
  (.cond (.t 85) (.seq (.reg [⟨some 4, .asg (.c (.bool false)), none⟩] [4])
  (.ret)) (.skip))))
  (.seq (.kp [0, 1, 5, 6, 9, 12] (.seq (.reg [⟨some 86, .mv (.t 13), none⟩,
    ⟨some 87, .mv (.t 12), none⟩,
    ⟨some 88, .bin .neq (.t 86) (.t 87), none⟩] [0, 1, 5, 6, 9, 12, 88])
  (.cond (.t 88) (.seq (.reg [⟨some 4, .asg (.c (.bool false)), none⟩] [4])
  (.ret)) (.skip))))
  (.seq (.reg [⟨some 90, .mv (.t 0), none⟩,
    ⟨some 91, .call 16 [(.t 90)], none⟩,
    ⟨some 92, .mv (.t 1), none⟩,
    ⟨some 93, .call 16 [(.t 92)], none⟩,
    ⟨some 94, .call 17 [(.t 91), (.t 93)], none⟩,
    ⟨some 89, .mvt 94, none⟩,
    ⟨some 95, .ext 89 0, none⟩,
    ⟨some 96, .ext 89 1, none⟩,
    ⟨some 14, .asg (.t 95), none⟩,
    ⟨some 15, .asg (.t 96), none⟩] [5, 6, 9, 12, 14, 15])
  (.seq (.kp [9, 12] (.seq (.reg [⟨some 97, .mv (.t 14), none⟩,
    ⟨some 98, .mv (.t 5), none⟩,
    ⟨some 99, .call 18 [(.t 97), (.t 98)], none⟩,
    ⟨some 100, .nt (.t 99), none⟩,
    ⟨some 101, .mv (.t 100), none⟩,
    ⟨some 102, .mv (.t 15), some (101, false)⟩,
    ⟨some 103, .mv (.t 6), some (101, false)⟩,
    ⟨some 104, .eqb true (.t 102) (.t 103), some (101, false)⟩,
    ⟨some 105, .pick (.t 101) (.c (.bool true)) (.t 104), none⟩] [9, 12, 105])
  (.cond (.t 105) (.seq (.reg [⟨some 4, .asg (.c (.bool false)), none⟩] [4])
  (.ret)) (.skip))))
  (.seq (.reg [⟨some 13, .asg (.c (.int .i64 1)), none⟩] [9, 12, 13])
  (.seq (.reg [⟨some 106, .mv (.t 9), none⟩,
    ⟨some 107, .mv (.t 13), none⟩,
    ⟨some 108, .call 20 [(.t 106), (.t 107)], none⟩,
    ⟨some 13, .asg (.t 108), none⟩] [12, 13])
  (.seq (.kp [12, 13] (.seq (.reg [⟨some 109, .mv (.t 13), none⟩,
    ⟨some 110, .bin .lss (.t 109) (.c (.int .i64 0)), none⟩] [12, 13, 110])
  (.cond (.t 110) (.seq (.reg [⟨some 4, .asg (.c (.bool false)), none⟩] [4])
  (.ret)) (.skip))))
  (.seq (.kp [] (.seq (.reg [⟨some 111, .mv (.t 13), none⟩,
    ⟨some 112, .mv (.t 12), none⟩,
    ⟨some 113, .bin .neq (.t 111) (.t 112), none⟩] [113])
  (.cond (.t 113) (.seq (.reg [⟨some 4, .asg (.c (.bool false)), none⟩] [4])
  (.ret)) (.skip))))
  (.seq (.reg [⟨some 4, .asg (.c (.bool true)), none⟩] [4])
  (.ret)))))))))))))))))))))))))))
theorem con_laws_FnExactAddCells {v0 : (List Int)} {v1 : (List Int)} {r : Bool} (h : sh_laws_FnExactAddCells v0 v1 = some r) : Con Try.prog 3 [(cLs cI rfl).enc v0, (cLs cI rfl).enc v1] [] (rs_laws_FnExactAddCells r) := by
  delta sh_laws_FnExactAddCells at h
  refine top (out := none) (f := Try.f3) (m := m3) (rs := [.t 4]) (by kernel_rfl) rfl (by kernel_rfl) (by kernel_rfl) (by kernel_rfl) (by kernel_rfl) (by kernel_rfl) ?_
  exact
   ini [(0, .d ((cLs cI rfl).enc v0)), (1, .d ((cLs cI rfl).enc v1))] rfl <| wpC_seq <| reg_s <| x_asg (sc cB false rfl) <| seqN [(0, .d ((cLs cI rfl).enc v0)), (1, .d ((cLs cI rfl).enc v1))] (by kernel_rfl) <|
    xn <| wpC_seq <| wpC_kp <| wpC_seq <| reg_s <| st rfl <| mvd rfl rfl <| stw rfl <| lens rfl fun l5 => st rfl <| b_gtr (k := .i64) rfl rfl <| seqN [(0, .d ((cLs cI rfl).enc v0)), (1, .d ((cLs cI rfl).enc v1)), (18, .d (cB.enc (decide ((1048576 : Int) < (v0.length : Int)))))] (by kernel_rfl) <|
    xn <| cnd rfl h (fun b6 h => wpC_seq <| reg_s <| x_asg (sc cB true rfl) <| seqN [(4, .d (cB.enc true))] (by kernel_rfl) <|
    xn <| wpC_ret <| rt <| rt <| re <| fin h (r1 (ss rfl rfl) <| r0) rfl)
    (fun b6 h => wpC_skip <| kpN [(0, .d ((cLs cI rfl).enc v0)), (1, .d ((cLs cI rfl).enc v1))] (by kernel_rfl) <| xn <| wpC_seq <| wpC_kp <| wpC_seq <| reg_s <| st rfl <| mvd rfl rfl <| stw rfl <| lens rfl fun l11 => st rfl <| b_gtr (k := .i64) rfl rfl <| seqN [(0, .d ((cLs cI rfl).enc v0)), (1, .d ((cLs cI rfl).enc v1)), (21, .d (cB.enc (decide ((1048576 : Int) < (v1.length : Int)))))] (by kernel_rfl) <|
    xn <| cnd rfl h (fun b12 h => wpC_seq <| reg_s <| x_asg (sc cB true rfl) <| seqN [(4, .d (cB.enc true))] (by kernel_rfl) <|
    xn <| wpC_ret <| rt <| rt <| re <| fin h (r1 (ss rfl rfl) <| r0) rfl)
    (fun b12 h => wpC_skip <| kpN [(0, .d ((cLs cI rfl).enc v0)), (1, .d ((cLs cI rfl).enc v1))] (by kernel_rfl) <| xn <| wpC_seq <| reg_s <| st rfl <| mvd rfl rfl <| bnd h fun x19 e20 h => st rfl <| o_call (a1 (c := (cLs cI rfl)) (tLs tK) rfl a0) (con_laws_toIntS e20) (.inl (so1 (sLo sK) so0)) <| st rfl <| mvd rfl rfl <| bnd h fun x21 e22 h => st rfl <| o_call (a1 (c := (cLs cI rfl)) (tLs tK) rfl a0) (con_laws_toIntS e22) (.inl (so1 (sLo sK) so0)) <| bnd h fun x23 e24 h => st rfl <| o_call (a1 (c := (cLo cI)) (tLo tK) rfl (a1 (c := (cLo cI)) (tLo tK) rfl a0)) (con_spec_AddCells e24) (.inl (so1 (sLo sK) (so1 sB so0))) <| x_mvt rfl <| x_ext rfl rfl <| x_ext rfl rfl <| x_asg (so rfl rfl) <| x_asg (ss rfl rfl) <| seqN [(0, .d ((cLs cI rfl).enc v0)), (1, .d ((cLs cI rfl).enc v1)), (5, .d ((cLo cI).enc x23.1)), (6, .d (cB.enc x23.2))] (by kernel_rfl) <|
    xn <| wpC_seq <| reg_s <| st rfl <| mvd rfl rfl <| bnd h fun x27 e28 h => st rfl <| o_call (a1 (c := (cLs cI rfl)) (tLs tK) rfl a0) (con_laws_toIntS e28) (.inl (so1 (sLo sK) so0)) <| x_asg (so rfl rfl) <| seqN [(0, .d ((cLs cI rfl).enc v0)), (1, .d ((cLs cI rfl).enc v1)), (5, .d ((cLo cI).enc x23.1)), (6, .d (cB.enc x23.2)), (7, .d ((cLo cI).enc x27))] (by kernel_rfl) <|
    xn <| wpC_seq <| reg_s <| st rfl <| mvd rfl rfl <| bnd h fun x31 e32 h => st rfl <| o_call (a1 (c := (cLs cI rfl)) (tLs tK) rfl a0) (con_laws_toIntS e32) (.inl (so1 (sLo sK) so0)) <| x_asg (so rfl rfl) <| seqN [(0, .d ((cLs cI rfl).enc v0)), (1, .d ((cLs cI rfl).enc v1)), (5, .d ((cLo cI).enc x23.1)), (6, .d (cB.enc x23.2)), (7, .d ((cLo cI).enc x27)), (8, .d ((cLo cI).enc x31))] (by kernel_rfl) <|
    xn <| wpC_seq <| reg_s <| st rfl <| mvo rfl rfl <| st rfl <| mvo rfl rfl <| bnd h fun x35 e36 h => st rfl <| o_call (a1 (c := (cLo cI)) (tLo tK) rfl (a1 (c := (cLo cI)) (tLo tK) rfl a0)) (con_impl_AddCells e36) (.inl (so1 (sLo sK) (so1 sB so0))) <| x_mvt rfl <| x_ext rfl rfl <| x_ext rfl rfl <| x_asg (so rfl rfl) <| x_asg (ss rfl rfl) <| seqN [(0, .d ((cLs cI rfl).enc v0)), (1, .d ((cLs cI rfl).enc v1)), (5, .d ((cLo cI).enc x23.1)), (6, .d (cB.enc x23.2)), (7, .d ((cLo cI).enc x27)), (8, .d ((cLo cI).enc x31)), (9, .d ((cLo cI).enc x35.1)), (10, .d (cB.enc x35.2))] (by kernel_rfl) <|
    xn <| wpC_seq <| wpC_kp <| wpC_seq <| reg_s <| st rfl <| mvo rfl rfl <| st rfl <| mvo rfl rfl <| bnd h fun x47 e48 h => st rfl <| o_call (a1 (c := (cLo cI)) (tLo tK) rfl (a1 (c := (cLo cI)) (tLo tK) rfl a0)) (con_laws_eqIntS e48) (.inl (so1 sB so0)) <| st rfl <| o_nt rfl <| st rfl <| mvd rfl rfl <| ite_k h (fun b49 h => gf rfl b49 <| gf rfl b49 <| gf rfl b49 <| st rfl <| pick1 rfl b49 (cd := cB) (v := true) rfl rfl <| seqN [(0, .d ((cLs cI rfl).enc v0)), (1, .d ((cLs cI rfl).enc v1)), (5, .d ((cLo cI).enc x23.1)), (6, .d (cB.enc x23.2)), (7, .d ((cLo cI).enc x27)), (8, .d ((cLo cI).enc x31)), (9, .d ((cLo cI).enc x35.1)), (10, .d (cB.enc x35.2)), (48, .d (cB.enc true))] (by kernel_rfl) <|
    xn <| cnd1 rfl rfl <| wpC_seq <| reg_s <| x_asg (sc cB false rfl) <| seqN [(4, .d (cB.enc false))] (by kernel_rfl) <|
    xn <| wpC_ret <| rt <| rt <| re <| fin h (r1 (ss rfl rfl) <| r0) rfl)
    (fun b49 h => gt' rfl b49 <| st rfl <| mvd rfl rfl <| gt' rfl b49 <| st rfl <| mvd rfl rfl <| gt' rfl b49 <| st rfl <| eqb1 rfl rfl <| st rfl <| pick0 rfl b49 (cd := cB) (v := (x35.2 != x23.2)) rfl rfl <| seqN [(0, .d ((cLs cI rfl).enc v0)), (1, .d ((cLs cI rfl).enc v1)), (5, .d ((cLo cI).enc x23.1)), (6, .d (cB.enc x23.2)), (7, .d ((cLo cI).enc x27)), (8, .d ((cLo cI).enc x31)), (9, .d ((cLo cI).enc x35.1)), (10, .d (cB.enc x35.2)), (48, .d (cB.enc (x35.2 != x23.2)))] (by kernel_rfl) <|
    xn <| cnd rfl h (fun b50 h => wpC_seq <| reg_s <| x_asg (sc cB false rfl) <| seqN [(4, .d (cB.enc false))] (by kernel_rfl) <|
    xn <| wpC_ret <| rt <| rt <| re <| fin h (r1 (ss rfl rfl) <| r0) rfl)
    (fun b50 h => wpC_skip <| kpN [(0, .d ((cLs cI rfl).enc v0)), (1, .d ((cLs cI rfl).enc v1)), (5, .d ((cLo cI).enc x23.1)), (6, .d (cB.enc x23.2)), (7, .d ((cLo cI).enc x27)), (8, .d ((cLo cI).enc x31)), (9, .d ((cLo cI).enc x35.1)), (10, .d (cB.enc x35.2))] (by kernel_rfl) <| xn <| wpC_seq <| wpC_kp <| wpC_seq <| reg_s <| st rfl <| mvo rfl rfl <| st rfl <| mvd rfl rfl <| bnd h fun x64 e65 h => st rfl <| o_call (a1 (c := (cLs cI rfl)) (tLs tK) rfl a0) (con_laws_toIntS e65) (.inl (so1 (sLo sK) so0)) <| bnd h fun x66 e67 h => st rfl <| o_call (a1 (c := (cLo cI)) (tLo tK) rfl (a1 (c := (cLo cI)) (tLo tK) rfl a0)) (con_laws_eqIntS e67) (.inl (so1 sB so0)) <| st rfl <| o_nt rfl <| seqN [(0, .d ((cLs cI rfl).enc v0)), (1, .d ((cLs cI rfl).enc v1)), (5, .d ((cLo cI).enc x23.1)), (6, .d (cB.enc x23.2)), (7, .d ((cLo cI).enc x27)), (8, .d ((cLo cI).enc x31)), (9, .d ((cLo cI).enc x35.1)), (10, .d (cB.enc x35.2)), (53, .d (cB.enc (!x66)))] (by kernel_rfl) <|
    xn <| cnd rfl h (fun b68 h => wpC_seq <| reg_s <| x_asg (sc cB false rfl) <| seqN [(4, .d (cB.enc false))] (by kernel_rfl) <|
    xn <| wpC_ret <| rt <| rt <| re <| fin h (r1 (ss rfl rfl) <| r0) rfl)
    (fun b68 h => wpC_skip <| kpN [(0, .d ((cLs cI rfl).enc v0)), (1, .d ((cLs cI rfl).enc v1)), (5, .d ((cLo cI).enc x23.1)), (6, .d (cB.enc x23.2)), (7, .d ((cLo cI).enc x27)), (8, .d ((cLo cI).enc x31)), (9, .d ((cLo cI).enc x35.1)), (10, .d (cB.enc x35.2))] (by kernel_rfl) <| xn <| wpC_seq <| wpC_kp <| wpC_seq <| reg_s <| st rfl <| mvo rfl rfl <| st rfl <| mvd rfl rfl <| bnd h fun x82 e83 h => st rfl <| o_call (a1 (c := (cLs cI rfl)) (tLs tK) rfl a0) (con_laws_toIntS e83) (.inl (so1 (sLo sK) so0)) <| bnd h fun x84 e85 h => st rfl <| o_call (a1 (c := (cLo cI)) (tLo tK) rfl (a1 (c := (cLo cI)) (tLo tK) rfl a0)) (con_laws_eqIntS e85) (.inl (so1 sB so0)) <| st rfl <| o_nt rfl <| seqN [(0, .d ((cLs cI rfl).enc v0)), (1, .d ((cLs cI rfl).enc v1)), (5, .d ((cLo cI).enc x23.1)), (6, .d (cB.enc x23.2)), (7, .d ((cLo cI).enc x27)), (8, .d ((cLo cI).enc x31)), (9, .d ((cLo cI).enc x35.1)), (10, .d (cB.enc x35.2)), (58, .d (cB.enc (!x84)))] (by kernel_rfl) <|
    xn <| cnd rfl h (fun b86 h => wpC_seq <| reg_s <| x_asg (sc cB false rfl) <| seqN [(4, .d (cB.enc false))] (by kernel_rfl) <|
    xn <| wpC_ret <| rt <| rt <| re <| fin h (r1 (ss rfl rfl) <| r0) rfl)
    (fun b86 h => wpC_skip <| kpN [(0, .d ((cLs cI rfl).enc v0)), (1, .d ((cLs cI rfl).enc v1)), (5, .d ((cLo cI).enc x23.1)), (6, .d (cB.enc x23.2)), (7, .d ((cLo cI).enc x27)), (8, .d ((cLo cI).enc x31)), (9, .d ((cLo cI).enc x35.1)), (10, .d (cB.enc x35.2))] (by kernel_rfl) <| xn <| wpC_seq <| reg_s <| x_asg (sc cI (1 : Int) rfl) <| seqN [(0, .d ((cLs cI rfl).enc v0)), (1, .d ((cLs cI rfl).enc v1)), (5, .d ((cLo cI).enc x23.1)), (6, .d (cB.enc x23.2)), (7, .d ((cLo cI).enc x27)), (8, .d ((cLo cI).enc x31)), (9, .d ((cLo cI).enc x35.1)), (10, .d (cB.enc x35.2)), (11, .d (cI.enc (1 : Int)))] (by kernel_rfl) <|
    xn <| wpC_seq <| reg_s <| st rfl <| mvo rfl rfl <| st rfl <| mvd rfl rfl <| bnd h fun x89 e90 h => x_clr (c := (cLo cI)) (c' := (cLo cI)) ((cLo cI).enc x89.1) (sLo sK) rfl (a1 (c := cI) tK rfl a0) rfl Ln.nil (con_laws_markIntS e90) rfl rfl (so1 sK so0) <| x_asg (ss rfl rfl) <| seqN [(0, .d ((cLs cI rfl).enc v0)), (1, .d ((cLs cI rfl).enc v1)), (5, .d ((cLo cI).enc x23.1)), (6, .d (cB.enc x23.2)), (8, .d ((cLo cI).enc x31)), (9, .d ((cLo cI).enc x35.1)), (10, .d (cB.enc x35.2)), (11, .d (cI.enc x89.2))] (by kernel_rfl) <|
    xn <| wpC_seq <| reg_s <| st rfl <| mvo rfl rfl <| st rfl <| mvd rfl rfl <| bnd h fun x93 e94 h => x_clr (c := (cLo cI)) (c' := (cLo cI)) ((cLo cI).enc x93.1) (sLo sK) rfl (a1 (c := cI) tK rfl a0) rfl Ln.nil (con_laws_markIntS e94) rfl rfl (so1 sK so0) <| x_asg (ss rfl rfl) <| seqN [(0, .d ((cLs cI rfl).enc v0)), (1, .d ((cLs cI rfl).enc v1)), (5, .d ((cLo cI).enc x23.1)), (6, .d (cB.enc x23.2)), (9, .d ((cLo cI).enc x35.1)), (10, .d (cB.enc x35.2)), (11, .d (cI.enc x93.2))] (by kernel_rfl) <|
    xn <| wpC_seq <| wpC_kp <| wpC_seq <| reg_s <| st rfl <| mvd rfl rfl <| st rfl <| b_lss (k := .i64) rfl rfl <| st rfl <| mvd rfl rfl <| ite_k h (fun b107 h => gf rfl b107 <| gf rfl b107 <| gf rfl b107 <| gf rfl b107 <| st rfl <| pick1 rfl b107 (cd := cB) (v := true) rfl rfl <| st rfl <| mvd rfl rfl <| gf rfl rfl <| gf rfl rfl <| gf rfl rfl <| st rfl <| pick1 rfl rfl (cd := cB) (v := true) rfl rfl <| seqN [(0, .d ((cLs cI rfl).enc v0)), (1, .d ((cLs cI rfl).enc v1)), (5, .d ((cLo cI).enc x23.1)), (6, .d (cB.enc x23.2)), (9, .d ((cLo cI).enc x35.1)), (77, .d (cB.enc true))] (by kernel_rfl) <|
    xn <| cnd1 rfl rfl <| wpC_seq <| reg_s <| x_asg (sc cB false rfl) <| seqN [(4, .d (cB.enc false))] (by kernel_rfl) <|
    xn <| wpC_ret <| rt <| rt <| re <| fin h (r1 (ss rfl rfl) <| r0) rfl)
    (fun b107 h => gt' rfl b107 <| st rfl <| mvo rfl rfl <| gt' rfl b107 <| st rfl <| mvo rfl rfl <| gt' rfl b107 <| bnd h fun x108 e109 h => st rfl <| o_call (a1 (c := (cLo cI)) (tLo tK) rfl (a1 (c := (cLo cI)) (tLo tK) rfl a0)) (con_laws_eqIntS e109) (.inl (so1 sB so0)) <| gt' rfl b107 <| st rfl <| o_nt rfl <| st rfl <| pick0 rfl b107 (cd := cB) (v := (!x108)) rfl rfl <| st rfl <| mvd rfl rfl <| ite_k h (fun b110 h => gf rfl b110 <| gf rfl b110 <| gf rfl b110 <| st rfl <| pick1 rfl b110 (cd := cB) (v := true) rfl rfl <| seqN [(0, .d ((cLs cI rfl).enc v0)), (1, .d ((cLs cI rfl).enc v1)), (5, .d ((cLo cI).enc x23.1)), (6, .d (cB.enc x23.2)), (9, .d ((cLo cI).enc x35.1)), (77, .d (cB.enc true))] (by kernel_rfl) <|
    xn <| cnd1 rfl rfl <| wpC_seq <| reg_s <| x_asg (sc cB false rfl) <| seqN [(4, .d (cB.enc false))] (by kernel_rfl) <|
    xn <| wpC_ret <| rt <| rt <| re <| fin h (r1 (ss rfl rfl) <| r0) rfl)
    (fun b110 h => gt' rfl b110 <| st rfl <| mvd rfl rfl <| gt' rfl b110 <| st rfl <| mvd rfl rfl <| gt' rfl b110 <| st rfl <| eqb1 rfl rfl <| st rfl <| pick0 rfl b110 (cd := cB) (v := (x35.2 != x23.2)) rfl rfl <| seqN [(0, .d ((cLs cI rfl).enc v0)), (1, .d ((cLs cI rfl).enc v1)), (5, .d ((cLo cI).enc x23.1)), (6, .d (cB.enc x23.2)), (9, .d ((cLo cI).enc x35.1)), (77, .d (cB.enc (x35.2 != x23.2)))] (by kernel_rfl) <|
    xn <| cnd0 rfl b50 <| wpC_skip <| kpN [(0, .d ((cLs cI rfl).enc v0)), (1, .d ((cLs cI rfl).enc v1)), (5, .d ((cLo cI).enc x23.1)), (6, .d (cB.enc x23.2)), (9, .d ((cLo cI).enc x35.1))] (by kernel_rfl) <| xn <| wpC_seq <| reg_s <| x_asg (sc cI (1 : Int) rfl) <| seqN [(0, .d ((cLs cI rfl).enc v0)), (1, .d ((cLs cI rfl).enc v1)), (5, .d ((cLo cI).enc x23.1)), (6, .d (cB.enc x23.2)), (9, .d ((cLo cI).enc x35.1)), (12, .d (cI.enc (1 : Int)))] (by kernel_rfl) <|
    xn <| wpC_seq <| reg_s <| st rfl <| mvo rfl rfl <| st rfl <| mvd rfl rfl <| bnd h fun x113 e114 h => x_clr (c := (cLo cI)) (c' := (cLo cI)) ((cLo cI).enc x113.1) (sLo sK) rfl (a1 (c := cI) tK rfl a0) rfl Ln.nil (con_laws_markIntS e114) rfl rfl (so1 sK so0) <| x_asg (ss rfl rfl) <| seqN [(0, .d ((cLs cI rfl).enc v0)), (1, .d ((cLs cI rfl).enc v1)), (5, .d ((cLo cI).enc x23.1)), (6, .d (cB.enc x23.2)), (9, .d ((cLo cI).enc x113.1)), (12, .d (cI.enc x113.2))] (by kernel_rfl) <|
    xn <| wpC_seq <| reg_s <| x_asg (sc cI (1 : Int) rfl) <| seqN [(0, .d ((cLs cI rfl).enc v0)), (1, .d ((cLs cI rfl).enc v1)), (5, .d ((cLo cI).enc x23.1)), (6, .d (cB.enc x23.2)), (9, .d ((cLo cI).enc x113.1)), (12, .d (cI.enc x113.2)), (13, .d (cI.enc (1 : Int)))] (by kernel_rfl) <|
    xn <| wpC_seq <| reg_s <| st rfl <| mvo rfl rfl <| st rfl <| mvd rfl rfl <| bnd h fun x117 e118 h => st rfl <| o_call (a1 (c := (cLo cI)) (tLo tK) rfl (a1 (c := cI) tK rfl a0)) (con_laws_heldIntS e118) (.inl (so1 sK so0)) <| x_asg (ss rfl rfl) <| seqN [(0, .d ((cLs cI rfl).enc v0)), (1, .d ((cLs cI rfl).enc v1)), (5, .d ((cLo cI).enc x23.1)), (6, .d (cB.enc x23.2)), (9, .d ((cLo cI).enc x113.1)), (12, .d (cI.enc x113.2)), (13, .d (cI.enc x117))] (by kernel_rfl) <|
    xn <| wpC_seq <| wpC_kp <| wpC_seq <| reg_s <| st rfl <| mvd rfl rfl <| st rfl <| b_lss (k := .i64) rfl rfl <| seqN [(0, .d ((cLs cI rfl).enc v0)), (1, .d ((cLs cI rfl).enc v1)), (5, .d ((cLo cI).enc x23.1)), (6, .d (cB.enc x23.2)), (9, .d ((cLo cI).enc x113.1)), (12, .d (cI.enc x113.2)), (13, .d (cI.enc x117)), (85, .d (cB.enc (decide (x117 < (0 : Int)))))] (by kernel_rfl) <|
    xn <| cnd rfl h (fun b120 h => wpC_seq <| reg_s <| x_asg (sc cB false rfl) <| seqN [(4, .d (cB.enc false))] (by kernel_rfl) <|
    xn <| wpC_ret <| rt <| rt <| re <| fin h (r1 (ss rfl rfl) <| r0) rfl)
    (fun b120 h => wpC_skip <| kpN [(0, .d ((cLs cI rfl).enc v0)), (1, .d ((cLs cI rfl).enc v1)), (5, .d ((cLo cI).enc x23.1)), (6, .d (cB.enc x23.2)), (9, .d ((cLo cI).enc x113.1)), (12, .d (cI.enc x113.2)), (13, .d (cI.enc x117))] (by kernel_rfl) <| xn <| wpC_seq <| wpC_kp <| wpC_seq <| reg_s <| st rfl <| mvd rfl rfl <| st rfl <| mvd rfl rfl <| st rfl <| b_neq (k := .i64) rfl rfl <| seqN [(0, .d ((cLs cI rfl).enc v0)), (1, .d ((cLs cI rfl).enc v1)), (5, .d ((cLo cI).enc x23.1)), (6, .d (cB.enc x23.2)), (9, .d ((cLo cI).enc x113.1)), (12, .d (cI.enc x113.2)), (88, .d (cB.enc (decide (x117 ≠ x113.2))))] (by kernel_rfl) <|
    xn <| cnd rfl h (fun b122 h => wpC_seq <| reg_s <| x_asg (sc cB false rfl) <| seqN [(4, .d (cB.enc false))] (by kernel_rfl) <|
    xn <| wpC_ret <| rt <| rt <| re <| fin h (r1 (ss rfl rfl) <| r0) rfl)
    (fun b122 h => wpC_skip <| kpN [(0, .d ((cLs cI rfl).enc v0)), (1, .d ((cLs cI rfl).enc v1)), (5, .d ((cLo cI).enc x23.1)), (6, .d (cB.enc x23.2)), (9, .d ((cLo cI).enc x113.1)), (12, .d (cI.enc x113.2))] (by kernel_rfl) <| xn <| wpC_seq <| reg_s <| st rfl <| mvd rfl rfl <| bnd h fun x129 e130 h => st rfl <| o_call (a1 (c := (cLs cI rfl)) (tLs tK) rfl a0) (con_laws_toIntS e130) (.inl (so1 (sLo sK) so0)) <| st rfl <| mvd rfl rfl <| bnd h fun x131 e132 h => st rfl <| o_call (a1 (c := (cLs cI rfl)) (tLs tK) rfl a0) (con_laws_toIntS e132) (.inl (so1 (sLo sK) so0)) <| bnd h fun x133 e134 h => st rfl <| o_call (a1 (c := (cLo cI)) (tLo tK) rfl (a1 (c := (cLo cI)) (tLo tK) rfl a0)) (con_impl_AddCells e134) (.inl (so1 (sLo sK) (so1 sB so0))) <| x_mvt rfl <| x_ext rfl rfl <| x_ext rfl rfl <| x_asg (so rfl rfl) <| x_asg (ss rfl rfl) <| seqN [(5, .d ((cLo cI).enc x23.1)), (6, .d (cB.enc x23.2)), (9, .d ((cLo cI).enc x113.1)), (12, .d (cI.enc x113.2)), (14, .d ((cLo cI).enc x133.1)), (15, .d (cB.enc x133.2))] (by kernel_rfl) <|
    xn <| wpC_seq <| wpC_kp <| wpC_seq <| reg_s <| st rfl <| mvo rfl rfl <| st rfl <| mvo rfl rfl <| bnd h fun x145 e146 h => st rfl <| o_call (a1 (c := (cLo cI)) (tLo tK) rfl (a1 (c := (cLo cI)) (tLo tK) rfl a0)) (con_laws_eqIntS e146) (.inl (so1 sB so0)) <| st rfl <| o_nt rfl <| st rfl <| mvd rfl rfl <| ite_k h (fun b147 h => gf rfl b147 <| gf rfl b147 <| gf rfl b147 <| st rfl <| pick1 rfl b147 (cd := cB) (v := true) rfl rfl <| seqN [(9, .d ((cLo cI).enc x113.1)), (12, .d (cI.enc x113.2)), (105, .d (cB.enc true))] (by kernel_rfl) <|
    xn <| cnd1 rfl rfl <| wpC_seq <| reg_s <| x_asg (sc cB false rfl) <| seqN [(4, .d (cB.enc false))] (by kernel_rfl) <|
    xn <| wpC_ret <| rt <| rt <| re <| fin h (r1 (ss rfl rfl) <| r0) rfl)
    (fun b147 h => gt' rfl b147 <| st rfl <| mvd rfl rfl <| gt' rfl b147 <| st rfl <| mvd rfl rfl <| gt' rfl b147 <| st rfl <| eqb1 rfl rfl <| st rfl <| pick0 rfl b147 (cd := cB) (v := (x133.2 != x23.2)) rfl rfl <| seqN [(9, .d ((cLo cI).enc x113.1)), (12, .d (cI.enc x113.2)), (105, .d (cB.enc (x133.2 != x23.2)))] (by kernel_rfl) <|
    xn <| cnd rfl h (fun b148 h => wpC_seq <| reg_s <| x_asg (sc cB false rfl) <| seqN [(4, .d (cB.enc false))] (by kernel_rfl) <|
    xn <| wpC_ret <| rt <| rt <| re <| fin h (r1 (ss rfl rfl) <| r0) rfl)
    (fun b148 h => wpC_skip <| kpN [(9, .d ((cLo cI).enc x113.1)), (12, .d (cI.enc x113.2))] (by kernel_rfl) <| xn <| wpC_seq <| reg_s <| x_asg (sc cI (1 : Int) rfl) <| seqN [(9, .d ((cLo cI).enc x113.1)), (12, .d (cI.enc x113.2)), (13, .d (cI.enc (1 : Int)))] (by kernel_rfl) <|
    xn <| wpC_seq <| reg_s <| st rfl <| mvo rfl rfl <| st rfl <| mvd rfl rfl <| bnd h fun x151 e152 h => st rfl <| o_call (a1 (c := (cLo cI)) (tLo tK) rfl (a1 (c := cI) tK rfl a0)) (con_laws_heldIntS e152) (.inl (so1 sK so0)) <| x_asg (ss rfl rfl) <| seqN [(12, .d (cI.enc x113.2)), (13, .d (cI.enc x151))] (by kernel_rfl) <|
    xn <| wpC_seq <| wpC_kp <| wpC_seq <| reg_s <| st rfl <| mvd rfl rfl <| st rfl <| b_lss (k := .i64) rfl rfl <| seqN [(12, .d (cI.enc x113.2)), (13, .d (cI.enc x151)), (110, .d (cB.enc (decide (x151 < (0 : Int)))))] (by kernel_rfl) <|
    xn <| cnd rfl h (fun b154 h => wpC_seq <| reg_s <| x_asg (sc cB false rfl) <| seqN [(4, .d (cB.enc false))] (by kernel_rfl) <|
    xn <| wpC_ret <| rt <| rt <| re <| fin h (r1 (ss rfl rfl) <| r0) rfl)
    (fun b154 h => wpC_skip <| kpN [(12, .d (cI.enc x113.2)), (13, .d (cI.enc x151))] (by kernel_rfl) <| xn <| wpC_seq <| wpC_kp <| wpC_seq <| reg_s <| st rfl <| mvd rfl rfl <| st rfl <| mvd rfl rfl <| st rfl <| b_neq (k := .i64) rfl rfl <| seqN [(113, .d (cB.enc (decide (x151 ≠ x113.2))))] (by kernel_rfl) <|
    xn <| cnd rfl h (fun b156 h => wpC_seq <| reg_s <| x_asg (sc cB false rfl) <| seqN [(4, .d (cB.enc false))] (by kernel_rfl) <|
    xn <| wpC_ret <| rt <| rt <| re <| fin h (r1 (ss rfl rfl) <| r0) rfl)
    (fun b156 h => wpC_skip <| kpN [] (by kernel_rfl) <| xn <| wpC_seq <| reg_s <| x_asg (sc cB true rfl) <| seqN [(4, .d (cB.enc true))] (by kernel_rfl) <|
    xn <| wpC_ret <| re <| fin h (r1 (ss rfl rfl) <| r0) rfl))))))))))))))
end AS.W
