/- The program computes the plain functions. No condition. -/
import Derived.Test.YtahffpadaffmdaaQSameMeaningS
import Derived.Test.YtahffpadaffmdaaProg
import Derived.Test.YtahffpadaffmdaaQSameMeaningL1
set_option maxRecDepth 100000
set_option linter.unusedVariables false
set_option linter.unusedSimpArgs false
namespace AS.W
open Go Go.Proofs
def rs_slices_Equal_int (r : Bool) : List D := [cB.enc r]
def m125 : MC := .seq (.reg [⟨some 4, .asg (.c (.bool false)), none⟩] [0, 1])
  (.seq (.kp [0, 1] (.seq (.reg [⟨some 6, .mv (.t 0), none⟩,
    ⟨some 7, .len false (.t 6), none⟩,
    ⟨some 8, .mv (.t 1), none⟩,
    ⟨some 9, .len false (.t 8), none⟩,
    ⟨some 10, .bin .neq (.t 7) (.t 9), none⟩] [0, 1, 10])
  (.cond (.t 10) (.seq (.reg [⟨some 4, .asg (.c (.bool false)), none⟩] [4])
  (.ret)) (.skip))))
  (.seq (.kp [] (.seq (.reg [⟨some 11, .mv (.t 0), none⟩,
    ⟨some 12, .len false (.t 11), none⟩,
    ⟨some 13, .mv (.c (.int .i64 0)), none⟩] [0, 1, 12, 13])
  (.blk 0 (.loop (.seq (.reg [⟨some 14, .bin .lss (.t 13) (.t 12), none⟩] [0, 1, 12, 13, 14])
  (.seq (.kp [0, 1, 12, 13] (.cond (.t 14) (.skip) (.exit 0)))
  (.seq (.kp [0, 1, 12, 13] (.blk 1 (.seq (.reg [⟨some 15, .mv (.t 13), none⟩,
    ⟨some 5, .asg (.t 15), none⟩] [0, 1, 5, 12, 13])
  (.seq (.drw [⟨0, ⟨some 16, .mv (.t 0), none⟩, [17, 18, 19, 20, 21, 22, 23, 24]⟩,
    ⟨1, ⟨some 17, .mv (.t 5), none⟩, [16, 18, 19, 20, 21, 22, 23, 24]⟩,
    ⟨2, ⟨some 18, .ia 16 (.t 17) 1, none⟩, [19, 20, 21, 22, 23, 24]⟩,
    ⟨3, ⟨some 19, .ld 18 1 false, none⟩, [20, 21, 22, 23, 24]⟩,
    ⟨4, ⟨some 20, .mv (.t 1), none⟩, [16, 17, 18, 19, 21, 22, 23, 24]⟩,
    ⟨5, ⟨some 21, .mv (.t 5), none⟩, [16, 17, 18, 19, 20, 22, 23, 24]⟩,
    ⟨6, ⟨some 22, .ia 20 (.t 21) 1, none⟩, [16, 17, 18, 19, 23, 24]⟩,
    ⟨7, ⟨some 23, .ld 22 1 false, none⟩, [16, 17, 18, 19, 24]⟩,
    ⟨8, ⟨some 24, .bin .neq (.t 19) (.t 23), none⟩, []⟩]
    [] [0, 1, 12, 13, 24])
  (.cond (.t 24) (.seq (.reg [⟨some 4, .asg (.c (.bool false)), none⟩] [4])
  (.ret)) (.skip))))))
  (.reg [⟨some 25, .bin .add (.t 13) (.c (.int .i64 1)), none⟩,
    ⟨some 13, .mv (.t 25), none⟩] [0, 1, 12, 13]))))))))
  (.seq (.reg [⟨some 4, .asg (.c (.bool true)), none⟩] [4])
  (.ret))))
theorem con_slices_Equal_int {v0 : (List Int)} {v1 : (List Int)} {r : Bool} (h : sh_slices_Equal_int v0 v1 = some r) : Con Try.prog 125 [(cLs cI rfl).enc v0, (cLs cI rfl).enc v1] [] (rs_slices_Equal_int r) := by
  delta sh_slices_Equal_int at h
  refine top (out := none) (f := Try.f125) (m := m125) (rs := [.t 4]) (by kernel_rfl) rfl (by kernel_rfl) (by kernel_rfl) (by kernel_rfl) (by kernel_rfl) (by kernel_rfl) ?_
  exact
   ini [(0, .d ((cLs cI rfl).enc v0)), (1, .d ((cLs cI rfl).enc v1))] rfl <| wpC_seq <| reg_s <| x_asg (sc cB false rfl) <| seqN [(0, .d ((cLs cI rfl).enc v0)), (1, .d ((cLs cI rfl).enc v1))] (by kernel_rfl) <|
    xn <| wpC_seq <| wpC_kp <| wpC_seq <| reg_s <| st rfl <| mvd rfl rfl <| stw rfl <| lens rfl fun l8 => st rfl <| mvd rfl rfl <| stw rfl <| lens rfl fun l9 => st rfl <| b_neq (k := .i64) rfl rfl <| seqN [(0, .d ((cLs cI rfl).enc v0)), (1, .d ((cLs cI rfl).enc v1)), (10, .d (cB.enc (decide ((v0.length : Int) ≠ (v1.length : Int)))))] (by kernel_rfl) <|
    xn <| cnd rfl h (fun b10 h => wpC_seq <| reg_s <| x_asg (sc cB false rfl) <| seqN [(4, .d (cB.enc false))] (by kernel_rfl) <|
    xn <| wpC_ret <| rt <| rt <| re <| fin h (r1 (ss rfl rfl) <| r0) rfl)
    (fun b10 h => wpC_skip <| kpN [(0, .d ((cLs cI rfl).enc v0)), (1, .d ((cLs cI rfl).enc v1))] (by kernel_rfl) <| xn <| wpC_seq <| wpC_kp <| wpC_seq <| reg_s <| st rfl <| mvd rfl rfl <| stw rfl <| lens rfl fun l50 => st rfl <| mvc cI (0 : Int) rfl <| seqN [(0, .d ((cLs cI rfl).enc v0)), (1, .d ((cLs cI rfl).enc v1)), (12, .d (cI.enc (v0.length : Int))), (13, .d (cI.enc (0 : Int)))] (by kernel_rfl) <|
    xn <| wpC_blk <| lpR (fun (k52 : Nat) (s51 : Unit) => [(0, .d ((cLs cI rfl).enc v0)), (1, .d ((cLs cI rfl).enc v1)), (12, .d (cI.enc (v0.length : Int))), (13, .d (cI.enc (k52 : Int)))]) () rfl h
    (fun G72 s51 h => wpC_seq <| reg_s <| st rfl <| b_lss (k := .i64) rfl rfl <| seqN [(0, .d ((cLs cI rfl).enc v0)), (1, .d ((cLs cI rfl).enc v1)), (12, .d (cI.enc (v0.length : Int))), (13, .d (cI.enc (v0.length : Int))), (14, .d (cB.enc (decide ((v0.length : Int) < (v0.length : Int)))))] (by kernel_rfl) <|
    xn <| wpC_seq <| wpC_kp <| cnd0 rfl (dlf _) <| wpC_exit <| xt <| xt <| xt <| xb <| kpN [] (by kernel_rfl) <| xn <| wpC_seq <| reg_s <| x_asg (sc cB true rfl) <| seqN [(4, .d (cB.enc true))] (by kernel_rfl) <|
    xn <| wpC_ret <| re <| fin h (r1 (ss rfl rfl) <| r0) rfl)
    (fun G72 nx70 k52 s51 x53 hk54 hx55 hn71 h => wpC_seq <| reg_s <| st rfl <| b_lss (k := .i64) rfl rfl <| seqN [(0, .d ((cLs cI rfl).enc v0)), (1, .d ((cLs cI rfl).enc v1)), (12, .d (cI.enc (v0.length : Int))), (13, .d (cI.enc (k52 : Int))), (14, .d (cB.enc (decide ((k52 : Int) < (v0.length : Int)))))] (by kernel_rfl) <|
    xn <| wpC_seq <| wpC_kp <| cnd1 rfl (dlt hk54) <| wpC_skip <| kpN [(0, .d ((cLs cI rfl).enc v0)), (1, .d ((cLs cI rfl).enc v1)), (12, .d (cI.enc (v0.length : Int))), (13, .d (cI.enc (k52 : Int)))] (by kernel_rfl) <| xn <| wpC_seq <| wpC_kp <| wpC_blk <| wpC_seq <| reg_s <| st rfl <| mvd rfl rfl <| x_asg (ss rfl rfl) <| seqN [(0, .d ((cLs cI rfl).enc v0)), (1, .d ((cLs cI rfl).enc v1)), (5, .d (cI.enc (k52 : Int))), (12, .d (cI.enc (v0.length : Int))), (13, .d (cI.enc (k52 : Int)))] (by kernel_rfl) <|
    xn <| wpC_seq <| drw_s <| pst rfl <| mvd rfl rfl ⟨rfl, pst rfl <| mvd rfl rfl ⟨rfl, pst rfl <| ias rfl rfl (Int.natCast_nonneg _) hx55 rfl ⟨rfl, pst rfl <| ldi rfl rfl rfl rfl ⟨rfl, pst rfl <| mvd rfl rfl ⟨rfl, pst rfl <| mvd rfl rfl ⟨rfl, getO_kp h fun x83 i84 g85 h => pst rfl <| ias rfl rfl i84 g85 rfl ⟨rfl, pst rfl <| ldi rfl rfl rfl rfl ⟨rfl, pst rfl <| b_neq (k := .i64) rfl rfl ⟨rfl, preN <| seqN [(0, .d ((cLs cI rfl).enc v0)), (1, .d ((cLs cI rfl).enc v1)), (12, .d (cI.enc (v0.length : Int))), (13, .d (cI.enc (k52 : Int))), (24, .d (cB.enc (decide (x53 ≠ x83))))] (by kernel_rfl) <|
    xn <| cnd rfl h (fun b86 h => wpC_seq <| reg_s <| x_asg (sc cB false rfl) <| seqN [(4, .d (cB.enc false))] (by kernel_rfl) <|
    xn <| wpC_ret <| rb <| rt <| rt <| rt <| rb <| rt <| rt <| re <| fin h (r1 (ss rfl rfl) <| r0) rfl)
    (fun b86 h => wpC_skip <| xbb <| kpN [(0, .d ((cLs cI rfl).enc v0)), (1, .d ((cLs cI rfl).enc v1)), (12, .d (cI.enc (v0.length : Int))), (13, .d (cI.enc (k52 : Int)))] (by kernel_rfl) <| xn <| reg_s <| st rfl <| b_inc rfl rfl l50 hk54 <| st rfl <| mvd rfl rfl <| seqN [(0, .d ((cLs cI rfl).enc v0)), (1, .d ((cLs cI rfl).enc v1)), (12, .d (cI.enc (v0.length : Int))), (13, .d (cI.enc ((k52 + 1 : Nat) : Int)))] (by kernel_rfl) <|
    xn <| hn71 () h)⟩⟩⟩⟩⟩⟩⟩⟩⟩))

def rs_impl_sameMeaning (r : Bool) : List D := [cB.enc r]
def m88 : MC := .seq (.reg [⟨some 4, .box (.t 1), none⟩,
    ⟨some 5, .box (.t 2), none⟩,
    ⟨some 6, .asg (.c (.bool false)), none⟩] [0, 4, 5])
  (.seq (.drw [⟨0, ⟨some 7, .mv (.t 0), none⟩, [8, 9, 10, 11, 12]⟩,
    ⟨1, ⟨some 8, .ld 4 4 true, none⟩, [7, 9, 10, 11, 12]⟩,
    ⟨2, ⟨some 9, .call 103 [(.t 7), (.t 8)], none⟩, [10, 11, 12]⟩,
    ⟨3, ⟨some 10, .mv (.t 0), none⟩, [7, 8, 9, 11, 12]⟩,
    ⟨4, ⟨some 11, .ld 5 4 true, none⟩, [7, 8, 9, 10, 12]⟩,
    ⟨5, ⟨some 12, .call 103 [(.t 10), (.t 11)], none⟩, []⟩]
    [(6, ⟨none, .st 4 (.t 9) 4, none⟩),
    (7, ⟨none, .st 5 (.t 12) 4, none⟩)] [4, 5])
  (.seq (.reg [⟨some 13, .fa 4 0 0, none⟩,
    ⟨some 14, .ld 13 1 false, none⟩,
    ⟨some 15, .fa 5 0 0, none⟩,
    ⟨some 16, .ld 15 1 false, none⟩,
    ⟨some 17, .bin .eql (.t 14) (.t 16), none⟩,
    ⟨some 18, .mv (.t 17), none⟩,
    ⟨some 19, .fa 4 3 3, some (18, true)⟩,
    ⟨some 20, .ld 19 1 false, some (18, true)⟩,
    ⟨some 21, .fa 5 3 3, some (18, true)⟩,
    ⟨some 22, .ld 21 1 false, some (18, true)⟩,
    ⟨some 23, .bin .eql (.t 20) (.t 22), some (18, true)⟩,
    ⟨some 24, .pick (.t 18) (.t 23) (.c (.bool false)), none⟩,
    ⟨some 25, .mv (.t 24), none⟩,
    ⟨some 26, .fa 4 1 1, some (25, true)⟩,
    ⟨some 27, .ld 26 1 false, some (25, true)⟩,
    ⟨some 28, .fa 5 1 1, some (25, true)⟩,
    ⟨some 29, .ld 28 1 false, some (25, true)⟩,
    ⟨some 30, .call 125 [(.t 27), (.t 29)], some (25, true)⟩,
    ⟨some 31, .pick (.t 25) (.t 30) (.c (.bool false)), none⟩,
    ⟨some 32, .mv (.t 31), none⟩,
    ⟨some 33, .fa 4 2 2, some (32, true)⟩,
    ⟨some 34, .ld 33 1 false, some (32, true)⟩,
    ⟨some 35, .fa 5 2 2, some (32, true)⟩,
    ⟨some 36, .ld 35 1 false, some (32, true)⟩,
    ⟨some 37, .call 125 [(.t 34), (.t 36)], some (32, true)⟩,
    ⟨some 38, .pick (.t 32) (.t 37) (.c (.bool false)), none⟩,
    ⟨some 6, .asg (.t 38), none⟩] [6])
  (.ret)))
theorem con_impl_sameMeaning {v0 : (List XVariable)} {v1 : XTable} {v2 : XTable} {r : Bool} (h : sh_impl_sameMeaning v0 v1 v2 = some r) : Con Try.prog 88 [(cLs (cXVariable cS cI) rfl).enc v0, (cXTable cI (cLs cI rfl) (cLs cI rfl) cI).enc v1, (cXTable cI (cLs cI rfl) (cLs cI rfl) cI).enc v2] [] (rs_impl_sameMeaning r) := by
  delta sh_impl_sameMeaning at h
  refine top (out := none) (f := Try.f88) (m := m88) (rs := [.t 6]) (by kernel_rfl) rfl (by kernel_rfl) (by kernel_rfl) (by kernel_rfl) (by kernel_rfl) (by kernel_rfl) ?_
  exact
   ini [(0, .d ((cLs (cXVariable cS cI) rfl).enc v0)), (1, .d ((cXTable cI (cLs cI rfl) (cLs cI rfl) cI).enc v1)), (2, .d ((cXTable cI (cLs cI rfl) (cLs cI rfl) cI).enc v2))] rfl <| wpC_seq <| reg_s <| x_box (ss rfl rfl) <| x_box (ss rfl rfl) <| x_asg (sc cB false rfl) <| seqN [(0, .d ((cLs (cXVariable cS cI) rfl).enc v0)), (4, .box ((cXTable cI (cLs cI rfl) (cLs cI rfl) cI).enc v1)), (5, .box ((cXTable cI (cLs cI rfl) (cLs cI rfl) cI).enc v2))] (by kernel_rfl) <|
    xn <| wpC_seq <| drw_s <| pst rfl <| mvd rfl rfl ⟨rfl, pst rfl <| ldb rfl rfl rfl rfl ⟨rfl, bndp h fun x5 e6 h => pst rfl <| o_call (a1 (c := (cLs (cXVariable cS cI) rfl)) (tLs (tXVariable tS tK)) rfl (a1 (c := (cXTable cI (cLs cI rfl) (cLs cI rfl) cI)) (tXTable tK (tLs tK) (tLs tK) tK) rfl a0)) (con_impl_normalTable e6) (.inl (so1 (sXTable sK (sLo sK) (sLo sK) sK) so0)) ⟨rfl, pst rfl <| mvd rfl rfl ⟨rfl, pst rfl <| ldb rfl rfl rfl rfl ⟨rfl, bndp h fun x7 e8 h => pst rfl <| o_call (a1 (c := (cLs (cXVariable cS cI) rfl)) (tLs (tXVariable tS tK)) rfl (a1 (c := (cXTable cI (cLs cI rfl) (cLs cI rfl) cI)) (tXTable tK (tLs tK) (tLs tK) tK) rfl a0)) (con_impl_normalTable e8) (.inl (so1 (sXTable sK (sLo sK) (sLo sK) sK) so0)) ⟨rfl, preN <| x_stb (so rfl rfl) rfl (Cd.h_sz _ _) rfl <| x_stb (so rfl rfl) rfl (Cd.h_sz _ _) rfl <| seqN [(4, .box ((cXTable cI (cLo cI) (cLo cI) cI).enc x5)), (5, .box ((cXTable cI (cLo cI) (cLo cI) cI).enc x7))] (by kernel_rfl) <|
    xn <| wpC_seq <| jw (fun (s16 : Bool) => [(6, .d (cB.enc s16))]) h (fun s16 h => xn <| wpC_ret <| re <| fin h (r1 (ss rfl rfl) <| r0) rfl)
    fun s16' q17 h => reg_s <| st rfl <| fab rfl rfl rfl rfl <| st rfl <| lda rfl rfl rfl rfl rfl rfl <| st rfl <| fab rfl rfl rfl rfl <| st rfl <| lda rfl rfl rfl rfl rfl rfl <| st rfl <| b_eql (k := .i64) rfl rfl <| st rfl <| mvd rfl rfl <| ite_k h (fun b18 h => gt' rfl b18 <| st rfl <| fab rfl rfl rfl rfl <| gt' rfl b18 <| st rfl <| lda rfl rfl rfl rfl rfl rfl <| gt' rfl b18 <| st rfl <| fab rfl rfl rfl rfl <| gt' rfl b18 <| st rfl <| lda rfl rfl rfl rfl rfl rfl <| gt' rfl b18 <| st rfl <| b_eql (k := .i64) rfl rfl <| st rfl <| pick1 rfl b18 (cd := cB) (v := (decide (x5.Sum = x7.Sum))) rfl rfl <| st rfl <| mvd rfl rfl <| ite_k h (fun b19 h => gt' rfl b19 <| st rfl <| fab rfl rfl rfl rfl <| gt' rfl b19 <| st rfl <| ldao rfl rfl rfl rfl rfl rfl <| gt' rfl b19 <| st rfl <| fab rfl rfl rfl rfl <| gt' rfl b19 <| st rfl <| ldao rfl rfl rfl rfl rfl rfl <| gt' rfl b19 <| bnd h fun x20 e21 h => st rfl <| o_call (a1 (c := (cLo cI)) (tLo tK) rfl (a1 (c := (cLo cI)) (tLo tK) rfl a0)) (con_slices_Equal_int e21) (.inl (so1 sB so0)) <| st rfl <| pick1 rfl b19 (cd := cB) (v := x20) rfl rfl <| st rfl <| mvd rfl rfl <| ite_k h (fun b22 h => gt' rfl b22 <| st rfl <| fab rfl rfl rfl rfl <| gt' rfl b22 <| st rfl <| ldao rfl rfl rfl rfl rfl rfl <| gt' rfl b22 <| st rfl <| fab rfl rfl rfl rfl <| gt' rfl b22 <| st rfl <| ldao rfl rfl rfl rfl rfl rfl <| gt' rfl b22 <| bnd h fun x23 e24 h => st rfl <| o_call (a1 (c := (cLo cI)) (tLo tK) rfl (a1 (c := (cLo cI)) (tLo tK) rfl a0)) (con_slices_Equal_int e24) (.inl (so1 sB so0)) <| st rfl <| pick1 rfl b22 (cd := cB) (v := x23) rfl rfl <| x_asg (ss rfl rfl) <| seqN [(6, .d (cB.enc x23))] (by kernel_rfl) <|
    lfn (S := (fun (s16 : Bool) => [(6, .d (cB.enc s16))])) h q17 rfl)
    (fun b22 h => gf rfl b22 <| gf rfl b22 <| gf rfl b22 <| gf rfl b22 <| gf rfl b22 <| st rfl <| pick0 rfl b22 (cd := cB) (v := false) rfl rfl <| x_asg (ss rfl rfl) <| seqN [(6, .d (cB.enc false))] (by kernel_rfl) <|
    lfn (S := (fun (s16 : Bool) => [(6, .d (cB.enc s16))])) h q17 rfl))
    (fun b19 h => gf rfl b19 <| gf rfl b19 <| gf rfl b19 <| gf rfl b19 <| gf rfl b19 <| st rfl <| pick0 rfl b19 (cd := cB) (v := false) rfl rfl <| st rfl <| mvd rfl rfl <| gf rfl rfl <| gf rfl rfl <| gf rfl rfl <| gf rfl rfl <| gf rfl rfl <| st rfl <| pick0 rfl rfl (cd := cB) (v := false) rfl rfl <| x_asg (ss rfl rfl) <| seqN [(6, .d (cB.enc false))] (by kernel_rfl) <|
    lfn (S := (fun (s16 : Bool) => [(6, .d (cB.enc s16))])) h q17 rfl))
    (fun b18 h => gf rfl b18 <| gf rfl b18 <| gf rfl b18 <| gf rfl b18 <| gf rfl b18 <| st rfl <| pick0 rfl b18 (cd := cB) (v := false) rfl rfl <| st rfl <| mvd rfl rfl <| gf rfl rfl <| gf rfl rfl <| gf rfl rfl <| gf rfl rfl <| gf rfl rfl <| st rfl <| pick0 rfl rfl (cd := cB) (v := false) rfl rfl <| st rfl <| mvd rfl rfl <| gf rfl rfl <| gf rfl rfl <| gf rfl rfl <| gf rfl rfl <| gf rfl rfl <| st rfl <| pick0 rfl rfl (cd := cB) (v := false) rfl rfl <| x_asg (ss rfl rfl) <| seqN [(6, .d (cB.enc false))] (by kernel_rfl) <|
    lfn (S := (fun (s16 : Bool) => [(6, .d (cB.enc s16))])) h q17 rfl)⟩⟩⟩⟩⟩⟩

def rs_impl_SameMeaning (r : (Bool × Bool)) : List D := [cB.enc r.1, cB.enc r.2]
def m39 : MC := .seq (.reg [⟨some 4, .box (.t 0), none⟩,
    ⟨some 6, .box (.t 2), none⟩,
    ⟨some 7, .box (.t 3), none⟩,
    ⟨some 8, .asg (.c (.bool false)), none⟩,
    ⟨some 9, .asg (.c (.bool false)), none⟩] [1, 4, 6, 7])
  (.seq (.kp [1, 6, 7] (.seq (.reg [⟨some 10, .ld 4 1 true, none⟩,
    ⟨some 11, .mv (.t 1), none⟩,
    ⟨some 12, .ld 6 4 true, none⟩,
    ⟨some 13, .call 83 [(.t 10), (.t 11), (.t 12)], none⟩,
    ⟨some 14, .nt (.t 13), none⟩,
    ⟨some 15, .mv (.t 14), none⟩,
    ⟨some 16, .ld 4 1 true, some (15, false)⟩,
    ⟨some 17, .mv (.t 1), some (15, false)⟩,
    ⟨some 18, .ld 7 4 true, some (15, false)⟩,
    ⟨some 19, .call 81 [(.t 16), (.t 17), (.t 18)], some (15, false)⟩,
    ⟨some 20, .nt (.t 19), some (15, false)⟩,
    ⟨some 21, .pick (.t 15) (.c (.bool true)) (.t 20), none⟩] [1, 6, 7, 21])
  (.cond (.t 21) (.seq (.reg [⟨some 8, .asg (.c (.bool false)), none⟩,
    ⟨some 9, .asg (.c (.bool false)), none⟩] [8, 9])
  (.ret)) (.skip))))
  (.seq (.reg [⟨some 22, .mv (.t 1), none⟩,
    ⟨some 23, .ld 6 4 true, none⟩,
    ⟨some 24, .ld 7 4 true, none⟩,
    ⟨some 25, .call 88 [(.t 22), (.t 23), (.t 24)], none⟩,
    ⟨some 8, .asg (.t 25), none⟩,
    ⟨some 9, .asg (.c (.bool true)), none⟩] [8, 9])
  (.ret)))
theorem con_impl_SameMeaning {v0 : XGeo} {v1 : (List XVariable)} {v2 : XTable} {v3 : XTable} {r : (Bool × Bool)} (h : sh_impl_SameMeaning v0 v1 v2 v3 = some r) : Con Try.prog 39 [(cXGeo (cLs cI rfl)).enc v0, (cLs (cXVariable cS cI) rfl).enc v1, (cXTable cI (cLs cI rfl) (cLs cI rfl) cI).enc v2, (cXTable cI (cLs cI rfl) (cLs cI rfl) cI).enc v3] [] (rs_impl_SameMeaning r) := by
  delta sh_impl_SameMeaning at h
  refine top (out := none) (f := Try.f39) (m := m39) (rs := [.t 8, .t 9]) (by kernel_rfl) rfl (by kernel_rfl) (by kernel_rfl) (by kernel_rfl) (by kernel_rfl) (by kernel_rfl) ?_
  exact
   ini [(0, .d ((cXGeo (cLs cI rfl)).enc v0)), (1, .d ((cLs (cXVariable cS cI) rfl).enc v1)), (2, .d ((cXTable cI (cLs cI rfl) (cLs cI rfl) cI).enc v2)), (3, .d ((cXTable cI (cLs cI rfl) (cLs cI rfl) cI).enc v3))] rfl <| wpC_seq <| reg_s <| x_box (ss rfl rfl) <| x_box (ss rfl rfl) <| x_box (ss rfl rfl) <| x_asg (sc cB false rfl) <| x_asg (sc cB false rfl) <| seqN [(1, .d ((cLs (cXVariable cS cI) rfl).enc v1)), (4, .box ((cXGeo (cLs cI rfl)).enc v0)), (6, .box ((cXTable cI (cLs cI rfl) (cLs cI rfl) cI).enc v2)), (7, .box ((cXTable cI (cLs cI rfl) (cLs cI rfl) cI).enc v3))] (by kernel_rfl) <|
    xn <| wpC_seq <| wpC_kp <| wpC_seq <| reg_s <| st rfl <| ldb rfl rfl rfl rfl <| st rfl <| mvd rfl rfl <| st rfl <| ldb rfl rfl rfl rfl <| bnd h fun x17 e18 h => st rfl <| o_call (a1 (c := (cXGeo (cLs cI rfl))) (tXGeo (tLs tK)) rfl (a1 (c := (cLs (cXVariable cS cI) rfl)) (tLs (tXVariable tS tK)) rfl (a1 (c := (cXTable cI (cLs cI rfl) (cLs cI rfl) cI)) (tXTable tK (tLs tK) (tLs tK) tK) rfl a0))) (con_impl_areTabled e18) (.inl (so1 sB so0)) <| st rfl <| o_nt rfl <| st rfl <| mvd rfl rfl <| ite_k h (fun b19 h => gf rfl b19 <| gf rfl b19 <| gf rfl b19 <| gf rfl b19 <| gf rfl b19 <| st rfl <| pick1 rfl b19 (cd := cB) (v := true) rfl rfl <| seqN [(1, .d ((cLs (cXVariable cS cI) rfl).enc v1)), (6, .box ((cXTable cI (cLs cI rfl) (cLs cI rfl) cI).enc v2)), (7, .box ((cXTable cI (cLs cI rfl) (cLs cI rfl) cI).enc v3)), (21, .d (cB.enc true))] (by kernel_rfl) <|
    xn <| cnd1 rfl rfl <| wpC_seq <| reg_s <| x_asg (sc cB false rfl) <| x_asg (sc cB false rfl) <| seqN [(8, .d (cB.enc false)), (9, .d (cB.enc false))] (by kernel_rfl) <|
    xn <| wpC_ret <| rt <| rt <| re <| fin h (r1 (ss rfl rfl) <| r1 (ss rfl rfl) <| r0) rfl)
    (fun b19 h => gt' rfl b19 <| st rfl <| ldb rfl rfl rfl rfl <| gt' rfl b19 <| st rfl <| mvd rfl rfl <| gt' rfl b19 <| st rfl <| ldb rfl rfl rfl rfl <| gt' rfl b19 <| bnd h fun x20 e21 h => st rfl <| o_call (a1 (c := (cXGeo (cLs cI rfl))) (tXGeo (tLs tK)) rfl (a1 (c := (cLs (cXVariable cS cI) rfl)) (tLs (tXVariable tS tK)) rfl (a1 (c := (cXTable cI (cLs cI rfl) (cLs cI rfl) cI)) (tXTable tK (tLs tK) (tLs tK) tK) rfl a0))) (con_impl_isTable e21) (.inl (so1 sB so0)) <| gt' rfl b19 <| st rfl <| o_nt rfl <| st rfl <| pick0 rfl b19 (cd := cB) (v := (!x20)) rfl rfl <| seqN [(1, .d ((cLs (cXVariable cS cI) rfl).enc v1)), (6, .box ((cXTable cI (cLs cI rfl) (cLs cI rfl) cI).enc v2)), (7, .box ((cXTable cI (cLs cI rfl) (cLs cI rfl) cI).enc v3)), (21, .d (cB.enc (!x20)))] (by kernel_rfl) <|
    xn <| cnd rfl h (fun b22 h => wpC_seq <| reg_s <| x_asg (sc cB false rfl) <| x_asg (sc cB false rfl) <| seqN [(8, .d (cB.enc false)), (9, .d (cB.enc false))] (by kernel_rfl) <|
    xn <| wpC_ret <| rt <| rt <| re <| fin h (r1 (ss rfl rfl) <| r1 (ss rfl rfl) <| r0) rfl)
    (fun b22 h => wpC_skip <| kpN [(1, .d ((cLs (cXVariable cS cI) rfl).enc v1)), (6, .box ((cXTable cI (cLs cI rfl) (cLs cI rfl) cI).enc v2)), (7, .box ((cXTable cI (cLs cI rfl) (cLs cI rfl) cI).enc v3))] (by kernel_rfl) <| xn <| wpC_seq <| reg_s <| st rfl <| mvd rfl rfl <| st rfl <| ldb rfl rfl rfl rfl <| st rfl <| ldb rfl rfl rfl rfl <| bnd h fun x25 e26 h => st rfl <| o_call (a1 (c := (cLs (cXVariable cS cI) rfl)) (tLs (tXVariable tS tK)) rfl (a1 (c := (cXTable cI (cLs cI rfl) (cLs cI rfl) cI)) (tXTable tK (tLs tK) (tLs tK) tK) rfl (a1 (c := (cXTable cI (cLs cI rfl) (cLs cI rfl) cI)) (tXTable tK (tLs tK) (tLs tK) tK) rfl a0))) (con_impl_sameMeaning e26) (.inl (so1 sB so0)) <| x_asg (ss rfl rfl) <| x_asg (sc cB true rfl) <| seqN [(8, .d (cB.enc x25)), (9, .d (cB.enc true))] (by kernel_rfl) <|
    xn <| wpC_ret <| re <| fin h (r1 (ss rfl rfl) <| r1 (ss rfl rfl) <| r0) rfl))

def rs_laws_FnExactSameMeaning (r : Bool) : List D := [cB.enc r]
def m7 : MC := .seq (.reg [⟨some 4, .box (.t 0), none⟩,
    ⟨some 6, .box (.t 2), none⟩,
    ⟨some 7, .box (.t 3), none⟩,
    ⟨some 8, .asg (.c (.bool false)), none⟩] [1, 4, 6, 7])
  (.seq (.reg [⟨some 9, .asg (.c (.int .i64 1048576)), none⟩] [1, 4, 6, 7, 9])
  (.seq (.reg [⟨some 18, .ld 4 1 true, none⟩,
    ⟨some 19, .mv (.t 9), none⟩,
    ⟨some 20, .call 26 [(.t 18), (.t 19)], none⟩,
    ⟨some 9, .asg (.t 20), none⟩] [1, 4, 6, 7, 9])
  (.seq (.kp [1, 4, 6, 7, 9] (.seq (.reg [⟨some 21, .mv (.t 9), none⟩,
    ⟨some 22, .bin .lss (.t 21) (.c (.int .i64 0)), none⟩] [1, 4, 6, 7, 9, 22])
  (.cond (.t 22) (.seq (.reg [⟨some 8, .asg (.c (.bool true)), none⟩] [8])
  (.ret)) (.skip))))
  (.seq (.reg [⟨some 23, .mv (.t 1), none⟩,
    ⟨some 24, .mv (.t 9), none⟩,
    ⟨some 25, .call 15 [(.t 23), (.t 24)], none⟩,
    ⟨some 9, .asg (.t 25), none⟩] [1, 4, 6, 7, 9])
  (.seq (.kp [1, 4, 6, 7, 9] (.seq (.reg [⟨some 26, .mv (.t 9), none⟩,
    ⟨some 27, .bin .lss (.t 26) (.c (.int .i64 0)), none⟩] [1, 4, 6, 7, 9, 27])
  (.cond (.t 27) (.seq (.reg [⟨some 8, .asg (.c (.bool true)), none⟩] [8])
  (.ret)) (.skip))))
  (.seq (.reg [⟨some 28, .ld 6 4 true, none⟩,
    ⟨some 29, .mv (.t 9), none⟩,
    ⟨some 30, .call 16 [(.t 28), (.t 29)], none⟩,
    ⟨some 9, .asg (.t 30), none⟩] [1, 4, 6, 7, 9])
  (.seq (.kp [1, 4, 6, 7, 9] (.seq (.reg [⟨some 31, .mv (.t 9), none⟩,
    ⟨some 32, .bin .lss (.t 31) (.c (.int .i64 0)), none⟩] [1, 4, 6, 7, 9, 32])
  (.cond (.t 32) (.seq (.reg [⟨some 8, .asg (.c (.bool true)), none⟩] [8])
  (.ret)) (.skip))))
  (.seq (.reg [⟨some 33, .ld 7 4 true, none⟩,
    ⟨some 34, .mv (.t 9), none⟩,
    ⟨some 35, .call 16 [(.t 33), (.t 34)], none⟩,
    ⟨some 9, .asg (.t 35), none⟩] [1, 4, 6, 7, 9])
  (.seq (.kp [1, 4, 6, 7] (.seq (.reg [⟨some 36, .mv (.t 9), none⟩,
    ⟨some 37, .bin .lss (.t 36) (.c (.int .i64 0)), none⟩] [1, 4, 6, 7, 37])
  (.cond (.t 37) (.seq (.reg [⟨some 8, .asg (.c (.bool true)), none⟩] [8])
  (.ret)) (.skip))))
  (.seq (.drg [⟨0, ⟨some 39, .ld 4 1 true, none⟩, [40, 41, 42, 43, 44, 45, 46, 47]⟩,
    ⟨1, ⟨some 40, .call 28 [(.t 39)], none⟩, [41, 42, 43, 44, 45, 46, 47]⟩,
    ⟨2, ⟨some 41, .mv (.t 1), none⟩, [39, 40, 42, 43, 44, 45, 46, 47]⟩,
    ⟨3, ⟨some 42, .call 19 [(.t 41)], none⟩, [43, 44, 45, 46, 47]⟩,
    ⟨4, ⟨some 43, .ld 6 4 true, none⟩, [39, 40, 41, 42, 44, 45, 46, 47]⟩,
    ⟨5, ⟨some 44, .call 20 [(.t 43)], none⟩, [45, 46, 47]⟩,
    ⟨6, ⟨some 45, .ld 7 4 true, none⟩, [39, 40, 41, 42, 43, 44, 46, 47]⟩,
    ⟨7, ⟨some 46, .call 20 [(.t 45)], none⟩, [47]⟩,
    ⟨8, ⟨some 47, .call 38 [(.t 40), (.t 42), (.t 44), (.t 46)], none⟩, []⟩]
    [(9, ⟨some 38, .mvt 47, none⟩),
    (10, ⟨some 48, .ext 38 0, none⟩),
    (11, ⟨some 49, .ext 38 1, none⟩),
    (12, ⟨some 10, .asg (.t 48), none⟩),
    (13, ⟨some 11, .asg (.t 49), none⟩)] [1, 4, 6, 7, 10, 11] [10, 11, 38, 47, 48, 49, 1, 4, 6, 7] [([false, false, false, false, false], 0), ([true, false, false, false, false], 1), ([true, false, false, false, false], 2), ([true, true, false, false, false], 2), ([true, true, false, false, false], 3), ([true, false, true, false, false], 1), ([true, true, true, false, false], 3), ([true, true, false, true, false], 2), ([true, true, true, true, false], 4)])
  (.seq (.reg [⟨some 50, .ld 4 1 true, none⟩,
    ⟨some 51, .call 28 [(.t 50)], none⟩,
    ⟨some 12, .alloc (.agg [.slice true []]), none⟩,
    ⟨none, .st 12 (.t 51) 1, none⟩] [1, 4, 6, 7, 10, 11, 12])
  (.seq (.reg [⟨some 52, .mv (.t 1), none⟩,
    ⟨some 53, .call 19 [(.t 52)], none⟩,
    ⟨some 13, .asg (.t 53), none⟩] [1, 4, 6, 7, 10, 11, 12, 13])
  (.seq (.reg [⟨some 54, .ld 6 4 true, none⟩,
    ⟨some 55, .call 20 [(.t 54)], none⟩,
    ⟨some 14, .alloc (.agg [.int .i64 0, .slice true [], .slice true [], .int .i64 0]), none⟩,
    ⟨none, .st 14 (.t 55) 4, none⟩] [1, 4, 6, 7, 10, 11, 12, 13, 14])
  (.seq (.reg [⟨some 56, .ld 7 4 true, none⟩,
    ⟨some 57, .call 20 [(.t 56)], none⟩,
    ⟨some 15, .alloc (.agg [.int .i64 0, .slice true [], .slice true [], .int .i64 0]), none⟩,
    ⟨none, .st 15 (.t 57) 4, none⟩] [1, 4, 6, 7, 10, 11, 12, 13, 14, 15])
  (.seq (.reg [⟨some 59, .ld 12 1 true, none⟩,
    ⟨some 60, .mv (.t 13), none⟩,
    ⟨some 61, .ld 14 4 true, none⟩,
    ⟨some 62, .ld 15 4 true, none⟩,
    ⟨some 63, .call 39 [(.t 59), (.t 60), (.t 61), (.t 62)], none⟩,
    ⟨some 58, .mvt 63, none⟩,
    ⟨some 64, .ext 58 0, none⟩,
    ⟨some 65, .ext 58 1, none⟩,
    ⟨some 16, .asg (.t 64), none⟩,
    ⟨some 17, .asg (.t 65), none⟩] [1, 4, 6, 7, 10, 11, 12, 13, 14, 15, 16, 17])
  (.seq (.kp [1, 4, 6, 7, 12, 13, 14, 15] (.seq (.reg [⟨some 66, .mv (.t 16), none⟩,
    ⟨some 67, .mv (.t 10), none⟩,
    ⟨some 68, .eqb true (.t 66) (.t 67), none⟩,
    ⟨some 69, .mv (.t 68), none⟩,
    ⟨some 70, .mv (.t 17), some (69, false)⟩,
    ⟨some 71, .mv (.t 11), some (69, false)⟩,
    ⟨some 72, .eqb true (.t 70) (.t 71), some (69, false)⟩,
    ⟨some 73, .pick (.t 69) (.c (.bool true)) (.t 72), none⟩] [1, 4, 6, 7, 12, 13, 14, 15, 73])
  (.cond (.t 73) (.seq (.reg [⟨some 8, .asg (.c (.bool false)), none⟩] [8])
  (.ret)) (.skip))))
  (.seq (.kp [1, 6, 7, 13, 14, 15] (.seq (.drw [⟨0, ⟨some 74, .ld 12 1 true, none⟩, [75, 76, 77, 78]⟩,
    ⟨1, ⟨some 75, .ld 4 1 true, none⟩, [74, 76, 77, 78]⟩,
    ⟨2, ⟨some 76, .call 28 [(.t 75)], none⟩, [74, 77, 78]⟩,
    ⟨3, ⟨some 77, .call 30 [(.t 74), (.t 76)], none⟩, [78]⟩,
    ⟨4, ⟨some 78, .nt (.t 77), none⟩, []⟩]
    [] [1, 6, 7, 13, 14, 15, 78])
  (.cond (.t 78) (.seq (.reg [⟨some 8, .asg (.c (.bool false)), none⟩] [8])
  (.ret)) (.skip))))
  (.seq (.kp [6, 7, 14, 15] (.seq (.reg [⟨some 79, .mv (.t 13), none⟩,
    ⟨some 80, .mv (.t 1), none⟩,
    ⟨some 81, .call 19 [(.t 80)], none⟩,
    ⟨some 82, .call 23 [(.t 79), (.t 81)], none⟩,
    ⟨some 83, .nt (.t 82), none⟩] [6, 7, 14, 15, 83])
  (.cond (.t 83) (.seq (.reg [⟨some 8, .asg (.c (.bool false)), none⟩] [8])
  (.ret)) (.skip))))
  (.seq (.kp [7, 15] (.seq (.drw [⟨0, ⟨some 84, .ld 14 4 true, none⟩, [85, 86, 87, 88]⟩,
    ⟨1, ⟨some 85, .ld 6 4 true, none⟩, [84, 86, 87, 88]⟩,
    ⟨2, ⟨some 86, .call 20 [(.t 85)], none⟩, [84, 87, 88]⟩,
    ⟨3, ⟨some 87, .call 24 [(.t 84), (.t 86)], none⟩, [88]⟩,
    ⟨4, ⟨some 88, .nt (.t 87), none⟩, []⟩]
    [] [7, 15, 88])
  (.cond (.t 88) (.seq (.reg [⟨some 8, .asg (.c (.bool false)), none⟩] [8])
  (.ret)) (.skip))))
  (.seq (.kp [] (.seq (.drw [⟨0, ⟨some 89, .ld 15 4 true, none⟩, [90, 91, 92, 93]⟩,
    ⟨1, ⟨some 90, .ld 7 4 true, none⟩, [89, 91, 92, 93]⟩,
    ⟨2, ⟨some 91, .call 20 [(.t 90)], none⟩, [89, 92, 93]⟩,
    ⟨3, ⟨some 92, .call 24 [(.t 89), (.t 91)], none⟩, [93]⟩,
    ⟨4, ⟨some 93, .nt (.t 92), none⟩, []⟩]
    [] [93])
  (.cond (.t 93) (.seq (.reg [⟨some 8, .asg (.c (.bool false)), none⟩] [8])
  (.ret)) (.skip))))
  (.seq (.reg [⟨some 8, .asg (.c (.bool true)), none⟩] [8])
  (.ret))))))))))))))))))))))
theorem con_laws_FnExactSameMeaning {v0 : XGeo} {v1 : (List XVariable)} {v2 : XTable} {v3 : XTable} {r : Bool} (h : sh_laws_FnExactSameMeaning v0 v1 v2 v3 = some r) : Con Try.prog 7 [(cXGeo (cLs cI rfl)).enc v0, (cLs (cXVariable cS cI) rfl).enc v1, (cXTable cI (cLs cI rfl) (cLs cI rfl) cI).enc v2, (cXTable cI (cLs cI rfl) (cLs cI rfl) cI).enc v3] [] (rs_laws_FnExactSameMeaning r) := by
  delta sh_laws_FnExactSameMeaning at h
  refine top (out := none) (f := Try.f7) (m := m7) (rs := [.t 8]) (by kernel_rfl) rfl (by kernel_rfl) (by kernel_rfl) (by kernel_rfl) (by kernel_rfl) (by kernel_rfl) ?_
  exact
   ini [(0, .d ((cXGeo (cLs cI rfl)).enc v0)), (1, .d ((cLs (cXVariable cS cI) rfl).enc v1)), (2, .d ((cXTable cI (cLs cI rfl) (cLs cI rfl) cI).enc v2)), (3, .d ((cXTable cI (cLs cI rfl) (cLs cI rfl) cI).enc v3))] rfl <| wpC_seq <| reg_s <| x_box (ss rfl rfl) <| x_box (ss rfl rfl) <| x_box (ss rfl rfl) <| x_asg (sc cB false rfl) <| seqN [(1, .d ((cLs (cXVariable cS cI) rfl).enc v1)), (4, .box ((cXGeo (cLs cI rfl)).enc v0)), (6, .box ((cXTable cI (cLs cI rfl) (cLs cI rfl) cI).enc v2)), (7, .box ((cXTable cI (cLs cI rfl) (cLs cI rfl) cI).enc v3))] (by kernel_rfl) <|
    xn <| wpC_seq <| reg_s <| x_asg (sc cI (1048576 : Int) rfl) <| seqN [(1, .d ((cLs (cXVariable cS cI) rfl).enc v1)), (4, .box ((cXGeo (cLs cI rfl)).enc v0)), (6, .box ((cXTable cI (cLs cI rfl) (cLs cI rfl) cI).enc v2)), (7, .box ((cXTable cI (cLs cI rfl) (cLs cI rfl) cI).enc v3)), (9, .d (cI.enc (1048576 : Int)))] (by kernel_rfl) <|
    xn <| wpC_seq <| reg_s <| st rfl <| ldb rfl rfl rfl rfl <| st rfl <| mvd rfl rfl <| bnd h fun x3 e4 h => st rfl <| o_call (a1 (c := (cXGeo (cLs cI rfl))) (tXGeo (tLs tK)) rfl (a1 (c := cI) tK rfl a0)) (con_laws_szGeo e4) (.inl (so1 sK so0)) <| x_asg (ss rfl rfl) <| seqN [(1, .d ((cLs (cXVariable cS cI) rfl).enc v1)), (4, .box ((cXGeo (cLs cI rfl)).enc v0)), (6, .box ((cXTable cI (cLs cI rfl) (cLs cI rfl) cI).enc v2)), (7, .box ((cXTable cI (cLs cI rfl) (cLs cI rfl) cI).enc v3)), (9, .d (cI.enc x3))] (by kernel_rfl) <|
    xn <| wpC_seq <| wpC_kp <| wpC_seq <| reg_s <| st rfl <| mvd rfl rfl <| st rfl <| b_lss (k := .i64) rfl rfl <| seqN [(1, .d ((cLs (cXVariable cS cI) rfl).enc v1)), (4, .box ((cXGeo (cLs cI rfl)).enc v0)), (6, .box ((cXTable cI (cLs cI rfl) (cLs cI rfl) cI).enc v2)), (7, .box ((cXTable cI (cLs cI rfl) (cLs cI rfl) cI).enc v3)), (9, .d (cI.enc x3)), (22, .d (cB.enc (decide (x3 < (0 : Int)))))] (by kernel_rfl) <|
    xn <| cnd rfl h (fun b6 h => wpC_seq <| reg_s <| x_asg (sc cB true rfl) <| seqN [(8, .d (cB.enc true))] (by kernel_rfl) <|
    xn <| wpC_ret <| rt <| rt <| re <| fin h (r1 (ss rfl rfl) <| r0) rfl)
    (fun b6 h => wpC_skip <| kpN [(1, .d ((cLs (cXVariable cS cI) rfl).enc v1)), (4, .box ((cXGeo (cLs cI rfl)).enc v0)), (6, .box ((cXTable cI (cLs cI rfl) (cLs cI rfl) cI).enc v2)), (7, .box ((cXTable cI (cLs cI rfl) (cLs cI rfl) cI).enc v3)), (9, .d (cI.enc x3))] (by kernel_rfl) <| xn <| wpC_seq <| reg_s <| st rfl <| mvd rfl rfl <| st rfl <| mvd rfl rfl <| bnd h fun x9 e10 h => st rfl <| o_call (a1 (c := (cLs (cXVariable cS cI) rfl)) (tLs (tXVariable tS tK)) rfl (a1 (c := cI) tK rfl a0)) (con_laws_szVariableS e10) (.inl (so1 sK so0)) <| x_asg (ss rfl rfl) <| seqN [(1, .d ((cLs (cXVariable cS cI) rfl).enc v1)), (4, .box ((cXGeo (cLs cI rfl)).enc v0)), (6, .box ((cXTable cI (cLs cI rfl) (cLs cI rfl) cI).enc v2)), (7, .box ((cXTable cI (cLs cI rfl) (cLs cI rfl) cI).enc v3)), (9, .d (cI.enc x9))] (by kernel_rfl) <|
    xn <| wpC_seq <| wpC_kp <| wpC_seq <| reg_s <| st rfl <| mvd rfl rfl <| st rfl <| b_lss (k := .i64) rfl rfl <| seqN [(1, .d ((cLs (cXVariable cS cI) rfl).enc v1)), (4, .box ((cXGeo (cLs cI rfl)).enc v0)), (6, .box ((cXTable cI (cLs cI rfl) (cLs cI rfl) cI).enc v2)), (7, .box ((cXTable cI (cLs cI rfl) (cLs cI rfl) cI).enc v3)), (9, .d (cI.enc x9)), (27, .d (cB.enc (decide (x9 < (0 : Int)))))] (by kernel_rfl) <|
    xn <| cnd rfl h (fun b12 h => wpC_seq <| reg_s <| x_asg (sc cB true rfl) <| seqN [(8, .d (cB.enc true))] (by kernel_rfl) <|
    xn <| wpC_ret <| rt <| rt <| re <| fin h (r1 (ss rfl rfl) <| r0) rfl)
    (fun b12 h => wpC_skip <| kpN [(1, .d ((cLs (cXVariable cS cI) rfl).enc v1)), (4, .box ((cXGeo (cLs cI rfl)).enc v0)), (6, .box ((cXTable cI (cLs cI rfl) (cLs cI rfl) cI).enc v2)), (7, .box ((cXTable cI (cLs cI rfl) (cLs cI rfl) cI).enc v3)), (9, .d (cI.enc x9))] (by kernel_rfl) <| xn <| wpC_seq <| reg_s <| st rfl <| ldb rfl rfl rfl rfl <| st rfl <| mvd rfl rfl <| bnd h fun x15 e16 h => st rfl <| o_call (a1 (c := (cXTable cI (cLs cI rfl) (cLs cI rfl) cI)) (tXTable tK (tLs tK) (tLs tK) tK) rfl (a1 (c := cI) tK rfl a0)) (con_laws_szTable e16) (.inl (so1 sK so0)) <| x_asg (ss rfl rfl) <| seqN [(1, .d ((cLs (cXVariable cS cI) rfl).enc v1)), (4, .box ((cXGeo (cLs cI rfl)).enc v0)), (6, .box ((cXTable cI (cLs cI rfl) (cLs cI rfl) cI).enc v2)), (7, .box ((cXTable cI (cLs cI rfl) (cLs cI rfl) cI).enc v3)), (9, .d (cI.enc x15))] (by kernel_rfl) <|
    xn <| wpC_seq <| wpC_kp <| wpC_seq <| reg_s <| st rfl <| mvd rfl rfl <| st rfl <| b_lss (k := .i64) rfl rfl <| seqN [(1, .d ((cLs (cXVariable cS cI) rfl).enc v1)), (4, .box ((cXGeo (cLs cI rfl)).enc v0)), (6, .box ((cXTable cI (cLs cI rfl) (cLs cI rfl) cI).enc v2)), (7, .box ((cXTable cI (cLs cI rfl) (cLs cI rfl) cI).enc v3)), (9, .d (cI.enc x15)), (32, .d (cB.enc (decide (x15 < (0 : Int)))))] (by kernel_rfl) <|
    xn <| cnd rfl h (fun b18 h => wpC_seq <| reg_s <| x_asg (sc cB true rfl) <| seqN [(8, .d (cB.enc true))] (by kernel_rfl) <|
    xn <| wpC_ret <| rt <| rt <| re <| fin h (r1 (ss rfl rfl) <| r0) rfl)
    (fun b18 h => wpC_skip <| kpN [(1, .d ((cLs (cXVariable cS cI) rfl).enc v1)), (4, .box ((cXGeo (cLs cI rfl)).enc v0)), (6, .box ((cXTable cI (cLs cI rfl) (cLs cI rfl) cI).enc v2)), (7, .box ((cXTable cI (cLs cI rfl) (cLs cI rfl) cI).enc v3)), (9, .d (cI.enc x15))] (by kernel_rfl) <| xn <| wpC_seq <| reg_s <| st rfl <| ldb rfl rfl rfl rfl <| st rfl <| mvd rfl rfl <| bnd h fun x21 e22 h => st rfl <| o_call (a1 (c := (cXTable cI (cLs cI rfl) (cLs cI rfl) cI)) (tXTable tK (tLs tK) (tLs tK) tK) rfl (a1 (c := cI) tK rfl a0)) (con_laws_szTable e22) (.inl (so1 sK so0)) <| x_asg (ss rfl rfl) <| seqN [(1, .d ((cLs (cXVariable cS cI) rfl).enc v1)), (4, .box ((cXGeo (cLs cI rfl)).enc v0)), (6, .box ((cXTable cI (cLs cI rfl) (cLs cI rfl) cI).enc v2)), (7, .box ((cXTable cI (cLs cI rfl) (cLs cI rfl) cI).enc v3)), (9, .d (cI.enc x21))] (by kernel_rfl) <|
    xn <| wpC_seq <| wpC_kp <| wpC_seq <| reg_s <| st rfl <| mvd rfl rfl <| st rfl <| b_lss (k := .i64) rfl rfl <| seqN [(1, .d ((cLs (cXVariable cS cI) rfl).enc v1)), (4, .box ((cXGeo (cLs cI rfl)).enc v0)), (6, .box ((cXTable cI (cLs cI rfl) (cLs cI rfl) cI).enc v2)), (7, .box ((cXTable cI (cLs cI rfl) (cLs cI rfl) cI).enc v3)), (37, .d (cB.enc (decide (x21 < (0 : Int)))))] (by kernel_rfl) <|
    xn <| cnd rfl h (fun b24 h => wpC_seq <| reg_s <| x_asg (sc cB true rfl) <| seqN [(8, .d (cB.enc true))] (by kernel_rfl) <|
    xn <| wpC_ret <| rt <| rt <| re <| fin h (r1 (ss rfl rfl) <| r0) rfl)
    (fun b24 h => wpC_skip <| kpN [(1, .d ((cLs (cXVariable cS cI) rfl).enc v1)), (4, .box ((cXGeo (cLs cI rfl)).enc v0)), (6, .box ((cXTable cI (cLs cI rfl) (cLs cI rfl) cI).enc v2)), (7, .box ((cXTable cI (cLs cI rfl) (cLs cI rfl) cI).enc v3))] (by kernel_rfl) <| xn <| wpC_seq <| drg_s <| pst rfl <| ldb rfl rfl rfl rfl ⟨rfl, bndp h fun x35 e36 h => pst rfl <| o_call (a1 (c := (cXGeo (cLs cI rfl))) (tXGeo (tLs tK)) rfl a0) (con_laws_toGeo e36) (.inl (so1 (sXGeo (sLo sK)) so0)) ⟨rfl, pst rfl <| mvd rfl rfl ⟨rfl, bndp h fun x37 e38 h => pst rfl <| o_call (a1 (c := (cLs (cXVariable cS cI) rfl)) (tLs (tXVariable tS tK)) rfl a0) (con_laws_toVariableS e38) (.inl (so1 (sLo (sXVariable sS sK)) so0)) ⟨rfl, pst rfl <| ldb rfl rfl rfl rfl ⟨rfl, bndp h fun x39 e40 h => pst rfl <| o_call (a1 (c := (cXTable cI (cLs cI rfl) (cLs cI rfl) cI)) (tXTable tK (tLs tK) (tLs tK) tK) rfl a0) (con_laws_toTable e40) (.inl (so1 (sXTable sK (sLo sK) (sLo sK) sK) so0)) ⟨rfl, pst rfl <| ldb rfl rfl rfl rfl ⟨rfl, bndp h fun x41 e42 h => pst rfl <| o_call (a1 (c := (cXTable cI (cLs cI rfl) (cLs cI rfl) cI)) (tXTable tK (tLs tK) (tLs tK) tK) rfl a0) (con_laws_toTable e42) (.inl (so1 (sXTable sK (sLo sK) (sLo sK) sK) so0)) ⟨rfl, bndp h fun x43 e44 h => pst rfl <| o_call (a1 (c := (cXGeo (cLo cI))) (tXGeo (tLo tK)) rfl (a1 (c := (cLo (cXVariable cS cI))) (tLo (tXVariable tS tK)) rfl (a1 (c := (cXTable cI (cLo cI) (cLo cI) cI)) (tXTable tK (tLo tK) (tLo tK) tK) rfl (a1 (c := (cXTable cI (cLo cI) (cLo cI) cI)) (tXTable tK (tLo tK) (tLo tK) tK) rfl a0)))) (con_spec_SameMeaning e44) (.inl (so1 sB (so1 sB so0))) ⟨rfl, preN <| gr_s [(1, .d ((cLs (cXVariable cS cI) rfl).enc v1)), (4, .box ((cXGeo (cLs cI rfl)).enc v0)), (6, .box ((cXTable cI (cLs cI rfl) (cLs cI rfl) cI).enc v2)), (7, .box ((cXTable cI (cLs cI rfl) (cLs cI rfl) cI).enc v3))] [([false, false, false, false, false], [(10, .un), (11, .un), (38, .un), (47, .tup [some (cB.enc x43.1), some (cB.enc x43.2)]), (48, .un), (49, .un)]),
     ([true, false, false, false, false], [(10, .un), (11, .un), (38, .tup [some (cB.enc x43.1), some (cB.enc x43.2)]), (47, .un), (48, .un), (49, .un)]),
     ([true, true, false, false, false], [(10, .un), (11, .un), (38, .tup [none, some (cB.enc x43.2)]), (47, .un), (48, .d (cB.enc x43.1)), (49, .un)]),
     ([true, false, true, false, false], [(10, .un), (11, .un), (38, .tup [some (cB.enc x43.1), none]), (47, .un), (48, .un), (49, .d (cB.enc x43.2))]),
     ([true, true, true, false, false], [(10, .un), (11, .un), (38, .tup [none, none]), (47, .un), (48, .d (cB.enc x43.1)), (49, .d (cB.enc x43.2))]),
     ([true, true, false, true, false], [(10, .d (cB.enc x43.1)), (11, .un), (38, .tup [none, some (cB.enc x43.2)]), (47, .un), (48, .d (cB.enc x43.1)), (49, .un)]),
     ([true, true, true, true, false], [(10, .d (cB.enc x43.1)), (11, .un), (38, .tup [none, none]), (47, .un), (48, .d (cB.enc x43.1)), (49, .d (cB.enc x43.2))]),
     ([true, true, true, true, true], [(10, .d (cB.enc x43.1)), (11, .d (cB.enc x43.2)), (38, .tup [none, none]), (47, .un), (48, .d (cB.enc x43.1)), (49, .d (cB.enc x43.2))])] [(1, .d ((cLs (cXVariable cS cI) rfl).enc v1)), (4, .box ((cXGeo (cLs cI rfl)).enc v0)), (6, .box ((cXTable cI (cLs cI rfl) (cLs cI rfl) cI).enc v2)), (7, .box ((cXTable cI (cLs cI rfl) (cLs cI rfl) cI).enc v3)), (10, .d (cB.enc x43.1)), (11, .d (cB.enc x43.2))] [([false, false, false, false, false], [])] (by kernel_rfl) (sa1 rfl (by kernel_rfl) <| sa0) rfl
    (ob1 rfl rfl rfl (x_mvt rfl <| obN (by kernel_rfl)) <|
    ob1 rfl rfl rfl (x_ext rfl rfl <| obN (by kernel_rfl)) <|
    ob1 rfl rfl rfl (x_ext rfl rfl <| obN (by kernel_rfl)) <|
    ob1 rfl rfl rfl (x_ext rfl rfl <| obN (by kernel_rfl)) <|
    ob1 rfl rfl rfl (x_asg (ss rfl rfl) <| obN (by kernel_rfl)) <|
    ob1 rfl rfl rfl (x_ext rfl rfl <| obN (by kernel_rfl)) <|
    ob1 rfl rfl rfl (x_asg (ss rfl rfl) <| obN (by kernel_rfl)) <|
    ob1 rfl rfl rfl (x_ext rfl rfl <| obN (by kernel_rfl)) <|
    ob1 rfl rfl rfl (x_asg (ss rfl rfl) <| obN (by kernel_rfl)) <|
    ob0)
    (by kernel_rfl) <|
    xn <| wpC_seq <| reg_s <| st rfl <| ldb rfl rfl rfl rfl <| bnd h fun x47 e48 h => st rfl <| o_call (a1 (c := (cXGeo (cLs cI rfl))) (tXGeo (tLs tK)) rfl a0) (con_laws_toGeo e48) (.inl (so1 (sXGeo (sLo sK)) so0)) <| x_all (cXGeo (cLo cI)) (⟨([] : List Int)⟩ : XGeo) rfl <| x_stb (so rfl rfl) rfl (Cd.h_sz _ _) rfl <| seqN [(1, .d ((cLs (cXVariable cS cI) rfl).enc v1)), (4, .box ((cXGeo (cLs cI rfl)).enc v0)), (6, .box ((cXTable cI (cLs cI rfl) (cLs cI rfl) cI).enc v2)), (7, .box ((cXTable cI (cLs cI rfl) (cLs cI rfl) cI).enc v3)), (10, .d (cB.enc x43.1)), (11, .d (cB.enc x43.2)), (12, .box ((cXGeo (cLo cI)).enc x47))] (by kernel_rfl) <|
    xn <| wpC_seq <| reg_s <| st rfl <| mvd rfl rfl <| bnd h fun x51 e52 h => st rfl <| o_call (a1 (c := (cLs (cXVariable cS cI) rfl)) (tLs (tXVariable tS tK)) rfl a0) (con_laws_toVariableS e52) (.inl (so1 (sLo (sXVariable sS sK)) so0)) <| x_asg (so rfl rfl) <| seqN [(1, .d ((cLs (cXVariable cS cI) rfl).enc v1)), (4, .box ((cXGeo (cLs cI rfl)).enc v0)), (6, .box ((cXTable cI (cLs cI rfl) (cLs cI rfl) cI).enc v2)), (7, .box ((cXTable cI (cLs cI rfl) (cLs cI rfl) cI).enc v3)), (10, .d (cB.enc x43.1)), (11, .d (cB.enc x43.2)), (12, .box ((cXGeo (cLo cI)).enc x47)), (13, .d ((cLo (cXVariable cS cI)).enc x51))] (by kernel_rfl) <|
    xn <| wpC_seq <| reg_s <| st rfl <| ldb rfl rfl rfl rfl <| bnd h fun x55 e56 h => st rfl <| o_call (a1 (c := (cXTable cI (cLs cI rfl) (cLs cI rfl) cI)) (tXTable tK (tLs tK) (tLs tK) tK) rfl a0) (con_laws_toTable e56) (.inl (so1 (sXTable sK (sLo sK) (sLo sK) sK) so0)) <| x_all (cXTable cI (cLo cI) (cLo cI) cI) (⟨(0 : Int), ([] : List Int), ([] : List Int), (0 : Int)⟩ : XTable) rfl <| x_stb (so rfl rfl) rfl (Cd.h_sz _ _) rfl <| seqN [(1, .d ((cLs (cXVariable cS cI) rfl).enc v1)), (4, .box ((cXGeo (cLs cI rfl)).enc v0)), (6, .box ((cXTable cI (cLs cI rfl) (cLs cI rfl) cI).enc v2)), (7, .box ((cXTable cI (cLs cI rfl) (cLs cI rfl) cI).enc v3)), (10, .d (cB.enc x43.1)), (11, .d (cB.enc x43.2)), (12, .box ((cXGeo (cLo cI)).enc x47)), (13, .d ((cLo (cXVariable cS cI)).enc x51)), (14, .box ((cXTable cI (cLo cI) (cLo cI) cI).enc x55))] (by kernel_rfl) <|
    xn <| wpC_seq <| reg_s <| st rfl <| ldb rfl rfl rfl rfl <| bnd h fun x59 e60 h => st rfl <| o_call (a1 (c := (cXTable cI (cLs cI rfl) (cLs cI rfl) cI)) (tXTable tK (tLs tK) (tLs tK) tK) rfl a0) (con_laws_toTable e60) (.inl (so1 (sXTable sK (sLo sK) (sLo sK) sK) so0)) <| x_all (cXTable cI (cLo cI) (cLo cI) cI) (⟨(0 : Int), ([] : List Int), ([] : List Int), (0 : Int)⟩ : XTable) rfl <| x_stb (so rfl rfl) rfl (Cd.h_sz _ _) rfl <| seqN [(1, .d ((cLs (cXVariable cS cI) rfl).enc v1)), (4, .box ((cXGeo (cLs cI rfl)).enc v0)), (6, .box ((cXTable cI (cLs cI rfl) (cLs cI rfl) cI).enc v2)), (7, .box ((cXTable cI (cLs cI rfl) (cLs cI rfl) cI).enc v3)), (10, .d (cB.enc x43.1)), (11, .d (cB.enc x43.2)), (12, .box ((cXGeo (cLo cI)).enc x47)), (13, .d ((cLo (cXVariable cS cI)).enc x51)), (14, .box ((cXTable cI (cLo cI) (cLo cI) cI).enc x55)), (15, .box ((cXTable cI (cLo cI) (cLo cI) cI).enc x59))] (by kernel_rfl) <|
    xn <| wpC_seq <| reg_s <| st rfl <| ldbo rfl rfl rfl rfl <| st rfl <| mvo rfl rfl <| st rfl <| ldbo rfl rfl rfl rfl <| st rfl <| ldbo rfl rfl rfl rfl <| bnd h fun x63 e64 h => st rfl <| o_call (a1 (c := (cXGeo (cLo cI))) (tXGeo (tLo tK)) rfl (a1 (c := (cLo (cXVariable cS cI))) (tLo (tXVariable tS tK)) rfl (a1 (c := (cXTable cI (cLo cI) (cLo cI) cI)) (tXTable tK (tLo tK) (tLo tK) tK) rfl (a1 (c := (cXTable cI (cLo cI) (cLo cI) cI)) (tXTable tK (tLo tK) (tLo tK) tK) rfl a0)))) (con_impl_SameMeaning e64) (.inl (so1 sB (so1 sB so0))) <| x_mvt rfl <| x_ext rfl rfl <| x_ext rfl rfl <| x_asg (ss rfl rfl) <| x_asg (ss rfl rfl) <| seqN [(1, .d ((cLs (cXVariable cS cI) rfl).enc v1)), (4, .box ((cXGeo (cLs cI rfl)).enc v0)), (6, .box ((cXTable cI (cLs cI rfl) (cLs cI rfl) cI).enc v2)), (7, .box ((cXTable cI (cLs cI rfl) (cLs cI rfl) cI).enc v3)), (10, .d (cB.enc x43.1)), (11, .d (cB.enc x43.2)), (12, .box ((cXGeo (cLo cI)).enc x47)), (13, .d ((cLo (cXVariable cS cI)).enc x51)), (14, .box ((cXTable cI (cLo cI) (cLo cI) cI).enc x55)), (15, .box ((cXTable cI (cLo cI) (cLo cI) cI).enc x59)), (16, .d (cB.enc x63.1)), (17, .d (cB.enc x63.2))] (by kernel_rfl) <|
    xn <| wpC_seq <| wpC_kp <| wpC_seq <| reg_s <| st rfl <| mvd rfl rfl <| st rfl <| mvd rfl rfl <| st rfl <| eqb1 rfl rfl <| st rfl <| mvd rfl rfl <| ite_k h (fun b69 h => gf rfl b69 <| gf rfl b69 <| gf rfl b69 <| st rfl <| pick1 rfl b69 (cd := cB) (v := true) rfl rfl <| seqN [(1, .d ((cLs (cXVariable cS cI) rfl).enc v1)), (4, .box ((cXGeo (cLs cI rfl)).enc v0)), (6, .box ((cXTable cI (cLs cI rfl) (cLs cI rfl) cI).enc v2)), (7, .box ((cXTable cI (cLs cI rfl) (cLs cI rfl) cI).enc v3)), (12, .box ((cXGeo (cLo cI)).enc x47)), (13, .d ((cLo (cXVariable cS cI)).enc x51)), (14, .box ((cXTable cI (cLo cI) (cLo cI) cI).enc x55)), (15, .box ((cXTable cI (cLo cI) (cLo cI) cI).enc x59)), (73, .d (cB.enc true))] (by kernel_rfl) <|
    xn <| cnd1 rfl rfl <| wpC_seq <| reg_s <| x_asg (sc cB false rfl) <| seqN [(8, .d (cB.enc false))] (by kernel_rfl) <|
    xn <| wpC_ret <| rt <| rt <| re <| fin h (r1 (ss rfl rfl) <| r0) rfl)
    (fun b69 h => gt' rfl b69 <| st rfl <| mvd rfl rfl <| gt' rfl b69 <| st rfl <| mvd rfl rfl <| gt' rfl b69 <| st rfl <| eqb1 rfl rfl <| st rfl <| pick0 rfl b69 (cd := cB) (v := (x63.2 != x43.2)) rfl rfl <| seqN [(1, .d ((cLs (cXVariable cS cI) rfl).enc v1)), (4, .box ((cXGeo (cLs cI rfl)).enc v0)), (6, .box ((cXTable cI (cLs cI rfl) (cLs cI rfl) cI).enc v2)), (7, .box ((cXTable cI (cLs cI rfl) (cLs cI rfl) cI).enc v3)), (12, .box ((cXGeo (cLo cI)).enc x47)), (13, .d ((cLo (cXVariable cS cI)).enc x51)), (14, .box ((cXTable cI (cLo cI) (cLo cI) cI).enc x55)), (15, .box ((cXTable cI (cLo cI) (cLo cI) cI).enc x59)), (73, .d (cB.enc (x63.2 != x43.2)))] (by kernel_rfl) <|
    xn <| cnd rfl h (fun b70 h => wpC_seq <| reg_s <| x_asg (sc cB false rfl) <| seqN [(8, .d (cB.enc false))] (by kernel_rfl) <|
    xn <| wpC_ret <| rt <| rt <| re <| fin h (r1 (ss rfl rfl) <| r0) rfl)
    (fun b70 h => wpC_skip <| kpN [(1, .d ((cLs (cXVariable cS cI) rfl).enc v1)), (4, .box ((cXGeo (cLs cI rfl)).enc v0)), (6, .box ((cXTable cI (cLs cI rfl) (cLs cI rfl) cI).enc v2)), (7, .box ((cXTable cI (cLs cI rfl) (cLs cI rfl) cI).enc v3)), (12, .box ((cXGeo (cLo cI)).enc x47)), (13, .d ((cLo (cXVariable cS cI)).enc x51)), (14, .box ((cXTable cI (cLo cI) (cLo cI) cI).enc x55)), (15, .box ((cXTable cI (cLo cI) (cLo cI) cI).enc x59))] (by kernel_rfl) <| xn <| wpC_seq <| wpC_kp <| wpC_seq <| drw_s <| pst rfl <| ldbo rfl rfl rfl rfl ⟨rfl, pst rfl <| ldb rfl rfl rfl rfl ⟨rfl, bndp h fun x84 e85 h => pst rfl <| o_call (a1 (c := (cXGeo (cLs cI rfl))) (tXGeo (tLs tK)) rfl a0) (con_laws_toGeo e85) (.inl (so1 (sXGeo (sLo sK)) so0)) ⟨rfl, bndp h fun x86 e87 h => pst rfl <| o_call (a1 (c := (cXGeo (cLo cI))) (tXGeo (tLo tK)) rfl (a1 (c := (cXGeo (cLo cI))) (tXGeo (tLo tK)) rfl a0)) (con_laws_eqGeo e87) (.inl (so1 sB so0)) ⟨rfl, pst rfl <| o_nt rfl ⟨rfl, preN <| seqN [(1, .d ((cLs (cXVariable cS cI) rfl).enc v1)), (6, .box ((cXTable cI (cLs cI rfl) (cLs cI rfl) cI).enc v2)), (7, .box ((cXTable cI (cLs cI rfl) (cLs cI rfl) cI).enc v3)), (13, .d ((cLo (cXVariable cS cI)).enc x51)), (14, .box ((cXTable cI (cLo cI) (cLo cI) cI).enc x55)), (15, .box ((cXTable cI (cLo cI) (cLo cI) cI).enc x59)), (78, .d (cB.enc (!x86)))] (by kernel_rfl) <|
    xn <| cnd rfl h (fun b88 h => wpC_seq <| reg_s <| x_asg (sc cB false rfl) <| seqN [(8, .d (cB.enc false))] (by kernel_rfl) <|
    xn <| wpC_ret <| rt <| rt <| re <| fin h (r1 (ss rfl rfl) <| r0) rfl)
    (fun b88 h => wpC_skip <| kpN [(1, .d ((cLs (cXVariable cS cI) rfl).enc v1)), (6, .box ((cXTable cI (cLs cI rfl) (cLs cI rfl) cI).enc v2)), (7, .box ((cXTable cI (cLs cI rfl) (cLs cI rfl) cI).enc v3)), (13, .d ((cLo (cXVariable cS cI)).enc x51)), (14, .box ((cXTable cI (cLo cI) (cLo cI) cI).enc x55)), (15, .box ((cXTable cI (cLo cI) (cLo cI) cI).enc x59))] (by kernel_rfl) <| xn <| wpC_seq <| wpC_kp <| wpC_seq <| reg_s <| st rfl <| mvo rfl rfl <| st rfl <| mvd rfl rfl <| bnd h fun x102 e103 h => st rfl <| o_call (a1 (c := (cLs (cXVariable cS cI) rfl)) (tLs (tXVariable tS tK)) rfl a0) (con_laws_toVariableS e103) (.inl (so1 (sLo (sXVariable sS sK)) so0)) <| bnd h fun x104 e105 h => st rfl <| o_call (a1 (c := (cLo (cXVariable cS cI))) (tLo (tXVariable tS tK)) rfl (a1 (c := (cLo (cXVariable cS cI))) (tLo (tXVariable tS tK)) rfl a0)) (con_laws_eqVariableS e105) (.inl (so1 sB so0)) <| st rfl <| o_nt rfl <| seqN [(6, .box ((cXTable cI (cLs cI rfl) (cLs cI rfl) cI).enc v2)), (7, .box ((cXTable cI (cLs cI rfl) (cLs cI rfl) cI).enc v3)), (14, .box ((cXTable cI (cLo cI) (cLo cI) cI).enc x55)), (15, .box ((cXTable cI (cLo cI) (cLo cI) cI).enc x59)), (83, .d (cB.enc (!x104)))] (by kernel_rfl) <|
    xn <| cnd rfl h (fun b106 h => wpC_seq <| reg_s <| x_asg (sc cB false rfl) <| seqN [(8, .d (cB.enc false))] (by kernel_rfl) <|
    xn <| wpC_ret <| rt <| rt <| re <| fin h (r1 (ss rfl rfl) <| r0) rfl)
    (fun b106 h => wpC_skip <| kpN [(6, .box ((cXTable cI (cLs cI rfl) (cLs cI rfl) cI).enc v2)), (7, .box ((cXTable cI (cLs cI rfl) (cLs cI rfl) cI).enc v3)), (14, .box ((cXTable cI (cLo cI) (cLo cI) cI).enc x55)), (15, .box ((cXTable cI (cLo cI) (cLo cI) cI).enc x59))] (by kernel_rfl) <| xn <| wpC_seq <| wpC_kp <| wpC_seq <| drw_s <| pst rfl <| ldbo rfl rfl rfl rfl ⟨rfl, pst rfl <| ldb rfl rfl rfl rfl ⟨rfl, bndp h fun x120 e121 h => pst rfl <| o_call (a1 (c := (cXTable cI (cLs cI rfl) (cLs cI rfl) cI)) (tXTable tK (tLs tK) (tLs tK) tK) rfl a0) (con_laws_toTable e121) (.inl (so1 (sXTable sK (sLo sK) (sLo sK) sK) so0)) ⟨rfl, bndp h fun x122 e123 h => pst rfl <| o_call (a1 (c := (cXTable cI (cLo cI) (cLo cI) cI)) (tXTable tK (tLo tK) (tLo tK) tK) rfl (a1 (c := (cXTable cI (cLo cI) (cLo cI) cI)) (tXTable tK (tLo tK) (tLo tK) tK) rfl a0)) (con_laws_eqTable e123) (.inl (so1 sB so0)) ⟨rfl, pst rfl <| o_nt rfl ⟨rfl, preN <| seqN [(7, .box ((cXTable cI (cLs cI rfl) (cLs cI rfl) cI).enc v3)), (15, .box ((cXTable cI (cLo cI) (cLo cI) cI).enc x59)), (88, .d (cB.enc (!x122)))] (by kernel_rfl) <|
    xn <| cnd rfl h (fun b124 h => wpC_seq <| reg_s <| x_asg (sc cB false rfl) <| seqN [(8, .d (cB.enc false))] (by kernel_rfl) <|
    xn <| wpC_ret <| rt <| rt <| re <| fin h (r1 (ss rfl rfl) <| r0) rfl)
    (fun b124 h => wpC_skip <| kpN [(7, .box ((cXTable cI (cLs cI rfl) (cLs cI rfl) cI).enc v3)), (15, .box ((cXTable cI (cLo cI) (cLo cI) cI).enc x59))] (by kernel_rfl) <| xn <| wpC_seq <| wpC_kp <| wpC_seq <| drw_s <| pst rfl <| ldbo rfl rfl rfl rfl ⟨rfl, pst rfl <| ldb rfl rfl rfl rfl ⟨rfl, bndp h fun x138 e139 h => pst rfl <| o_call (a1 (c := (cXTable cI (cLs cI rfl) (cLs cI rfl) cI)) (tXTable tK (tLs tK) (tLs tK) tK) rfl a0) (con_laws_toTable e139) (.inl (so1 (sXTable sK (sLo sK) (sLo sK) sK) so0)) ⟨rfl, bndp h fun x140 e141 h => pst rfl <| o_call (a1 (c := (cXTable cI (cLo cI) (cLo cI) cI)) (tXTable tK (tLo tK) (tLo tK) tK) rfl (a1 (c := (cXTable cI (cLo cI) (cLo cI) cI)) (tXTable tK (tLo tK) (tLo tK) tK) rfl a0)) (con_laws_eqTable e141) (.inl (so1 sB so0)) ⟨rfl, pst rfl <| o_nt rfl ⟨rfl, preN <| seqN [(93, .d (cB.enc (!x140)))] (by kernel_rfl) <|
    xn <| cnd rfl h (fun b142 h => wpC_seq <| reg_s <| x_asg (sc cB false rfl) <| seqN [(8, .d (cB.enc false))] (by kernel_rfl) <|
    xn <| wpC_ret <| rt <| rt <| re <| fin h (r1 (ss rfl rfl) <| r0) rfl)
    (fun b142 h => wpC_skip <| kpN [] (by kernel_rfl) <| xn <| wpC_seq <| reg_s <| x_asg (sc cB true rfl) <| seqN [(8, .d (cB.enc true))] (by kernel_rfl) <|
    xn <| wpC_ret <| re <| fin h (r1 (ss rfl rfl) <| r0) rfl)⟩⟩⟩⟩⟩)⟩⟩⟩⟩⟩))⟩⟩⟩⟩⟩))⟩⟩⟩⟩⟩⟩⟩⟩⟩))))
end AS.W
