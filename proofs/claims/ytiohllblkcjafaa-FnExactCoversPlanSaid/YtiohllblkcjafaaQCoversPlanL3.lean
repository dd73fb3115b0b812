/- The program computes the plain functions. No condition. -/
import Derived.Test.YtiohllblkcjafaaQCoversPlanS
import Derived.Test.YtiohllblkcjafaaProg
import Derived.Test.YtiohllblkcjafaaQCoversPlanL2
set_option maxRecDepth 100000
set_option linter.unusedVariables false
set_option linter.unusedSimpArgs false
namespace AS.W
open Go Go.Proofs
def rs_impl_CoversPlan (r : (Bool × Bool)) : List D := [cB.enc r.1, cB.enc r.2]
def m17 : MC := .seq (.reg [⟨some 4, .box (.t 0), none⟩,
    ⟨some 5, .box (.t 1), none⟩,
    ⟨some 8, .asg (.c (.bool false)), none⟩,
    ⟨some 9, .asg (.c (.bool false)), none⟩] [2, 3, 4, 5])
  (.fzb 4 (.fzb 5 (.seq (.kp [2, 3, 4, 5] (.seq (.reg [⟨some 12, .ld 4 1 true, none⟩,
    ⟨some 13, .ld 5 1 false, none⟩,
    ⟨some 14, .mv (.t 2), none⟩,
    ⟨some 15, .call 58 [(.t 12), (.t 13), (.t 14)], none⟩,
    ⟨some 16, .nt (.t 15), none⟩,
    ⟨some 17, .mv (.t 16), none⟩,
    ⟨some 18, .ld 4 1 true, some (17, false)⟩,
    ⟨some 19, .ld 5 1 false, some (17, false)⟩,
    ⟨some 20, .mv (.t 3), some (17, false)⟩,
    ⟨some 21, .call 58 [(.t 18), (.t 19), (.t 20)], some (17, false)⟩,
    ⟨some 22, .nt (.t 21), some (17, false)⟩,
    ⟨some 23, .pick (.t 17) (.c (.bool true)) (.t 22), none⟩] [2, 3, 4, 5, 23])
  (.cond (.t 23) (.seq (.reg [⟨some 8, .asg (.c (.bool false)), none⟩,
    ⟨some 9, .asg (.c (.bool false)), none⟩] [8, 9])
  (.ret)) (.skip))))
  (.seq (.kp [] (.seq (.reg [⟨some 24, .mv (.t 3), none⟩,
    ⟨some 25, .len false (.t 24), none⟩,
    ⟨some 26, .mv (.c (.int .i64 0)), none⟩] [2, 3, 4, 5, 24, 25, 26])
  (.blk 0 (.loop (.seq (.reg [⟨some 27, .bin .lss (.t 26) (.t 25), none⟩] [2, 3, 4, 5, 24, 25, 26, 27])
  (.seq (.kp [2, 3, 4, 5, 24, 25, 26] (.cond (.t 27) (.skip) (.exit 0)))
  (.seq (.kp [2, 3, 4, 5, 24, 25, 26] (.blk 1 (.seq (.reg [⟨some 28, .ia 24 (.t 26) 4, none⟩,
    ⟨some 29, .ld 28 4 true, none⟩,
    ⟨some 11, .alloc (.agg [.int .i64 0, .slice true [], .slice true [], .int .i64 0]), none⟩,
    ⟨none, .st 11 (.t 29) 4, none⟩] [2, 3, 4, 5, 11, 24, 25, 26])
  (.seq (.reg [⟨some 30, .mv (.t 2), none⟩,
    ⟨some 31, .mkf 60 [(false, 4), (false, 5), (false, 11)], none⟩,
    ⟨some 32, .call 59 [(.t 30), (.t 31)], none⟩,
    ⟨some 33, .nt (.t 32), none⟩] [2, 3, 4, 5, 24, 25, 26, 33])
  (.cond (.t 33) (.seq (.reg [⟨some 8, .asg (.c (.bool false)), none⟩,
    ⟨some 9, .asg (.c (.bool true)), none⟩] [8, 9])
  (.ret)) (.skip))))))
  (.reg [⟨some 34, .bin .add (.t 26) (.c (.int .i64 1)), none⟩,
    ⟨some 26, .mv (.t 34), none⟩] [2, 3, 4, 5, 24, 25, 26]))))))))
  (.seq (.reg [⟨some 8, .asg (.c (.bool true)), none⟩,
    ⟨some 9, .asg (.c (.bool true)), none⟩] [8, 9])
  (.ret))))))
theorem con_impl_CoversPlan {v0 : XGeo} {v1 : (List XVariable)} {v2 : (List XTable)} {v3 : (List XTable)} {r : (Bool × Bool)} (h : sh_impl_CoversPlan v0 v1 v2 v3 = some r) : Con Try.prog 17 [(cXGeo (cLs cI rfl)).enc v0, (cLs (cXVariable cS cI) rfl).enc v1, (cLs (cXTable cI (cLs cI rfl) (cLs cI rfl) cI) rfl).enc v2, (cLs (cXTable cI (cLs cI rfl) (cLs cI rfl) cI) rfl).enc v3] [] (rs_impl_CoversPlan r) := by
  delta sh_impl_CoversPlan at h
  refine top (out := none) (f := Try.f17) (m := m17) (rs := [.t 8, .t 9]) (by kernel_rfl) rfl (by kernel_rfl) (by kernel_rfl) (by kernel_rfl) (by kernel_rfl) (by kernel_rfl) ?_
  exact
   ini [(0, .d ((cXGeo (cLs cI rfl)).enc v0)), (1, .d ((cLs (cXVariable cS cI) rfl).enc v1)), (2, .d ((cLs (cXTable cI (cLs cI rfl) (cLs cI rfl) cI) rfl).enc v2)), (3, .d ((cLs (cXTable cI (cLs cI rfl) (cLs cI rfl) cI) rfl).enc v3))] rfl <| wpC_seq <| reg_s <| x_box (ss rfl rfl) <| x_box (ss rfl rfl) <| x_asg (sc cB false rfl) <| x_asg (sc cB false rfl) <| seqN [(2, .d ((cLs (cXTable cI (cLs cI rfl) (cLs cI rfl) cI) rfl).enc v2)), (3, .d ((cLs (cXTable cI (cLs cI rfl) (cLs cI rfl) cI) rfl).enc v3)), (4, .box ((cXGeo (cLs cI rfl)).enc v0)), (5, .box ((cLs (cXVariable cS cI) rfl).enc v1))] (by kernel_rfl) <|
    xn <| fzb_s (tXGeo (tLs tK)) rfl <| fzb_s (tLs (tXVariable tS tK)) rfl <| wpC_seq <| wpC_kp <| wpC_seq <| reg_s <| st rfl <| ldi rfl rfl rfl rfl <| st rfl <| ldi rfl rfl rfl rfl <| st rfl <| mvd rfl rfl <| bnd h fun x17 e18 h => st rfl <| o_call (a1 (c := (cXGeo (cLs cI rfl))) (tXGeo (tLs tK)) rfl (a1 (c := (cLs (cXVariable cS cI) rfl)) (tLs (tXVariable tS tK)) rfl (a1 (c := (cLs (cXTable cI (cLs cI rfl) (cLs cI rfl) cI) rfl)) (tLs (tXTable tK (tLs tK) (tLs tK) tK)) rfl a0))) (con_impl_isPlan e18) (.inl (so1 sB so0)) <| st rfl <| o_nt rfl <| st rfl <| mvd rfl rfl <| ite_k h (fun b19 h => gf rfl b19 <| gf rfl b19 <| gf rfl b19 <| gf rfl b19 <| gf rfl b19 <| st rfl <| pick1 rfl b19 (cd := cB) (v := true) rfl rfl <| seqN [(2, .d ((cLs (cXTable cI (cLs cI rfl) (cLs cI rfl) cI) rfl).enc v2)), (3, .d ((cLs (cXTable cI (cLs cI rfl) (cLs cI rfl) cI) rfl).enc v3)), (4, .ima ((cXGeo (cLs cI rfl)).enc v0)), (5, .ima ((cLs (cXVariable cS cI) rfl).enc v1)), (23, .d (cB.enc true))] (by kernel_rfl) <|
    xn <| cnd1 rfl rfl <| wpC_seq <| reg_s <| x_asg (sc cB false rfl) <| x_asg (sc cB false rfl) <| seqN [(8, .d (cB.enc false)), (9, .d (cB.enc false))] (by kernel_rfl) <|
    xn <| wpC_ret <| rt <| rt <| re <| fin h (r1 (ss rfl rfl) <| r1 (ss rfl rfl) <| r0) rfl)
    (fun b19 h => gt' rfl b19 <| st rfl <| ldi rfl rfl rfl rfl <| gt' rfl b19 <| st rfl <| ldi rfl rfl rfl rfl <| gt' rfl b19 <| st rfl <| mvd rfl rfl <| gt' rfl b19 <| bnd h fun x20 e21 h => st rfl <| o_call (a1 (c := (cXGeo (cLs cI rfl))) (tXGeo (tLs tK)) rfl (a1 (c := (cLs (cXVariable cS cI) rfl)) (tLs (tXVariable tS tK)) rfl (a1 (c := (cLs (cXTable cI (cLs cI rfl) (cLs cI rfl) cI) rfl)) (tLs (tXTable tK (tLs tK) (tLs tK) tK)) rfl a0))) (con_impl_isPlan e21) (.inl (so1 sB so0)) <| gt' rfl b19 <| st rfl <| o_nt rfl <| st rfl <| pick0 rfl b19 (cd := cB) (v := (!x20)) rfl rfl <| seqN [(2, .d ((cLs (cXTable cI (cLs cI rfl) (cLs cI rfl) cI) rfl).enc v2)), (3, .d ((cLs (cXTable cI (cLs cI rfl) (cLs cI rfl) cI) rfl).enc v3)), (4, .ima ((cXGeo (cLs cI rfl)).enc v0)), (5, .ima ((cLs (cXVariable cS cI) rfl).enc v1)), (23, .d (cB.enc (!x20)))] (by kernel_rfl) <|
    xn <| cnd rfl h (fun b22 h => wpC_seq <| reg_s <| x_asg (sc cB false rfl) <| x_asg (sc cB false rfl) <| seqN [(8, .d (cB.enc false)), (9, .d (cB.enc false))] (by kernel_rfl) <|
    xn <| wpC_ret <| rt <| rt <| re <| fin h (r1 (ss rfl rfl) <| r1 (ss rfl rfl) <| r0) rfl)
    (fun b22 h => wpC_skip <| kpN [(2, .d ((cLs (cXTable cI (cLs cI rfl) (cLs cI rfl) cI) rfl).enc v2)), (3, .d ((cLs (cXTable cI (cLs cI rfl) (cLs cI rfl) cI) rfl).enc v3)), (4, .ima ((cXGeo (cLs cI rfl)).enc v0)), (5, .ima ((cLs (cXVariable cS cI) rfl).enc v1))] (by kernel_rfl) <| xn <| wpC_seq <| wpC_kp <| wpC_seq <| reg_s <| st rfl <| mvd rfl rfl <| stw rfl <| lens rfl fun l54 => st rfl <| mvc cI (0 : Int) rfl <| seqN [(2, .d ((cLs (cXTable cI (cLs cI rfl) (cLs cI rfl) cI) rfl).enc v2)), (3, .d ((cLs (cXTable cI (cLs cI rfl) (cLs cI rfl) cI) rfl).enc v3)), (4, .ima ((cXGeo (cLs cI rfl)).enc v0)), (5, .ima ((cLs (cXVariable cS cI) rfl).enc v1)), (24, .d ((cLs (cXTable cI (cLs cI rfl) (cLs cI rfl) cI) rfl).enc v3)), (25, .d (cI.enc (v3.length : Int))), (26, .d (cI.enc (0 : Int)))] (by kernel_rfl) <|
    xn <| wpC_blk <| lpR (fun (k56 : Nat) (s55 : Unit) => [(2, .d ((cLs (cXTable cI (cLs cI rfl) (cLs cI rfl) cI) rfl).enc v2)), (3, .d ((cLs (cXTable cI (cLs cI rfl) (cLs cI rfl) cI) rfl).enc v3)), (4, .ima ((cXGeo (cLs cI rfl)).enc v0)), (5, .ima ((cLs (cXVariable cS cI) rfl).enc v1)), (24, .d ((cLs (cXTable cI (cLs cI rfl) (cLs cI rfl) cI) rfl).enc v3)), (25, .d (cI.enc (v3.length : Int))), (26, .d (cI.enc (k56 : Int)))]) () rfl h
    (fun G72 s55 h => wpC_seq <| reg_s <| st rfl <| b_lss (k := .i64) rfl rfl <| seqN [(2, .d ((cLs (cXTable cI (cLs cI rfl) (cLs cI rfl) cI) rfl).enc v2)), (3, .d ((cLs (cXTable cI (cLs cI rfl) (cLs cI rfl) cI) rfl).enc v3)), (4, .ima ((cXGeo (cLs cI rfl)).enc v0)), (5, .ima ((cLs (cXVariable cS cI) rfl).enc v1)), (24, .d ((cLs (cXTable cI (cLs cI rfl) (cLs cI rfl) cI) rfl).enc v3)), (25, .d (cI.enc (v3.length : Int))), (26, .d (cI.enc (v3.length : Int))), (27, .d (cB.enc (decide ((v3.length : Int) < (v3.length : Int)))))] (by kernel_rfl) <|
    xn <| wpC_seq <| wpC_kp <| cnd0 rfl (dlf _) <| wpC_exit <| xt <| xt <| xt <| xb <| kpN [] (by kernel_rfl) <| xn <| wpC_seq <| reg_s <| x_asg (sc cB true rfl) <| x_asg (sc cB true rfl) <| seqN [(8, .d (cB.enc true)), (9, .d (cB.enc true))] (by kernel_rfl) <|
    xn <| wpC_ret <| re <| fin h (r1 (ss rfl rfl) <| r1 (ss rfl rfl) <| r0) rfl)
    (fun G72 nx70 k56 s55 x57 hk58 hx59 hn71 h => wpC_seq <| reg_s <| st rfl <| b_lss (k := .i64) rfl rfl <| seqN [(2, .d ((cLs (cXTable cI (cLs cI rfl) (cLs cI rfl) cI) rfl).enc v2)), (3, .d ((cLs (cXTable cI (cLs cI rfl) (cLs cI rfl) cI) rfl).enc v3)), (4, .ima ((cXGeo (cLs cI rfl)).enc v0)), (5, .ima ((cLs (cXVariable cS cI) rfl).enc v1)), (24, .d ((cLs (cXTable cI (cLs cI rfl) (cLs cI rfl) cI) rfl).enc v3)), (25, .d (cI.enc (v3.length : Int))), (26, .d (cI.enc (k56 : Int))), (27, .d (cB.enc (decide ((k56 : Int) < (v3.length : Int)))))] (by kernel_rfl) <|
    xn <| wpC_seq <| wpC_kp <| cnd1 rfl (dlt hk58) <| wpC_skip <| kpN [(2, .d ((cLs (cXTable cI (cLs cI rfl) (cLs cI rfl) cI) rfl).enc v2)), (3, .d ((cLs (cXTable cI (cLs cI rfl) (cLs cI rfl) cI) rfl).enc v3)), (4, .ima ((cXGeo (cLs cI rfl)).enc v0)), (5, .ima ((cLs (cXVariable cS cI) rfl).enc v1)), (24, .d ((cLs (cXTable cI (cLs cI rfl) (cLs cI rfl) cI) rfl).enc v3)), (25, .d (cI.enc (v3.length : Int))), (26, .d (cI.enc (k56 : Int)))] (by kernel_rfl) <| xn <| wpC_seq <| wpC_kp <| wpC_blk <| wpC_seq <| reg_s <| st rfl <| ias rfl rfl (Int.natCast_nonneg _) hx59 rfl <| st rfl <| ldi rfl rfl rfl rfl <| x_all (cXTable cI (cLo cI) (cLo cI) cI) (⟨(0 : Int), ([] : List Int), ([] : List Int), (0 : Int)⟩ : XTable) rfl <| x_stb (ss rfl rfl) rfl (Cd.h_sz _ _) rfl <| seqN [(2, .d ((cLs (cXTable cI (cLs cI rfl) (cLs cI rfl) cI) rfl).enc v2)), (3, .d ((cLs (cXTable cI (cLs cI rfl) (cLs cI rfl) cI) rfl).enc v3)), (4, .ima ((cXGeo (cLs cI rfl)).enc v0)), (5, .ima ((cLs (cXVariable cS cI) rfl).enc v1)), (11, .box ((cXTable cI (cLs cI rfl) (cLs cI rfl) cI).enc x57)), (24, .d ((cLs (cXTable cI (cLs cI rfl) (cLs cI rfl) cI) rfl).enc v3)), (25, .d (cI.enc (v3.length : Int))), (26, .d (cI.enc (k56 : Int)))] (by kernel_rfl) <|
    xn <| wpC_seq <| reg_s <| st rfl <| mvd rfl rfl <| x_mkf (cFn 60 (fun (v : (XGeo × (List XVariable) × XTable)) => [.ptr false ((cXGeo (cLs cI rfl)).enc v.1), .ptr false ((cLs (cXVariable cS cI) rfl).enc v.2.1), .ptr false ((cXTable cI (cLs cI rfl) (cLs cI rfl) cI).enc v.2.2)]) true (fun _ => (im1 rfl (im1 rfl (im1 rfl im0))))) (v0, v1, x57) (cpi rfl (cpi rfl (cps (tXTable tK (tLs tK) (tLs tK) tK) rfl cp0))) rfl rfl <| bnd h fun x80 e81 h => st rfl <| o_call (a1 (c := (cLs (cXTable cI (cLs cI rfl) (cLs cI rfl) cI) rfl)) (tLs (tXTable tK (tLs tK) (tLs tK) tK)) rfl (a1 (c := (cFn 60 (fun (v : (XGeo × (List XVariable) × XTable)) => [.ptr false ((cXGeo (cLs cI rfl)).enc v.1), .ptr false ((cLs (cXVariable cS cI) rfl).enc v.2.1), .ptr false ((cXTable cI (cLs cI rfl) (cLs cI rfl) cI).enc v.2.2)]) true (fun _ => (im1 rfl (im1 rfl (im1 rfl im0)))))) (tFn (fun _ => (ti1 (tXGeo (tLs tK)) (ti1 (tLs (tXVariable tS tK)) (ti1 (tXTable tK (tLs tK) (tLs tK) tK) ti0))))) rfl a0)) (con_slices_ContainsFunc_impl_Table_impl_Table_impl_CoversPlan_1 e81) (.inl (so1 sB so0)) <| st rfl <| o_nt rfl <| seqN [(2, .d ((cLs (cXTable cI (cLs cI rfl) (cLs cI rfl) cI) rfl).enc v2)), (3, .d ((cLs (cXTable cI (cLs cI rfl) (cLs cI rfl) cI) rfl).enc v3)), (4, .ima ((cXGeo (cLs cI rfl)).enc v0)), (5, .ima ((cLs (cXVariable cS cI) rfl).enc v1)), (24, .d ((cLs (cXTable cI (cLs cI rfl) (cLs cI rfl) cI) rfl).enc v3)), (25, .d (cI.enc (v3.length : Int))), (26, .d (cI.enc (k56 : Int))), (33, .d (cB.enc (!x80)))] (by kernel_rfl) <|
    xn <| cnd rfl h (fun b82 h => wpC_seq <| reg_s <| x_asg (sc cB false rfl) <| x_asg (sc cB true rfl) <| seqN [(8, .d (cB.enc false)), (9, .d (cB.enc true))] (by kernel_rfl) <|
    xn <| wpC_ret <| rb <| rt <| rt <| rt <| rb <| rt <| rt <| re <| fin h (r1 (ss rfl rfl) <| r1 (ss rfl rfl) <| r0) rfl)
    (fun b82 h => wpC_skip <| xbb <| kpN [(2, .d ((cLs (cXTable cI (cLs cI rfl) (cLs cI rfl) cI) rfl).enc v2)), (3, .d ((cLs (cXTable cI (cLs cI rfl) (cLs cI rfl) cI) rfl).enc v3)), (4, .ima ((cXGeo (cLs cI rfl)).enc v0)), (5, .ima ((cLs (cXVariable cS cI) rfl).enc v1)), (24, .d ((cLs (cXTable cI (cLs cI rfl) (cLs cI rfl) cI) rfl).enc v3)), (25, .d (cI.enc (v3.length : Int))), (26, .d (cI.enc (k56 : Int)))] (by kernel_rfl) <| xn <| reg_s <| st rfl <| b_inc rfl rfl l54 hk58 <| st rfl <| mvd rfl rfl <| seqN [(2, .d ((cLs (cXTable cI (cLs cI rfl) (cLs cI rfl) cI) rfl).enc v2)), (3, .d ((cLs (cXTable cI (cLs cI rfl) (cLs cI rfl) cI) rfl).enc v3)), (4, .ima ((cXGeo (cLs cI rfl)).enc v0)), (5, .ima ((cLs (cXVariable cS cI) rfl).enc v1)), (24, .d ((cLs (cXTable cI (cLs cI rfl) (cLs cI rfl) cI) rfl).enc v3)), (25, .d (cI.enc (v3.length : Int))), (26, .d (cI.enc ((k56 + 1 : Nat) : Int)))] (by kernel_rfl) <|
    xn <| hn71 () h))))

def rs_laws_FnExactCoversPlan (r : Bool) : List D := [cB.enc r]
def m3 : MC := .seq (.reg [⟨some 4, .box (.t 0), none⟩,
    ⟨some 8, .asg (.c (.bool false)), none⟩] [1, 2, 3, 4])
  (.seq (.reg [⟨some 9, .asg (.c (.int .i64 1048576)), none⟩] [1, 2, 3, 4, 9])
  (.seq (.reg [⟨some 18, .ld 4 1 true, none⟩,
    ⟨some 19, .mv (.t 9), none⟩,
    ⟨some 20, .call 10 [(.t 18), (.t 19)], none⟩,
    ⟨some 9, .asg (.t 20), none⟩] [1, 2, 3, 4, 9])
  (.seq (.kp [1, 2, 3, 4, 9] (.seq (.reg [⟨some 21, .mv (.t 9), none⟩,
    ⟨some 22, .bin .lss (.t 21) (.c (.int .i64 0)), none⟩] [1, 2, 3, 4, 9, 22])
  (.cond (.t 22) (.seq (.reg [⟨some 8, .asg (.c (.bool true)), none⟩] [8])
  (.ret)) (.skip))))
  (.seq (.reg [⟨some 23, .mv (.t 1), none⟩,
    ⟨some 24, .mv (.t 9), none⟩,
    ⟨some 25, .call 11 [(.t 23), (.t 24)], none⟩,
    ⟨some 9, .asg (.t 25), none⟩] [1, 2, 3, 4, 9])
  (.seq (.kp [1, 2, 3, 4, 9] (.seq (.reg [⟨some 26, .mv (.t 9), none⟩,
    ⟨some 27, .bin .lss (.t 26) (.c (.int .i64 0)), none⟩] [1, 2, 3, 4, 9, 27])
  (.cond (.t 27) (.seq (.reg [⟨some 8, .asg (.c (.bool true)), none⟩] [8])
  (.ret)) (.skip))))
  (.seq (.reg [⟨some 28, .mv (.t 2), none⟩,
    ⟨some 29, .mv (.t 9), none⟩,
    ⟨some 30, .call 12 [(.t 28), (.t 29)], none⟩,
    ⟨some 9, .asg (.t 30), none⟩] [1, 2, 3, 4, 9])
  (.seq (.kp [1, 2, 3, 4, 9] (.seq (.reg [⟨some 31, .mv (.t 9), none⟩,
    ⟨some 32, .bin .lss (.t 31) (.c (.int .i64 0)), none⟩] [1, 2, 3, 4, 9, 32])
  (.cond (.t 32) (.seq (.reg [⟨some 8, .asg (.c (.bool true)), none⟩] [8])
  (.ret)) (.skip))))
  (.seq (.reg [⟨some 33, .mv (.t 3), none⟩,
    ⟨some 34, .mv (.t 9), none⟩,
    ⟨some 35, .call 12 [(.t 33), (.t 34)], none⟩,
    ⟨some 9, .asg (.t 35), none⟩] [1, 2, 3, 4, 9])
  (.seq (.kp [1, 2, 3, 4] (.seq (.reg [⟨some 36, .mv (.t 9), none⟩,
    ⟨some 37, .bin .lss (.t 36) (.c (.int .i64 0)), none⟩] [1, 2, 3, 4, 37])
  (.cond (.t 37) (.seq (.reg [⟨some 8, .asg (.c (.bool true)), none⟩] [8])
  (.ret)) (.skip))))
  (.seq (.reg [⟨some 39, .ld 4 1 true, none⟩,
    ⟨some 40, .call 14 [(.t 39)], none⟩,
    ⟨some 41, .mv (.t 1), none⟩,
    ⟨some 42, .call 15 [(.t 41)], none⟩,
    ⟨some 43, .mv (.t 2), none⟩,
    ⟨some 44, .call 16 [(.t 43)], none⟩,
    ⟨some 45, .mv (.t 3), none⟩,
    ⟨some 46, .call 16 [(.t 45)], none⟩,
    ⟨some 47, .call 13 [(.t 40), (.t 42), (.t 44), (.t 46)], none⟩,
    ⟨some 38, .mvt 47, none⟩,
    ⟨some 48, .ext 38 0, none⟩,
    ⟨some 49, .ext 38 1, none⟩,
    ⟨some 10, .asg (.t 48), none⟩,
    ⟨some 11, .asg (.t 49), none⟩] [1, 2, 3, 4, 10, 11])
  (.seq (.reg [⟨some 50, .ld 4 1 true, none⟩,
    ⟨some 51, .call 14 [(.t 50)], none⟩,
    ⟨some 12, .alloc (.agg [.slice true []]), none⟩,
    ⟨none, .st 12 (.t 51) 1, none⟩] [1, 2, 3, 4, 10, 11, 12])
  (.seq (.reg [⟨some 52, .mv (.t 1), none⟩,
    ⟨some 53, .call 15 [(.t 52)], none⟩,
    ⟨some 13, .asg (.t 53), none⟩] [1, 2, 3, 4, 10, 11, 12, 13])
  (.seq (.reg [⟨some 54, .mv (.t 2), none⟩,
    ⟨some 55, .call 16 [(.t 54)], none⟩,
    ⟨some 14, .asg (.t 55), none⟩] [1, 2, 3, 4, 10, 11, 12, 13, 14])
  (.seq (.reg [⟨some 56, .mv (.t 3), none⟩,
    ⟨some 57, .call 16 [(.t 56)], none⟩,
    ⟨some 15, .asg (.t 57), none⟩] [1, 2, 3, 4, 10, 11, 12, 13, 14, 15])
  (.seq (.reg [⟨some 59, .ld 12 1 true, none⟩,
    ⟨some 60, .mv (.t 13), none⟩,
    ⟨some 61, .mv (.t 14), none⟩,
    ⟨some 62, .mv (.t 15), none⟩,
    ⟨some 63, .call 17 [(.t 59), (.t 60), (.t 61), (.t 62)], none⟩,
    ⟨some 58, .mvt 63, none⟩,
    ⟨some 64, .ext 58 0, none⟩,
    ⟨some 65, .ext 58 1, none⟩,
    ⟨some 16, .asg (.t 64), none⟩,
    ⟨some 17, .asg (.t 65), none⟩] [1, 2, 3, 4, 10, 11, 12, 13, 14, 15, 16, 17])
  (.seq (.kp [1, 2, 3, 4, 12, 13, 14, 15] (.seq (.reg [⟨some 66, .mv (.t 16), none⟩,
    ⟨some 67, .mv (.t 10), none⟩,
    ⟨some 68, .eqb true (.t 66) (.t 67), none⟩,
    ⟨some 69, .mv (.t 68), none⟩,
    ⟨some 70, .mv (.t 17), some (69, false)⟩,
    ⟨some 71, .mv (.t 11), some (69, false)⟩,
    ⟨some 72, .eqb true (.t 70) (.t 71), some (69, false)⟩,
    ⟨some 73, .pick (.t 69) (.c (.bool true)) (.t 72), none⟩] [1, 2, 3, 4, 12, 13, 14, 15, 73])
  (.cond (.t 73) (.seq (.reg [⟨some 8, .asg (.c (.bool false)), none⟩] [8])
  (.ret)) (.skip))))
  (.seq (.kp [1, 2, 3, 13, 14, 15] (.seq (.drw [⟨0, ⟨some 74, .ld 12 1 true, none⟩, [75, 76, 77, 78]⟩,
    ⟨1, ⟨some 75, .ld 4 1 true, none⟩, [74, 76, 77, 78]⟩,
    ⟨2, ⟨some 76, .call 14 [(.t 75)], none⟩, [74, 77, 78]⟩,
    ⟨3, ⟨some 77, .call 18 [(.t 74), (.t 76)], none⟩, [78]⟩,
    ⟨4, ⟨some 78, .nt (.t 77), none⟩, []⟩]
    [] [1, 2, 3, 13, 14, 15, 78])
  (.cond (.t 78) (.seq (.reg [⟨some 8, .asg (.c (.bool false)), none⟩] [8])
  (.ret)) (.skip))))
  (.seq (.kp [2, 3, 14, 15] (.seq (.reg [⟨some 79, .mv (.t 13), none⟩,
    ⟨some 80, .mv (.t 1), none⟩,
    ⟨some 81, .call 15 [(.t 80)], none⟩,
    ⟨some 82, .call 19 [(.t 79), (.t 81)], none⟩,
    ⟨some 83, .nt (.t 82), none⟩] [2, 3, 14, 15, 83])
  (.cond (.t 83) (.seq (.reg [⟨some 8, .asg (.c (.bool false)), none⟩] [8])
  (.ret)) (.skip))))
  (.seq (.kp [3, 15] (.seq (.reg [⟨some 84, .mv (.t 14), none⟩,
    ⟨some 85, .mv (.t 2), none⟩,
    ⟨some 86, .call 16 [(.t 85)], none⟩,
    ⟨some 87, .call 20 [(.t 84), (.t 86)], none⟩,
    ⟨some 88, .nt (.t 87), none⟩] [3, 15, 88])
  (.cond (.t 88) (.seq (.reg [⟨some 8, .asg (.c (.bool false)), none⟩] [8])
  (.ret)) (.skip))))
  (.seq (.kp [] (.seq (.reg [⟨some 89, .mv (.t 15), none⟩,
    ⟨some 90, .mv (.t 3), none⟩,
    ⟨some 91, .call 16 [(.t 90)], none⟩,
    ⟨some 92, .call 20 [(.t 89), (.t 91)], none⟩,
    ⟨some 93, .nt (.t 92), none⟩] [93])
  (.cond (.t 93) (.seq (.reg [⟨some 8, .asg (.c (.bool false)), none⟩] [8])
  (.ret)) (.skip))))
  (.seq (.reg [⟨some 8, .asg (.c (.bool true)), none⟩] [8])
  (.ret))))))))))))))))))))))
theorem con_laws_FnExactCoversPlan {v0 : XGeo} {v1 : (List XVariable)} {v2 : (List XTable)} {v3 : (List XTable)} {r : Bool} (h : sh_laws_FnExactCoversPlan v0 v1 v2 v3 = some r) : Con Try.prog 3 [(cXGeo (cLs cI rfl)).enc v0, (cLs (cXVariable cS cI) rfl).enc v1, (cLs (cXTable cI (cLs cI rfl) (cLs cI rfl) cI) rfl).enc v2, (cLs (cXTable cI (cLs cI rfl) (cLs cI rfl) cI) rfl).enc v3] [] (rs_laws_FnExactCoversPlan r) := by
  delta sh_laws_FnExactCoversPlan at h
  refine top (out := none) (f := Try.f3) (m := m3) (rs := [.t 8]) (by kernel_rfl) rfl (by kernel_rfl) (by kernel_rfl) (by kernel_rfl) (by kernel_rfl) (by kernel_rfl) ?_
  exact
   ini [(0, .d ((cXGeo (cLs cI rfl)).enc v0)), (1, .d ((cLs (cXVariable cS cI) rfl).enc v1)), (2, .d ((cLs (cXTable cI (cLs cI rfl) (cLs cI rfl) cI) rfl).enc v2)), (3, .d ((cLs (cXTable cI (cLs cI rfl) (cLs cI rfl) cI) rfl).enc v3))] rfl <| wpC_seq <| reg_s <| x_box (ss rfl rfl) <| x_asg (sc cB false rfl) <| seqN [(1, .d ((cLs (cXVariable cS cI) rfl).enc v1)), (2, .d ((cLs (cXTable cI (cLs cI rfl) (cLs cI rfl) cI) rfl).enc v2)), (3, .d ((cLs (cXTable cI (cLs cI rfl) (cLs cI rfl) cI) rfl).enc v3)), (4, .box ((cXGeo (cLs cI rfl)).enc v0))] (by kernel_rfl) <|
    xn <| wpC_seq <| reg_s <| x_asg (sc cI (1048576 : Int) rfl) <| seqN [(1, .d ((cLs (cXVariable cS cI) rfl).enc v1)), (2, .d ((cLs (cXTable cI (cLs cI rfl) (cLs cI rfl) cI) rfl).enc v2)), (3, .d ((cLs (cXTable cI (cLs cI rfl) (cLs cI rfl) cI) rfl).enc v3)), (4, .box ((cXGeo (cLs cI rfl)).enc v0)), (9, .d (cI.enc (1048576 : Int)))] (by kernel_rfl) <|
    xn <| wpC_seq <| reg_s <| st rfl <| ldb rfl rfl rfl rfl <| st rfl <| mvd rfl rfl <| bnd h fun x3 e4 h => st rfl <| o_call (a1 (c := (cXGeo (cLs cI rfl))) (tXGeo (tLs tK)) rfl (a1 (c := cI) tK rfl a0)) (con_laws_szGeo e4) (.inl (so1 sK so0)) <| x_asg (ss rfl rfl) <| seqN [(1, .d ((cLs (cXVariable cS cI) rfl).enc v1)), (2, .d ((cLs (cXTable cI (cLs cI rfl) (cLs cI rfl) cI) rfl).enc v2)), (3, .d ((cLs (cXTable cI (cLs cI rfl) (cLs cI rfl) cI) rfl).enc v3)), (4, .box ((cXGeo (cLs cI rfl)).enc v0)), (9, .d (cI.enc x3))] (by kernel_rfl) <|
    xn <| wpC_seq <| wpC_kp <| wpC_seq <| reg_s <| st rfl <| mvd rfl rfl <| st rfl <| b_lss (k := .i64) rfl rfl <| seqN [(1, .d ((cLs (cXVariable cS cI) rfl).enc v1)), (2, .d ((cLs (cXTable cI (cLs cI rfl) (cLs cI rfl) cI) rfl).enc v2)), (3, .d ((cLs (cXTable cI (cLs cI rfl) (cLs cI rfl) cI) rfl).enc v3)), (4, .box ((cXGeo (cLs cI rfl)).enc v0)), (9, .d (cI.enc x3)), (22, .d (cB.enc (decide (x3 < (0 : Int)))))] (by kernel_rfl) <|
    xn <| cnd rfl h (fun b6 h => wpC_seq <| reg_s <| x_asg (sc cB true rfl) <| seqN [(8, .d (cB.enc true))] (by kernel_rfl) <|
    xn <| wpC_ret <| rt <| rt <| re <| fin h (r1 (ss rfl rfl) <| r0) rfl)
    (fun b6 h => wpC_skip <| kpN [(1, .d ((cLs (cXVariable cS cI) rfl).enc v1)), (2, .d ((cLs (cXTable cI (cLs cI rfl) (cLs cI rfl) cI) rfl).enc v2)), (3, .d ((cLs (cXTable cI (cLs cI rfl) (cLs cI rfl) cI) rfl).enc v3)), (4, .box ((cXGeo (cLs cI rfl)).enc v0)), (9, .d (cI.enc x3))] (by kernel_rfl) <| xn <| wpC_seq <| reg_s <| st rfl <| mvd rfl rfl <| st rfl <| mvd rfl rfl <| bnd h fun x9 e10 h => st rfl <| o_call (a1 (c := (cLs (cXVariable cS cI) rfl)) (tLs (tXVariable tS tK)) rfl (a1 (c := cI) tK rfl a0)) (con_laws_szVariableS e10) (.inl (so1 sK so0)) <| x_asg (ss rfl rfl) <| seqN [(1, .d ((cLs (cXVariable cS cI) rfl).enc v1)), (2, .d ((cLs (cXTable cI (cLs cI rfl) (cLs cI rfl) cI) rfl).enc v2)), (3, .d ((cLs (cXTable cI (cLs cI rfl) (cLs cI rfl) cI) rfl).enc v3)), (4, .box ((cXGeo (cLs cI rfl)).enc v0)), (9, .d (cI.enc x9))] (by kernel_rfl) <|
    xn <| wpC_seq <| wpC_kp <| wpC_seq <| reg_s <| st rfl <| mvd rfl rfl <| st rfl <| b_lss (k := .i64) rfl rfl <| seqN [(1, .d ((cLs (cXVariable cS cI) rfl).enc v1)), (2, .d ((cLs (cXTable cI (cLs cI rfl) (cLs cI rfl) cI) rfl).enc v2)), (3, .d ((cLs (cXTable cI (cLs cI rfl) (cLs cI rfl) cI) rfl).enc v3)), (4, .box ((cXGeo (cLs cI rfl)).enc v0)), (9, .d (cI.enc x9)), (27, .d (cB.enc (decide (x9 < (0 : Int)))))] (by kernel_rfl) <|
    xn <| cnd rfl h (fun b12 h => wpC_seq <| reg_s <| x_asg (sc cB true rfl) <| seqN [(8, .d (cB.enc true))] (by kernel_rfl) <|
    xn <| wpC_ret <| rt <| rt <| re <| fin h (r1 (ss rfl rfl) <| r0) rfl)
    (fun b12 h => wpC_skip <| kpN [(1, .d ((cLs (cXVariable cS cI) rfl).enc v1)), (2, .d ((cLs (cXTable cI (cLs cI rfl) (cLs cI rfl) cI) rfl).enc v2)), (3, .d ((cLs (cXTable cI (cLs cI rfl) (cLs cI rfl) cI) rfl).enc v3)), (4, .box ((cXGeo (cLs cI rfl)).enc v0)), (9, .d (cI.enc x9))] (by kernel_rfl) <| xn <| wpC_seq <| reg_s <| st rfl <| mvd rfl rfl <| st rfl <| mvd rfl rfl <| bnd h fun x15 e16 h => st rfl <| o_call (a1 (c := (cLs (cXTable cI (cLs cI rfl) (cLs cI rfl) cI) rfl)) (tLs (tXTable tK (tLs tK) (tLs tK) tK)) rfl (a1 (c := cI) tK rfl a0)) (con_laws_szTableS e16) (.inl (so1 sK so0)) <| x_asg (ss rfl rfl) <| seqN [(1, .d ((cLs (cXVariable cS cI) rfl).enc v1)), (2, .d ((cLs (cXTable cI (cLs cI rfl) (cLs cI rfl) cI) rfl).enc v2)), (3, .d ((cLs (cXTable cI (cLs cI rfl) (cLs cI rfl) cI) rfl).enc v3)), (4, .box ((cXGeo (cLs cI rfl)).enc v0)), (9, .d (cI.enc x15))] (by kernel_rfl) <|
    xn <| wpC_seq <| wpC_kp <| wpC_seq <| reg_s <| st rfl <| mvd rfl rfl <| st rfl <| b_lss (k := .i64) rfl rfl <| seqN [(1, .d ((cLs (cXVariable cS cI) rfl).enc v1)), (2, .d ((cLs (cXTable cI (cLs cI rfl) (cLs cI rfl) cI) rfl).enc v2)), (3, .d ((cLs (cXTable cI (cLs cI rfl) (cLs cI rfl) cI) rfl).enc v3)), (4, .box ((cXGeo (cLs cI rfl)).enc v0)), (9, .d (cI.enc x15)), (32, .d (cB.enc (decide (x15 < (0 : Int)))))] (by kernel_rfl) <|
    xn <| cnd rfl h (fun b18 h => wpC_seq <| reg_s <| x_asg (sc cB true rfl) <| seqN [(8, .d (cB.enc true))] (by kernel_rfl) <|
    xn <| wpC_ret <| rt <| rt <| re <| fin h (r1 (ss rfl rfl) <| r0) rfl)
    (fun b18 h => wpC_skip <| kpN [(1, .d ((cLs (cXVariable cS cI) rfl).enc v1)), (2, .d ((cLs (cXTable cI (cLs cI rfl) (cLs cI rfl) cI) rfl).enc v2)), (3, .d ((cLs (cXTable cI (cLs cI rfl) (cLs cI rfl) cI) rfl).enc v3)), (4, .box ((cXGeo (cLs cI rfl)).enc v0)), (9, .d (cI.enc x15))] (by kernel_rfl) <| xn <| wpC_seq <| reg_s <| st rfl <| mvd rfl rfl <| st rfl <| mvd rfl rfl <| bnd h fun x21 e22 h => st rfl <| o_call (a1 (c := (cLs (cXTable cI (cLs cI rfl) (cLs cI rfl) cI) rfl)) (tLs (tXTable tK (tLs tK) (tLs tK) tK)) rfl (a1 (c := cI) tK rfl a0)) (con_laws_szTableS e22) (.inl (so1 sK so0)) <| x_asg (ss rfl rfl) <| seqN [(1, .d ((cLs (cXVariable cS cI) rfl).enc v1)), (2, .d ((cLs (cXTable cI (cLs cI rfl) (cLs cI rfl) cI) rfl).enc v2)), (3, .d ((cLs (cXTable cI (cLs cI rfl) (cLs cI rfl) cI) rfl).enc v3)), (4, .box ((cXGeo (cLs cI rfl)).enc v0)), (9, .d (cI.enc x21))] (by kernel_rfl) <|
    xn <| wpC_seq <| wpC_kp <| wpC_seq <| reg_s <| st rfl <| mvd rfl rfl <| st rfl <| b_lss (k := .i64) rfl rfl <| seqN [(1, .d ((cLs (cXVariable cS cI) rfl).enc v1)), (2, .d ((cLs (cXTable cI (cLs cI rfl) (cLs cI rfl) cI) rfl).enc v2)), (3, .d ((cLs (cXTable cI (cLs cI rfl) (cLs cI rfl) cI) rfl).enc v3)), (4, .box ((cXGeo (cLs cI rfl)).enc v0)), (37, .d (cB.enc (decide (x21 < (0 : Int)))))] (by kernel_rfl) <|
    xn <| cnd rfl h (fun b24 h => wpC_seq <| reg_s <| x_asg (sc cB true rfl) <| seqN [(8, .d (cB.enc true))] (by kernel_rfl) <|
    xn <| wpC_ret <| rt <| rt <| re <| fin h (r1 (ss rfl rfl) <| r0) rfl)
    (fun b24 h => wpC_skip <| kpN [(1, .d ((cLs (cXVariable cS cI) rfl).enc v1)), (2, .d ((cLs (cXTable cI (cLs cI rfl) (cLs cI rfl) cI) rfl).enc v2)), (3, .d ((cLs (cXTable cI (cLs cI rfl) (cLs cI rfl) cI) rfl).enc v3)), (4, .box ((cXGeo (cLs cI rfl)).enc v0))] (by kernel_rfl) <| xn <| wpC_seq <| reg_s <| st rfl <| ldb rfl rfl rfl rfl <| bnd h fun x35 e36 h => st rfl <| o_call (a1 (c := (cXGeo (cLs cI rfl))) (tXGeo (tLs tK)) rfl a0) (con_laws_toGeo e36) (.inl (so1 (sXGeo (sLo sK)) so0)) <| st rfl <| mvd rfl rfl <| bnd h fun x37 e38 h => st rfl <| o_call (a1 (c := (cLs (cXVariable cS cI) rfl)) (tLs (tXVariable tS tK)) rfl a0) (con_laws_toVariableS e38) (.inl (so1 (sLo (sXVariable sS sK)) so0)) <| st rfl <| mvd rfl rfl <| bnd h fun x39 e40 h => st rfl <| o_call (a1 (c := (cLs (cXTable cI (cLs cI rfl) (cLs cI rfl) cI) rfl)) (tLs (tXTable tK (tLs tK) (tLs tK) tK)) rfl a0) (con_laws_toTableS e40) (.inl (so1 (sLo (sXTable sK (sLo sK) (sLo sK) sK)) so0)) <| st rfl <| mvd rfl rfl <| bnd h fun x41 e42 h => st rfl <| o_call (a1 (c := (cLs (cXTable cI (cLs cI rfl) (cLs cI rfl) cI) rfl)) (tLs (tXTable tK (tLs tK) (tLs tK) tK)) rfl a0) (con_laws_toTableS e42) (.inl (so1 (sLo (sXTable sK (sLo sK) (sLo sK) sK)) so0)) <| bnd h fun x43 e44 h => st rfl <| o_call (a1 (c := (cXGeo (cLo cI))) (tXGeo (tLo tK)) rfl (a1 (c := (cLo (cXVariable cS cI))) (tLo (tXVariable tS tK)) rfl (a1 (c := (cLo (cXTable cI (cLo cI) (cLo cI) cI))) (tLo (tXTable tK (tLo tK) (tLo tK) tK)) rfl (a1 (c := (cLo (cXTable cI (cLo cI) (cLo cI) cI))) (tLo (tXTable tK (tLo tK) (tLo tK) tK)) rfl a0)))) (con_spec_CoversPlan e44) (.inl (so1 sB (so1 sB so0))) <| x_mvt rfl <| x_ext rfl rfl <| x_ext rfl rfl <| x_asg (ss rfl rfl) <| x_asg (ss rfl rfl) <| seqN [(1, .d ((cLs (cXVariable cS cI) rfl).enc v1)), (2, .d ((cLs (cXTable cI (cLs cI rfl) (cLs cI rfl) cI) rfl).enc v2)), (3, .d ((cLs (cXTable cI (cLs cI rfl) (cLs cI rfl) cI) rfl).enc v3)), (4, .box ((cXGeo (cLs cI rfl)).enc v0)), (10, .d (cB.enc x43.1)), (11, .d (cB.enc x43.2))] (by kernel_rfl) <|
    xn <| wpC_seq <| reg_s <| st rfl <| ldb rfl rfl rfl rfl <| bnd h fun x47 e48 h => st rfl <| o_call (a1 (c := (cXGeo (cLs cI rfl))) (tXGeo (tLs tK)) rfl a0) (con_laws_toGeo e48) (.inl (so1 (sXGeo (sLo sK)) so0)) <| x_all (cXGeo (cLo cI)) (⟨([] : List Int)⟩ : XGeo) rfl <| x_stb (so rfl rfl) rfl (Cd.h_sz _ _) rfl <| seqN [(1, .d ((cLs (cXVariable cS cI) rfl).enc v1)), (2, .d ((cLs (cXTable cI (cLs cI rfl) (cLs cI rfl) cI) rfl).enc v2)), (3, .d ((cLs (cXTable cI (cLs cI rfl) (cLs cI rfl) cI) rfl).enc v3)), (4, .box ((cXGeo (cLs cI rfl)).enc v0)), (10, .d (cB.enc x43.1)), (11, .d (cB.enc x43.2)), (12, .box ((cXGeo (cLo cI)).enc x47))] (by kernel_rfl) <|
    xn <| wpC_seq <| reg_s <| st rfl <| mvd rfl rfl <| bnd h fun x51 e52 h => st rfl <| o_call (a1 (c := (cLs (cXVariable cS cI) rfl)) (tLs (tXVariable tS tK)) rfl a0) (con_laws_toVariableS e52) (.inl (so1 (sLo (sXVariable sS sK)) so0)) <| x_asg (so rfl rfl) <| seqN [(1, .d ((cLs (cXVariable cS cI) rfl).enc v1)), (2, .d ((cLs (cXTable cI (cLs cI rfl) (cLs cI rfl) cI) rfl).enc v2)), (3, .d ((cLs (cXTable cI (cLs cI rfl) (cLs cI rfl) cI) rfl).enc v3)), (4, .box ((cXGeo (cLs cI rfl)).enc v0)), (10, .d (cB.enc x43.1)), (11, .d (cB.enc x43.2)), (12, .box ((cXGeo (cLo cI)).enc x47)), (13, .d ((cLo (cXVariable cS cI)).enc x51))] (by kernel_rfl) <|
    xn <| wpC_seq <| reg_s <| st rfl <| mvd rfl rfl <| bnd h fun x55 e56 h => st rfl <| o_call (a1 (c := (cLs (cXTable cI (cLs cI rfl) (cLs cI rfl) cI) rfl)) (tLs (tXTable tK (tLs tK) (tLs tK) tK)) rfl a0) (con_laws_toTableS e56) (.inl (so1 (sLo (sXTable sK (sLo sK) (sLo sK) sK)) so0)) <| x_asg (so rfl rfl) <| seqN [(1, .d ((cLs (cXVariable cS cI) rfl).enc v1)), (2, .d ((cLs (cXTable cI (cLs cI rfl) (cLs cI rfl) cI) rfl).enc v2)), (3, .d ((cLs (cXTable cI (cLs cI rfl) (cLs cI rfl) cI) rfl).enc v3)), (4, .box ((cXGeo (cLs cI rfl)).enc v0)), (10, .d (cB.enc x43.1)), (11, .d (cB.enc x43.2)), (12, .box ((cXGeo (cLo cI)).enc x47)), (13, .d ((cLo (cXVariable cS cI)).enc x51)), (14, .d ((cLo (cXTable cI (cLo cI) (cLo cI) cI)).enc x55))] (by kernel_rfl) <|
    xn <| wpC_seq <| reg_s <| st rfl <| mvd rfl rfl <| bnd h fun x59 e60 h => st rfl <| o_call (a1 (c := (cLs (cXTable cI (cLs cI rfl) (cLs cI rfl) cI) rfl)) (tLs (tXTable tK (tLs tK) (tLs tK) tK)) rfl a0) (con_laws_toTableS e60) (.inl (so1 (sLo (sXTable sK (sLo sK) (sLo sK) sK)) so0)) <| x_asg (so rfl rfl) <| seqN [(1, .d ((cLs (cXVariable cS cI) rfl).enc v1)), (2, .d ((cLs (cXTable cI (cLs cI rfl) (cLs cI rfl) cI) rfl).enc v2)), (3, .d ((cLs (cXTable cI (cLs cI rfl) (cLs cI rfl) cI) rfl).enc v3)), (4, .box ((cXGeo (cLs cI rfl)).enc v0)), (10, .d (cB.enc x43.1)), (11, .d (cB.enc x43.2)), (12, .box ((cXGeo (cLo cI)).enc x47)), (13, .d ((cLo (cXVariable cS cI)).enc x51)), (14, .d ((cLo (cXTable cI (cLo cI) (cLo cI) cI)).enc x55)), (15, .d ((cLo (cXTable cI (cLo cI) (cLo cI) cI)).enc x59))] (by kernel_rfl) <|
    xn <| wpC_seq <| reg_s <| st rfl <| ldbo rfl rfl rfl rfl <| st rfl <| mvo rfl rfl <| st rfl <| mvo rfl rfl <| st rfl <| mvo rfl rfl <| bnd h fun x63 e64 h => st rfl <| o_call (a1 (c := (cXGeo (cLo cI))) (tXGeo (tLo tK)) rfl (a1 (c := (cLo (cXVariable cS cI))) (tLo (tXVariable tS tK)) rfl (a1 (c := (cLo (cXTable cI (cLo cI) (cLo cI) cI))) (tLo (tXTable tK (tLo tK) (tLo tK) tK)) rfl (a1 (c := (cLo (cXTable cI (cLo cI) (cLo cI) cI))) (tLo (tXTable tK (tLo tK) (tLo tK) tK)) rfl a0)))) (con_impl_CoversPlan e64) (.inl (so1 sB (so1 sB so0))) <| x_mvt rfl <| x_ext rfl rfl <| x_ext rfl rfl <| x_asg (ss rfl rfl) <| x_asg (ss rfl rfl) <| seqN [(1, .d ((cLs (cXVariable cS cI) rfl).enc v1)), (2, .d ((cLs (cXTable cI (cLs cI rfl) (cLs cI rfl) cI) rfl).enc v2)), (3, .d ((cLs (cXTable cI (cLs cI rfl) (cLs cI rfl) cI) rfl).enc v3)), (4, .box ((cXGeo (cLs cI rfl)).enc v0)), (10, .d (cB.enc x43.1)), (11, .d (cB.enc x43.2)), (12, .box ((cXGeo (cLo cI)).enc x47)), (13, .d ((cLo (cXVariable cS cI)).enc x51)), (14, .d ((cLo (cXTable cI (cLo cI) (cLo cI) cI)).enc x55)), (15, .d ((cLo (cXTable cI (cLo cI) (cLo cI) cI)).enc x59)), (16, .d (cB.enc x63.1)), (17, .d (cB.enc x63.2))] (by kernel_rfl) <|
    xn <| wpC_seq <| wpC_kp <| wpC_seq <| reg_s <| st rfl <| mvd rfl rfl <| st rfl <| mvd rfl rfl <| st rfl <| eqb1 rfl rfl <| st rfl <| mvd rfl rfl <| ite_k h (fun b69 h => gf rfl b69 <| gf rfl b69 <| gf rfl b69 <| st rfl <| pick1 rfl b69 (cd := cB) (v := true) rfl rfl <| seqN [(1, .d ((cLs (cXVariable cS cI) rfl).enc v1)), (2, .d ((cLs (cXTable cI (cLs cI rfl) (cLs cI rfl) cI) rfl).enc v2)), (3, .d ((cLs (cXTable cI (cLs cI rfl) (cLs cI rfl) cI) rfl).enc v3)), (4, .box ((cXGeo (cLs cI rfl)).enc v0)), (12, .box ((cXGeo (cLo cI)).enc x47)), (13, .d ((cLo (cXVariable cS cI)).enc x51)), (14, .d ((cLo (cXTable cI (cLo cI) (cLo cI) cI)).enc x55)), (15, .d ((cLo (cXTable cI (cLo cI) (cLo cI) cI)).enc x59)), (73, .d (cB.enc true))] (by kernel_rfl) <|
    xn <| cnd1 rfl rfl <| wpC_seq <| reg_s <| x_asg (sc cB false rfl) <| seqN [(8, .d (cB.enc false))] (by kernel_rfl) <|
    xn <| wpC_ret <| rt <| rt <| re <| fin h (r1 (ss rfl rfl) <| r0) rfl)
    (fun b69 h => gt' rfl b69 <| st rfl <| mvd rfl rfl <| gt' rfl b69 <| st rfl <| mvd rfl rfl <| gt' rfl b69 <| st rfl <| eqb1 rfl rfl <| st rfl <| pick0 rfl b69 (cd := cB) (v := (x63.2 != x43.2)) rfl rfl <| seqN [(1, .d ((cLs (cXVariable cS cI) rfl).enc v1)), (2, .d ((cLs (cXTable cI (cLs cI rfl) (cLs cI rfl) cI) rfl).enc v2)), (3, .d ((cLs (cXTable cI (cLs cI rfl) (cLs cI rfl) cI) rfl).enc v3)), (4, .box ((cXGeo (cLs cI rfl)).enc v0)), (12, .box ((cXGeo (cLo cI)).enc x47)), (13, .d ((cLo (cXVariable cS cI)).enc x51)), (14, .d ((cLo (cXTable cI (cLo cI) (cLo cI) cI)).enc x55)), (15, .d ((cLo (cXTable cI (cLo cI) (cLo cI) cI)).enc x59)), (73, .d (cB.enc (x63.2 != x43.2)))] (by kernel_rfl) <|
    xn <| cnd rfl h (fun b70 h => wpC_seq <| reg_s <| x_asg (sc cB false rfl) <| seqN [(8, .d (cB.enc false))] (by kernel_rfl) <|
    xn <| wpC_ret <| rt <| rt <| re <| fin h (r1 (ss rfl rfl) <| r0) rfl)
    (fun b70 h => wpC_skip <| kpN [(1, .d ((cLs (cXVariable cS cI) rfl).enc v1)), (2, .d ((cLs (cXTable cI (cLs cI rfl) (cLs cI rfl) cI) rfl).enc v2)), (3, .d ((cLs (cXTable cI (cLs cI rfl) (cLs cI rfl) cI) rfl).enc v3)), (4, .box ((cXGeo (cLs cI rfl)).enc v0)), (12, .box ((cXGeo (cLo cI)).enc x47)), (13, .d ((cLo (cXVariable cS cI)).enc x51)), (14, .d ((cLo (cXTable cI (cLo cI) (cLo cI) cI)).enc x55)), (15, .d ((cLo (cXTable cI (cLo cI) (cLo cI) cI)).enc x59))] (by kernel_rfl) <| xn <| wpC_seq <| wpC_kp <| wpC_seq <| drw_s <| pst rfl <| ldbo rfl rfl rfl rfl ⟨rfl, pst rfl <| ldb rfl rfl rfl rfl ⟨rfl, bndp h fun x84 e85 h => pst rfl <| o_call (a1 (c := (cXGeo (cLs cI rfl))) (tXGeo (tLs tK)) rfl a0) (con_laws_toGeo e85) (.inl (so1 (sXGeo (sLo sK)) so0)) ⟨rfl, bndp h fun x86 e87 h => pst rfl <| o_call (a1 (c := (cXGeo (cLo cI))) (tXGeo (tLo tK)) rfl (a1 (c := (cXGeo (cLo cI))) (tXGeo (tLo tK)) rfl a0)) (con_laws_eqGeo e87) (.inl (so1 sB so0)) ⟨rfl, pst rfl <| o_nt rfl ⟨rfl, preN <| seqN [(1, .d ((cLs (cXVariable cS cI) rfl).enc v1)), (2, .d ((cLs (cXTable cI (cLs cI rfl) (cLs cI rfl) cI) rfl).enc v2)), (3, .d ((cLs (cXTable cI (cLs cI rfl) (cLs cI rfl) cI) rfl).enc v3)), (13, .d ((cLo (cXVariable cS cI)).enc x51)), (14, .d ((cLo (cXTable cI (cLo cI) (cLo cI) cI)).enc x55)), (15, .d ((cLo (cXTable cI (cLo cI) (cLo cI) cI)).enc x59)), (78, .d (cB.enc (!x86)))] (by kernel_rfl) <|
    xn <| cnd rfl h (fun b88 h => wpC_seq <| reg_s <| x_asg (sc cB false rfl) <| seqN [(8, .d (cB.enc false))] (by kernel_rfl) <|
    xn <| wpC_ret <| rt <| rt <| re <| fin h (r1 (ss rfl rfl) <| r0) rfl)
    (fun b88 h => wpC_skip <| kpN [(1, .d ((cLs (cXVariable cS cI) rfl).enc v1)), (2, .d ((cLs (cXTable cI (cLs cI rfl) (cLs cI rfl) cI) rfl).enc v2)), (3, .d ((cLs (cXTable cI (cLs cI rfl) (cLs cI rfl) cI) rfl).enc v3)), (13, .d ((cLo (cXVariable cS cI)).enc x51)), (14, .d ((cLo (cXTable cI (cLo cI) (cLo cI) cI)).enc x55)), (15, .d ((cLo (cXTable cI (cLo cI) (cLo cI) cI)).enc x59))] (by kernel_rfl) <| xn <| wpC_seq <| wpC_kp <| wpC_seq <| reg_s <| st rfl <| mvo rfl rfl <| st rfl <| mvd rfl rfl <| bnd h fun x102 e103 h => st rfl <| o_call (a1 (c := (cLs (cXVariable cS cI) rfl)) (tLs (tXVariable tS tK)) rfl a0) (con_laws_toVariableS e103) (.inl (so1 (sLo (sXVariable sS sK)) so0)) <| bnd h fun x104 e105 h => st rfl <| o_call (a1 (c := (cLo (cXVariable cS cI))) (tLo (tXVariable tS tK)) rfl (a1 (c := (cLo (cXVariable cS cI))) (tLo (tXVariable tS tK)) rfl a0)) (con_laws_eqVariableS e105) (.inl (so1 sB so0)) <| st rfl <| o_nt rfl <| seqN [(2, .d ((cLs (cXTable cI (cLs cI rfl) (cLs cI rfl) cI) rfl).enc v2)), (3, .d ((cLs (cXTable cI (cLs cI rfl) (cLs cI rfl) cI) rfl).enc v3)), (14, .d ((cLo (cXTable cI (cLo cI) (cLo cI) cI)).enc x55)), (15, .d ((cLo (cXTable cI (cLo cI) (cLo cI) cI)).enc x59)), (83, .d (cB.enc (!x104)))] (by kernel_rfl) <|
    xn <| cnd rfl h (fun b106 h => wpC_seq <| reg_s <| x_asg (sc cB false rfl) <| seqN [(8, .d (cB.enc false))] (by kernel_rfl) <|
    xn <| wpC_ret <| rt <| rt <| re <| fin h (r1 (ss rfl rfl) <| r0) rfl)
    (fun b106 h => wpC_skip <| kpN [(2, .d ((cLs (cXTable cI (cLs cI rfl) (cLs cI rfl) cI) rfl).enc v2)), (3, .d ((cLs (cXTable cI (cLs cI rfl) (cLs cI rfl) cI) rfl).enc v3)), (14, .d ((cLo (cXTable cI (cLo cI) (cLo cI) cI)).enc x55)), (15, .d ((cLo (cXTable cI (cLo cI) (cLo cI) cI)).enc x59))] (by kernel_rfl) <| xn <| wpC_seq <| wpC_kp <| wpC_seq <| reg_s <| st rfl <| mvo rfl rfl <| st rfl <| mvd rfl rfl <| bnd h fun x120 e121 h => st rfl <| o_call (a1 (c := (cLs (cXTable cI (cLs cI rfl) (cLs cI rfl) cI) rfl)) (tLs (tXTable tK (tLs tK) (tLs tK) tK)) rfl a0) (con_laws_toTableS e121) (.inl (so1 (sLo (sXTable sK (sLo sK) (sLo sK) sK)) so0)) <| bnd h fun x122 e123 h => st rfl <| o_call (a1 (c := (cLo (cXTable cI (cLo cI) (cLo cI) cI))) (tLo (tXTable tK (tLo tK) (tLo tK) tK)) rfl (a1 (c := (cLo (cXTable cI (cLo cI) (cLo cI) cI))) (tLo (tXTable tK (tLo tK) (tLo tK) tK)) rfl a0)) (con_laws_eqTableS e123) (.inl (so1 sB so0)) <| st rfl <| o_nt rfl <| seqN [(3, .d ((cLs (cXTable cI (cLs cI rfl) (cLs cI rfl) cI) rfl).enc v3)), (15, .d ((cLo (cXTable cI (cLo cI) (cLo cI) cI)).enc x59)), (88, .d (cB.enc (!x122)))] (by kernel_rfl) <|
    xn <| cnd rfl h (fun b124 h => wpC_seq <| reg_s <| x_asg (sc cB false rfl) <| seqN [(8, .d (cB.enc false))] (by kernel_rfl) <|
    xn <| wpC_ret <| rt <| rt <| re <| fin h (r1 (ss rfl rfl) <| r0) rfl)
    (fun b124 h => wpC_skip <| kpN [(3, .d ((cLs (cXTable cI (cLs cI rfl) (cLs cI rfl) cI) rfl).enc v3)), (15, .d ((cLo (cXTable cI (cLo cI) (cLo cI) cI)).enc x59))] (by kernel_rfl) <| xn <| wpC_seq <| wpC_kp <| wpC_seq <| reg_s <| st rfl <| mvo rfl rfl <| st rfl <| mvd rfl rfl <| bnd h fun x138 e139 h => st rfl <| o_call (a1 (c := (cLs (cXTable cI (cLs cI rfl) (cLs cI rfl) cI) rfl)) (tLs (tXTable tK (tLs tK) (tLs tK) tK)) rfl a0) (con_laws_toTableS e139) (.inl (so1 (sLo (sXTable sK (sLo sK) (sLo sK) sK)) so0)) <| bnd h fun x140 e141 h => st rfl <| o_call (a1 (c := (cLo (cXTable cI (cLo cI) (cLo cI) cI))) (tLo (tXTable tK (tLo tK) (tLo tK) tK)) rfl (a1 (c := (cLo (cXTable cI (cLo cI) (cLo cI) cI))) (tLo (tXTable tK (tLo tK) (tLo tK) tK)) rfl a0)) (con_laws_eqTableS e141) (.inl (so1 sB so0)) <| st rfl <| o_nt rfl <| seqN [(93, .d (cB.enc (!x140)))] (by kernel_rfl) <|
    xn <| cnd rfl h (fun b142 h => wpC_seq <| reg_s <| x_asg (sc cB false rfl) <| seqN [(8, .d (cB.enc false))] (by kernel_rfl) <|
    xn <| wpC_ret <| rt <| rt <| re <| fin h (r1 (ss rfl rfl) <| r0) rfl)
    (fun b142 h => wpC_skip <| kpN [] (by kernel_rfl) <| xn <| wpC_seq <| reg_s <| x_asg (sc cB true rfl) <| seqN [(8, .d (cB.enc true))] (by kernel_rfl) <|
    xn <| wpC_ret <| re <| fin h (r1 (ss rfl rfl) <| r0) rfl))))⟩⟩⟩⟩⟩))))))
end AS.W
