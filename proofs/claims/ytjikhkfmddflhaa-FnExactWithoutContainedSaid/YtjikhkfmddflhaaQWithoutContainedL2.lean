/- The program computes the plain functions. No condition. -/
import Derived.Test.YtjikhkfmddflhaaQWithoutContainedS
import Derived.Test.YtjikhkfmddflhaaProg
import Derived.Test.YtjikhkfmddflhaaQWithoutContainedX
import Derived.Test.YtjikhkfmddflhaaQWithoutContainedL1
set_option maxRecDepth 100000
set_option linter.unusedVariables false
set_option linter.unusedSimpArgs false
namespace AS.W
open Go Go.Proofs
def rs_impl_WithoutContained (r : ((List XEdit) × Bool)) : List D := [(cLo (cXEdit (cLo cI))).enc r.1, cB.enc r.2]
def m47 : MC := .seq (.reg [⟨some 4, .asg (.c (.slice true [])), none⟩,
    ⟨some 5, .asg (.c (.bool false)), none⟩] [0, 1])
  (.seq (.kp [1] (.seq (.reg [⟨some 13, .mv (.t 0), none⟩,
    ⟨some 14, .call 73 [(.t 13)], none⟩,
    ⟨some 15, .nt (.t 14), none⟩,
    ⟨some 16, .mv (.t 15), none⟩,
    ⟨some 17, .mv (.t 0), some (16, false)⟩,
    ⟨some 18, .mv (.t 1), some (16, false)⟩,
    ⟨some 19, .call 64 [(.t 17), (.t 18)], some (16, false)⟩,
    ⟨some 20, .nt (.t 19), some (16, false)⟩,
    ⟨some 21, .pick (.t 16) (.c (.bool true)) (.t 20), none⟩] [1, 21])
  (.cond (.t 21) (.seq (.reg [⟨some 4, .asg (.c (.slice true [])), none⟩,
    ⟨some 5, .asg (.c (.bool false)), none⟩] [4, 5])
  (.ret)) (.skip))))
  (.seq (.reg [⟨some 6, .asg (.c (.slice true [])), none⟩] [1, 6])
  (.seq (.kp [6] (.seq (.reg [⟨some 22, .mv (.t 1), none⟩,
    ⟨some 23, .len false (.t 22), none⟩,
    ⟨some 24, .mv (.c (.int .i64 0)), none⟩] [1, 6, 22, 23, 24])
  (.blk 0 (.loop (.seq (.reg [⟨some 25, .bin .lss (.t 24) (.t 23), none⟩] [1, 6, 22, 23, 24, 25])
  (.seq (.kp [1, 6, 22, 23, 24] (.cond (.t 25) (.skip) (.exit 0)))
  (.seq (.kp [1, 6, 22, 23, 24] (.blk 1 (.seq (.reg [⟨some 26, .mv (.t 24), none⟩,
    ⟨some 27, .ia 22 (.t 24) 1, none⟩,
    ⟨some 28, .ld 27 1 true, none⟩,
    ⟨some 8, .alloc (.agg [.slice true []]), none⟩,
    ⟨some 7, .asg (.t 26), none⟩,
    ⟨none, .st 8 (.t 28) 1, none⟩] [1, 6, 7, 8, 22, 23, 24])
  (.seq (.reg [⟨some 9, .asg (.c (.bool true)), none⟩] [1, 6, 7, 8, 9, 22, 23, 24])
  (.seq (.kp [1, 6, 8, 9, 22, 23, 24] (.seq (.reg [⟨some 29, .mv (.t 1), none⟩,
    ⟨some 30, .len false (.t 29), none⟩,
    ⟨some 31, .mv (.c (.int .i64 0)), none⟩] [1, 6, 7, 8, 9, 22, 23, 24, 29, 30, 31])
  (.blk 2 (.loop (.seq (.reg [⟨some 32, .bin .lss (.t 31) (.t 30), none⟩] [1, 6, 7, 8, 9, 22, 23, 24, 29, 30, 31, 32])
  (.seq (.kp [1, 6, 7, 8, 9, 22, 23, 24, 29, 30, 31] (.cond (.t 32) (.skip) (.exit 2)))
  (.seq (.kp [1, 6, 7, 8, 9, 22, 23, 24, 29, 30, 31] (.blk 3 (.seq (.reg [⟨some 33, .mv (.t 31), none⟩,
    ⟨some 34, .ia 29 (.t 31) 1, none⟩,
    ⟨some 35, .ld 34 1 true, none⟩,
    ⟨some 11, .alloc (.agg [.slice true []]), none⟩,
    ⟨some 10, .asg (.t 33), none⟩,
    ⟨none, .st 11 (.t 35) 1, none⟩] [1, 6, 7, 8, 9, 10, 11, 22, 23, 24, 29, 30, 31])
  (.seq (.reg [⟨some 36, .ld 8 1 true, none⟩,
    ⟨some 37, .ld 11 1 true, none⟩,
    ⟨some 38, .call 106 [(.t 36), (.t 37)], none⟩,
    ⟨some 39, .bin .eql (.t 38) (.c (.int .i64 0)), none⟩,
    ⟨some 12, .asg (.t 39), none⟩] [1, 6, 7, 8, 9, 10, 11, 12, 22, 23, 24, 29, 30, 31])
  (.seq (.reg [⟨some 40, .mv (.t 12), none⟩,
    ⟨some 41, .mv (.t 40), none⟩,
    ⟨some 42, .mv (.t 10), some (41, true)⟩,
    ⟨some 43, .mv (.t 7), some (41, true)⟩,
    ⟨some 44, .bin .lss (.t 42) (.t 43), some (41, true)⟩,
    ⟨some 45, .pick (.t 41) (.t 44) (.c (.bool false)), none⟩,
    ⟨some 46, .mv (.t 45), none⟩,
    ⟨some 47, .mv (.t 12), some (46, false)⟩,
    ⟨some 48, .nt (.t 47), some (46, false)⟩,
    ⟨some 49, .mv (.t 48), some (46, false)⟩,
    ⟨some 50, .ld 11 1 true, some (49, true)⟩,
    ⟨some 51, .ld 8 1 true, some (49, true)⟩,
    ⟨some 52, .call 107 [(.t 50), (.t 51)], some (49, true)⟩,
    ⟨some 53, .pick (.t 49) (.t 52) (.c (.bool false)), some (46, false)⟩,
    ⟨some 54, .pick (.t 46) (.c (.bool true)) (.t 53), none⟩] [1, 6, 7, 8, 9, 22, 23, 24, 29, 30, 31, 54])
  (.cond (.t 54) (.reg [⟨some 9, .asg (.c (.bool false)), none⟩] [1, 6, 7, 8, 9, 22, 23, 24, 29, 30, 31]) (.skip)))))))
  (.reg [⟨some 55, .bin .add (.t 31) (.c (.int .i64 1)), none⟩,
    ⟨some 31, .mv (.t 55), none⟩] [1, 6, 7, 8, 9, 22, 23, 24, 29, 30, 31]))))))))
  (.seq (.reg [⟨some 56, .mv (.t 9), none⟩] [1, 6, 8, 22, 23, 24, 56])
  (.cond (.t 56) (.reg [⟨some 57, .mv (.t 6), none⟩,
    ⟨some 58, .fa 8 0 0, none⟩,
    ⟨some 59, .ld 58 1 false, none⟩,
    ⟨some 60, .call 92 [(.t 59)], none⟩,
    ⟨some 61, .bld [.slice true []] [(0, (.t 60))], none⟩,
    ⟨some 62, .bsl [(.t 61)] 1, none⟩,
    ⟨some 63, .app (.t 57) (.t 62) 1, none⟩,
    ⟨some 6, .asg (.t 63), none⟩] [1, 6, 22, 23, 24]) (.skip))))))))
  (.reg [⟨some 64, .bin .add (.t 24) (.c (.int .i64 1)), none⟩,
    ⟨some 24, .mv (.t 64), none⟩] [1, 6, 22, 23, 24]))))))))
  (.seq (.reg [⟨some 65, .mv (.t 6), none⟩,
    ⟨some 66, .callO 108 [(.t 65), (.c (.fn 106 []))], none⟩] [6])
  (.seq (.reg [⟨some 67, .mv (.t 6), none⟩,
    ⟨some 4, .asg (.t 67), none⟩,
    ⟨some 5, .asg (.c (.bool true)), none⟩] [4, 5])
  (.ret))))))
theorem con_impl_WithoutContained {v0 : (List XVariable)} {v1 : (List XEdit)} {r : ((List XEdit) × Bool)} (h : sh_impl_WithoutContained v0 v1 = some r) : Con Try.prog 47 [(cLs (cXVariable cS cI) rfl).enc v0, (cLs (cXEdit (cLs cI rfl)) rfl).enc v1] [] (rs_impl_WithoutContained r) := by
  delta sh_impl_WithoutContained at h
  refine top (out := none) (f := Try.f47) (m := m47) (rs := [.t 4, .t 5]) (by kernel_rfl) rfl (by kernel_rfl) (by kernel_rfl) (by kernel_rfl) (by kernel_rfl) (by kernel_rfl) ?_
  exact
   ini [(0, .d ((cLs (cXVariable cS cI) rfl).enc v0)), (1, .d ((cLs (cXEdit (cLs cI rfl)) rfl).enc v1))] rfl <| wpC_seq <| reg_s <| x_asg (sc (cLo (cXEdit (cLo cI))) ([] : List XEdit) rfl) <| x_asg (sc cB false rfl) <| seqN [(0, .d ((cLs (cXVariable cS cI) rfl).enc v0)), (1, .d ((cLs (cXEdit (cLs cI rfl)) rfl).enc v1))] (by kernel_rfl) <|
    xn <| wpC_seq <| wpC_kp <| wpC_seq <| reg_s <| st rfl <| mvd rfl rfl <| bnd h fun x17 e18 h => st rfl <| o_call (a1 (c := (cLs (cXVariable cS cI) rfl)) (tLs (tXVariable tS tK)) rfl a0) (con_impl_isSmall e18) (.inl (so1 sB so0)) <| st rfl <| o_nt rfl <| st rfl <| mvd rfl rfl <| ite_k h (fun b19 h => gf rfl b19 <| gf rfl b19 <| gf rfl b19 <| gf rfl b19 <| st rfl <| pick1 rfl b19 (cd := cB) (v := true) rfl rfl <| seqN [(1, .d ((cLs (cXEdit (cLs cI rfl)) rfl).enc v1)), (21, .d (cB.enc true))] (by kernel_rfl) <|
    xn <| cnd1 rfl rfl <| wpC_seq <| reg_s <| x_asg (sc (cLo (cXEdit (cLo cI))) ([] : List XEdit) rfl) <| x_asg (sc cB false rfl) <| seqN [(4, .d ((cLo (cXEdit (cLo cI))).enc ([] : List XEdit))), (5, .d (cB.enc false))] (by kernel_rfl) <|
    xn <| wpC_ret <| rt <| rt <| re <| fin h (r1 (so rfl rfl) <| r1 (ss rfl rfl) <| r0) rfl)
    (fun b19 h => gt' rfl b19 <| st rfl <| mvd rfl rfl <| gt' rfl b19 <| st rfl <| mvd rfl rfl <| gt' rfl b19 <| bnd h fun x20 e21 h => st rfl <| o_call (a1 (c := (cLs (cXVariable cS cI) rfl)) (tLs (tXVariable tS tK)) rfl (a1 (c := (cLs (cXEdit (cLs cI rfl)) rfl)) (tLs (tXEdit (tLs tK))) rfl a0)) (con_impl_areEdits e21) (.inl (so1 sB so0)) <| gt' rfl b19 <| st rfl <| o_nt rfl <| st rfl <| pick0 rfl b19 (cd := cB) (v := (!x20)) rfl rfl <| seqN [(1, .d ((cLs (cXEdit (cLs cI rfl)) rfl).enc v1)), (21, .d (cB.enc (!x20)))] (by kernel_rfl) <|
    xn <| cnd rfl h (fun b22 h => wpC_seq <| reg_s <| x_asg (sc (cLo (cXEdit (cLo cI))) ([] : List XEdit) rfl) <| x_asg (sc cB false rfl) <| seqN [(4, .d ((cLo (cXEdit (cLo cI))).enc ([] : List XEdit))), (5, .d (cB.enc false))] (by kernel_rfl) <|
    xn <| wpC_ret <| rt <| rt <| re <| fin h (r1 (so rfl rfl) <| r1 (ss rfl rfl) <| r0) rfl)
    (fun b22 h => wpC_skip <| kpN [(1, .d ((cLs (cXEdit (cLs cI rfl)) rfl).enc v1))] (by kernel_rfl) <| xn <| wpC_seq <| reg_s <| x_asg (sc (cLo (cXEdit (cLo cI))) ([] : List XEdit) rfl) <| seqN [(1, .d ((cLs (cXEdit (cLs cI rfl)) rfl).enc v1)), (6, .d ((cLo (cXEdit (cLo cI))).enc ([] : List XEdit)))] (by kernel_rfl) <|
    xn <| wpC_seq <| wpC_kp <| wpC_seq <| reg_s <| st rfl <| mvd rfl rfl <| stw rfl <| lens rfl fun l1186 => st rfl <| mvc cI (0 : Int) rfl <| seqN [(1, .d ((cLs (cXEdit (cLs cI rfl)) rfl).enc v1)), (6, .d ((cLo (cXEdit (cLo cI))).enc ([] : List XEdit))), (22, .d ((cLs (cXEdit (cLs cI rfl)) rfl).enc v1)), (23, .d (cI.enc (v1.length : Int))), (24, .d (cI.enc (0 : Int)))] (by kernel_rfl) <|
    xn <| wpC_blk <| lpR (fun (k1188 : Nat) (s1187 : (List XEdit)) => [(1, .d ((cLs (cXEdit (cLs cI rfl)) rfl).enc v1)), (6, .d ((cLo (cXEdit (cLo cI))).enc s1187)), (22, .d ((cLs (cXEdit (cLs cI rfl)) rfl).enc v1)), (23, .d (cI.enc (v1.length : Int))), (24, .d (cI.enc (k1188 : Int)))]) ([] : List XEdit) rfl h
    (fun G1962 s1187 h => wpC_seq <| reg_s <| st rfl <| b_lss (k := .i64) rfl rfl <| seqN [(1, .d ((cLs (cXEdit (cLs cI rfl)) rfl).enc v1)), (6, .d ((cLo (cXEdit (cLo cI))).enc s1187)), (22, .d ((cLs (cXEdit (cLs cI rfl)) rfl).enc v1)), (23, .d (cI.enc (v1.length : Int))), (24, .d (cI.enc (v1.length : Int))), (25, .d (cB.enc (decide ((v1.length : Int) < (v1.length : Int)))))] (by kernel_rfl) <|
    xn <| wpC_seq <| wpC_kp <| cnd0 rfl (dlf _) <| wpC_exit <| xt <| xt <| xt <| xb <| kpN [(6, .d ((cLo (cXEdit (cLo cI))).enc s1187))] (by kernel_rfl) <| xn <| wpC_seq <| reg_s <| st rfl <| mvo rfl rfl <| bnd h fun x1965 e1966 h => x_clr (c := (cLo (cXEdit (cLo cI)))) (c' := (cLo (cXEdit (cLo cI)))) ((cLo (cXEdit (cLo cI))).enc x1965.1) (sLo (sXEdit (sLo sK))) rfl (a1 (c := (cFn 106 (fun (v : Unit) => []) true (fun _ => im0))) (tFn (fun _ => ti0)) rfl a0) rfl Ln.nil (con_slices_SortFunc_impl_Edit_impl_Edit_impl_compareEdits e1966) rfl rfl so0 <| seqN [(6, .d ((cLo (cXEdit (cLo cI))).enc x1965.1))] (by kernel_rfl) <|
    xn <| wpC_seq <| reg_s <| st rfl <| mvo rfl rfl <| x_asg (sr rfl rfl) <| x_asg (sc cB true rfl) <| seqN [(4, .d ((cLo (cXEdit (cLo cI))).enc x1965.1)), (5, .d (cB.enc true))] (by kernel_rfl) <|
    xn <| wpC_ret <| re <| fin h (r1 (so rfl rfl) <| r1 (ss rfl rfl) <| r0) rfl)
    (fun G1962 nx1960 k1188 s1187 x1189 hk1190 hx1191 hn1961 h => wpC_seq <| reg_s <| st rfl <| b_lss (k := .i64) rfl rfl <| seqN [(1, .d ((cLs (cXEdit (cLs cI rfl)) rfl).enc v1)), (6, .d ((cLo (cXEdit (cLo cI))).enc s1187)), (22, .d ((cLs (cXEdit (cLs cI rfl)) rfl).enc v1)), (23, .d (cI.enc (v1.length : Int))), (24, .d (cI.enc (k1188 : Int))), (25, .d (cB.enc (decide ((k1188 : Int) < (v1.length : Int)))))] (by kernel_rfl) <|
    xn <| wpC_seq <| wpC_kp <| cnd1 rfl (dlt hk1190) <| wpC_skip <| kpN [(1, .d ((cLs (cXEdit (cLs cI rfl)) rfl).enc v1)), (6, .d ((cLo (cXEdit (cLo cI))).enc s1187)), (22, .d ((cLs (cXEdit (cLs cI rfl)) rfl).enc v1)), (23, .d (cI.enc (v1.length : Int))), (24, .d (cI.enc (k1188 : Int)))] (by kernel_rfl) <| xn <| wpC_seq <| wpC_kp <| wpC_blk <| wpC_seq <| reg_s <| st rfl <| mvd rfl rfl <| st rfl <| ias rfl rfl (Int.natCast_nonneg _) hx1191 rfl <| st rfl <| ldi rfl rfl rfl rfl <| x_all (cXEdit (cLo cI)) (⟨([] : List Int)⟩ : XEdit) rfl <| x_asg (ss rfl rfl) <| x_stb (ss rfl rfl) rfl (Cd.h_sz _ _) rfl <| seqN [(1, .d ((cLs (cXEdit (cLs cI rfl)) rfl).enc v1)), (6, .d ((cLo (cXEdit (cLo cI))).enc s1187)), (7, .d (cI.enc (k1188 : Int))), (8, .box ((cXEdit (cLs cI rfl)).enc x1189)), (22, .d ((cLs (cXEdit (cLs cI rfl)) rfl).enc v1)), (23, .d (cI.enc (v1.length : Int))), (24, .d (cI.enc (k1188 : Int)))] (by kernel_rfl) <|
    xn <| wpC_seq <| reg_s <| x_asg (sc cB true rfl) <| seqN [(1, .d ((cLs (cXEdit (cLs cI rfl)) rfl).enc v1)), (6, .d ((cLo (cXEdit (cLo cI))).enc s1187)), (7, .d (cI.enc (k1188 : Int))), (8, .box ((cXEdit (cLs cI rfl)).enc x1189)), (9, .d (cB.enc true)), (22, .d ((cLs (cXEdit (cLs cI rfl)) rfl).enc v1)), (23, .d (cI.enc (v1.length : Int))), (24, .d (cI.enc (k1188 : Int)))] (by kernel_rfl) <|
    xn <| wpC_seq <| wpC_kp <| wpC_seq <| reg_s <| st rfl <| mvd rfl rfl <| stw rfl <| lens rfl fun l2254 => st rfl <| mvc cI (0 : Int) rfl <| seqN [(1, .d ((cLs (cXEdit (cLs cI rfl)) rfl).enc v1)), (6, .d ((cLo (cXEdit (cLo cI))).enc s1187)), (7, .d (cI.enc (k1188 : Int))), (8, .box ((cXEdit (cLs cI rfl)).enc x1189)), (9, .d (cB.enc true)), (22, .d ((cLs (cXEdit (cLs cI rfl)) rfl).enc v1)), (23, .d (cI.enc (v1.length : Int))), (24, .d (cI.enc (k1188 : Int))), (29, .d ((cLs (cXEdit (cLs cI rfl)) rfl).enc v1)), (30, .d (cI.enc (v1.length : Int))), (31, .d (cI.enc (0 : Int)))] (by kernel_rfl) <|
    xn <| wpC_blk <| lpR (fun (k2256 : Nat) (s2255 : Bool) => [(1, .d ((cLs (cXEdit (cLs cI rfl)) rfl).enc v1)), (6, .d ((cLo (cXEdit (cLo cI))).enc s1187)), (7, .d (cI.enc (k1188 : Int))), (8, .box ((cXEdit (cLs cI rfl)).enc x1189)), (9, .d (cB.enc s2255)), (22, .d ((cLs (cXEdit (cLs cI rfl)) rfl).enc v1)), (23, .d (cI.enc (v1.length : Int))), (24, .d (cI.enc (k1188 : Int))), (29, .d ((cLs (cXEdit (cLs cI rfl)) rfl).enc v1)), (30, .d (cI.enc (v1.length : Int))), (31, .d (cI.enc (k2256 : Int)))]) true rfl h
    (fun G2318 s2255 h => wpC_seq <| reg_s <| st rfl <| b_lss (k := .i64) rfl rfl <| seqN [(1, .d ((cLs (cXEdit (cLs cI rfl)) rfl).enc v1)), (6, .d ((cLo (cXEdit (cLo cI))).enc s1187)), (7, .d (cI.enc (k1188 : Int))), (8, .box ((cXEdit (cLs cI rfl)).enc x1189)), (9, .d (cB.enc s2255)), (22, .d ((cLs (cXEdit (cLs cI rfl)) rfl).enc v1)), (23, .d (cI.enc (v1.length : Int))), (24, .d (cI.enc (k1188 : Int))), (29, .d ((cLs (cXEdit (cLs cI rfl)) rfl).enc v1)), (30, .d (cI.enc (v1.length : Int))), (31, .d (cI.enc (v1.length : Int))), (32, .d (cB.enc (decide ((v1.length : Int) < (v1.length : Int)))))] (by kernel_rfl) <|
    xn <| wpC_seq <| wpC_kp <| cnd0 rfl (dlf _) <| wpC_exit <| xt <| xt <| xt <| xb <| kpN [(1, .d ((cLs (cXEdit (cLs cI rfl)) rfl).enc v1)), (6, .d ((cLo (cXEdit (cLo cI))).enc s1187)), (8, .box ((cXEdit (cLs cI rfl)).enc x1189)), (9, .d (cB.enc s2255)), (22, .d ((cLs (cXEdit (cLs cI rfl)) rfl).enc v1)), (23, .d (cI.enc (v1.length : Int))), (24, .d (cI.enc (k1188 : Int)))] (by kernel_rfl) <| xn <| wpC_seq <| reg_s <| st rfl <| mvd rfl rfl <| seqN [(1, .d ((cLs (cXEdit (cLs cI rfl)) rfl).enc v1)), (6, .d ((cLo (cXEdit (cLo cI))).enc s1187)), (8, .box ((cXEdit (cLs cI rfl)).enc x1189)), (22, .d ((cLs (cXEdit (cLs cI rfl)) rfl).enc v1)), (23, .d (cI.enc (v1.length : Int))), (24, .d (cI.enc (k1188 : Int))), (56, .d (cB.enc s2255))] (by kernel_rfl) <|
    xn <| cnd rfl h (fun b2319 h => reg_s <| st rfl <| mvo rfl rfl <| st rfl <| fab rfl rfl rfl rfl <| st rfl <| lda rfl rfl rfl rfl rfl rfl <| bnd h fun x2320 e2321 h => st rfl <| o_call (a1 (c := (cLs cI rfl)) (tLs tK) rfl a0) (con_slices_Clone_int e2321) (.inl (so1 (sLo sK) so0)) <| x_bld ((cXEdit (cLo cI)).enc (⟨x2320⟩ : XEdit)) (t1 (so rfl rfl) rfl t0) rfl rfl <| x_bsl (cXEdit (cLo cI)) [(⟨x2320⟩ : XEdit)] (t1 (so rfl rfl) rfl t0) rfl rfl <| lnO_k h fun l2322 h => x_app (sr rfl rfl) (to1 rfl rfl) l2322 rfl <| x_asg (so rfl rfl) <| seqN [(1, .d ((cLs (cXEdit (cLs cI rfl)) rfl).enc v1)), (6, .d ((cLo (cXEdit (cLo cI))).enc (s1187 ++ [(⟨x2320⟩ : XEdit)]))), (22, .d ((cLs (cXEdit (cLs cI rfl)) rfl).enc v1)), (23, .d (cI.enc (v1.length : Int))), (24, .d (cI.enc (k1188 : Int)))] (by kernel_rfl) <|
    xbb <| kpN [(1, .d ((cLs (cXEdit (cLs cI rfl)) rfl).enc v1)), (6, .d ((cLo (cXEdit (cLo cI))).enc (s1187 ++ [(⟨x2320⟩ : XEdit)]))), (22, .d ((cLs (cXEdit (cLs cI rfl)) rfl).enc v1)), (23, .d (cI.enc (v1.length : Int))), (24, .d (cI.enc (k1188 : Int)))] (by kernel_rfl) <| xn <| reg_s <| st rfl <| b_inc rfl rfl l1186 hk1190 <| st rfl <| mvd rfl rfl <| seqN [(1, .d ((cLs (cXEdit (cLs cI rfl)) rfl).enc v1)), (6, .d ((cLo (cXEdit (cLo cI))).enc (s1187 ++ [(⟨x2320⟩ : XEdit)]))), (22, .d ((cLs (cXEdit (cLs cI rfl)) rfl).enc v1)), (23, .d (cI.enc (v1.length : Int))), (24, .d (cI.enc ((k1188 + 1 : Nat) : Int)))] (by kernel_rfl) <|
    xn <| hn1961 (s1187 ++ [(⟨x2320⟩ : XEdit)]) h)
    (fun b2319 h => wpC_skip <| xbb <| kpN [(1, .d ((cLs (cXEdit (cLs cI rfl)) rfl).enc v1)), (6, .d ((cLo (cXEdit (cLo cI))).enc s1187)), (22, .d ((cLs (cXEdit (cLs cI rfl)) rfl).enc v1)), (23, .d (cI.enc (v1.length : Int))), (24, .d (cI.enc (k1188 : Int)))] (by kernel_rfl) <| xn <| reg_s <| st rfl <| b_inc rfl rfl l1186 hk1190 <| st rfl <| mvd rfl rfl <| seqN [(1, .d ((cLs (cXEdit (cLs cI rfl)) rfl).enc v1)), (6, .d ((cLo (cXEdit (cLo cI))).enc s1187)), (22, .d ((cLs (cXEdit (cLs cI rfl)) rfl).enc v1)), (23, .d (cI.enc (v1.length : Int))), (24, .d (cI.enc ((k1188 + 1 : Nat) : Int)))] (by kernel_rfl) <|
    xn <| hn1961 s1187 h))
    (fun G2318 nx2316 k2256 s2255 x2257 hk2258 hx2259 hn2317 h => wpC_seq <| reg_s <| st rfl <| b_lss (k := .i64) rfl rfl <| seqN [(1, .d ((cLs (cXEdit (cLs cI rfl)) rfl).enc v1)), (6, .d ((cLo (cXEdit (cLo cI))).enc s1187)), (7, .d (cI.enc (k1188 : Int))), (8, .box ((cXEdit (cLs cI rfl)).enc x1189)), (9, .d (cB.enc s2255)), (22, .d ((cLs (cXEdit (cLs cI rfl)) rfl).enc v1)), (23, .d (cI.enc (v1.length : Int))), (24, .d (cI.enc (k1188 : Int))), (29, .d ((cLs (cXEdit (cLs cI rfl)) rfl).enc v1)), (30, .d (cI.enc (v1.length : Int))), (31, .d (cI.enc (k2256 : Int))), (32, .d (cB.enc (decide ((k2256 : Int) < (v1.length : Int)))))] (by kernel_rfl) <|
    xn <| wpC_seq <| wpC_kp <| cnd1 rfl (dlt hk2258) <| wpC_skip <| kpN [(1, .d ((cLs (cXEdit (cLs cI rfl)) rfl).enc v1)), (6, .d ((cLo (cXEdit (cLo cI))).enc s1187)), (7, .d (cI.enc (k1188 : Int))), (8, .box ((cXEdit (cLs cI rfl)).enc x1189)), (9, .d (cB.enc s2255)), (22, .d ((cLs (cXEdit (cLs cI rfl)) rfl).enc v1)), (23, .d (cI.enc (v1.length : Int))), (24, .d (cI.enc (k1188 : Int))), (29, .d ((cLs (cXEdit (cLs cI rfl)) rfl).enc v1)), (30, .d (cI.enc (v1.length : Int))), (31, .d (cI.enc (k2256 : Int)))] (by kernel_rfl) <| xn <| wpC_seq <| jw (fun (s2336 : Bool) => [(1, .d ((cLs (cXEdit (cLs cI rfl)) rfl).enc v1)), (6, .d ((cLo (cXEdit (cLo cI))).enc s1187)), (7, .d (cI.enc (k1188 : Int))), (8, .box ((cXEdit (cLs cI rfl)).enc x1189)), (9, .d (cB.enc s2336)), (22, .d ((cLs (cXEdit (cLs cI rfl)) rfl).enc v1)), (23, .d (cI.enc (v1.length : Int))), (24, .d (cI.enc (k1188 : Int))), (29, .d ((cLs (cXEdit (cLs cI rfl)) rfl).enc v1)), (30, .d (cI.enc (v1.length : Int))), (31, .d (cI.enc (k2256 : Int)))]) h (fun s2336 h => xn <| reg_s <| st rfl <| b_inc rfl rfl l2254 hk2258 <| st rfl <| mvd rfl rfl <| seqN [(1, .d ((cLs (cXEdit (cLs cI rfl)) rfl).enc v1)), (6, .d ((cLo (cXEdit (cLo cI))).enc s1187)), (7, .d (cI.enc (k1188 : Int))), (8, .box ((cXEdit (cLs cI rfl)).enc x1189)), (9, .d (cB.enc s2336)), (22, .d ((cLs (cXEdit (cLs cI rfl)) rfl).enc v1)), (23, .d (cI.enc (v1.length : Int))), (24, .d (cI.enc (k1188 : Int))), (29, .d ((cLs (cXEdit (cLs cI rfl)) rfl).enc v1)), (30, .d (cI.enc (v1.length : Int))), (31, .d (cI.enc ((k2256 + 1 : Nat) : Int)))] (by kernel_rfl) <|
    xn <| hn2317 s2336 h)
    fun s2336' q2337 h => wpC_kp <| wpC_blk <| wpC_seq <| reg_s <| st rfl <| mvd rfl rfl <| st rfl <| ias rfl rfl (Int.natCast_nonneg _) hx2259 rfl <| st rfl <| ldi rfl rfl rfl rfl <| x_all (cXEdit (cLo cI)) (⟨([] : List Int)⟩ : XEdit) rfl <| x_asg (ss rfl rfl) <| x_stb (ss rfl rfl) rfl (Cd.h_sz _ _) rfl <| seqN [(1, .d ((cLs (cXEdit (cLs cI rfl)) rfl).enc v1)), (6, .d ((cLo (cXEdit (cLo cI))).enc s1187)), (7, .d (cI.enc (k1188 : Int))), (8, .box ((cXEdit (cLs cI rfl)).enc x1189)), (9, .d (cB.enc s2255)), (10, .d (cI.enc (k2256 : Int))), (11, .box ((cXEdit (cLs cI rfl)).enc x2257)), (22, .d ((cLs (cXEdit (cLs cI rfl)) rfl).enc v1)), (23, .d (cI.enc (v1.length : Int))), (24, .d (cI.enc (k1188 : Int))), (29, .d ((cLs (cXEdit (cLs cI rfl)) rfl).enc v1)), (30, .d (cI.enc (v1.length : Int))), (31, .d (cI.enc (k2256 : Int)))] (by kernel_rfl) <|
    xn <| wpC_seq <| reg_s <| st rfl <| ldb rfl rfl rfl rfl <| st rfl <| ldb rfl rfl rfl rfl <| bnd h fun x2340 e2341 h => st rfl <| o_call (a1 (c := (cXEdit (cLs cI rfl))) (tXEdit (tLs tK)) rfl (a1 (c := (cXEdit (cLs cI rfl))) (tXEdit (tLs tK)) rfl a0)) (con_impl_compareEdits e2341) (.inl (so1 sK so0)) <| st rfl <| b_eql (k := .i64) rfl rfl <| x_asg (ss rfl rfl) <| seqN [(1, .d ((cLs (cXEdit (cLs cI rfl)) rfl).enc v1)), (6, .d ((cLo (cXEdit (cLo cI))).enc s1187)), (7, .d (cI.enc (k1188 : Int))), (8, .box ((cXEdit (cLs cI rfl)).enc x1189)), (9, .d (cB.enc s2255)), (10, .d (cI.enc (k2256 : Int))), (11, .box ((cXEdit (cLs cI rfl)).enc x2257)), (12, .d (cB.enc (decide (x2340 = (0 : Int))))), (22, .d ((cLs (cXEdit (cLs cI rfl)) rfl).enc v1)), (23, .d (cI.enc (v1.length : Int))), (24, .d (cI.enc (k1188 : Int))), (29, .d ((cLs (cXEdit (cLs cI rfl)) rfl).enc v1)), (30, .d (cI.enc (v1.length : Int))), (31, .d (cI.enc (k2256 : Int)))] (by kernel_rfl) <|
    xn <| wpC_seq <| reg_s <| st rfl <| mvd rfl rfl <| st rfl <| mvd rfl rfl <| ite_k h (fun b2346 h => gt' rfl b2346 <| st rfl <| mvd rfl rfl <| gt' rfl b2346 <| st rfl <| mvd rfl rfl <| gt' rfl b2346 <| st rfl <| b_lss (k := .i64) rfl rfl <| st rfl <| pick1 rfl b2346 (cd := cB) (v := (decide ((k2256 : Int) < (k1188 : Int)))) rfl rfl <| st rfl <| mvd rfl rfl <| ite_k h (fun b2347 h => gf rfl b2347 <| gf rfl b2347 <| gf rfl b2347 <| gu rfl <| gu rfl <| gu rfl <| gf rfl b2347 <| st rfl <| pick1 rfl b2347 (cd := cB) (v := true) rfl rfl <| seqN [(1, .d ((cLs (cXEdit (cLs cI rfl)) rfl).enc v1)), (6, .d ((cLo (cXEdit (cLo cI))).enc s1187)), (7, .d (cI.enc (k1188 : Int))), (8, .box ((cXEdit (cLs cI rfl)).enc x1189)), (9, .d (cB.enc s2255)), (22, .d ((cLs (cXEdit (cLs cI rfl)) rfl).enc v1)), (23, .d (cI.enc (v1.length : Int))), (24, .d (cI.enc (k1188 : Int))), (29, .d ((cLs (cXEdit (cLs cI rfl)) rfl).enc v1)), (30, .d (cI.enc (v1.length : Int))), (31, .d (cI.enc (k2256 : Int))), (54, .d (cB.enc true))] (by kernel_rfl) <|
    xn <| cnd1 rfl rfl <| reg_s <| x_asg (sc cB false rfl) <| seqN [(1, .d ((cLs (cXEdit (cLs cI rfl)) rfl).enc v1)), (6, .d ((cLo (cXEdit (cLo cI))).enc s1187)), (7, .d (cI.enc (k1188 : Int))), (8, .box ((cXEdit (cLs cI rfl)).enc x1189)), (9, .d (cB.enc false)), (22, .d ((cLs (cXEdit (cLs cI rfl)) rfl).enc v1)), (23, .d (cI.enc (v1.length : Int))), (24, .d (cI.enc (k1188 : Int))), (29, .d ((cLs (cXEdit (cLs cI rfl)) rfl).enc v1)), (30, .d (cI.enc (v1.length : Int))), (31, .d (cI.enc (k2256 : Int)))] (by kernel_rfl) <|
    xbb <| kpN [(1, .d ((cLs (cXEdit (cLs cI rfl)) rfl).enc v1)), (6, .d ((cLo (cXEdit (cLo cI))).enc s1187)), (7, .d (cI.enc (k1188 : Int))), (8, .box ((cXEdit (cLs cI rfl)).enc x1189)), (9, .d (cB.enc false)), (22, .d ((cLs (cXEdit (cLs cI rfl)) rfl).enc v1)), (23, .d (cI.enc (v1.length : Int))), (24, .d (cI.enc (k1188 : Int))), (29, .d ((cLs (cXEdit (cLs cI rfl)) rfl).enc v1)), (30, .d (cI.enc (v1.length : Int))), (31, .d (cI.enc (k2256 : Int)))] (by kernel_rfl) <| lfn (S := (fun (s2336 : Bool) => [(1, .d ((cLs (cXEdit (cLs cI rfl)) rfl).enc v1)), (6, .d ((cLo (cXEdit (cLo cI))).enc s1187)), (7, .d (cI.enc (k1188 : Int))), (8, .box ((cXEdit (cLs cI rfl)).enc x1189)), (9, .d (cB.enc s2336)), (22, .d ((cLs (cXEdit (cLs cI rfl)) rfl).enc v1)), (23, .d (cI.enc (v1.length : Int))), (24, .d (cI.enc (k1188 : Int))), (29, .d ((cLs (cXEdit (cLs cI rfl)) rfl).enc v1)), (30, .d (cI.enc (v1.length : Int))), (31, .d (cI.enc (k2256 : Int)))])) h q2337 rfl)
    (fun b2347 h => gt' rfl b2347 <| st rfl <| mvd rfl rfl <| gt' rfl b2347 <| st rfl <| o_nt rfl <| gt' rfl b2347 <| st rfl <| mvd rfl rfl <| gf rfl (nt_f b2346) <| gf rfl (nt_f b2346) <| gf rfl (nt_f b2346) <| gt' rfl b2347 <| st rfl <| pick0 rfl (nt_f b2346) (cd := cB) (v := false) rfl rfl <| st rfl <| pick0 rfl b2347 (cd := cB) (v := false) rfl rfl <| seqN [(1, .d ((cLs (cXEdit (cLs cI rfl)) rfl).enc v1)), (6, .d ((cLo (cXEdit (cLo cI))).enc s1187)), (7, .d (cI.enc (k1188 : Int))), (8, .box ((cXEdit (cLs cI rfl)).enc x1189)), (9, .d (cB.enc s2255)), (22, .d ((cLs (cXEdit (cLs cI rfl)) rfl).enc v1)), (23, .d (cI.enc (v1.length : Int))), (24, .d (cI.enc (k1188 : Int))), (29, .d ((cLs (cXEdit (cLs cI rfl)) rfl).enc v1)), (30, .d (cI.enc (v1.length : Int))), (31, .d (cI.enc (k2256 : Int))), (54, .d (cB.enc false))] (by kernel_rfl) <|
    xn <| cnd0 rfl rfl <| wpC_skip <| xbb <| kpN [(1, .d ((cLs (cXEdit (cLs cI rfl)) rfl).enc v1)), (6, .d ((cLo (cXEdit (cLo cI))).enc s1187)), (7, .d (cI.enc (k1188 : Int))), (8, .box ((cXEdit (cLs cI rfl)).enc x1189)), (9, .d (cB.enc s2255)), (22, .d ((cLs (cXEdit (cLs cI rfl)) rfl).enc v1)), (23, .d (cI.enc (v1.length : Int))), (24, .d (cI.enc (k1188 : Int))), (29, .d ((cLs (cXEdit (cLs cI rfl)) rfl).enc v1)), (30, .d (cI.enc (v1.length : Int))), (31, .d (cI.enc (k2256 : Int)))] (by kernel_rfl) <| lfn (S := (fun (s2336 : Bool) => [(1, .d ((cLs (cXEdit (cLs cI rfl)) rfl).enc v1)), (6, .d ((cLo (cXEdit (cLo cI))).enc s1187)), (7, .d (cI.enc (k1188 : Int))), (8, .box ((cXEdit (cLs cI rfl)).enc x1189)), (9, .d (cB.enc s2336)), (22, .d ((cLs (cXEdit (cLs cI rfl)) rfl).enc v1)), (23, .d (cI.enc (v1.length : Int))), (24, .d (cI.enc (k1188 : Int))), (29, .d ((cLs (cXEdit (cLs cI rfl)) rfl).enc v1)), (30, .d (cI.enc (v1.length : Int))), (31, .d (cI.enc (k2256 : Int)))])) h q2337 rfl))
    (fun b2346 h => gf rfl b2346 <| gf rfl b2346 <| gf rfl b2346 <| st rfl <| pick0 rfl b2346 (cd := cB) (v := false) rfl rfl <| st rfl <| mvd rfl rfl <| gt' rfl rfl <| st rfl <| mvd rfl rfl <| gt' rfl rfl <| st rfl <| o_nt rfl <| gt' rfl rfl <| st rfl <| mvd rfl rfl <| gt' rfl (nt_t b2346) <| st rfl <| ldb rfl rfl rfl rfl <| gt' rfl (nt_t b2346) <| st rfl <| ldb rfl rfl rfl rfl <| gt' rfl (nt_t b2346) <| bnd h fun x2348 e2349 h => st rfl <| o_call (a1 (c := (cXEdit (cLs cI rfl))) (tXEdit (tLs tK)) rfl (a1 (c := (cXEdit (cLs cI rfl))) (tXEdit (tLs tK)) rfl a0)) (con_impl_contains e2349) (.inl (so1 sB so0)) <| gt' rfl rfl <| st rfl <| pick1 rfl (nt_t b2346) (cd := cB) (v := x2348) rfl rfl <| st rfl <| pick0 rfl rfl (cd := cB) (v := x2348) rfl rfl <| seqN [(1, .d ((cLs (cXEdit (cLs cI rfl)) rfl).enc v1)), (6, .d ((cLo (cXEdit (cLo cI))).enc s1187)), (7, .d (cI.enc (k1188 : Int))), (8, .box ((cXEdit (cLs cI rfl)).enc x1189)), (9, .d (cB.enc s2255)), (22, .d ((cLs (cXEdit (cLs cI rfl)) rfl).enc v1)), (23, .d (cI.enc (v1.length : Int))), (24, .d (cI.enc (k1188 : Int))), (29, .d ((cLs (cXEdit (cLs cI rfl)) rfl).enc v1)), (30, .d (cI.enc (v1.length : Int))), (31, .d (cI.enc (k2256 : Int))), (54, .d (cB.enc x2348))] (by kernel_rfl) <|
    xn <| cnd rfl h (fun b2350 h => reg_s <| x_asg (sc cB false rfl) <| seqN [(1, .d ((cLs (cXEdit (cLs cI rfl)) rfl).enc v1)), (6, .d ((cLo (cXEdit (cLo cI))).enc s1187)), (7, .d (cI.enc (k1188 : Int))), (8, .box ((cXEdit (cLs cI rfl)).enc x1189)), (9, .d (cB.enc false)), (22, .d ((cLs (cXEdit (cLs cI rfl)) rfl).enc v1)), (23, .d (cI.enc (v1.length : Int))), (24, .d (cI.enc (k1188 : Int))), (29, .d ((cLs (cXEdit (cLs cI rfl)) rfl).enc v1)), (30, .d (cI.enc (v1.length : Int))), (31, .d (cI.enc (k2256 : Int)))] (by kernel_rfl) <|
    xbb <| kpN [(1, .d ((cLs (cXEdit (cLs cI rfl)) rfl).enc v1)), (6, .d ((cLo (cXEdit (cLo cI))).enc s1187)), (7, .d (cI.enc (k1188 : Int))), (8, .box ((cXEdit (cLs cI rfl)).enc x1189)), (9, .d (cB.enc false)), (22, .d ((cLs (cXEdit (cLs cI rfl)) rfl).enc v1)), (23, .d (cI.enc (v1.length : Int))), (24, .d (cI.enc (k1188 : Int))), (29, .d ((cLs (cXEdit (cLs cI rfl)) rfl).enc v1)), (30, .d (cI.enc (v1.length : Int))), (31, .d (cI.enc (k2256 : Int)))] (by kernel_rfl) <| lfn (S := (fun (s2336 : Bool) => [(1, .d ((cLs (cXEdit (cLs cI rfl)) rfl).enc v1)), (6, .d ((cLo (cXEdit (cLo cI))).enc s1187)), (7, .d (cI.enc (k1188 : Int))), (8, .box ((cXEdit (cLs cI rfl)).enc x1189)), (9, .d (cB.enc s2336)), (22, .d ((cLs (cXEdit (cLs cI rfl)) rfl).enc v1)), (23, .d (cI.enc (v1.length : Int))), (24, .d (cI.enc (k1188 : Int))), (29, .d ((cLs (cXEdit (cLs cI rfl)) rfl).enc v1)), (30, .d (cI.enc (v1.length : Int))), (31, .d (cI.enc (k2256 : Int)))])) h q2337 rfl)
    (fun b2350 h => wpC_skip <| xbb <| kpN [(1, .d ((cLs (cXEdit (cLs cI rfl)) rfl).enc v1)), (6, .d ((cLo (cXEdit (cLo cI))).enc s1187)), (7, .d (cI.enc (k1188 : Int))), (8, .box ((cXEdit (cLs cI rfl)).enc x1189)), (9, .d (cB.enc s2255)), (22, .d ((cLs (cXEdit (cLs cI rfl)) rfl).enc v1)), (23, .d (cI.enc (v1.length : Int))), (24, .d (cI.enc (k1188 : Int))), (29, .d ((cLs (cXEdit (cLs cI rfl)) rfl).enc v1)), (30, .d (cI.enc (v1.length : Int))), (31, .d (cI.enc (k2256 : Int)))] (by kernel_rfl) <| lfn (S := (fun (s2336 : Bool) => [(1, .d ((cLs (cXEdit (cLs cI rfl)) rfl).enc v1)), (6, .d ((cLo (cXEdit (cLo cI))).enc s1187)), (7, .d (cI.enc (k1188 : Int))), (8, .box ((cXEdit (cLs cI rfl)).enc x1189)), (9, .d (cB.enc s2336)), (22, .d ((cLs (cXEdit (cLs cI rfl)) rfl).enc v1)), (23, .d (cI.enc (v1.length : Int))), (24, .d (cI.enc (k1188 : Int))), (29, .d ((cLs (cXEdit (cLs cI rfl)) rfl).enc v1)), (30, .d (cI.enc (v1.length : Int))), (31, .d (cI.enc (k2256 : Int)))])) h q2337 rfl))))))

def rs_laws_heldEditS (r : Int) : List D := [cI.enc r]
def m48 : MC := .seq (.reg [⟨some 4, .asg (.c (.int .i64 0)), none⟩] [0, 1])
  (.seq (.kp [1] (.seq (.reg [⟨some 5, .asg (.c (.int .i64 0)), none⟩] [0, 1, 5])
  (.blk 0 (.loop (.seq (.kp [0, 1, 5] (.seq (.reg [⟨some 6, .mv (.t 5), none⟩,
    ⟨some 7, .mv (.t 0), none⟩,
    ⟨some 8, .len false (.t 7), none⟩,
    ⟨some 9, .bin .lss (.t 6) (.t 8), none⟩] [0, 1, 5, 9])
  (.cond (.t 9) (.skip) (.exit 0))))
  (.seq (.kp [0, 1, 5] (.blk 1 (.seq (.reg [⟨some 12, .mv (.t 0), none⟩,
    ⟨some 13, .mv (.t 5), none⟩,
    ⟨some 14, .ia 12 (.t 13) 1, none⟩,
    ⟨some 15, .fa 14 0 0, none⟩,
    ⟨some 16, .ld 15 1 false, none⟩,
    ⟨some 17, .mv (.t 1), none⟩,
    ⟨some 18, .call 25 [(.t 16), (.t 17)], none⟩,
    ⟨some 1, .asg (.t 18), none⟩] [0, 1, 5])
  (.seq (.reg [⟨some 19, .mv (.t 1), none⟩,
    ⟨some 20, .bin .lss (.t 19) (.c (.int .i64 0)), none⟩] [0, 1, 5, 20])
  (.cond (.t 20) (.seq (.reg [⟨some 4, .asg (.c (.int .i64 (-1))), none⟩] [4])
  (.ret)) (.skip))))))
  (.reg [⟨some 10, .mv (.t 5), none⟩,
    ⟨some 11, .bin .add (.t 10) (.c (.int .i64 1)), none⟩,
    ⟨some 5, .asg (.t 11), none⟩] [0, 1, 5])))))))
  (.seq (.reg [⟨some 21, .mv (.t 1), none⟩,
    ⟨some 4, .asg (.t 21), none⟩] [4])
  (.ret)))
theorem con_laws_heldEditS {v0 : (List XEdit)} {v1 : Int} {r : Int} (h : sh_laws_heldEditS v0 v1 = some r) : Con Try.prog 48 [(cLs (cXEdit (cLs cI rfl)) rfl).enc v0, cI.enc v1] [] (rs_laws_heldEditS r) := by
  delta sh_laws_heldEditS at h
  refine top (out := none) (f := Try.f48) (m := m48) (rs := [.t 4]) (by kernel_rfl) rfl (by kernel_rfl) (by kernel_rfl) (by kernel_rfl) (by kernel_rfl) (by kernel_rfl) ?_
  exact
   ini [(0, .d ((cLs (cXEdit (cLs cI rfl)) rfl).enc v0)), (1, .d (cI.enc v1))] rfl <| wpC_seq <| reg_s <| x_asg (sc cI (0 : Int) rfl) <| seqN [(0, .d ((cLs (cXEdit (cLs cI rfl)) rfl).enc v0)), (1, .d (cI.enc v1))] (by kernel_rfl) <|
    xn <| wpC_seq <| wpC_kp <| wpC_seq <| reg_s <| x_asg (sc cI (0 : Int) rfl) <| seqN [(0, .d ((cLs (cXEdit (cLs cI rfl)) rfl).enc v0)), (1, .d (cI.enc v1)), (5, .d (cI.enc (0 : Int)))] (by kernel_rfl) <|
    xn <| wpC_blk <| lpF (fun (s96 : (Int × Int)) => [(0, .d ((cLs (cXEdit (cLs cI rfl)) rfl).enc v0)), (1, .d (cI.enc s96.1)), (5, .d (cI.enc s96.2))]) (v1, (0 : Int)) rfl h
    fun G161 nx159 s96 hn160 h => wpC_seq <| wpC_kp <| wpC_seq <| reg_s <| st rfl <| mvd rfl rfl <| st rfl <| mvd rfl rfl <| stw rfl <| lens rfl fun l166 => st rfl <| b_lss (k := .i64) rfl rfl <| seqN [(0, .d ((cLs (cXEdit (cLs cI rfl)) rfl).enc v0)), (1, .d (cI.enc s96.1)), (5, .d (cI.enc s96.2)), (9, .d (cB.enc (decide (s96.2 < (v0.length : Int)))))] (by kernel_rfl) <|
    xn <| cnd rfl h (fun b167 h => wpC_skip <| kpN [(0, .d ((cLs (cXEdit (cLs cI rfl)) rfl).enc v0)), (1, .d (cI.enc s96.1)), (5, .d (cI.enc s96.2))] (by kernel_rfl) <| xn <| wpC_seq <| wpC_kp <| wpC_blk <| wpC_seq <| reg_s <| st rfl <| mvd rfl rfl <| st rfl <| mvd rfl rfl <| getO_k h fun x184 i185 g186 h => st rfl <| ias rfl rfl i185 g186 rfl <| st rfl <| fai rfl rfl rfl rfl <| st rfl <| ldi rfl rfl rfl rfl <| st rfl <| mvd rfl rfl <| bnd h fun x187 e188 h => st rfl <| o_call (a1 (c := (cLs cI rfl)) (tLs tK) rfl (a1 (c := cI) tK rfl a0)) (con_laws_heldIntS e188) (.inl (so1 sK so0)) <| x_asg (ss rfl rfl) <| seqN [(0, .d ((cLs (cXEdit (cLs cI rfl)) rfl).enc v0)), (1, .d (cI.enc x187)), (5, .d (cI.enc s96.2))] (by kernel_rfl) <|
    xn <| wpC_seq <| reg_s <| st rfl <| mvd rfl rfl <| st rfl <| b_lss (k := .i64) rfl rfl <| seqN [(0, .d ((cLs (cXEdit (cLs cI rfl)) rfl).enc v0)), (1, .d (cI.enc x187)), (5, .d (cI.enc s96.2)), (20, .d (cB.enc (decide (x187 < (0 : Int)))))] (by kernel_rfl) <|
    xn <| cnd rfl h (fun b189 h => wpC_seq <| reg_s <| x_asg (sc cI (-1 : Int) rfl) <| seqN [(4, .d (cI.enc (-1 : Int)))] (by kernel_rfl) <|
    xn <| wpC_ret <| rb <| rt <| rt <| rt <| rb <| rt <| rt <| re <| fin h (r1 (ss rfl rfl) <| r0) rfl)
    (fun b189 h => wpC_skip <| xbb <| kpN [(0, .d ((cLs (cXEdit (cLs cI rfl)) rfl).enc v0)), (1, .d (cI.enc x187)), (5, .d (cI.enc s96.2))] (by kernel_rfl) <| xn <| reg_s <| st rfl <| mvd rfl rfl <| ckI_k h fun i190 h => st rfl <| b_add (k := .i64) rfl rfl i190 <| x_asg (ss rfl rfl) <| seqN [(0, .d ((cLs (cXEdit (cLs cI rfl)) rfl).enc v0)), (1, .d (cI.enc x187)), (5, .d (cI.enc (s96.2 + (1 : Int))))] (by kernel_rfl) <|
    xn <| hn160 (x187, (s96.2 + (1 : Int))) h))
    (fun b167 h => wpC_exit <| xt <| xt <| xt <| xb <| kpN [(1, .d (cI.enc s96.1))] (by kernel_rfl) <| xn <| wpC_seq <| reg_s <| st rfl <| mvd rfl rfl <| x_asg (ss rfl rfl) <| seqN [(4, .d (cI.enc s96.1))] (by kernel_rfl) <|
    xn <| wpC_ret <| re <| fin h (r1 (ss rfl rfl) <| r0) rfl)

def rs_laws_FnExactWithoutContained (r : Bool) : List D := [cB.enc r]
def m11 : MC := .seq (.reg [⟨some 4, .asg (.c (.bool false)), none⟩] [0, 1])
  (.seq (.reg [⟨some 5, .asg (.c (.int .i64 1048576)), none⟩] [0, 1, 5])
  (.seq (.reg [⟨some 17, .mv (.t 0), none⟩,
    ⟨some 18, .mv (.t 5), none⟩,
    ⟨some 19, .call 13 [(.t 17), (.t 18)], none⟩,
    ⟨some 5, .asg (.t 19), none⟩] [0, 1, 5])
  (.seq (.kp [0, 1, 5] (.seq (.reg [⟨some 20, .mv (.t 5), none⟩,
    ⟨some 21, .bin .lss (.t 20) (.c (.int .i64 0)), none⟩] [0, 1, 5, 21])
  (.cond (.t 21) (.seq (.reg [⟨some 4, .asg (.c (.bool true)), none⟩] [4])
  (.ret)) (.skip))))
  (.seq (.reg [⟨some 22, .mv (.t 1), none⟩,
    ⟨some 23, .mv (.t 5), none⟩,
    ⟨some 24, .call 14 [(.t 22), (.t 23)], none⟩,
    ⟨some 5, .asg (.t 24), none⟩] [0, 1, 5])
  (.seq (.kp [0, 1] (.seq (.reg [⟨some 25, .mv (.t 5), none⟩,
    ⟨some 26, .bin .lss (.t 25) (.c (.int .i64 0)), none⟩] [0, 1, 26])
  (.cond (.t 26) (.seq (.reg [⟨some 4, .asg (.c (.bool true)), none⟩] [4])
  (.ret)) (.skip))))
  (.seq (.reg [⟨some 28, .mv (.t 0), none⟩,
    ⟨some 29, .call 16 [(.t 28)], none⟩,
    ⟨some 30, .mv (.t 1), none⟩,
    ⟨some 31, .call 17 [(.t 30)], none⟩,
    ⟨some 32, .call 46 [(.t 29), (.t 31)], none⟩,
    ⟨some 27, .mvt 32, none⟩,
    ⟨some 33, .ext 27 0, none⟩,
    ⟨some 34, .ext 27 1, none⟩,
    ⟨some 6, .asg (.t 33), none⟩,
    ⟨some 7, .asg (.t 34), none⟩] [0, 1, 6, 7])
  (.seq (.reg [⟨some 35, .mv (.t 0), none⟩,
    ⟨some 36, .call 16 [(.t 35)], none⟩,
    ⟨some 8, .asg (.t 36), none⟩] [0, 1, 6, 7, 8])
  (.seq (.reg [⟨some 37, .mv (.t 1), none⟩,
    ⟨some 38, .call 17 [(.t 37)], none⟩,
    ⟨some 9, .asg (.t 38), none⟩] [0, 1, 6, 7, 8, 9])
  (.seq (.reg [⟨some 40, .mv (.t 8), none⟩,
    ⟨some 41, .mv (.t 9), none⟩,
    ⟨some 42, .call 47 [(.t 40), (.t 41)], none⟩,
    ⟨some 39, .mvt 42, none⟩,
    ⟨some 43, .ext 39 0, none⟩,
    ⟨some 44, .ext 39 1, none⟩,
    ⟨some 10, .asg (.t 43), none⟩,
    ⟨some 11, .asg (.t 44), none⟩] [0, 1, 6, 7, 8, 9, 10, 11])
  (.seq (.kp [0, 1, 6, 7, 8, 9, 10, 11] (.seq (.reg [⟨some 45, .mv (.t 10), none⟩,
    ⟨some 46, .mv (.t 6), none⟩,
    ⟨some 47, .call 21 [(.t 45), (.t 46)], none⟩,
    ⟨some 48, .nt (.t 47), none⟩,
    ⟨some 49, .mv (.t 48), none⟩,
    ⟨some 50, .mv (.t 11), some (49, false)⟩,
    ⟨some 51, .mv (.t 7), some (49, false)⟩,
    ⟨some 52, .eqb true (.t 50) (.t 51), some (49, false)⟩,
    ⟨some 53, .pick (.t 49) (.c (.bool true)) (.t 52), none⟩] [0, 1, 6, 7, 8, 9, 10, 11, 53])
  (.cond (.t 53) (.seq (.reg [⟨some 4, .asg (.c (.bool false)), none⟩] [4])
  (.ret)) (.skip))))
  (.seq (.kp [0, 1, 6, 7, 8, 9, 10, 11] (.seq (.reg [⟨some 54, .mv (.t 8), none⟩,
    ⟨some 55, .mv (.t 0), none⟩,
    ⟨some 56, .call 16 [(.t 55)], none⟩,
    ⟨some 57, .call 20 [(.t 54), (.t 56)], none⟩,
    ⟨some 58, .nt (.t 57), none⟩] [0, 1, 6, 7, 8, 9, 10, 11, 58])
  (.cond (.t 58) (.seq (.reg [⟨some 4, .asg (.c (.bool false)), none⟩] [4])
  (.ret)) (.skip))))
  (.seq (.kp [0, 1, 6, 7, 8, 9, 10, 11] (.seq (.reg [⟨some 59, .mv (.t 9), none⟩,
    ⟨some 60, .mv (.t 1), none⟩,
    ⟨some 61, .call 17 [(.t 60)], none⟩,
    ⟨some 62, .call 21 [(.t 59), (.t 61)], none⟩,
    ⟨some 63, .nt (.t 62), none⟩] [0, 1, 6, 7, 8, 9, 10, 11, 63])
  (.cond (.t 63) (.seq (.reg [⟨some 4, .asg (.c (.bool false)), none⟩] [4])
  (.ret)) (.skip))))
  (.seq (.reg [⟨some 12, .asg (.c (.int .i64 1)), none⟩] [0, 1, 6, 7, 8, 9, 10, 11, 12])
  (.seq (.reg [⟨some 64, .mv (.t 8), none⟩,
    ⟨some 65, .mv (.t 12), none⟩,
    ⟨some 66, .callO 22 [(.t 64), (.t 65)], none⟩,
    ⟨some 12, .asg (.t 66), none⟩] [0, 1, 6, 7, 9, 10, 11, 12])
  (.seq (.reg [⟨some 67, .mv (.t 9), none⟩,
    ⟨some 68, .mv (.t 12), none⟩,
    ⟨some 69, .callO 23 [(.t 67), (.t 68)], none⟩,
    ⟨some 12, .asg (.t 69), none⟩] [0, 1, 6, 7, 10, 11, 12])
  (.seq (.kp [0, 1, 6, 7, 10] (.seq (.reg [⟨some 70, .mv (.t 12), none⟩,
    ⟨some 71, .bin .lss (.t 70) (.c (.int .i64 0)), none⟩,
    ⟨some 72, .mv (.t 71), none⟩,
    ⟨some 73, .mv (.t 10), some (72, false)⟩,
    ⟨some 74, .mv (.t 6), some (72, false)⟩,
    ⟨some 75, .call 21 [(.t 73), (.t 74)], some (72, false)⟩,
    ⟨some 76, .nt (.t 75), some (72, false)⟩,
    ⟨some 77, .pick (.t 72) (.c (.bool true)) (.t 76), none⟩,
    ⟨some 78, .mv (.t 77), none⟩,
    ⟨some 79, .mv (.t 11), some (78, false)⟩,
    ⟨some 80, .mv (.t 7), some (78, false)⟩,
    ⟨some 81, .eqb true (.t 79) (.t 80), some (78, false)⟩,
    ⟨some 82, .pick (.t 78) (.c (.bool true)) (.t 81), none⟩] [0, 1, 6, 7, 10, 82])
  (.cond (.t 82) (.seq (.reg [⟨some 4, .asg (.c (.bool false)), none⟩] [4])
  (.ret)) (.skip))))
  (.seq (.reg [⟨some 13, .asg (.c (.int .i64 1)), none⟩] [0, 1, 6, 7, 10, 13])
  (.seq (.reg [⟨some 83, .mv (.t 10), none⟩,
    ⟨some 84, .mv (.t 13), none⟩,
    ⟨some 85, .callO 23 [(.t 83), (.t 84)], none⟩,
    ⟨some 13, .asg (.t 85), none⟩] [0, 1, 6, 7, 10, 13])
  (.seq (.reg [⟨some 14, .asg (.c (.int .i64 1)), none⟩] [0, 1, 6, 7, 10, 13, 14])
  (.seq (.reg [⟨some 86, .mv (.t 10), none⟩,
    ⟨some 87, .mv (.t 14), none⟩,
    ⟨some 88, .call 48 [(.t 86), (.t 87)], none⟩,
    ⟨some 14, .asg (.t 88), none⟩] [0, 1, 6, 7, 10, 13, 14])
  (.seq (.kp [0, 1, 6, 7, 10, 13, 14] (.seq (.reg [⟨some 89, .mv (.t 14), none⟩,
    ⟨some 90, .bin .lss (.t 89) (.c (.int .i64 0)), none⟩] [0, 1, 6, 7, 10, 13, 14, 90])
  (.cond (.t 90) (.seq (.reg [⟨some 4, .asg (.c (.bool false)), none⟩] [4])
  (.ret)) (.skip))))
  (.seq (.kp [0, 1, 6, 7, 10, 13] (.seq (.reg [⟨some 91, .mv (.t 14), none⟩,
    ⟨some 92, .mv (.t 13), none⟩,
    ⟨some 93, .bin .neq (.t 91) (.t 92), none⟩] [0, 1, 6, 7, 10, 13, 93])
  (.cond (.t 93) (.seq (.reg [⟨some 4, .asg (.c (.bool false)), none⟩] [4])
  (.ret)) (.skip))))
  (.seq (.reg [⟨some 95, .mv (.t 0), none⟩,
    ⟨some 96, .call 16 [(.t 95)], none⟩,
    ⟨some 97, .mv (.t 1), none⟩,
    ⟨some 98, .call 17 [(.t 97)], none⟩,
    ⟨some 99, .call 47 [(.t 96), (.t 98)], none⟩,
    ⟨some 94, .mvt 99, none⟩,
    ⟨some 100, .ext 94 0, none⟩,
    ⟨some 101, .ext 94 1, none⟩,
    ⟨some 15, .asg (.t 100), none⟩,
    ⟨some 16, .asg (.t 101), none⟩] [6, 7, 10, 13, 15, 16])
  (.seq (.kp [10, 13] (.seq (.reg [⟨some 102, .mv (.t 15), none⟩,
    ⟨some 103, .mv (.t 6), none⟩,
    ⟨some 104, .call 21 [(.t 102), (.t 103)], none⟩,
    ⟨some 105, .nt (.t 104), none⟩,
    ⟨some 106, .mv (.t 105), none⟩,
    ⟨some 107, .mv (.t 16), some (106, false)⟩,
    ⟨some 108, .mv (.t 7), some (106, false)⟩,
    ⟨some 109, .eqb true (.t 107) (.t 108), some (106, false)⟩,
    ⟨some 110, .pick (.t 106) (.c (.bool true)) (.t 109), none⟩] [10, 13, 110])
  (.cond (.t 110) (.seq (.reg [⟨some 4, .asg (.c (.bool false)), none⟩] [4])
  (.ret)) (.skip))))
  (.seq (.reg [⟨some 14, .asg (.c (.int .i64 1)), none⟩] [10, 13, 14])
  (.seq (.reg [⟨some 111, .mv (.t 10), none⟩,
    ⟨some 112, .mv (.t 14), none⟩,
    ⟨some 113, .call 48 [(.t 111), (.t 112)], none⟩,
    ⟨some 14, .asg (.t 113), none⟩] [13, 14])
  (.seq (.kp [13, 14] (.seq (.reg [⟨some 114, .mv (.t 14), none⟩,
    ⟨some 115, .bin .lss (.t 114) (.c (.int .i64 0)), none⟩] [13, 14, 115])
  (.cond (.t 115) (.seq (.reg [⟨some 4, .asg (.c (.bool false)), none⟩] [4])
  (.ret)) (.skip))))
  (.seq (.kp [] (.seq (.reg [⟨some 116, .mv (.t 14), none⟩,
    ⟨some 117, .mv (.t 13), none⟩,
    ⟨some 118, .bin .neq (.t 116) (.t 117), none⟩] [118])
  (.cond (.t 118) (.seq (.reg [⟨some 4, .asg (.c (.bool false)), none⟩] [4])
  (.ret)) (.skip))))
  (.seq (.reg [⟨some 4, .asg (.c (.bool true)), none⟩] [4])
  (.ret))))))))))))))))))))))))))))))
theorem con_laws_FnExactWithoutContained {v0 : (List XVariable)} {v1 : (List XEdit)} {r : Bool} (h : sh_laws_FnExactWithoutContained v0 v1 = some r) : Con Try.prog 11 [(cLs (cXVariable cS cI) rfl).enc v0, (cLs (cXEdit (cLs cI rfl)) rfl).enc v1] [] (rs_laws_FnExactWithoutContained r) := by
  delta sh_laws_FnExactWithoutContained at h
  refine top (out := none) (f := Try.f11) (m := m11) (rs := [.t 4]) (by kernel_rfl) rfl (by kernel_rfl) (by kernel_rfl) (by kernel_rfl) (by kernel_rfl) (by kernel_rfl) ?_
  exact
   ini [(0, .d ((cLs (cXVariable cS cI) rfl).enc v0)), (1, .d ((cLs (cXEdit (cLs cI rfl)) rfl).enc v1))] rfl <| wpC_seq <| reg_s <| x_asg (sc cB false rfl) <| seqN [(0, .d ((cLs (cXVariable cS cI) rfl).enc v0)), (1, .d ((cLs (cXEdit (cLs cI rfl)) rfl).enc v1))] (by kernel_rfl) <|
    xn <| wpC_seq <| reg_s <| x_asg (sc cI (1048576 : Int) rfl) <| seqN [(0, .d ((cLs (cXVariable cS cI) rfl).enc v0)), (1, .d ((cLs (cXEdit (cLs cI rfl)) rfl).enc v1)), (5, .d (cI.enc (1048576 : Int)))] (by kernel_rfl) <|
    xn <| wpC_seq <| reg_s <| st rfl <| mvd rfl rfl <| st rfl <| mvd rfl rfl <| bnd h fun x3 e4 h => st rfl <| o_call (a1 (c := (cLs (cXVariable cS cI) rfl)) (tLs (tXVariable tS tK)) rfl (a1 (c := cI) tK rfl a0)) (con_laws_szVariableS e4) (.inl (so1 sK so0)) <| x_asg (ss rfl rfl) <| seqN [(0, .d ((cLs (cXVariable cS cI) rfl).enc v0)), (1, .d ((cLs (cXEdit (cLs cI rfl)) rfl).enc v1)), (5, .d (cI.enc x3))] (by kernel_rfl) <|
    xn <| wpC_seq <| wpC_kp <| wpC_seq <| reg_s <| st rfl <| mvd rfl rfl <| st rfl <| b_lss (k := .i64) rfl rfl <| seqN [(0, .d ((cLs (cXVariable cS cI) rfl).enc v0)), (1, .d ((cLs (cXEdit (cLs cI rfl)) rfl).enc v1)), (5, .d (cI.enc x3)), (21, .d (cB.enc (decide (x3 < (0 : Int)))))] (by kernel_rfl) <|
    xn <| cnd rfl h (fun b6 h => wpC_seq <| reg_s <| x_asg (sc cB true rfl) <| seqN [(4, .d (cB.enc true))] (by kernel_rfl) <|
    xn <| wpC_ret <| rt <| rt <| re <| fin h (r1 (ss rfl rfl) <| r0) rfl)
    (fun b6 h => wpC_skip <| kpN [(0, .d ((cLs (cXVariable cS cI) rfl).enc v0)), (1, .d ((cLs (cXEdit (cLs cI rfl)) rfl).enc v1)), (5, .d (cI.enc x3))] (by kernel_rfl) <| xn <| wpC_seq <| reg_s <| st rfl <| mvd rfl rfl <| st rfl <| mvd rfl rfl <| bnd h fun x9 e10 h => st rfl <| o_call (a1 (c := (cLs (cXEdit (cLs cI rfl)) rfl)) (tLs (tXEdit (tLs tK))) rfl (a1 (c := cI) tK rfl a0)) (con_laws_szEditS e10) (.inl (so1 sK so0)) <| x_asg (ss rfl rfl) <| seqN [(0, .d ((cLs (cXVariable cS cI) rfl).enc v0)), (1, .d ((cLs (cXEdit (cLs cI rfl)) rfl).enc v1)), (5, .d (cI.enc x9))] (by kernel_rfl) <|
    xn <| wpC_seq <| wpC_kp <| wpC_seq <| reg_s <| st rfl <| mvd rfl rfl <| st rfl <| b_lss (k := .i64) rfl rfl <| seqN [(0, .d ((cLs (cXVariable cS cI) rfl).enc v0)), (1, .d ((cLs (cXEdit (cLs cI rfl)) rfl).enc v1)), (26, .d (cB.enc (decide (x9 < (0 : Int)))))] (by kernel_rfl) <|
    xn <| cnd rfl h (fun b12 h => wpC_seq <| reg_s <| x_asg (sc cB true rfl) <| seqN [(4, .d (cB.enc true))] (by kernel_rfl) <|
    xn <| wpC_ret <| rt <| rt <| re <| fin h (r1 (ss rfl rfl) <| r0) rfl)
    (fun b12 h => wpC_skip <| kpN [(0, .d ((cLs (cXVariable cS cI) rfl).enc v0)), (1, .d ((cLs (cXEdit (cLs cI rfl)) rfl).enc v1))] (by kernel_rfl) <| xn <| wpC_seq <| reg_s <| st rfl <| mvd rfl rfl <| bnd h fun x19 e20 h => st rfl <| o_call (a1 (c := (cLs (cXVariable cS cI) rfl)) (tLs (tXVariable tS tK)) rfl a0) (con_laws_toVariableS_fz e20) (.inr (hr1 rfl rfl hr0)) <| st rfl <| mvd rfl rfl <| bnd h fun x21 e22 h => st rfl <| o_call (a1 (c := (cLs (cXEdit (cLs cI rfl)) rfl)) (tLs (tXEdit (tLs tK))) rfl a0) (con_laws_toEditS_fz e22) (.inr (hr1 rfl rfl hr0)) <| bnd h fun x23 e24 h => st rfl <| o_call (a1 (c := (cLs (cXVariable cS cI) rfl)) (tLs (tXVariable tS tK)) rfl (a1 (c := (cLs (cXEdit (cLs cI rfl)) rfl)) (tLs (tXEdit (tLs tK))) rfl a0)) (con_spec_WithoutContained e24) (.inr (hr1 rfl rfl (hr1 rfl rfl hr0))) <| x_mvt rfl <| x_ext rfl rfl <| x_ext rfl rfl <| x_asg (ss rfl rfl) <| x_asg (ss rfl rfl) <| seqN [(0, .d ((cLs (cXVariable cS cI) rfl).enc v0)), (1, .d ((cLs (cXEdit (cLs cI rfl)) rfl).enc v1)), (6, .d ((cLs (cXEdit (cLs cI rfl)) rfl).enc x23.1)), (7, .d (cB.enc x23.2))] (by kernel_rfl) <|
    xn <| wpC_seq <| reg_s <| st rfl <| mvd rfl rfl <| bnd h fun x27 e28 h => st rfl <| o_call (a1 (c := (cLs (cXVariable cS cI) rfl)) (tLs (tXVariable tS tK)) rfl a0) (con_laws_toVariableS e28) (.inl (so1 (sLo (sXVariable sS sK)) so0)) <| x_asg (so rfl rfl) <| seqN [(0, .d ((cLs (cXVariable cS cI) rfl).enc v0)), (1, .d ((cLs (cXEdit (cLs cI rfl)) rfl).enc v1)), (6, .d ((cLs (cXEdit (cLs cI rfl)) rfl).enc x23.1)), (7, .d (cB.enc x23.2)), (8, .d ((cLo (cXVariable cS cI)).enc x27))] (by kernel_rfl) <|
    xn <| wpC_seq <| reg_s <| st rfl <| mvd rfl rfl <| bnd h fun x31 e32 h => st rfl <| o_call (a1 (c := (cLs (cXEdit (cLs cI rfl)) rfl)) (tLs (tXEdit (tLs tK))) rfl a0) (con_laws_toEditS e32) (.inl (so1 (sLo (sXEdit (sLo sK))) so0)) <| x_asg (so rfl rfl) <| seqN [(0, .d ((cLs (cXVariable cS cI) rfl).enc v0)), (1, .d ((cLs (cXEdit (cLs cI rfl)) rfl).enc v1)), (6, .d ((cLs (cXEdit (cLs cI rfl)) rfl).enc x23.1)), (7, .d (cB.enc x23.2)), (8, .d ((cLo (cXVariable cS cI)).enc x27)), (9, .d ((cLo (cXEdit (cLo cI))).enc x31))] (by kernel_rfl) <|
    xn <| wpC_seq <| reg_s <| st rfl <| mvo rfl rfl <| st rfl <| mvo rfl rfl <| bnd h fun x35 e36 h => st rfl <| o_call (a1 (c := (cLo (cXVariable cS cI))) (tLo (tXVariable tS tK)) rfl (a1 (c := (cLo (cXEdit (cLo cI)))) (tLo (tXEdit (tLo tK))) rfl a0)) (con_impl_WithoutContained e36) (.inl (so1 (sLo (sXEdit (sLo sK))) (so1 sB so0))) <| x_mvt rfl <| x_ext rfl rfl <| x_ext rfl rfl <| x_asg (so rfl rfl) <| x_asg (ss rfl rfl) <| seqN [(0, .d ((cLs (cXVariable cS cI) rfl).enc v0)), (1, .d ((cLs (cXEdit (cLs cI rfl)) rfl).enc v1)), (6, .d ((cLs (cXEdit (cLs cI rfl)) rfl).enc x23.1)), (7, .d (cB.enc x23.2)), (8, .d ((cLo (cXVariable cS cI)).enc x27)), (9, .d ((cLo (cXEdit (cLo cI))).enc x31)), (10, .d ((cLo (cXEdit (cLo cI))).enc x35.1)), (11, .d (cB.enc x35.2))] (by kernel_rfl) <|
    xn <| wpC_seq <| wpC_kp <| wpC_seq <| reg_s <| st rfl <| mvo rfl rfl <| st rfl <| mvd rfl rfl <| bnd h fun x47 e48 h => st rfl <| o_call (a1 (c := (cLo (cXEdit (cLo cI)))) (tLo (tXEdit (tLo tK))) rfl (a1 (c := (cLs (cXEdit (cLs cI rfl)) rfl)) (tLs (tXEdit (tLs tK))) rfl a0)) (con_laws_eqEditS e48) (.inl (so1 sB so0)) <| st rfl <| o_nt rfl <| st rfl <| mvd rfl rfl <| ite_k h (fun b49 h => gf rfl b49 <| gf rfl b49 <| gf rfl b49 <| st rfl <| pick1 rfl b49 (cd := cB) (v := true) rfl rfl <| seqN [(0, .d ((cLs (cXVariable cS cI) rfl).enc v0)), (1, .d ((cLs (cXEdit (cLs cI rfl)) rfl).enc v1)), (6, .d ((cLs (cXEdit (cLs cI rfl)) rfl).enc x23.1)), (7, .d (cB.enc x23.2)), (8, .d ((cLo (cXVariable cS cI)).enc x27)), (9, .d ((cLo (cXEdit (cLo cI))).enc x31)), (10, .d ((cLo (cXEdit (cLo cI))).enc x35.1)), (11, .d (cB.enc x35.2)), (53, .d (cB.enc true))] (by kernel_rfl) <|
    xn <| cnd1 rfl rfl <| wpC_seq <| reg_s <| x_asg (sc cB false rfl) <| seqN [(4, .d (cB.enc false))] (by kernel_rfl) <|
    xn <| wpC_ret <| rt <| rt <| re <| fin h (r1 (ss rfl rfl) <| r0) rfl)
    (fun b49 h => gt' rfl b49 <| st rfl <| mvd rfl rfl <| gt' rfl b49 <| st rfl <| mvd rfl rfl <| gt' rfl b49 <| st rfl <| eqb1 rfl rfl <| st rfl <| pick0 rfl b49 (cd := cB) (v := (x35.2 != x23.2)) rfl rfl <| seqN [(0, .d ((cLs (cXVariable cS cI) rfl).enc v0)), (1, .d ((cLs (cXEdit (cLs cI rfl)) rfl).enc v1)), (6, .d ((cLs (cXEdit (cLs cI rfl)) rfl).enc x23.1)), (7, .d (cB.enc x23.2)), (8, .d ((cLo (cXVariable cS cI)).enc x27)), (9, .d ((cLo (cXEdit (cLo cI))).enc x31)), (10, .d ((cLo (cXEdit (cLo cI))).enc x35.1)), (11, .d (cB.enc x35.2)), (53, .d (cB.enc (x35.2 != x23.2)))] (by kernel_rfl) <|
    xn <| cnd rfl h (fun b50 h => wpC_seq <| reg_s <| x_asg (sc cB false rfl) <| seqN [(4, .d (cB.enc false))] (by kernel_rfl) <|
    xn <| wpC_ret <| rt <| rt <| re <| fin h (r1 (ss rfl rfl) <| r0) rfl)
    (fun b50 h => wpC_skip <| kpN [(0, .d ((cLs (cXVariable cS cI) rfl).enc v0)), (1, .d ((cLs (cXEdit (cLs cI rfl)) rfl).enc v1)), (6, .d ((cLs (cXEdit (cLs cI rfl)) rfl).enc x23.1)), (7, .d (cB.enc x23.2)), (8, .d ((cLo (cXVariable cS cI)).enc x27)), (9, .d ((cLo (cXEdit (cLo cI))).enc x31)), (10, .d ((cLo (cXEdit (cLo cI))).enc x35.1)), (11, .d (cB.enc x35.2))] (by kernel_rfl) <| xn <| wpC_seq <| wpC_kp <| wpC_seq <| reg_s <| st rfl <| mvo rfl rfl <| st rfl <| mvd rfl rfl <| bnd h fun x64 e65 h => st rfl <| o_call (a1 (c := (cLs (cXVariable cS cI) rfl)) (tLs (tXVariable tS tK)) rfl a0) (con_laws_toVariableS e65) (.inl (so1 (sLo (sXVariable sS sK)) so0)) <| bnd h fun x66 e67 h => st rfl <| o_call (a1 (c := (cLo (cXVariable cS cI))) (tLo (tXVariable tS tK)) rfl (a1 (c := (cLo (cXVariable cS cI))) (tLo (tXVariable tS tK)) rfl a0)) (con_laws_eqVariableS e67) (.inl (so1 sB so0)) <| st rfl <| o_nt rfl <| seqN [(0, .d ((cLs (cXVariable cS cI) rfl).enc v0)), (1, .d ((cLs (cXEdit (cLs cI rfl)) rfl).enc v1)), (6, .d ((cLs (cXEdit (cLs cI rfl)) rfl).enc x23.1)), (7, .d (cB.enc x23.2)), (8, .d ((cLo (cXVariable cS cI)).enc x27)), (9, .d ((cLo (cXEdit (cLo cI))).enc x31)), (10, .d ((cLo (cXEdit (cLo cI))).enc x35.1)), (11, .d (cB.enc x35.2)), (58, .d (cB.enc (!x66)))] (by kernel_rfl) <|
    xn <| cnd rfl h (fun b68 h => wpC_seq <| reg_s <| x_asg (sc cB false rfl) <| seqN [(4, .d (cB.enc false))] (by kernel_rfl) <|
    xn <| wpC_ret <| rt <| rt <| re <| fin h (r1 (ss rfl rfl) <| r0) rfl)
    (fun b68 h => wpC_skip <| kpN [(0, .d ((cLs (cXVariable cS cI) rfl).enc v0)), (1, .d ((cLs (cXEdit (cLs cI rfl)) rfl).enc v1)), (6, .d ((cLs (cXEdit (cLs cI rfl)) rfl).enc x23.1)), (7, .d (cB.enc x23.2)), (8, .d ((cLo (cXVariable cS cI)).enc x27)), (9, .d ((cLo (cXEdit (cLo cI))).enc x31)), (10, .d ((cLo (cXEdit (cLo cI))).enc x35.1)), (11, .d (cB.enc x35.2))] (by kernel_rfl) <| xn <| wpC_seq <| wpC_kp <| wpC_seq <| reg_s <| st rfl <| mvo rfl rfl <| st rfl <| mvd rfl rfl <| bnd h fun x82 e83 h => st rfl <| o_call (a1 (c := (cLs (cXEdit (cLs cI rfl)) rfl)) (tLs (tXEdit (tLs tK))) rfl a0) (con_laws_toEditS e83) (.inl (so1 (sLo (sXEdit (sLo sK))) so0)) <| bnd h fun x84 e85 h => st rfl <| o_call (a1 (c := (cLo (cXEdit (cLo cI)))) (tLo (tXEdit (tLo tK))) rfl (a1 (c := (cLo (cXEdit (cLo cI)))) (tLo (tXEdit (tLo tK))) rfl a0)) (con_laws_eqEditS e85) (.inl (so1 sB so0)) <| st rfl <| o_nt rfl <| seqN [(0, .d ((cLs (cXVariable cS cI) rfl).enc v0)), (1, .d ((cLs (cXEdit (cLs cI rfl)) rfl).enc v1)), (6, .d ((cLs (cXEdit (cLs cI rfl)) rfl).enc x23.1)), (7, .d (cB.enc x23.2)), (8, .d ((cLo (cXVariable cS cI)).enc x27)), (9, .d ((cLo (cXEdit (cLo cI))).enc x31)), (10, .d ((cLo (cXEdit (cLo cI))).enc x35.1)), (11, .d (cB.enc x35.2)), (63, .d (cB.enc (!x84)))] (by kernel_rfl) <|
    xn <| cnd rfl h (fun b86 h => wpC_seq <| reg_s <| x_asg (sc cB false rfl) <| seqN [(4, .d (cB.enc false))] (by kernel_rfl) <|
    xn <| wpC_ret <| rt <| rt <| re <| fin h (r1 (ss rfl rfl) <| r0) rfl)
    (fun b86 h => wpC_skip <| kpN [(0, .d ((cLs (cXVariable cS cI) rfl).enc v0)), (1, .d ((cLs (cXEdit (cLs cI rfl)) rfl).enc v1)), (6, .d ((cLs (cXEdit (cLs cI rfl)) rfl).enc x23.1)), (7, .d (cB.enc x23.2)), (8, .d ((cLo (cXVariable cS cI)).enc x27)), (9, .d ((cLo (cXEdit (cLo cI))).enc x31)), (10, .d ((cLo (cXEdit (cLo cI))).enc x35.1)), (11, .d (cB.enc x35.2))] (by kernel_rfl) <| xn <| wpC_seq <| reg_s <| x_asg (sc cI (1 : Int) rfl) <| seqN [(0, .d ((cLs (cXVariable cS cI) rfl).enc v0)), (1, .d ((cLs (cXEdit (cLs cI rfl)) rfl).enc v1)), (6, .d ((cLs (cXEdit (cLs cI rfl)) rfl).enc x23.1)), (7, .d (cB.enc x23.2)), (8, .d ((cLo (cXVariable cS cI)).enc x27)), (9, .d ((cLo (cXEdit (cLo cI))).enc x31)), (10, .d ((cLo (cXEdit (cLo cI))).enc x35.1)), (11, .d (cB.enc x35.2)), (12, .d (cI.enc (1 : Int)))] (by kernel_rfl) <|
    xn <| wpC_seq <| reg_s <| st rfl <| mvo rfl rfl <| st rfl <| mvd rfl rfl <| bnd h fun x89 e90 h => x_clr (c := (cLo (cXVariable cS cI))) (c' := (cLo (cXVariable cS cI))) ((cLo (cXVariable cS cI)).enc x89.1) (sLo (sXVariable sS sK)) rfl (a1 (c := cI) tK rfl a0) rfl Ln.nil (con_laws_markVariableS e90) rfl rfl (so1 sK so0) <| x_asg (ss rfl rfl) <| seqN [(0, .d ((cLs (cXVariable cS cI) rfl).enc v0)), (1, .d ((cLs (cXEdit (cLs cI rfl)) rfl).enc v1)), (6, .d ((cLs (cXEdit (cLs cI rfl)) rfl).enc x23.1)), (7, .d (cB.enc x23.2)), (9, .d ((cLo (cXEdit (cLo cI))).enc x31)), (10, .d ((cLo (cXEdit (cLo cI))).enc x35.1)), (11, .d (cB.enc x35.2)), (12, .d (cI.enc x89.2))] (by kernel_rfl) <|
    xn <| wpC_seq <| reg_s <| st rfl <| mvo rfl rfl <| st rfl <| mvd rfl rfl <| bnd h fun x93 e94 h => x_clr (c := (cLo (cXEdit (cLo cI)))) (c' := (cLo (cXEdit (cLo cI)))) ((cLo (cXEdit (cLo cI))).enc x93.1) (sLo (sXEdit (sLo sK))) rfl (a1 (c := cI) tK rfl a0) rfl Ln.nil (con_laws_markEditS e94) rfl rfl (so1 sK so0) <| x_asg (ss rfl rfl) <| seqN [(0, .d ((cLs (cXVariable cS cI) rfl).enc v0)), (1, .d ((cLs (cXEdit (cLs cI rfl)) rfl).enc v1)), (6, .d ((cLs (cXEdit (cLs cI rfl)) rfl).enc x23.1)), (7, .d (cB.enc x23.2)), (10, .d ((cLo (cXEdit (cLo cI))).enc x35.1)), (11, .d (cB.enc x35.2)), (12, .d (cI.enc x93.2))] (by kernel_rfl) <|
    xn <| wpC_seq <| wpC_kp <| wpC_seq <| reg_s <| st rfl <| mvd rfl rfl <| st rfl <| b_lss (k := .i64) rfl rfl <| st rfl <| mvd rfl rfl <| ite_k h (fun b107 h => gf rfl b107 <| gf rfl b107 <| gf rfl b107 <| gf rfl b107 <| st rfl <| pick1 rfl b107 (cd := cB) (v := true) rfl rfl <| st rfl <| mvd rfl rfl <| gf rfl rfl <| gf rfl rfl <| gf rfl rfl <| st rfl <| pick1 rfl rfl (cd := cB) (v := true) rfl rfl <| seqN [(0, .d ((cLs (cXVariable cS cI) rfl).enc v0)), (1, .d ((cLs (cXEdit (cLs cI rfl)) rfl).enc v1)), (6, .d ((cLs (cXEdit (cLs cI rfl)) rfl).enc x23.1)), (7, .d (cB.enc x23.2)), (10, .d ((cLo (cXEdit (cLo cI))).enc x35.1)), (82, .d (cB.enc true))] (by kernel_rfl) <|
    xn <| cnd1 rfl rfl <| wpC_seq <| reg_s <| x_asg (sc cB false rfl) <| seqN [(4, .d (cB.enc false))] (by kernel_rfl) <|
    xn <| wpC_ret <| rt <| rt <| re <| fin h (r1 (ss rfl rfl) <| r0) rfl)
    (fun b107 h => gt' rfl b107 <| st rfl <| mvo rfl rfl <| gt' rfl b107 <| st rfl <| mvd rfl rfl <| gt' rfl b107 <| bnd h fun x108 e109 h => st rfl <| o_call (a1 (c := (cLo (cXEdit (cLo cI)))) (tLo (tXEdit (tLo tK))) rfl (a1 (c := (cLs (cXEdit (cLs cI rfl)) rfl)) (tLs (tXEdit (tLs tK))) rfl a0)) (con_laws_eqEditS e109) (.inl (so1 sB so0)) <| gt' rfl b107 <| st rfl <| o_nt rfl <| st rfl <| pick0 rfl b107 (cd := cB) (v := (!x108)) rfl rfl <| st rfl <| mvd rfl rfl <| ite_k h (fun b110 h => gf rfl b110 <| gf rfl b110 <| gf rfl b110 <| st rfl <| pick1 rfl b110 (cd := cB) (v := true) rfl rfl <| seqN [(0, .d ((cLs (cXVariable cS cI) rfl).enc v0)), (1, .d ((cLs (cXEdit (cLs cI rfl)) rfl).enc v1)), (6, .d ((cLs (cXEdit (cLs cI rfl)) rfl).enc x23.1)), (7, .d (cB.enc x23.2)), (10, .d ((cLo (cXEdit (cLo cI))).enc x35.1)), (82, .d (cB.enc true))] (by kernel_rfl) <|
    xn <| cnd1 rfl rfl <| wpC_seq <| reg_s <| x_asg (sc cB false rfl) <| seqN [(4, .d (cB.enc false))] (by kernel_rfl) <|
    xn <| wpC_ret <| rt <| rt <| re <| fin h (r1 (ss rfl rfl) <| r0) rfl)
    (fun b110 h => gt' rfl b110 <| st rfl <| mvd rfl rfl <| gt' rfl b110 <| st rfl <| mvd rfl rfl <| gt' rfl b110 <| st rfl <| eqb1 rfl rfl <| st rfl <| pick0 rfl b110 (cd := cB) (v := (x35.2 != x23.2)) rfl rfl <| seqN [(0, .d ((cLs (cXVariable cS cI) rfl).enc v0)), (1, .d ((cLs (cXEdit (cLs cI rfl)) rfl).enc v1)), (6, .d ((cLs (cXEdit (cLs cI rfl)) rfl).enc x23.1)), (7, .d (cB.enc x23.2)), (10, .d ((cLo (cXEdit (cLo cI))).enc x35.1)), (82, .d (cB.enc (x35.2 != x23.2)))] (by kernel_rfl) <|
    xn <| cnd0 rfl b50 <| wpC_skip <| kpN [(0, .d ((cLs (cXVariable cS cI) rfl).enc v0)), (1, .d ((cLs (cXEdit (cLs cI rfl)) rfl).enc v1)), (6, .d ((cLs (cXEdit (cLs cI rfl)) rfl).enc x23.1)), (7, .d (cB.enc x23.2)), (10, .d ((cLo (cXEdit (cLo cI))).enc x35.1))] (by kernel_rfl) <| xn <| wpC_seq <| reg_s <| x_asg (sc cI (1 : Int) rfl) <| seqN [(0, .d ((cLs (cXVariable cS cI) rfl).enc v0)), (1, .d ((cLs (cXEdit (cLs cI rfl)) rfl).enc v1)), (6, .d ((cLs (cXEdit (cLs cI rfl)) rfl).enc x23.1)), (7, .d (cB.enc x23.2)), (10, .d ((cLo (cXEdit (cLo cI))).enc x35.1)), (13, .d (cI.enc (1 : Int)))] (by kernel_rfl) <|
    xn <| wpC_seq <| reg_s <| st rfl <| mvo rfl rfl <| st rfl <| mvd rfl rfl <| bnd h fun x113 e114 h => x_clr (c := (cLo (cXEdit (cLo cI)))) (c' := (cLo (cXEdit (cLo cI)))) ((cLo (cXEdit (cLo cI))).enc x113.1) (sLo (sXEdit (sLo sK))) rfl (a1 (c := cI) tK rfl a0) rfl Ln.nil (con_laws_markEditS e114) rfl rfl (so1 sK so0) <| x_asg (ss rfl rfl) <| seqN [(0, .d ((cLs (cXVariable cS cI) rfl).enc v0)), (1, .d ((cLs (cXEdit (cLs cI rfl)) rfl).enc v1)), (6, .d ((cLs (cXEdit (cLs cI rfl)) rfl).enc x23.1)), (7, .d (cB.enc x23.2)), (10, .d ((cLo (cXEdit (cLo cI))).enc x113.1)), (13, .d (cI.enc x113.2))] (by kernel_rfl) <|
    xn <| wpC_seq <| reg_s <| x_asg (sc cI (1 : Int) rfl) <| seqN [(0, .d ((cLs (cXVariable cS cI) rfl).enc v0)), (1, .d ((cLs (cXEdit (cLs cI rfl)) rfl).enc v1)), (6, .d ((cLs (cXEdit (cLs cI rfl)) rfl).enc x23.1)), (7, .d (cB.enc x23.2)), (10, .d ((cLo (cXEdit (cLo cI))).enc x113.1)), (13, .d (cI.enc x113.2)), (14, .d (cI.enc (1 : Int)))] (by kernel_rfl) <|
    xn <| wpC_seq <| reg_s <| st rfl <| mvo rfl rfl <| st rfl <| mvd rfl rfl <| bnd h fun x117 e118 h => st rfl <| o_call (a1 (c := (cLo (cXEdit (cLo cI)))) (tLo (tXEdit (tLo tK))) rfl (a1 (c := cI) tK rfl a0)) (con_laws_heldEditS e118) (.inl (so1 sK so0)) <| x_asg (ss rfl rfl) <| seqN [(0, .d ((cLs (cXVariable cS cI) rfl).enc v0)), (1, .d ((cLs (cXEdit (cLs cI rfl)) rfl).enc v1)), (6, .d ((cLs (cXEdit (cLs cI rfl)) rfl).enc x23.1)), (7, .d (cB.enc x23.2)), (10, .d ((cLo (cXEdit (cLo cI))).enc x113.1)), (13, .d (cI.enc x113.2)), (14, .d (cI.enc x117))] (by kernel_rfl) <|
    xn <| wpC_seq <| wpC_kp <| wpC_seq <| reg_s <| st rfl <| mvd rfl rfl <| st rfl <| b_lss (k := .i64) rfl rfl <| seqN [(0, .d ((cLs (cXVariable cS cI) rfl).enc v0)), (1, .d ((cLs (cXEdit (cLs cI rfl)) rfl).enc v1)), (6, .d ((cLs (cXEdit (cLs cI rfl)) rfl).enc x23.1)), (7, .d (cB.enc x23.2)), (10, .d ((cLo (cXEdit (cLo cI))).enc x113.1)), (13, .d (cI.enc x113.2)), (14, .d (cI.enc x117)), (90, .d (cB.enc (decide (x117 < (0 : Int)))))] (by kernel_rfl) <|
    xn <| cnd rfl h (fun b120 h => wpC_seq <| reg_s <| x_asg (sc cB false rfl) <| seqN [(4, .d (cB.enc false))] (by kernel_rfl) <|
    xn <| wpC_ret <| rt <| rt <| re <| fin h (r1 (ss rfl rfl) <| r0) rfl)
    (fun b120 h => wpC_skip <| kpN [(0, .d ((cLs (cXVariable cS cI) rfl).enc v0)), (1, .d ((cLs (cXEdit (cLs cI rfl)) rfl).enc v1)), (6, .d ((cLs (cXEdit (cLs cI rfl)) rfl).enc x23.1)), (7, .d (cB.enc x23.2)), (10, .d ((cLo (cXEdit (cLo cI))).enc x113.1)), (13, .d (cI.enc x113.2)), (14, .d (cI.enc x117))] (by kernel_rfl) <| xn <| wpC_seq <| wpC_kp <| wpC_seq <| reg_s <| st rfl <| mvd rfl rfl <| st rfl <| mvd rfl rfl <| st rfl <| b_neq (k := .i64) rfl rfl <| seqN [(0, .d ((cLs (cXVariable cS cI) rfl).enc v0)), (1, .d ((cLs (cXEdit (cLs cI rfl)) rfl).enc v1)), (6, .d ((cLs (cXEdit (cLs cI rfl)) rfl).enc x23.1)), (7, .d (cB.enc x23.2)), (10, .d ((cLo (cXEdit (cLo cI))).enc x113.1)), (13, .d (cI.enc x113.2)), (93, .d (cB.enc (decide (x117 ≠ x113.2))))] (by kernel_rfl) <|
    xn <| cnd rfl h (fun b122 h => wpC_seq <| reg_s <| x_asg (sc cB false rfl) <| seqN [(4, .d (cB.enc false))] (by kernel_rfl) <|
    xn <| wpC_ret <| rt <| rt <| re <| fin h (r1 (ss rfl rfl) <| r0) rfl)
    (fun b122 h => wpC_skip <| kpN [(0, .d ((cLs (cXVariable cS cI) rfl).enc v0)), (1, .d ((cLs (cXEdit (cLs cI rfl)) rfl).enc v1)), (6, .d ((cLs (cXEdit (cLs cI rfl)) rfl).enc x23.1)), (7, .d (cB.enc x23.2)), (10, .d ((cLo (cXEdit (cLo cI))).enc x113.1)), (13, .d (cI.enc x113.2))] (by kernel_rfl) <| xn <| wpC_seq <| reg_s <| st rfl <| mvd rfl rfl <| bnd h fun x129 e130 h => st rfl <| o_call (a1 (c := (cLs (cXVariable cS cI) rfl)) (tLs (tXVariable tS tK)) rfl a0) (con_laws_toVariableS e130) (.inl (so1 (sLo (sXVariable sS sK)) so0)) <| st rfl <| mvd rfl rfl <| bnd h fun x131 e132 h => st rfl <| o_call (a1 (c := (cLs (cXEdit (cLs cI rfl)) rfl)) (tLs (tXEdit (tLs tK))) rfl a0) (con_laws_toEditS e132) (.inl (so1 (sLo (sXEdit (sLo sK))) so0)) <| bnd h fun x133 e134 h => st rfl <| o_call (a1 (c := (cLo (cXVariable cS cI))) (tLo (tXVariable tS tK)) rfl (a1 (c := (cLo (cXEdit (cLo cI)))) (tLo (tXEdit (tLo tK))) rfl a0)) (con_impl_WithoutContained e134) (.inl (so1 (sLo (sXEdit (sLo sK))) (so1 sB so0))) <| x_mvt rfl <| x_ext rfl rfl <| x_ext rfl rfl <| x_asg (so rfl rfl) <| x_asg (ss rfl rfl) <| seqN [(6, .d ((cLs (cXEdit (cLs cI rfl)) rfl).enc x23.1)), (7, .d (cB.enc x23.2)), (10, .d ((cLo (cXEdit (cLo cI))).enc x113.1)), (13, .d (cI.enc x113.2)), (15, .d ((cLo (cXEdit (cLo cI))).enc x133.1)), (16, .d (cB.enc x133.2))] (by kernel_rfl) <|
    xn <| wpC_seq <| wpC_kp <| wpC_seq <| reg_s <| st rfl <| mvo rfl rfl <| st rfl <| mvd rfl rfl <| bnd h fun x145 e146 h => st rfl <| o_call (a1 (c := (cLo (cXEdit (cLo cI)))) (tLo (tXEdit (tLo tK))) rfl (a1 (c := (cLs (cXEdit (cLs cI rfl)) rfl)) (tLs (tXEdit (tLs tK))) rfl a0)) (con_laws_eqEditS e146) (.inl (so1 sB so0)) <| st rfl <| o_nt rfl <| st rfl <| mvd rfl rfl <| ite_k h (fun b147 h => gf rfl b147 <| gf rfl b147 <| gf rfl b147 <| st rfl <| pick1 rfl b147 (cd := cB) (v := true) rfl rfl <| seqN [(10, .d ((cLo (cXEdit (cLo cI))).enc x113.1)), (13, .d (cI.enc x113.2)), (110, .d (cB.enc true))] (by kernel_rfl) <|
    xn <| cnd1 rfl rfl <| wpC_seq <| reg_s <| x_asg (sc cB false rfl) <| seqN [(4, .d (cB.enc false))] (by kernel_rfl) <|
    xn <| wpC_ret <| rt <| rt <| re <| fin h (r1 (ss rfl rfl) <| r0) rfl)
    (fun b147 h => gt' rfl b147 <| st rfl <| mvd rfl rfl <| gt' rfl b147 <| st rfl <| mvd rfl rfl <| gt' rfl b147 <| st rfl <| eqb1 rfl rfl <| st rfl <| pick0 rfl b147 (cd := cB) (v := (x133.2 != x23.2)) rfl rfl <| seqN [(10, .d ((cLo (cXEdit (cLo cI))).enc x113.1)), (13, .d (cI.enc x113.2)), (110, .d (cB.enc (x133.2 != x23.2)))] (by kernel_rfl) <|
    xn <| cnd rfl h (fun b148 h => wpC_seq <| reg_s <| x_asg (sc cB false rfl) <| seqN [(4, .d (cB.enc false))] (by kernel_rfl) <|
    xn <| wpC_ret <| rt <| rt <| re <| fin h (r1 (ss rfl rfl) <| r0) rfl)
    (fun b148 h => wpC_skip <| kpN [(10, .d ((cLo (cXEdit (cLo cI))).enc x113.1)), (13, .d (cI.enc x113.2))] (by kernel_rfl) <| xn <| wpC_seq <| reg_s <| x_asg (sc cI (1 : Int) rfl) <| seqN [(10, .d ((cLo (cXEdit (cLo cI))).enc x113.1)), (13, .d (cI.enc x113.2)), (14, .d (cI.enc (1 : Int)))] (by kernel_rfl) <|
    xn <| wpC_seq <| reg_s <| st rfl <| mvo rfl rfl <| st rfl <| mvd rfl rfl <| bnd h fun x151 e152 h => st rfl <| o_call (a1 (c := (cLo (cXEdit (cLo cI)))) (tLo (tXEdit (tLo tK))) rfl (a1 (c := cI) tK rfl a0)) (con_laws_heldEditS e152) (.inl (so1 sK so0)) <| x_asg (ss rfl rfl) <| seqN [(13, .d (cI.enc x113.2)), (14, .d (cI.enc x151))] (by kernel_rfl) <|
    xn <| wpC_seq <| wpC_kp <| wpC_seq <| reg_s <| st rfl <| mvd rfl rfl <| st rfl <| b_lss (k := .i64) rfl rfl <| seqN [(13, .d (cI.enc x113.2)), (14, .d (cI.enc x151)), (115, .d (cB.enc (decide (x151 < (0 : Int)))))] (by kernel_rfl) <|
    xn <| cnd rfl h (fun b154 h => wpC_seq <| reg_s <| x_asg (sc cB false rfl) <| seqN [(4, .d (cB.enc false))] (by kernel_rfl) <|
    xn <| wpC_ret <| rt <| rt <| re <| fin h (r1 (ss rfl rfl) <| r0) rfl)
    (fun b154 h => wpC_skip <| kpN [(13, .d (cI.enc x113.2)), (14, .d (cI.enc x151))] (by kernel_rfl) <| xn <| wpC_seq <| wpC_kp <| wpC_seq <| reg_s <| st rfl <| mvd rfl rfl <| st rfl <| mvd rfl rfl <| st rfl <| b_neq (k := .i64) rfl rfl <| seqN [(118, .d (cB.enc (decide (x151 ≠ x113.2))))] (by kernel_rfl) <|
    xn <| cnd rfl h (fun b156 h => wpC_seq <| reg_s <| x_asg (sc cB false rfl) <| seqN [(4, .d (cB.enc false))] (by kernel_rfl) <|
    xn <| wpC_ret <| rt <| rt <| re <| fin h (r1 (ss rfl rfl) <| r0) rfl)
    (fun b156 h => wpC_skip <| kpN [] (by kernel_rfl) <| xn <| wpC_seq <| reg_s <| x_asg (sc cB true rfl) <| seqN [(4, .d (cB.enc true))] (by kernel_rfl) <|
    xn <| wpC_ret <| re <| fin h (r1 (ss rfl rfl) <| r0) rfl))))))))))))))
end AS.W
