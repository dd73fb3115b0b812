/- The program computes the plain functions. No condition. -/
import Derived.Test.YtppdeamjoemhgaaQMergePlansS
import Derived.Test.YtppdeamjoemhgaaProg
import Derived.Test.YtppdeamjoemhgaaQMergePlansX
import Derived.Test.YtppdeamjoemhgaaQMergePlansL1
set_option maxRecDepth 100000
set_option linter.unusedVariables false
set_option linter.unusedSimpArgs false
namespace AS.W
open Go Go.Proofs
def rs_impl_isPlan (r : Bool) : List D := [cB.enc r]
def m28 : MC := .seq (.reg [⟨some 3, .box (.t 0), none⟩,
    ⟨some 6, .asg (.c (.bool false)), none⟩] [1, 2, 3])
  (.seq (.kp [1, 2, 3] (.seq (.reg [⟨some 9, .ld 3 1 true, none⟩,
    ⟨some 10, .call 45 [(.t 9)], none⟩,
    ⟨some 11, .nt (.t 10), none⟩,
    ⟨some 12, .mv (.t 11), none⟩,
    ⟨some 13, .mv (.t 1), some (12, false)⟩,
    ⟨some 14, .call 46 [(.t 13)], some (12, false)⟩,
    ⟨some 15, .nt (.t 14), some (12, false)⟩,
    ⟨some 16, .pick (.t 12) (.c (.bool true)) (.t 15), none⟩,
    ⟨some 17, .mv (.t 16), none⟩,
    ⟨some 18, .mv (.t 2), some (17, false)⟩,
    ⟨some 19, .len false (.t 18), some (17, false)⟩,
    ⟨some 20, .bin .gtr (.t 19) (.c (.int .i64 20)), some (17, false)⟩,
    ⟨some 21, .pick (.t 17) (.c (.bool true)) (.t 20), none⟩] [1, 2, 3, 21])
  (.cond (.t 21) (.seq (.reg [⟨some 6, .asg (.c (.bool false)), none⟩] [6])
  (.ret)) (.skip))))
  (.seq (.kp [] (.seq (.reg [⟨some 22, .mv (.t 2), none⟩,
    ⟨some 23, .len false (.t 22), none⟩,
    ⟨some 24, .mv (.c (.int .i64 0)), none⟩] [1, 2, 3, 22, 23, 24])
  (.blk 0 (.loop (.seq (.reg [⟨some 25, .bin .lss (.t 24) (.t 23), none⟩] [1, 2, 3, 22, 23, 24, 25])
  (.seq (.kp [1, 2, 3, 22, 23, 24] (.cond (.t 25) (.skip) (.exit 0)))
  (.seq (.kp [1, 2, 3, 22, 23, 24] (.blk 1 (.seq (.reg [⟨some 26, .ia 22 (.t 24) 4, none⟩,
    ⟨some 27, .ld 26 4 true, none⟩,
    ⟨some 8, .alloc (.agg [.int .i64 0, .slice true [], .slice true [], .int .i64 0]), none⟩,
    ⟨none, .st 8 (.t 27) 4, none⟩] [1, 2, 3, 8, 22, 23, 24])
  (.seq (.reg [⟨some 28, .ld 3 1 true, none⟩,
    ⟨some 29, .mv (.t 1), none⟩,
    ⟨some 30, .ld 8 4 true, none⟩,
    ⟨some 31, .call 47 [(.t 28), (.t 29), (.t 30)], none⟩,
    ⟨some 32, .nt (.t 31), none⟩] [1, 2, 3, 22, 23, 24, 32])
  (.cond (.t 32) (.seq (.reg [⟨some 6, .asg (.c (.bool false)), none⟩] [6])
  (.ret)) (.skip))))))
  (.reg [⟨some 33, .bin .add (.t 24) (.c (.int .i64 1)), none⟩,
    ⟨some 24, .mv (.t 33), none⟩] [1, 2, 3, 22, 23, 24]))))))))
  (.seq (.reg [⟨some 6, .asg (.c (.bool true)), none⟩] [6])
  (.ret))))
theorem con_impl_isPlan {v0 : XGeo} {v1 : (List XVariable)} {v2 : (List XTable)} {r : Bool} (h : sh_impl_isPlan v0 v1 v2 = some r) : Con Try.prog 28 [(cXGeo (cLs cI rfl)).enc v0, (cLs (cXVariable cS cI) rfl).enc v1, (cLs (cXTable cI (cLs cI rfl) (cLs cI rfl) cI) rfl).enc v2] [] (rs_impl_isPlan r) := by
  delta sh_impl_isPlan at h
  refine top (out := none) (f := Try.f28) (m := m28) (rs := [.t 6]) (by kernel_rfl) rfl (by kernel_rfl) (by kernel_rfl) (by kernel_rfl) (by kernel_rfl) (by kernel_rfl) ?_
  exact
   ini [(0, .d ((cXGeo (cLs cI rfl)).enc v0)), (1, .d ((cLs (cXVariable cS cI) rfl).enc v1)), (2, .d ((cLs (cXTable cI (cLs cI rfl) (cLs cI rfl) cI) rfl).enc v2))] rfl <| wpC_seq <| reg_s <| x_box (ss rfl rfl) <| x_asg (sc cB false rfl) <| seqN [(1, .d ((cLs (cXVariable cS cI) rfl).enc v1)), (2, .d ((cLs (cXTable cI (cLs cI rfl) (cLs cI rfl) cI) rfl).enc v2)), (3, .box ((cXGeo (cLs cI rfl)).enc v0))] (by kernel_rfl) <|
    xn <| wpC_seq <| wpC_kp <| wpC_seq <| reg_s <| st rfl <| ldb rfl rfl rfl rfl <| bnd h fun x23 e24 h => st rfl <| o_call (a1 (c := (cXGeo (cLs cI rfl))) (tXGeo (tLs tK)) rfl a0) (con_impl_IsGeo e24) (.inl (so1 sB so0)) <| st rfl <| o_nt rfl <| st rfl <| mvd rfl rfl <| ite_k h (fun b25 h => gf rfl b25 <| gf rfl b25 <| gf rfl b25 <| st rfl <| pick1 rfl b25 (cd := cB) (v := true) rfl rfl <| st rfl <| mvd rfl rfl <| gf rfl rfl <| gf rfl rfl <| gf rfl rfl <| st rfl <| pick1 rfl rfl (cd := cB) (v := true) rfl rfl <| seqN [(1, .d ((cLs (cXVariable cS cI) rfl).enc v1)), (2, .d ((cLs (cXTable cI (cLs cI rfl) (cLs cI rfl) cI) rfl).enc v2)), (3, .box ((cXGeo (cLs cI rfl)).enc v0)), (21, .d (cB.enc true))] (by kernel_rfl) <|
    xn <| cnd1 rfl rfl <| wpC_seq <| reg_s <| x_asg (sc cB false rfl) <| seqN [(6, .d (cB.enc false))] (by kernel_rfl) <|
    xn <| wpC_ret <| rt <| rt <| re <| fin h (r1 (ss rfl rfl) <| r0) rfl)
    (fun b25 h => gt' rfl b25 <| st rfl <| mvd rfl rfl <| gt' rfl b25 <| bnd h fun x26 e27 h => st rfl <| o_call (a1 (c := (cLs (cXVariable cS cI) rfl)) (tLs (tXVariable tS tK)) rfl a0) (con_impl_IsSchema e27) (.inl (so1 sB so0)) <| gt' rfl b25 <| st rfl <| o_nt rfl <| st rfl <| pick0 rfl b25 (cd := cB) (v := (!x26)) rfl rfl <| st rfl <| mvd rfl rfl <| ite_k h (fun b28 h => gf rfl b28 <| gf rfl b28 <| gf rfl b28 <| st rfl <| pick1 rfl b28 (cd := cB) (v := true) rfl rfl <| seqN [(1, .d ((cLs (cXVariable cS cI) rfl).enc v1)), (2, .d ((cLs (cXTable cI (cLs cI rfl) (cLs cI rfl) cI) rfl).enc v2)), (3, .box ((cXGeo (cLs cI rfl)).enc v0)), (21, .d (cB.enc true))] (by kernel_rfl) <|
    xn <| cnd1 rfl rfl <| wpC_seq <| reg_s <| x_asg (sc cB false rfl) <| seqN [(6, .d (cB.enc false))] (by kernel_rfl) <|
    xn <| wpC_ret <| rt <| rt <| re <| fin h (r1 (ss rfl rfl) <| r0) rfl)
    (fun b28 h => gt' rfl b28 <| st rfl <| mvd rfl rfl <| gt' rfl b28 <| stw rfl <| lens rfl fun l29 => gt' rfl b28 <| st rfl <| b_gtr (k := .i64) rfl rfl <| st rfl <| pick0 rfl b28 (cd := cB) (v := (decide ((20 : Int) < (v2.length : Int)))) rfl rfl <| seqN [(1, .d ((cLs (cXVariable cS cI) rfl).enc v1)), (2, .d ((cLs (cXTable cI (cLs cI rfl) (cLs cI rfl) cI) rfl).enc v2)), (3, .box ((cXGeo (cLs cI rfl)).enc v0)), (21, .d (cB.enc (decide ((20 : Int) < (v2.length : Int)))))] (by kernel_rfl) <|
    xn <| cnd rfl h (fun b30 h => wpC_seq <| reg_s <| x_asg (sc cB false rfl) <| seqN [(6, .d (cB.enc false))] (by kernel_rfl) <|
    xn <| wpC_ret <| rt <| rt <| re <| fin h (r1 (ss rfl rfl) <| r0) rfl)
    (fun b30 h => wpC_skip <| kpN [(1, .d ((cLs (cXVariable cS cI) rfl).enc v1)), (2, .d ((cLs (cXTable cI (cLs cI rfl) (cLs cI rfl) cI) rfl).enc v2)), (3, .box ((cXGeo (cLs cI rfl)).enc v0))] (by kernel_rfl) <| xn <| wpC_seq <| wpC_kp <| wpC_seq <| reg_s <| st rfl <| mvd rfl rfl <| stw rfl <| lens rfl fun l62 => st rfl <| mvc cI (0 : Int) rfl <| seqN [(1, .d ((cLs (cXVariable cS cI) rfl).enc v1)), (2, .d ((cLs (cXTable cI (cLs cI rfl) (cLs cI rfl) cI) rfl).enc v2)), (3, .box ((cXGeo (cLs cI rfl)).enc v0)), (22, .d ((cLs (cXTable cI (cLs cI rfl) (cLs cI rfl) cI) rfl).enc v2)), (23, .d (cI.enc (v2.length : Int))), (24, .d (cI.enc (0 : Int)))] (by kernel_rfl) <|
    xn <| wpC_blk <| lpR (fun (k64 : Nat) (s63 : Unit) => [(1, .d ((cLs (cXVariable cS cI) rfl).enc v1)), (2, .d ((cLs (cXTable cI (cLs cI rfl) (cLs cI rfl) cI) rfl).enc v2)), (3, .box ((cXGeo (cLs cI rfl)).enc v0)), (22, .d ((cLs (cXTable cI (cLs cI rfl) (cLs cI rfl) cI) rfl).enc v2)), (23, .d (cI.enc (v2.length : Int))), (24, .d (cI.enc (k64 : Int)))]) () rfl h
    (fun G80 s63 h => wpC_seq <| reg_s <| st rfl <| b_lss (k := .i64) rfl rfl <| seqN [(1, .d ((cLs (cXVariable cS cI) rfl).enc v1)), (2, .d ((cLs (cXTable cI (cLs cI rfl) (cLs cI rfl) cI) rfl).enc v2)), (3, .box ((cXGeo (cLs cI rfl)).enc v0)), (22, .d ((cLs (cXTable cI (cLs cI rfl) (cLs cI rfl) cI) rfl).enc v2)), (23, .d (cI.enc (v2.length : Int))), (24, .d (cI.enc (v2.length : Int))), (25, .d (cB.enc (decide ((v2.length : Int) < (v2.length : Int)))))] (by kernel_rfl) <|
    xn <| wpC_seq <| wpC_kp <| cnd0 rfl (dlf _) <| wpC_exit <| xt <| xt <| xt <| xb <| kpN [] (by kernel_rfl) <| xn <| wpC_seq <| reg_s <| x_asg (sc cB true rfl) <| seqN [(6, .d (cB.enc true))] (by kernel_rfl) <|
    xn <| wpC_ret <| re <| fin h (r1 (ss rfl rfl) <| r0) rfl)
    (fun G80 nx78 k64 s63 x65 hk66 hx67 hn79 h => wpC_seq <| reg_s <| st rfl <| b_lss (k := .i64) rfl rfl <| seqN [(1, .d ((cLs (cXVariable cS cI) rfl).enc v1)), (2, .d ((cLs (cXTable cI (cLs cI rfl) (cLs cI rfl) cI) rfl).enc v2)), (3, .box ((cXGeo (cLs cI rfl)).enc v0)), (22, .d ((cLs (cXTable cI (cLs cI rfl) (cLs cI rfl) cI) rfl).enc v2)), (23, .d (cI.enc (v2.length : Int))), (24, .d (cI.enc (k64 : Int))), (25, .d (cB.enc (decide ((k64 : Int) < (v2.length : Int)))))] (by kernel_rfl) <|
    xn <| wpC_seq <| wpC_kp <| cnd1 rfl (dlt hk66) <| wpC_skip <| kpN [(1, .d ((cLs (cXVariable cS cI) rfl).enc v1)), (2, .d ((cLs (cXTable cI (cLs cI rfl) (cLs cI rfl) cI) rfl).enc v2)), (3, .box ((cXGeo (cLs cI rfl)).enc v0)), (22, .d ((cLs (cXTable cI (cLs cI rfl) (cLs cI rfl) cI) rfl).enc v2)), (23, .d (cI.enc (v2.length : Int))), (24, .d (cI.enc (k64 : Int)))] (by kernel_rfl) <| xn <| wpC_seq <| wpC_kp <| wpC_blk <| wpC_seq <| reg_s <| st rfl <| ias rfl rfl (Int.natCast_nonneg _) hx67 rfl <| st rfl <| ldi rfl rfl rfl rfl <| x_all (cXTable cI (cLo cI) (cLo cI) cI) (⟨(0 : Int), ([] : List Int), ([] : List Int), (0 : Int)⟩ : XTable) rfl <| x_stb (ss rfl rfl) rfl (Cd.h_sz _ _) rfl <| seqN [(1, .d ((cLs (cXVariable cS cI) rfl).enc v1)), (2, .d ((cLs (cXTable cI (cLs cI rfl) (cLs cI rfl) cI) rfl).enc v2)), (3, .box ((cXGeo (cLs cI rfl)).enc v0)), (8, .box ((cXTable cI (cLs cI rfl) (cLs cI rfl) cI).enc x65)), (22, .d ((cLs (cXTable cI (cLs cI rfl) (cLs cI rfl) cI) rfl).enc v2)), (23, .d (cI.enc (v2.length : Int))), (24, .d (cI.enc (k64 : Int)))] (by kernel_rfl) <|
    xn <| wpC_seq <| reg_s <| st rfl <| ldb rfl rfl rfl rfl <| st rfl <| mvd rfl rfl <| st rfl <| ldb rfl rfl rfl rfl <| bnd h fun x88 e89 h => st rfl <| o_call (a1 (c := (cXGeo (cLs cI rfl))) (tXGeo (tLs tK)) rfl (a1 (c := (cLs (cXVariable cS cI) rfl)) (tLs (tXVariable tS tK)) rfl (a1 (c := (cXTable cI (cLs cI rfl) (cLs cI rfl) cI)) (tXTable tK (tLs tK) (tLs tK) tK) rfl a0))) (con_impl_isTable e89) (.inl (so1 sB so0)) <| st rfl <| o_nt rfl <| seqN [(1, .d ((cLs (cXVariable cS cI) rfl).enc v1)), (2, .d ((cLs (cXTable cI (cLs cI rfl) (cLs cI rfl) cI) rfl).enc v2)), (3, .box ((cXGeo (cLs cI rfl)).enc v0)), (22, .d ((cLs (cXTable cI (cLs cI rfl) (cLs cI rfl) cI) rfl).enc v2)), (23, .d (cI.enc (v2.length : Int))), (24, .d (cI.enc (k64 : Int))), (32, .d (cB.enc (!x88)))] (by kernel_rfl) <|
    xn <| cnd rfl h (fun b90 h => wpC_seq <| reg_s <| x_asg (sc cB false rfl) <| seqN [(6, .d (cB.enc false))] (by kernel_rfl) <|
    xn <| wpC_ret <| rb <| rt <| rt <| rt <| rb <| rt <| rt <| re <| fin h (r1 (ss rfl rfl) <| r0) rfl)
    (fun b90 h => wpC_skip <| xbb <| kpN [(1, .d ((cLs (cXVariable cS cI) rfl).enc v1)), (2, .d ((cLs (cXTable cI (cLs cI rfl) (cLs cI rfl) cI) rfl).enc v2)), (3, .box ((cXGeo (cLs cI rfl)).enc v0)), (22, .d ((cLs (cXTable cI (cLs cI rfl) (cLs cI rfl) cI) rfl).enc v2)), (23, .d (cI.enc (v2.length : Int))), (24, .d (cI.enc (k64 : Int)))] (by kernel_rfl) <| xn <| reg_s <| st rfl <| b_inc rfl rfl l62 hk66 <| st rfl <| mvd rfl rfl <| seqN [(1, .d ((cLs (cXVariable cS cI) rfl).enc v1)), (2, .d ((cLs (cXTable cI (cLs cI rfl) (cLs cI rfl) cI) rfl).enc v2)), (3, .box ((cXGeo (cLs cI rfl)).enc v0)), (22, .d ((cLs (cXTable cI (cLs cI rfl) (cLs cI rfl) cI) rfl).enc v2)), (23, .d (cI.enc (v2.length : Int))), (24, .d (cI.enc ((k64 + 1 : Nat) : Int)))] (by kernel_rfl) <|
    xn <| hn79 () h)))))

def rs_slices_Grow_impl_Table_impl_Table (r : Unit) : List D := [(cR0 (cXTable cI (cLs cI rfl) (cLs cI rfl) cI)).enc r]
theorem con_slices_Grow_impl_Table_impl_Table {v0 : (List XTable)} {v1 : Int} {r : Unit} (h : sh_slices_Grow_impl_Table_impl_Table v0 v1 = some r) : Con Try.prog 48 [(cLo (cXTable cI (cLs cI rfl) (cLs cI rfl) cI)).enc v0, cI.enc v1] [] (rs_slices_Grow_impl_Table_impl_Table r) := by
  unfold sh_slices_Grow_impl_Table_impl_Table at h
  split at h
  · rename_i hb
    obtain ⟨rfl, hv0, hv1⟩ := hb
    cases h
    refine ⟨⟨Try.f48, _, Try.func48, rfl, by kernel_rfl⟩, ?_⟩
    intro w Z vs F hrep h1 h2 h3
    obtain ⟨x, vs2, f1, f2, rfl, e1, r1, y, vs3, f3, f4, rfl, e2, r2, rfl, e4⟩ := hrep
    obtain ⟨rfl, _⟩ := RepV.int r2
    obtain ⟨k1, k2⟩ := r1
    have k2 : RepX w Z (.slice true []) x.cells.toList f1 := k2
    simp only [RepX] at k2
    rcases k2 with ⟨_, hf1, a, cap, hc, hcm, hac, hcap⟩ | ⟨hne, _⟩
    · obtain rfl := cells_single k1 hc
      obtain rfl : cap = 0 := hcap (by trivial)
      have := con_grow (n := v1.toNat) (by omega) (F := F) (vs := [.slice a 0 0, .int .i64 v1]) (a := a) (fun b hb => (h3 b hb).1)
      rw [Int.toNat_of_nonneg hv0] at this
      exact this
    · exact absurd rfl hne
  · cases h

def rs_slices_Concat_impl_Table_impl_Table (r : (List XTable)) : List D := [(cLs (cXTable cI (cLs cI rfl) (cLs cI rfl) cI) rfl).enc r]
def m29 : MC := .seq (.reg [⟨some 2, .asg (.c (.slice false [])), none⟩] [0])
  (.seq (.reg [⟨some 3, .asg (.c (.int .i64 0)), none⟩] [0, 3])
  (.seq (.kp [0, 3] (.seq (.reg [⟨some 9, .mv (.t 0), none⟩,
    ⟨some 10, .len false (.t 9), none⟩,
    ⟨some 11, .mv (.c (.int .i64 0)), none⟩] [0, 3, 9, 10, 11])
  (.blk 0 (.loop (.seq (.reg [⟨some 12, .bin .lss (.t 11) (.t 10), none⟩] [0, 3, 9, 10, 11, 12])
  (.seq (.kp [0, 3, 9, 10, 11] (.cond (.t 12) (.skip) (.exit 0)))
  (.seq (.kp [0, 3, 9, 10, 11] (.blk 1 (.seq (.reg [⟨some 13, .ia 9 (.t 11) 1, none⟩,
    ⟨some 14, .ld 13 1 false, none⟩,
    ⟨some 5, .asg (.t 14), none⟩] [0, 3, 5, 9, 10, 11])
  (.seq (.reg [⟨some 15, .mv (.t 3), none⟩,
    ⟨some 16, .mv (.t 5), none⟩,
    ⟨some 17, .len false (.t 16), none⟩,
    ⟨some 18, .bin .add (.t 15) (.t 17), none⟩,
    ⟨some 3, .asg (.t 18), none⟩] [0, 3, 9, 10, 11])
  (.seq (.reg [⟨some 19, .mv (.t 3), none⟩,
    ⟨some 20, .bin .lss (.t 19) (.c (.int .i64 0)), none⟩] [0, 3, 9, 10, 11, 20])
  (.cond (.t 20) (.bad) (.skip)))))))
  (.reg [⟨some 22, .bin .add (.t 11) (.c (.int .i64 1)), none⟩,
    ⟨some 11, .mv (.t 22), none⟩] [0, 3, 9, 10, 11]))))))))
  (.seq (.reg [⟨some 23, .mv (.t 3), none⟩,
    ⟨some 24, .callT 48 [(true, (.c (.slice true []))), (false, (.t 23))], none⟩,
    ⟨some 6, .asg (.t 24), none⟩] [0, 6])
  (.seq (.kp [6] (.seq (.reg [⟨some 25, .mv (.t 0), none⟩,
    ⟨some 26, .len false (.t 25), none⟩,
    ⟨some 27, .mv (.c (.int .i64 0)), none⟩] [0, 6, 25, 26, 27])
  (.blk 2 (.loop (.seq (.reg [⟨some 28, .bin .lss (.t 27) (.t 26), none⟩] [0, 6, 25, 26, 27, 28])
  (.seq (.kp [0, 6, 25, 26, 27] (.cond (.t 28) (.skip) (.exit 2)))
  (.seq (.kp [0, 6, 25, 26, 27] (.blk 3 (.seq (.reg [⟨some 29, .ia 25 (.t 27) 1, none⟩,
    ⟨some 30, .ld 29 1 false, none⟩,
    ⟨some 8, .asg (.t 30), none⟩] [0, 6, 8, 25, 26, 27])
  (.reg [⟨some 31, .mv (.t 6), none⟩,
    ⟨some 32, .mv (.t 8), none⟩,
    ⟨some 33, .appr (.t 31) (.t 32) 4, none⟩,
    ⟨some 6, .asg (.t 33), none⟩] [0, 6, 25, 26, 27]))))
  (.reg [⟨some 34, .bin .add (.t 27) (.c (.int .i64 1)), none⟩,
    ⟨some 27, .mv (.t 34), none⟩] [0, 6, 25, 26, 27]))))))))
  (.seq (.reg [⟨some 35, .mv (.t 6), none⟩,
    ⟨some 2, .asg (.t 35), none⟩] [2])
  (.fz 2 (.ret)))))))
theorem con_slices_Concat_impl_Table_impl_Table {v0 : (List (List XTable))} {r : (List XTable)} (h : sh_slices_Concat_impl_Table_impl_Table v0 = some r) : Con Try.prog 29 [(cLs (cLs (cXTable cI (cLs cI rfl) (cLs cI rfl) cI) rfl) rfl).enc v0] [] (rs_slices_Concat_impl_Table_impl_Table r) := by
  delta sh_slices_Concat_impl_Table_impl_Table at h
  refine top (out := none) (f := Try.f29) (m := m29) (rs := [.t 2]) (by kernel_rfl) rfl (by kernel_rfl) (by kernel_rfl) (by kernel_rfl) (by kernel_rfl) (by kernel_rfl) ?_
  exact
   ini [(0, .d ((cLs (cLs (cXTable cI (cLs cI rfl) (cLs cI rfl) cI) rfl) rfl).enc v0))] rfl <| wpC_seq <| reg_s <| x_asg (sc (cLs (cXTable cI (cLs cI rfl) (cLs cI rfl) cI) rfl) ([] : List XTable) rfl) <| seqN [(0, .d ((cLs (cLs (cXTable cI (cLs cI rfl) (cLs cI rfl) cI) rfl) rfl).enc v0))] (by kernel_rfl) <|
    xn <| wpC_seq <| reg_s <| x_asg (sc cI (0 : Int) rfl) <| seqN [(0, .d ((cLs (cLs (cXTable cI (cLs cI rfl) (cLs cI rfl) cI) rfl) rfl).enc v0)), (3, .d (cI.enc (0 : Int)))] (by kernel_rfl) <|
    xn <| wpC_seq <| wpC_kp <| wpC_seq <| reg_s <| st rfl <| mvd rfl rfl <| stw rfl <| lens rfl fun l42 => st rfl <| mvc cI (0 : Int) rfl <| seqN [(0, .d ((cLs (cLs (cXTable cI (cLs cI rfl) (cLs cI rfl) cI) rfl) rfl).enc v0)), (3, .d (cI.enc (0 : Int))), (9, .d ((cLs (cLs (cXTable cI (cLs cI rfl) (cLs cI rfl) cI) rfl) rfl).enc v0)), (10, .d (cI.enc (v0.length : Int))), (11, .d (cI.enc (0 : Int)))] (by kernel_rfl) <|
    xn <| wpC_blk <| lpR (fun (k44 : Nat) (s43 : Int) => [(0, .d ((cLs (cLs (cXTable cI (cLs cI rfl) (cLs cI rfl) cI) rfl) rfl).enc v0)), (3, .d (cI.enc s43)), (9, .d ((cLs (cLs (cXTable cI (cLs cI rfl) (cLs cI rfl) cI) rfl) rfl).enc v0)), (10, .d (cI.enc (v0.length : Int))), (11, .d (cI.enc (k44 : Int)))]) (0 : Int) rfl h
    (fun G70 s43 h => wpC_seq <| reg_s <| st rfl <| b_lss (k := .i64) rfl rfl <| seqN [(0, .d ((cLs (cLs (cXTable cI (cLs cI rfl) (cLs cI rfl) cI) rfl) rfl).enc v0)), (3, .d (cI.enc s43)), (9, .d ((cLs (cLs (cXTable cI (cLs cI rfl) (cLs cI rfl) cI) rfl) rfl).enc v0)), (10, .d (cI.enc (v0.length : Int))), (11, .d (cI.enc (v0.length : Int))), (12, .d (cB.enc (decide ((v0.length : Int) < (v0.length : Int)))))] (by kernel_rfl) <|
    xn <| wpC_seq <| wpC_kp <| cnd0 rfl (dlf _) <| wpC_exit <| xt <| xt <| xt <| xb <| kpN [(0, .d ((cLs (cLs (cXTable cI (cLs cI rfl) (cLs cI rfl) cI) rfl) rfl).enc v0)), (3, .d (cI.enc s43))] (by kernel_rfl) <| xn <| wpC_seq <| reg_s <| st rfl <| mvd rfl rfl <| bnd h fun x73 e74 h => x_clt (k1 (sc (cLo (cXTable cI (cLs cI rfl) (cLs cI rfl) cI)) ([] : List XTable) rfl) k0) (m1 (m2 tK rfl m0)) (con_slices_Grow_impl_Table_impl_Table e74) (so1 sR0 so0) <| x_asg (so (c := (cRm (cXTable cI (cLs cI rfl) (cLs cI rfl) cI))) (a := ([] : List XTable)) rfl rfl) <| seqN [(0, .d ((cLs (cLs (cXTable cI (cLs cI rfl) (cLs cI rfl) cI) rfl) rfl).enc v0)), (6, .d ((cRm (cXTable cI (cLs cI rfl) (cLs cI rfl) cI)).enc ([] : List XTable)))] (by kernel_rfl) <|
    xn <| wpC_seq <| wpC_kp <| wpC_seq <| reg_s <| st rfl <| mvd rfl rfl <| stw rfl <| lens rfl fun l92 => st rfl <| mvc cI (0 : Int) rfl <| seqN [(0, .d ((cLs (cLs (cXTable cI (cLs cI rfl) (cLs cI rfl) cI) rfl) rfl).enc v0)), (6, .d ((cRm (cXTable cI (cLs cI rfl) (cLs cI rfl) cI)).enc ([] : List XTable))), (25, .d ((cLs (cLs (cXTable cI (cLs cI rfl) (cLs cI rfl) cI) rfl) rfl).enc v0)), (26, .d (cI.enc (v0.length : Int))), (27, .d (cI.enc (0 : Int)))] (by kernel_rfl) <|
    xn <| wpC_blk <| lpR (fun (k94 : Nat) (s93 : (List XTable)) => [(0, .d ((cLs (cLs (cXTable cI (cLs cI rfl) (cLs cI rfl) cI) rfl) rfl).enc v0)), (6, .d ((cRm (cXTable cI (cLs cI rfl) (cLs cI rfl) cI)).enc s93)), (25, .d ((cLs (cLs (cXTable cI (cLs cI rfl) (cLs cI rfl) cI) rfl) rfl).enc v0)), (26, .d (cI.enc (v0.length : Int))), (27, .d (cI.enc (k94 : Int)))]) ([] : List XTable) rfl h
    (fun G104 s93 h => wpC_seq <| reg_s <| st rfl <| b_lss (k := .i64) rfl rfl <| seqN [(0, .d ((cLs (cLs (cXTable cI (cLs cI rfl) (cLs cI rfl) cI) rfl) rfl).enc v0)), (6, .d ((cRm (cXTable cI (cLs cI rfl) (cLs cI rfl) cI)).enc s93)), (25, .d ((cLs (cLs (cXTable cI (cLs cI rfl) (cLs cI rfl) cI) rfl) rfl).enc v0)), (26, .d (cI.enc (v0.length : Int))), (27, .d (cI.enc (v0.length : Int))), (28, .d (cB.enc (decide ((v0.length : Int) < (v0.length : Int)))))] (by kernel_rfl) <|
    xn <| wpC_seq <| wpC_kp <| cnd0 rfl (dlf _) <| wpC_exit <| xt <| xt <| xt <| xb <| kpN [(6, .d ((cRm (cXTable cI (cLs cI rfl) (cLs cI rfl) cI)).enc s93))] (by kernel_rfl) <| xn <| wpC_seq <| reg_s <| st rfl <| mvo rfl rfl <| x_asg (sr rfl rfl) <| seqN [(2, .d ((cRm (cXTable cI (cLs cI rfl) (cLs cI rfl) cI)).enc s93))] (by kernel_rfl) <|
    xn <| fz_s (tRm (tXTable tK (tLs tK) (tLs tK) tK)) rfl <| wpC_ret <| re <| fin h (r1 (ss rfl rfl) <| r0) rfl)
    (fun G104 nx102 k94 s93 x95 hk96 hx97 hn103 h => wpC_seq <| reg_s <| st rfl <| b_lss (k := .i64) rfl rfl <| seqN [(0, .d ((cLs (cLs (cXTable cI (cLs cI rfl) (cLs cI rfl) cI) rfl) rfl).enc v0)), (6, .d ((cRm (cXTable cI (cLs cI rfl) (cLs cI rfl) cI)).enc s93)), (25, .d ((cLs (cLs (cXTable cI (cLs cI rfl) (cLs cI rfl) cI) rfl) rfl).enc v0)), (26, .d (cI.enc (v0.length : Int))), (27, .d (cI.enc (k94 : Int))), (28, .d (cB.enc (decide ((k94 : Int) < (v0.length : Int)))))] (by kernel_rfl) <|
    xn <| wpC_seq <| wpC_kp <| cnd1 rfl (dlt hk96) <| wpC_skip <| kpN [(0, .d ((cLs (cLs (cXTable cI (cLs cI rfl) (cLs cI rfl) cI) rfl) rfl).enc v0)), (6, .d ((cRm (cXTable cI (cLs cI rfl) (cLs cI rfl) cI)).enc s93)), (25, .d ((cLs (cLs (cXTable cI (cLs cI rfl) (cLs cI rfl) cI) rfl) rfl).enc v0)), (26, .d (cI.enc (v0.length : Int))), (27, .d (cI.enc (k94 : Int)))] (by kernel_rfl) <| xn <| wpC_seq <| wpC_kp <| wpC_blk <| wpC_seq <| reg_s <| st rfl <| ias rfl rfl (Int.natCast_nonneg _) hx97 rfl <| st rfl <| ldi rfl rfl rfl rfl <| x_asg (ss rfl rfl) <| seqN [(0, .d ((cLs (cLs (cXTable cI (cLs cI rfl) (cLs cI rfl) cI) rfl) rfl).enc v0)), (6, .d ((cRm (cXTable cI (cLs cI rfl) (cLs cI rfl) cI)).enc s93)), (8, .d ((cLs (cXTable cI (cLs cI rfl) (cLs cI rfl) cI) rfl).enc x95)), (25, .d ((cLs (cLs (cXTable cI (cLs cI rfl) (cLs cI rfl) cI) rfl) rfl).enc v0)), (26, .d (cI.enc (v0.length : Int))), (27, .d (cI.enc (k94 : Int)))] (by kernel_rfl) <|
    xn <| reg_s <| st rfl <| mvo rfl rfl <| st rfl <| mvd rfl rfl <| lnO_k h fun l106 h => x_appr (sr rfl rfl) (ts rfl) l106 rfl <| x_asg (so rfl rfl) <| seqN [(0, .d ((cLs (cLs (cXTable cI (cLs cI rfl) (cLs cI rfl) cI) rfl) rfl).enc v0)), (6, .d ((cRm (cXTable cI (cLs cI rfl) (cLs cI rfl) cI)).enc (s93 ++ x95))), (25, .d ((cLs (cLs (cXTable cI (cLs cI rfl) (cLs cI rfl) cI) rfl) rfl).enc v0)), (26, .d (cI.enc (v0.length : Int))), (27, .d (cI.enc (k94 : Int)))] (by kernel_rfl) <|
    xbb <| kpN [(0, .d ((cLs (cLs (cXTable cI (cLs cI rfl) (cLs cI rfl) cI) rfl) rfl).enc v0)), (6, .d ((cRm (cXTable cI (cLs cI rfl) (cLs cI rfl) cI)).enc (s93 ++ x95))), (25, .d ((cLs (cLs (cXTable cI (cLs cI rfl) (cLs cI rfl) cI) rfl) rfl).enc v0)), (26, .d (cI.enc (v0.length : Int))), (27, .d (cI.enc (k94 : Int)))] (by kernel_rfl) <| xn <| reg_s <| st rfl <| b_inc rfl rfl l92 hk96 <| st rfl <| mvd rfl rfl <| seqN [(0, .d ((cLs (cLs (cXTable cI (cLs cI rfl) (cLs cI rfl) cI) rfl) rfl).enc v0)), (6, .d ((cRm (cXTable cI (cLs cI rfl) (cLs cI rfl) cI)).enc (s93 ++ x95))), (25, .d ((cLs (cLs (cXTable cI (cLs cI rfl) (cLs cI rfl) cI) rfl) rfl).enc v0)), (26, .d (cI.enc (v0.length : Int))), (27, .d (cI.enc ((k94 + 1 : Nat) : Int)))] (by kernel_rfl) <|
    xn <| hn103 (s93 ++ x95) h))
    (fun G70 nx68 k44 s43 x45 hk46 hx47 hn69 h => wpC_seq <| reg_s <| st rfl <| b_lss (k := .i64) rfl rfl <| seqN [(0, .d ((cLs (cLs (cXTable cI (cLs cI rfl) (cLs cI rfl) cI) rfl) rfl).enc v0)), (3, .d (cI.enc s43)), (9, .d ((cLs (cLs (cXTable cI (cLs cI rfl) (cLs cI rfl) cI) rfl) rfl).enc v0)), (10, .d (cI.enc (v0.length : Int))), (11, .d (cI.enc (k44 : Int))), (12, .d (cB.enc (decide ((k44 : Int) < (v0.length : Int)))))] (by kernel_rfl) <|
    xn <| wpC_seq <| wpC_kp <| cnd1 rfl (dlt hk46) <| wpC_skip <| kpN [(0, .d ((cLs (cLs (cXTable cI (cLs cI rfl) (cLs cI rfl) cI) rfl) rfl).enc v0)), (3, .d (cI.enc s43)), (9, .d ((cLs (cLs (cXTable cI (cLs cI rfl) (cLs cI rfl) cI) rfl) rfl).enc v0)), (10, .d (cI.enc (v0.length : Int))), (11, .d (cI.enc (k44 : Int)))] (by kernel_rfl) <| xn <| wpC_seq <| wpC_kp <| wpC_blk <| wpC_seq <| reg_s <| st rfl <| ias rfl rfl (Int.natCast_nonneg _) hx47 rfl <| st rfl <| ldi rfl rfl rfl rfl <| x_asg (ss rfl rfl) <| seqN [(0, .d ((cLs (cLs (cXTable cI (cLs cI rfl) (cLs cI rfl) cI) rfl) rfl).enc v0)), (3, .d (cI.enc s43)), (5, .d ((cLs (cXTable cI (cLs cI rfl) (cLs cI rfl) cI) rfl).enc x45)), (9, .d ((cLs (cLs (cXTable cI (cLs cI rfl) (cLs cI rfl) cI) rfl) rfl).enc v0)), (10, .d (cI.enc (v0.length : Int))), (11, .d (cI.enc (k44 : Int)))] (by kernel_rfl) <|
    xn <| wpC_seq <| reg_s <| st rfl <| mvd rfl rfl <| st rfl <| mvd rfl rfl <| stw rfl <| lens rfl fun l114 => ckI_k h fun i115 h => st rfl <| b_add (k := .i64) rfl rfl i115 <| x_asg (ss rfl rfl) <| seqN [(0, .d ((cLs (cLs (cXTable cI (cLs cI rfl) (cLs cI rfl) cI) rfl) rfl).enc v0)), (3, .d (cI.enc (s43 + (x45.length : Int)))), (9, .d ((cLs (cLs (cXTable cI (cLs cI rfl) (cLs cI rfl) cI) rfl) rfl).enc v0)), (10, .d (cI.enc (v0.length : Int))), (11, .d (cI.enc (k44 : Int)))] (by kernel_rfl) <|
    xn <| wpC_seq <| reg_s <| st rfl <| mvd rfl rfl <| st rfl <| b_lss (k := .i64) rfl rfl <| seqN [(0, .d ((cLs (cLs (cXTable cI (cLs cI rfl) (cLs cI rfl) cI) rfl) rfl).enc v0)), (3, .d (cI.enc (s43 + (x45.length : Int)))), (9, .d ((cLs (cLs (cXTable cI (cLs cI rfl) (cLs cI rfl) cI) rfl) rfl).enc v0)), (10, .d (cI.enc (v0.length : Int))), (11, .d (cI.enc (k44 : Int))), (20, .d (cB.enc (decide ((s43 + (x45.length : Int)) < (0 : Int)))))] (by kernel_rfl) <|
    xn <| cnd rfl h (fun b116 h => bad_s h)
    (fun b116 h => wpC_skip <| xbb <| kpN [(0, .d ((cLs (cLs (cXTable cI (cLs cI rfl) (cLs cI rfl) cI) rfl) rfl).enc v0)), (3, .d (cI.enc (s43 + (x45.length : Int)))), (9, .d ((cLs (cLs (cXTable cI (cLs cI rfl) (cLs cI rfl) cI) rfl) rfl).enc v0)), (10, .d (cI.enc (v0.length : Int))), (11, .d (cI.enc (k44 : Int)))] (by kernel_rfl) <| xn <| reg_s <| st rfl <| b_inc rfl rfl l42 hk46 <| st rfl <| mvd rfl rfl <| seqN [(0, .d ((cLs (cLs (cXTable cI (cLs cI rfl) (cLs cI rfl) cI) rfl) rfl).enc v0)), (3, .d (cI.enc (s43 + (x45.length : Int)))), (9, .d ((cLs (cLs (cXTable cI (cLs cI rfl) (cLs cI rfl) cI) rfl) rfl).enc v0)), (10, .d (cI.enc (v0.length : Int))), (11, .d (cI.enc ((k44 + 1 : Nat) : Int)))] (by kernel_rfl) <|
    xn <| hn69 (s43 + (x45.length : Int)) h))

def rs_slices_Clone_int (r : (List Int)) : List D := [(cLo cI).enc r]
def m52 : MC := .seq (.reg [⟨some 2, .asg (.c (.slice true [])), none⟩] [0])
  (.seq (.kp [0] (.seq (.reg [⟨some 3, .mv (.t 0), none⟩,
    ⟨some 4, .eqn false (.t 3), none⟩] [0, 4])
  (.cond (.t 4) (.seq (.reg [⟨some 2, .asg (.c (.slice true [])), none⟩] [2])
  (.ret)) (.skip))))
  (.seq (.reg [⟨some 5, .bsl [] 1, none⟩,
    ⟨some 6, .mv (.t 0), none⟩,
    ⟨some 7, .app (.t 5) (.t 6) 1, none⟩,
    ⟨some 2, .asg (.t 7), none⟩] [2])
  (.ret)))
theorem con_slices_Clone_int {v0 : (List Int)} {r : (List Int)} (h : sh_slices_Clone_int v0 = some r) : Con Try.prog 52 [(cLs cI rfl).enc v0] [] (rs_slices_Clone_int r) := by
  delta sh_slices_Clone_int at h
  refine top (out := none) (f := Try.f52) (m := m52) (rs := [.t 2]) (by kernel_rfl) rfl (by kernel_rfl) (by kernel_rfl) (by kernel_rfl) (by kernel_rfl) (by kernel_rfl) ?_
  exact
   ini [(0, .d ((cLs cI rfl).enc v0))] rfl <| wpC_seq <| reg_s <| x_asg (sc (cLo cI) ([] : List Int) rfl) <| seqN [(0, .d ((cLs cI rfl).enc v0))] (by kernel_rfl) <|
    xn <| wpC_seq <| wpC_kp <| wpC_seq <| reg_s <| st rfl <| mvd rfl rfl <| nilO_k h fun u12 w13 => stw rfl <| eqs rfl u12 w13 fun b11 h => seqN [(0, .d ((cLs cI rfl).enc v0)), (4, .d (cB.enc b11))] (by kernel_rfl) <|
    xn <| cnd rfl h (fun b14 h => wpC_seq <| reg_s <| x_asg (sc (cLo cI) ([] : List Int) rfl) <| seqN [(2, .d ((cLo cI).enc ([] : List Int)))] (by kernel_rfl) <|
    xn <| wpC_ret <| rt <| rt <| re <| fin h (r1 (so rfl rfl) <| r0) rfl)
    (fun b14 h => wpC_skip <| kpN [(0, .d ((cLs cI rfl).enc v0))] (by kernel_rfl) <| xn <| wpC_seq <| reg_s <| x_bsl cI ([] : List Int) t0 rfl rfl <| st rfl <| mvd rfl rfl <| lnO_k h fun l16 h => x_app (so rfl rfl) (ts rfl) l16 rfl <| x_asg (so rfl rfl) <| seqN [(2, .d ((cLo cI).enc (([] : List Int) ++ v0)))] (by kernel_rfl) <|
    xn <| wpC_ret <| re <| fin h (r1 (so rfl rfl) <| r0) rfl)

def rs_impl_copyTable (r : XTable) : List D := [(cXTable cI (cLo cI) (cLo cI) cI).enc r]
def m33 : MC := .seq (.reg [⟨some 1, .box (.t 0), none⟩,
    ⟨some 2, .alloc (.agg [.int .i64 0, .slice true [], .slice true [], .int .i64 0]), none⟩] [1, 2])
  (.seq (.drw [⟨0, ⟨some 3, .fa 1 1 1, none⟩, [4, 5, 6, 7, 8, 9]⟩,
    ⟨1, ⟨some 4, .ld 3 1 false, none⟩, [5, 6, 7, 8, 9]⟩,
    ⟨2, ⟨some 5, .call 52 [(.t 4)], none⟩, [6, 7, 8, 9]⟩,
    ⟨3, ⟨some 6, .fa 1 2 2, none⟩, [3, 4, 5, 7, 8, 9]⟩,
    ⟨4, ⟨some 7, .ld 6 1 false, none⟩, [3, 4, 5, 8, 9]⟩,
    ⟨5, ⟨some 8, .call 52 [(.t 7)], none⟩, [9]⟩,
    ⟨6, ⟨some 9, .fa 1 1 1, none⟩, [8]⟩]
    [(7, ⟨none, .st 9 (.t 5) 1, none⟩),
    (8, ⟨some 10, .fa 1 2 2, none⟩),
    (9, ⟨none, .st 10 (.t 8) 1, none⟩)] [1, 2])
  (.seq (.reg [⟨some 11, .ld 1 4 true, none⟩,
    ⟨none, .st 2 (.t 11) 4, none⟩] [2])
  (.ret)))
theorem con_impl_copyTable {v0 : XTable} {r : XTable} (h : sh_impl_copyTable v0 = some r) : Con Try.prog 33 [(cXTable cI (cLs cI rfl) (cLs cI rfl) cI).enc v0] [] (rs_impl_copyTable r) := by
  delta sh_impl_copyTable at h
  refine top (out := none) (f := Try.f33) (m := m33) (rs := [.c 2 4 true]) (by kernel_rfl) rfl (by kernel_rfl) (by kernel_rfl) (by kernel_rfl) (by kernel_rfl) (by kernel_rfl) ?_
  exact
   ini [(0, .d ((cXTable cI (cLs cI rfl) (cLs cI rfl) cI).enc v0))] rfl <| wpC_seq <| reg_s <| x_box (ss rfl rfl) <| x_all (cXTable cI (cLo cI) (cLo cI) cI) (⟨(0 : Int), ([] : List Int), ([] : List Int), (0 : Int)⟩ : XTable) rfl <| seqN [(1, .box ((cXTable cI (cLs cI rfl) (cLs cI rfl) cI).enc v0)), (2, .box ((cXTable cI (cLo cI) (cLo cI) cI).enc (⟨(0 : Int), ([] : List Int), ([] : List Int), (0 : Int)⟩ : XTable)))] (by kernel_rfl) <|
    xn <| wpC_seq <| drw_s <| pst rfl <| fab rfl rfl rfl rfl ⟨rfl, pst rfl <| lda rfl rfl rfl rfl rfl rfl ⟨rfl, bndp h fun x5 e6 h => pst rfl <| o_call (a1 (c := (cLs cI rfl)) (tLs tK) rfl a0) (con_slices_Clone_int e6) (.inl (so1 (sLo sK) so0)) ⟨rfl, pst rfl <| fab rfl rfl rfl rfl ⟨rfl, pst rfl <| lda rfl rfl rfl rfl rfl rfl ⟨rfl, bndp h fun x7 e8 h => pst rfl <| o_call (a1 (c := (cLs cI rfl)) (tLs tK) rfl a0) (con_slices_Clone_int e8) (.inl (so1 (sLo sK) so0)) ⟨rfl, pst rfl <| fab rfl rfl rfl rfl ⟨rfl, preN <| x_sta ((cXTable cI (cLo cI) (cLs cI rfl) cI).enc (⟨v0.Level, x5, v0.Where, v0.Sum⟩ : XTable)) (so rfl rfl) rfl rfl (Ln.fld rfl rfl Ln.nil rfl) (Cd.h_sz (cLs cI rfl) _) rfl <| st rfl <| fab rfl rfl rfl rfl <| x_sta ((cXTable cI (cLo cI) (cLo cI) cI).enc (⟨v0.Level, x5, x7, v0.Sum⟩ : XTable)) (so rfl rfl) rfl rfl (Ln.fld rfl rfl Ln.nil rfl) (Cd.h_sz (cLs cI rfl) _) rfl <| seqN [(1, .box ((cXTable cI (cLo cI) (cLo cI) cI).enc (⟨v0.Level, x5, x7, v0.Sum⟩ : XTable))), (2, .box ((cXTable cI (cLo cI) (cLo cI) cI).enc (⟨(0 : Int), ([] : List Int), ([] : List Int), (0 : Int)⟩ : XTable)))] (by kernel_rfl) <|
    xn <| wpC_seq <| reg_s <| st rfl <| ldbo rfl rfl rfl rfl <| x_stb (sb rfl rfl) rfl (Cd.h_sz _ _) rfl <| seqN [(2, .box ((cXTable cI (cLo cI) (cLo cI) cI).enc (⟨v0.Level, x5, x7, v0.Sum⟩ : XTable)))] (by kernel_rfl) <|
    xn <| wpC_ret <| re <| fin h (r2 rfl rfl rfl <| r0) rfl⟩⟩⟩⟩⟩⟩⟩

def rs_impl_normalTable (r : XTable) : List D := [(cXTable cI (cLo cI) (cLo cI) cI).enc r]
def m50 : MC := .seq (.reg [⟨some 3, .box (.t 1), none⟩,
    ⟨some 4, .alloc (.agg [.int .i64 0, .slice true [], .slice true [], .int .i64 0]), none⟩] [0, 3, 4])
  (.seq (.reg [⟨some 7, .ld 3 4 true, none⟩,
    ⟨some 8, .call 33 [(.t 7)], none⟩,
    ⟨none, .st 3 (.t 8) 4, none⟩] [0, 3, 4])
  (.seq (.kp [3, 4] (.seq (.reg [⟨some 9, .fa 3 2 2, none⟩,
    ⟨some 10, .ld 9 1 false, none⟩,
    ⟨some 11, .len false (.t 10), none⟩,
    ⟨some 12, .mv (.c (.int .i64 0)), none⟩] [0, 3, 4, 9, 10, 11, 12])
  (.blk 0 (.loop (.seq (.reg [⟨some 13, .bin .lss (.t 12) (.t 11), none⟩] [0, 3, 4, 9, 10, 11, 12, 13])
  (.seq (.kp [0, 3, 4, 9, 10, 11, 12] (.cond (.t 13) (.skip) (.exit 0)))
  (.seq (.kp [0, 3, 4, 9, 10, 11, 12] (.blk 1 (.seq (.reg [⟨some 14, .mv (.t 12), none⟩,
    ⟨some 15, .ia 10 (.t 12) 1, none⟩,
    ⟨some 16, .ld 15 1 false, none⟩,
    ⟨some 5, .asg (.t 14), none⟩,
    ⟨some 6, .asg (.t 16), none⟩] [0, 3, 4, 5, 6, 9, 10, 11, 12])
  (.seq (.reg [⟨some 17, .mv (.t 6), none⟩,
    ⟨some 18, .mv (.t 0), none⟩,
    ⟨some 19, .mv (.t 5), none⟩,
    ⟨some 20, .ia 18 (.t 19) 2, none⟩,
    ⟨some 21, .ld 20 2 true, none⟩,
    ⟨some 22, .call 65 [(.t 21)], none⟩,
    ⟨some 23, .bin .eql (.t 17) (.t 22), none⟩] [0, 3, 4, 5, 9, 10, 11, 12, 23])
  (.cond (.t 23) (.reg [⟨some 24, .fa 3 2 2, none⟩,
    ⟨some 25, .ld 24 1 false, none⟩,
    ⟨some 26, .mv (.t 5), none⟩,
    ⟨some 27, .ia 25 (.t 26) 1, none⟩,
    ⟨none, .st 27 (.c (.int .i64 0)) 1, none⟩] [0, 3, 4, 9, 10, 11, 12]) (.skip))))))
  (.reg [⟨some 28, .bin .add (.t 12) (.c (.int .i64 1)), none⟩,
    ⟨some 12, .mv (.t 28), none⟩] [0, 3, 4, 9, 10, 11, 12]))))))))
  (.seq (.reg [⟨some 29, .ld 3 4 true, none⟩,
    ⟨none, .st 4 (.t 29) 4, none⟩] [4])
  (.ret))))
theorem con_impl_normalTable {v0 : (List XVariable)} {v1 : XTable} {r : XTable} (h : sh_impl_normalTable v0 v1 = some r) : Con Try.prog 50 [(cLs (cXVariable cS cI) rfl).enc v0, (cXTable cI (cLs cI rfl) (cLs cI rfl) cI).enc v1] [] (rs_impl_normalTable r) := by
  delta sh_impl_normalTable at h
  refine top (out := none) (f := Try.f50) (m := m50) (rs := [.c 4 4 true]) (by kernel_rfl) rfl (by kernel_rfl) (by kernel_rfl) (by kernel_rfl) (by kernel_rfl) (by kernel_rfl) ?_
  exact
   ini [(0, .d ((cLs (cXVariable cS cI) rfl).enc v0)), (1, .d ((cXTable cI (cLs cI rfl) (cLs cI rfl) cI).enc v1))] rfl <| wpC_seq <| reg_s <| x_box (ss rfl rfl) <| x_all (cXTable cI (cLo cI) (cLo cI) cI) (⟨(0 : Int), ([] : List Int), ([] : List Int), (0 : Int)⟩ : XTable) rfl <| seqN [(0, .d ((cLs (cXVariable cS cI) rfl).enc v0)), (3, .box ((cXTable cI (cLs cI rfl) (cLs cI rfl) cI).enc v1)), (4, .box ((cXTable cI (cLo cI) (cLo cI) cI).enc (⟨(0 : Int), ([] : List Int), ([] : List Int), (0 : Int)⟩ : XTable)))] (by kernel_rfl) <|
    xn <| wpC_seq <| reg_s <| st rfl <| ldb rfl rfl rfl rfl <| bnd h fun x3 e4 h => st rfl <| o_call (a1 (c := (cXTable cI (cLs cI rfl) (cLs cI rfl) cI)) (tXTable tK (tLs tK) (tLs tK) tK) rfl a0) (con_impl_copyTable e4) (.inl (so1 (sXTable sK (sLo sK) (sLo sK) sK) so0)) <| x_stb (so rfl rfl) rfl (Cd.h_sz _ _) rfl <| seqN [(0, .d ((cLs (cXVariable cS cI) rfl).enc v0)), (3, .box ((cXTable cI (cLo cI) (cLo cI) cI).enc x3)), (4, .box ((cXTable cI (cLo cI) (cLo cI) cI).enc (⟨(0 : Int), ([] : List Int), ([] : List Int), (0 : Int)⟩ : XTable)))] (by kernel_rfl) <|
    xn <| wpC_seq <| wpC_kp <| wpC_seq <| reg_s <| st rfl <| fab rfl rfl rfl rfl <| st rfl <| ldao rfl rfl rfl rfl rfl rfl <| stw rfl <| leno rfl fun l106 => st rfl <| mvc cI (0 : Int) rfl <| seqN [(0, .d ((cLs (cXVariable cS cI) rfl).enc v0)), (3, .box ((cXTable cI (cLo cI) (cLo cI) cI).enc x3)), (4, .box ((cXTable cI (cLo cI) (cLo cI) cI).enc (⟨(0 : Int), ([] : List Int), ([] : List Int), (0 : Int)⟩ : XTable))), (9, .adr 3 [.fld 2]), (10, .ref 3 [.fld 2]), (11, .d (cI.enc (x3.Where.length : Int))), (12, .d (cI.enc (0 : Int)))] (by kernel_rfl) <|
    xn <| wpC_blk <| lpR (fun (k108 : Nat) (s107 : XTable) => [(0, .d ((cLs (cXVariable cS cI) rfl).enc v0)), (3, .box ((cXTable cI (cLo cI) (cLo cI) cI).enc s107)), (4, .box ((cXTable cI (cLo cI) (cLo cI) cI).enc (⟨(0 : Int), ([] : List Int), ([] : List Int), (0 : Int)⟩ : XTable))), (9, .adr 3 [.fld 2]), (10, .ref 3 [.fld 2]), (11, .d (cI.enc (x3.Where.length : Int))), (12, .d (cI.enc (k108 : Int)))]) x3 rfl h
    (fun G170 s107 h => wpC_seq <| reg_s <| st rfl <| b_lss (k := .i64) rfl rfl <| seqN [(0, .d ((cLs (cXVariable cS cI) rfl).enc v0)), (3, .box ((cXTable cI (cLo cI) (cLo cI) cI).enc s107)), (4, .box ((cXTable cI (cLo cI) (cLo cI) cI).enc (⟨(0 : Int), ([] : List Int), ([] : List Int), (0 : Int)⟩ : XTable))), (9, .adr 3 [.fld 2]), (10, .ref 3 [.fld 2]), (11, .d (cI.enc (x3.Where.length : Int))), (12, .d (cI.enc (x3.Where.length : Int))), (13, .d (cB.enc (decide ((x3.Where.length : Int) < (x3.Where.length : Int)))))] (by kernel_rfl) <|
    xn <| wpC_seq <| wpC_kp <| cnd0 rfl (dlf _) <| wpC_exit <| xt <| xt <| xt <| xb <| kpN [(3, .box ((cXTable cI (cLo cI) (cLo cI) cI).enc s107)), (4, .box ((cXTable cI (cLo cI) (cLo cI) cI).enc (⟨(0 : Int), ([] : List Int), ([] : List Int), (0 : Int)⟩ : XTable)))] (by kernel_rfl) <| xn <| wpC_seq <| reg_s <| st rfl <| ldbo rfl rfl rfl rfl <| x_stb (sb rfl rfl) rfl (Cd.h_sz _ _) rfl <| seqN [(4, .box ((cXTable cI (cLo cI) (cLo cI) cI).enc s107))] (by kernel_rfl) <|
    xn <| wpC_ret <| re <| fin h (r2 rfl rfl rfl <| r0) rfl)
    (fun G170 nx168 k108 s107 x109 hk110 hx111 hn169 h => wpC_seq <| reg_s <| st rfl <| b_lss (k := .i64) rfl rfl <| seqN [(0, .d ((cLs (cXVariable cS cI) rfl).enc v0)), (3, .box ((cXTable cI (cLo cI) (cLo cI) cI).enc s107)), (4, .box ((cXTable cI (cLo cI) (cLo cI) cI).enc (⟨(0 : Int), ([] : List Int), ([] : List Int), (0 : Int)⟩ : XTable))), (9, .adr 3 [.fld 2]), (10, .ref 3 [.fld 2]), (11, .d (cI.enc (x3.Where.length : Int))), (12, .d (cI.enc (k108 : Int))), (13, .d (cB.enc (decide ((k108 : Int) < (x3.Where.length : Int)))))] (by kernel_rfl) <|
    xn <| wpC_seq <| wpC_kp <| cnd1 rfl (dlt hk110) <| wpC_skip <| kpN [(0, .d ((cLs (cXVariable cS cI) rfl).enc v0)), (3, .box ((cXTable cI (cLo cI) (cLo cI) cI).enc s107)), (4, .box ((cXTable cI (cLo cI) (cLo cI) cI).enc (⟨(0 : Int), ([] : List Int), ([] : List Int), (0 : Int)⟩ : XTable))), (9, .adr 3 [.fld 2]), (10, .ref 3 [.fld 2]), (11, .d (cI.enc (x3.Where.length : Int))), (12, .d (cI.enc (k108 : Int)))] (by kernel_rfl) <| xn <| wpC_seq <| wpC_kp <| wpC_blk <| wpC_seq <| reg_s <| st rfl <| mvd rfl rfl <| getO_k h fun x191 i192 g193 h => st rfl <| iar rfl rfl rfl rfl i192 g193 rfl <| st rfl <| lda rfl rfl (Gt.fld rfl rfl (Gt.idx g193 Gt.nil)) rfl rfl rfl <| x_asg (ss rfl rfl) <| x_asg (ss rfl rfl) <| seqN [(0, .d ((cLs (cXVariable cS cI) rfl).enc v0)), (3, .box ((cXTable cI (cLo cI) (cLo cI) cI).enc s107)), (4, .box ((cXTable cI (cLo cI) (cLo cI) cI).enc (⟨(0 : Int), ([] : List Int), ([] : List Int), (0 : Int)⟩ : XTable))), (5, .d (cI.enc (k108 : Int))), (6, .d (cI.enc x191)), (9, .adr 3 [.fld 2]), (10, .ref 3 [.fld 2]), (11, .d (cI.enc (x3.Where.length : Int))), (12, .d (cI.enc (k108 : Int)))] (by kernel_rfl) <|
    xn <| wpC_seq <| reg_s <| st rfl <| mvd rfl rfl <| st rfl <| mvd rfl rfl <| st rfl <| mvd rfl rfl <| getO_k h fun x199 i200 g201 h => st rfl <| ias rfl rfl i200 g201 rfl <| st rfl <| ldi rfl rfl rfl rfl <| bnd h fun x202 e203 h => st rfl <| o_call (a1 (c := (cXVariable cS cI)) (tXVariable tS tK) rfl a0) (con_impl_fullSet e203) (.inl (so1 sK so0)) <| st rfl <| b_eql (k := .i64) rfl rfl <| seqN [(0, .d ((cLs (cXVariable cS cI) rfl).enc v0)), (3, .box ((cXTable cI (cLo cI) (cLo cI) cI).enc s107)), (4, .box ((cXTable cI (cLo cI) (cLo cI) cI).enc (⟨(0 : Int), ([] : List Int), ([] : List Int), (0 : Int)⟩ : XTable))), (5, .d (cI.enc (k108 : Int))), (9, .adr 3 [.fld 2]), (10, .ref 3 [.fld 2]), (11, .d (cI.enc (x3.Where.length : Int))), (12, .d (cI.enc (k108 : Int))), (23, .d (cB.enc (decide (x191 = x202))))] (by kernel_rfl) <|
    xn <| cnd rfl h (fun b204 h => reg_s <| st rfl <| fab rfl rfl rfl rfl <| st rfl <| ldao rfl rfl rfl rfl rfl rfl <| st rfl <| mvd rfl rfl <| st rfl <| iar rfl rfl rfl rfl i192 g193 rfl <| x_sta ((cXTable cI (cLo cI) (cLo cI) cI).enc (⟨s107.Level, s107.Vars, (s107.Where.set ((k108 : Int)).toNat (0 : Int)), s107.Sum⟩ : XTable)) (sc cI (0 : Int) rfl) rfl rfl (Ln.fld rfl rfl (Ln.idx g193 Ln.nil) rfl) (Cd.h_sz cI _) rfl <| seqN [(0, .d ((cLs (cXVariable cS cI) rfl).enc v0)), (3, .box ((cXTable cI (cLo cI) (cLo cI) cI).enc (⟨s107.Level, s107.Vars, (s107.Where.set ((k108 : Int)).toNat (0 : Int)), s107.Sum⟩ : XTable))), (4, .box ((cXTable cI (cLo cI) (cLo cI) cI).enc (⟨(0 : Int), ([] : List Int), ([] : List Int), (0 : Int)⟩ : XTable))), (9, .adr 3 [.fld 2]), (10, .ref 3 [.fld 2]), (11, .d (cI.enc (x3.Where.length : Int))), (12, .d (cI.enc (k108 : Int)))] (by kernel_rfl) <|
    xbb <| kpN [(0, .d ((cLs (cXVariable cS cI) rfl).enc v0)), (3, .box ((cXTable cI (cLo cI) (cLo cI) cI).enc (⟨s107.Level, s107.Vars, (s107.Where.set ((k108 : Int)).toNat (0 : Int)), s107.Sum⟩ : XTable))), (4, .box ((cXTable cI (cLo cI) (cLo cI) cI).enc (⟨(0 : Int), ([] : List Int), ([] : List Int), (0 : Int)⟩ : XTable))), (9, .adr 3 [.fld 2]), (10, .ref 3 [.fld 2]), (11, .d (cI.enc (x3.Where.length : Int))), (12, .d (cI.enc (k108 : Int)))] (by kernel_rfl) <| xn <| reg_s <| st rfl <| b_inc rfl rfl l106 hk110 <| st rfl <| mvd rfl rfl <| seqN [(0, .d ((cLs (cXVariable cS cI) rfl).enc v0)), (3, .box ((cXTable cI (cLo cI) (cLo cI) cI).enc (⟨s107.Level, s107.Vars, (s107.Where.set ((k108 : Int)).toNat (0 : Int)), s107.Sum⟩ : XTable))), (4, .box ((cXTable cI (cLo cI) (cLo cI) cI).enc (⟨(0 : Int), ([] : List Int), ([] : List Int), (0 : Int)⟩ : XTable))), (9, .adr 3 [.fld 2]), (10, .ref 3 [.fld 2]), (11, .d (cI.enc (x3.Where.length : Int))), (12, .d (cI.enc ((k108 + 1 : Nat) : Int)))] (by kernel_rfl) <|
    xn <| hn169 (⟨s107.Level, s107.Vars, (s107.Where.set ((k108 : Int)).toNat (0 : Int)), s107.Sum⟩ : XTable) h)
    (fun b204 h => wpC_skip <| xbb <| kpN [(0, .d ((cLs (cXVariable cS cI) rfl).enc v0)), (3, .box ((cXTable cI (cLo cI) (cLo cI) cI).enc s107)), (4, .box ((cXTable cI (cLo cI) (cLo cI) cI).enc (⟨(0 : Int), ([] : List Int), ([] : List Int), (0 : Int)⟩ : XTable))), (9, .adr 3 [.fld 2]), (10, .ref 3 [.fld 2]), (11, .d (cI.enc (x3.Where.length : Int))), (12, .d (cI.enc (k108 : Int)))] (by kernel_rfl) <| xn <| reg_s <| st rfl <| b_inc rfl rfl l106 hk110 <| st rfl <| mvd rfl rfl <| seqN [(0, .d ((cLs (cXVariable cS cI) rfl).enc v0)), (3, .box ((cXTable cI (cLo cI) (cLo cI) cI).enc s107)), (4, .box ((cXTable cI (cLo cI) (cLo cI) cI).enc (⟨(0 : Int), ([] : List Int), ([] : List Int), (0 : Int)⟩ : XTable))), (9, .adr 3 [.fld 2]), (10, .ref 3 [.fld 2]), (11, .d (cI.enc (x3.Where.length : Int))), (12, .d (cI.enc ((k108 + 1 : Nat) : Int)))] (by kernel_rfl) <|
    xn <| hn169 s107 h))

def rs_slices_Equal_int (r : Bool) : List D := [cB.enc r]
def m51 : MC := .seq (.reg [⟨some 4, .asg (.c (.bool false)), none⟩] [0, 1])
  (.seq (.kp [0, 1] (.seq (.reg [⟨some 6, .mv (.t 0), none⟩,
    ⟨some 7, .len false (.t 6), none⟩,
    ⟨some 8, .mv (.t 1), none⟩,
    ⟨some 9, .len false (.t 8), none⟩,
    ⟨some 10, .bin .neq (.t 7) (.t 9), none⟩] [0, 1, 10])
  (.cond (.t 10) (.seq (.reg [⟨some 4, .asg (.c (.bool false)), none⟩] [4])
  (.ret)) (.skip))))
  (.seq (.kp [] (.seq (.reg [⟨some 11, .mv (.t 0), none⟩,
    ⟨some 12, .len false (.t 11), none⟩,
    ⟨some 13, .mv (.c (.int .i64 0)), none⟩] [0, 1, 12, 13])
  (.blk 0 (.loop (.seq (.reg [⟨some 14, .bin .lss (.t 13) (.t 12), none⟩] [0, 1, 12, 13, 14])
  (.seq (.kp [0, 1, 12, 13] (.cond (.t 14) (.skip) (.exit 0)))
  (.seq (.kp [0, 1, 12, 13] (.blk 1 (.seq (.reg [⟨some 15, .mv (.t 13), none⟩,
    ⟨some 5, .asg (.t 15), none⟩] [0, 1, 5, 12, 13])
  (.seq (.drw [⟨0, ⟨some 16, .mv (.t 0), none⟩, [17, 18, 19, 20, 21, 22, 23, 24]⟩,
    ⟨1, ⟨some 17, .mv (.t 5), none⟩, [16, 18, 19, 20, 21, 22, 23, 24]⟩,
    ⟨2, ⟨some 18, .ia 16 (.t 17) 1, none⟩, [19, 20, 21, 22, 23, 24]⟩,
    ⟨3, ⟨some 19, .ld 18 1 false, none⟩, [20, 21, 22, 23, 24]⟩,
    ⟨4, ⟨some 20, .mv (.t 1), none⟩, [16, 17, 18, 19, 21, 22, 23, 24]⟩,
    ⟨5, ⟨some 21, .mv (.t 5), none⟩, [16, 17, 18, 19, 20, 22, 23, 24]⟩,
    ⟨6, ⟨some 22, .ia 20 (.t 21) 1, none⟩, [16, 17, 18, 19, 23, 24]⟩,
    ⟨7, ⟨some 23, .ld 22 1 false, none⟩, [16, 17, 18, 19, 24]⟩,
    ⟨8, ⟨some 24, .bin .neq (.t 19) (.t 23), none⟩, []⟩]
    [] [0, 1, 12, 13, 24])
  (.cond (.t 24) (.seq (.reg [⟨some 4, .asg (.c (.bool false)), none⟩] [4])
  (.ret)) (.skip))))))
  (.reg [⟨some 25, .bin .add (.t 13) (.c (.int .i64 1)), none⟩,
    ⟨some 13, .mv (.t 25), none⟩] [0, 1, 12, 13]))))))))
  (.seq (.reg [⟨some 4, .asg (.c (.bool true)), none⟩] [4])
  (.ret))))
theorem con_slices_Equal_int {v0 : (List Int)} {v1 : (List Int)} {r : Bool} (h : sh_slices_Equal_int v0 v1 = some r) : Con Try.prog 51 [(cLs cI rfl).enc v0, (cLs cI rfl).enc v1] [] (rs_slices_Equal_int r) := by
  delta sh_slices_Equal_int at h
  refine top (out := none) (f := Try.f51) (m := m51) (rs := [.t 4]) (by kernel_rfl) rfl (by kernel_rfl) (by kernel_rfl) (by kernel_rfl) (by kernel_rfl) (by kernel_rfl) ?_
  exact
   ini [(0, .d ((cLs cI rfl).enc v0)), (1, .d ((cLs cI rfl).enc v1))] rfl <| wpC_seq <| reg_s <| x_asg (sc cB false rfl) <| seqN [(0, .d ((cLs cI rfl).enc v0)), (1, .d ((cLs cI rfl).enc v1))] (by kernel_rfl) <|
    xn <| wpC_seq <| wpC_kp <| wpC_seq <| reg_s <| st rfl <| mvd rfl rfl <| stw rfl <| lens rfl fun l8 => st rfl <| mvd rfl rfl <| stw rfl <| lens rfl fun l9 => st rfl <| b_neq (k := .i64) rfl rfl <| seqN [(0, .d ((cLs cI rfl).enc v0)), (1, .d ((cLs cI rfl).enc v1)), (10, .d (cB.enc (decide ((v0.length : Int) ≠ (v1.length : Int)))))] (by kernel_rfl) <|
    xn <| cnd rfl h (fun b10 h => wpC_seq <| reg_s <| x_asg (sc cB false rfl) <| seqN [(4, .d (cB.enc false))] (by kernel_rfl) <|
    xn <| wpC_ret <| rt <| rt <| re <| fin h (r1 (ss rfl rfl) <| r0) rfl)
    (fun b10 h => wpC_skip <| kpN [(0, .d ((cLs cI rfl).enc v0)), (1, .d ((cLs cI rfl).enc v1))] (by kernel_rfl) <| xn <| wpC_seq <| wpC_kp <| wpC_seq <| reg_s <| st rfl <| mvd rfl rfl <| stw rfl <| lens rfl fun l50 => st rfl <| mvc cI (0 : Int) rfl <| seqN [(0, .d ((cLs cI rfl).enc v0)), (1, .d ((cLs cI rfl).enc v1)), (12, .d (cI.enc (v0.length : Int))), (13, .d (cI.enc (0 : Int)))] (by kernel_rfl) <|
    xn <| wpC_blk <| lpR (fun (k52 : Nat) (s51 : Unit) => [(0, .d ((cLs cI rfl).enc v0)), (1, .d ((cLs cI rfl).enc v1)), (12, .d (cI.enc (v0.length : Int))), (13, .d (cI.enc (k52 : Int)))]) () rfl h
    (fun G72 s51 h => wpC_seq <| reg_s <| st rfl <| b_lss (k := .i64) rfl rfl <| seqN [(0, .d ((cLs cI rfl).enc v0)), (1, .d ((cLs cI rfl).enc v1)), (12, .d (cI.enc (v0.length : Int))), (13, .d (cI.enc (v0.length : Int))), (14, .d (cB.enc (decide ((v0.length : Int) < (v0.length : Int)))))] (by kernel_rfl) <|
    xn <| wpC_seq <| wpC_kp <| cnd0 rfl (dlf _) <| wpC_exit <| xt <| xt <| xt <| xb <| kpN [] (by kernel_rfl) <| xn <| wpC_seq <| reg_s <| x_asg (sc cB true rfl) <| seqN [(4, .d (cB.enc true))] (by kernel_rfl) <|
    xn <| wpC_ret <| re <| fin h (r1 (ss rfl rfl) <| r0) rfl)
    (fun G72 nx70 k52 s51 x53 hk54 hx55 hn71 h => wpC_seq <| reg_s <| st rfl <| b_lss (k := .i64) rfl rfl <| seqN [(0, .d ((cLs cI rfl).enc v0)), (1, .d ((cLs cI rfl).enc v1)), (12, .d (cI.enc (v0.length : Int))), (13, .d (cI.enc (k52 : Int))), (14, .d (cB.enc (decide ((k52 : Int) < (v0.length : Int)))))] (by kernel_rfl) <|
    xn <| wpC_seq <| wpC_kp <| cnd1 rfl (dlt hk54) <| wpC_skip <| kpN [(0, .d ((cLs cI rfl).enc v0)), (1, .d ((cLs cI rfl).enc v1)), (12, .d (cI.enc (v0.length : Int))), (13, .d (cI.enc (k52 : Int)))] (by kernel_rfl) <| xn <| wpC_seq <| wpC_kp <| wpC_blk <| wpC_seq <| reg_s <| st rfl <| mvd rfl rfl <| x_asg (ss rfl rfl) <| seqN [(0, .d ((cLs cI rfl).enc v0)), (1, .d ((cLs cI rfl).enc v1)), (5, .d (cI.enc (k52 : Int))), (12, .d (cI.enc (v0.length : Int))), (13, .d (cI.enc (k52 : Int)))] (by kernel_rfl) <|
    xn <| wpC_seq <| drw_s <| pst rfl <| mvd rfl rfl ⟨rfl, pst rfl <| mvd rfl rfl ⟨rfl, pst rfl <| ias rfl rfl (Int.natCast_nonneg _) hx55 rfl ⟨rfl, pst rfl <| ldi rfl rfl rfl rfl ⟨rfl, pst rfl <| mvd rfl rfl ⟨rfl, pst rfl <| mvd rfl rfl ⟨rfl, getO_kp h fun x83 i84 g85 h => pst rfl <| ias rfl rfl i84 g85 rfl ⟨rfl, pst rfl <| ldi rfl rfl rfl rfl ⟨rfl, pst rfl <| b_neq (k := .i64) rfl rfl ⟨rfl, preN <| seqN [(0, .d ((cLs cI rfl).enc v0)), (1, .d ((cLs cI rfl).enc v1)), (12, .d (cI.enc (v0.length : Int))), (13, .d (cI.enc (k52 : Int))), (24, .d (cB.enc (decide (x53 ≠ x83))))] (by kernel_rfl) <|
    xn <| cnd rfl h (fun b86 h => wpC_seq <| reg_s <| x_asg (sc cB false rfl) <| seqN [(4, .d (cB.enc false))] (by kernel_rfl) <|
    xn <| wpC_ret <| rb <| rt <| rt <| rt <| rb <| rt <| rt <| re <| fin h (r1 (ss rfl rfl) <| r0) rfl)
    (fun b86 h => wpC_skip <| xbb <| kpN [(0, .d ((cLs cI rfl).enc v0)), (1, .d ((cLs cI rfl).enc v1)), (12, .d (cI.enc (v0.length : Int))), (13, .d (cI.enc (k52 : Int)))] (by kernel_rfl) <| xn <| reg_s <| st rfl <| b_inc rfl rfl l50 hk54 <| st rfl <| mvd rfl rfl <| seqN [(0, .d ((cLs cI rfl).enc v0)), (1, .d ((cLs cI rfl).enc v1)), (12, .d (cI.enc (v0.length : Int))), (13, .d (cI.enc ((k52 + 1 : Nat) : Int)))] (by kernel_rfl) <|
    xn <| hn71 () h)⟩⟩⟩⟩⟩⟩⟩⟩⟩))

def rs_impl_sameMeaning (r : Bool) : List D := [cB.enc r]
def m32 : MC := .seq (.reg [⟨some 4, .box (.t 1), none⟩,
    ⟨some 5, .box (.t 2), none⟩,
    ⟨some 6, .asg (.c (.bool false)), none⟩] [0, 4, 5])
  (.seq (.drw [⟨0, ⟨some 7, .mv (.t 0), none⟩, [8, 9, 10, 11, 12]⟩,
    ⟨1, ⟨some 8, .ld 4 4 true, none⟩, [7, 9, 10, 11, 12]⟩,
    ⟨2, ⟨some 9, .call 50 [(.t 7), (.t 8)], none⟩, [10, 11, 12]⟩,
    ⟨3, ⟨some 10, .mv (.t 0), none⟩, [7, 8, 9, 11, 12]⟩,
    ⟨4, ⟨some 11, .ld 5 4 true, none⟩, [7, 8, 9, 10, 12]⟩,
    ⟨5, ⟨some 12, .call 50 [(.t 10), (.t 11)], none⟩, []⟩]
    [(6, ⟨none, .st 4 (.t 9) 4, none⟩),
    (7, ⟨none, .st 5 (.t 12) 4, none⟩)] [4, 5])
  (.seq (.reg [⟨some 13, .fa 4 0 0, none⟩,
    ⟨some 14, .ld 13 1 false, none⟩,
    ⟨some 15, .fa 5 0 0, none⟩,
    ⟨some 16, .ld 15 1 false, none⟩,
    ⟨some 17, .bin .eql (.t 14) (.t 16), none⟩,
    ⟨some 18, .mv (.t 17), none⟩,
    ⟨some 19, .fa 4 3 3, some (18, true)⟩,
    ⟨some 20, .ld 19 1 false, some (18, true)⟩,
    ⟨some 21, .fa 5 3 3, some (18, true)⟩,
    ⟨some 22, .ld 21 1 false, some (18, true)⟩,
    ⟨some 23, .bin .eql (.t 20) (.t 22), some (18, true)⟩,
    ⟨some 24, .pick (.t 18) (.t 23) (.c (.bool false)), none⟩,
    ⟨some 25, .mv (.t 24), none⟩,
    ⟨some 26, .fa 4 1 1, some (25, true)⟩,
    ⟨some 27, .ld 26 1 false, some (25, true)⟩,
    ⟨some 28, .fa 5 1 1, some (25, true)⟩,
    ⟨some 29, .ld 28 1 false, some (25, true)⟩,
    ⟨some 30, .call 51 [(.t 27), (.t 29)], some (25, true)⟩,
    ⟨some 31, .pick (.t 25) (.t 30) (.c (.bool false)), none⟩,
    ⟨some 32, .mv (.t 31), none⟩,
    ⟨some 33, .fa 4 2 2, some (32, true)⟩,
    ⟨some 34, .ld 33 1 false, some (32, true)⟩,
    ⟨some 35, .fa 5 2 2, some (32, true)⟩,
    ⟨some 36, .ld 35 1 false, some (32, true)⟩,
    ⟨some 37, .call 51 [(.t 34), (.t 36)], some (32, true)⟩,
    ⟨some 38, .pick (.t 32) (.t 37) (.c (.bool false)), none⟩,
    ⟨some 6, .asg (.t 38), none⟩] [6])
  (.ret)))
theorem con_impl_sameMeaning {v0 : (List XVariable)} {v1 : XTable} {v2 : XTable} {r : Bool} (h : sh_impl_sameMeaning v0 v1 v2 = some r) : Con Try.prog 32 [(cLs (cXVariable cS cI) rfl).enc v0, (cXTable cI (cLs cI rfl) (cLs cI rfl) cI).enc v1, (cXTable cI (cLs cI rfl) (cLs cI rfl) cI).enc v2] [] (rs_impl_sameMeaning r) := by
  delta sh_impl_sameMeaning at h
  refine top (out := none) (f := Try.f32) (m := m32) (rs := [.t 6]) (by kernel_rfl) rfl (by kernel_rfl) (by kernel_rfl) (by kernel_rfl) (by kernel_rfl) (by kernel_rfl) ?_
  exact
   ini [(0, .d ((cLs (cXVariable cS cI) rfl).enc v0)), (1, .d ((cXTable cI (cLs cI rfl) (cLs cI rfl) cI).enc v1)), (2, .d ((cXTable cI (cLs cI rfl) (cLs cI rfl) cI).enc v2))] rfl <| wpC_seq <| reg_s <| x_box (ss rfl rfl) <| x_box (ss rfl rfl) <| x_asg (sc cB false rfl) <| seqN [(0, .d ((cLs (cXVariable cS cI) rfl).enc v0)), (4, .box ((cXTable cI (cLs cI rfl) (cLs cI rfl) cI).enc v1)), (5, .box ((cXTable cI (cLs cI rfl) (cLs cI rfl) cI).enc v2))] (by kernel_rfl) <|
    xn <| wpC_seq <| drw_s <| pst rfl <| mvd rfl rfl ⟨rfl, pst rfl <| ldb rfl rfl rfl rfl ⟨rfl, bndp h fun x5 e6 h => pst rfl <| o_call (a1 (c := (cLs (cXVariable cS cI) rfl)) (tLs (tXVariable tS tK)) rfl (a1 (c := (cXTable cI (cLs cI rfl) (cLs cI rfl) cI)) (tXTable tK (tLs tK) (tLs tK) tK) rfl a0)) (con_impl_normalTable e6) (.inl (so1 (sXTable sK (sLo sK) (sLo sK) sK) so0)) ⟨rfl, pst rfl <| mvd rfl rfl ⟨rfl, pst rfl <| ldb rfl rfl rfl rfl ⟨rfl, bndp h fun x7 e8 h => pst rfl <| o_call (a1 (c := (cLs (cXVariable cS cI) rfl)) (tLs (tXVariable tS tK)) rfl (a1 (c := (cXTable cI (cLs cI rfl) (cLs cI rfl) cI)) (tXTable tK (tLs tK) (tLs tK) tK) rfl a0)) (con_impl_normalTable e8) (.inl (so1 (sXTable sK (sLo sK) (sLo sK) sK) so0)) ⟨rfl, preN <| x_stb (so rfl rfl) rfl (Cd.h_sz _ _) rfl <| x_stb (so rfl rfl) rfl (Cd.h_sz _ _) rfl <| seqN [(4, .box ((cXTable cI (cLo cI) (cLo cI) cI).enc x5)), (5, .box ((cXTable cI (cLo cI) (cLo cI) cI).enc x7))] (by kernel_rfl) <|
    xn <| wpC_seq <| jw (fun (s16 : Bool) => [(6, .d (cB.enc s16))]) h (fun s16 h => xn <| wpC_ret <| re <| fin h (r1 (ss rfl rfl) <| r0) rfl)
    fun s16' q17 h => reg_s <| st rfl <| fab rfl rfl rfl rfl <| st rfl <| lda rfl rfl rfl rfl rfl rfl <| st rfl <| fab rfl rfl rfl rfl <| st rfl <| lda rfl rfl rfl rfl rfl rfl <| st rfl <| b_eql (k := .i64) rfl rfl <| st rfl <| mvd rfl rfl <| ite_k h (fun b18 h => gt' rfl b18 <| st rfl <| fab rfl rfl rfl rfl <| gt' rfl b18 <| st rfl <| lda rfl rfl rfl rfl rfl rfl <| gt' rfl b18 <| st rfl <| fab rfl rfl rfl rfl <| gt' rfl b18 <| st rfl <| lda rfl rfl rfl rfl rfl rfl <| gt' rfl b18 <| st rfl <| b_eql (k := .i64) rfl rfl <| st rfl <| pick1 rfl b18 (cd := cB) (v := (decide (x5.Sum = x7.Sum))) rfl rfl <| st rfl <| mvd rfl rfl <| ite_k h (fun b19 h => gt' rfl b19 <| st rfl <| fab rfl rfl rfl rfl <| gt' rfl b19 <| st rfl <| ldao rfl rfl rfl rfl rfl rfl <| gt' rfl b19 <| st rfl <| fab rfl rfl rfl rfl <| gt' rfl b19 <| st rfl <| ldao rfl rfl rfl rfl rfl rfl <| gt' rfl b19 <| bnd h fun x20 e21 h => st rfl <| o_call (a1 (c := (cLo cI)) (tLo tK) rfl (a1 (c := (cLo cI)) (tLo tK) rfl a0)) (con_slices_Equal_int e21) (.inl (so1 sB so0)) <| st rfl <| pick1 rfl b19 (cd := cB) (v := x20) rfl rfl <| st rfl <| mvd rfl rfl <| ite_k h (fun b22 h => gt' rfl b22 <| st rfl <| fab rfl rfl rfl rfl <| gt' rfl b22 <| st rfl <| ldao rfl rfl rfl rfl rfl rfl <| gt' rfl b22 <| st rfl <| fab rfl rfl rfl rfl <| gt' rfl b22 <| st rfl <| ldao rfl rfl rfl rfl rfl rfl <| gt' rfl b22 <| bnd h fun x23 e24 h => st rfl <| o_call (a1 (c := (cLo cI)) (tLo tK) rfl (a1 (c := (cLo cI)) (tLo tK) rfl a0)) (con_slices_Equal_int e24) (.inl (so1 sB so0)) <| st rfl <| pick1 rfl b22 (cd := cB) (v := x23) rfl rfl <| x_asg (ss rfl rfl) <| seqN [(6, .d (cB.enc x23))] (by kernel_rfl) <|
    lfn (S := (fun (s16 : Bool) => [(6, .d (cB.enc s16))])) h q17 rfl)
    (fun b22 h => gf rfl b22 <| gf rfl b22 <| gf rfl b22 <| gf rfl b22 <| gf rfl b22 <| st rfl <| pick0 rfl b22 (cd := cB) (v := false) rfl rfl <| x_asg (ss rfl rfl) <| seqN [(6, .d (cB.enc false))] (by kernel_rfl) <|
    lfn (S := (fun (s16 : Bool) => [(6, .d (cB.enc s16))])) h q17 rfl))
    (fun b19 h => gf rfl b19 <| gf rfl b19 <| gf rfl b19 <| gf rfl b19 <| gf rfl b19 <| st rfl <| pick0 rfl b19 (cd := cB) (v := false) rfl rfl <| st rfl <| mvd rfl rfl <| gf rfl rfl <| gf rfl rfl <| gf rfl rfl <| gf rfl rfl <| gf rfl rfl <| st rfl <| pick0 rfl rfl (cd := cB) (v := false) rfl rfl <| x_asg (ss rfl rfl) <| seqN [(6, .d (cB.enc false))] (by kernel_rfl) <|
    lfn (S := (fun (s16 : Bool) => [(6, .d (cB.enc s16))])) h q17 rfl))
    (fun b18 h => gf rfl b18 <| gf rfl b18 <| gf rfl b18 <| gf rfl b18 <| gf rfl b18 <| st rfl <| pick0 rfl b18 (cd := cB) (v := false) rfl rfl <| st rfl <| mvd rfl rfl <| gf rfl rfl <| gf rfl rfl <| gf rfl rfl <| gf rfl rfl <| gf rfl rfl <| st rfl <| pick0 rfl rfl (cd := cB) (v := false) rfl rfl <| st rfl <| mvd rfl rfl <| gf rfl rfl <| gf rfl rfl <| gf rfl rfl <| gf rfl rfl <| gf rfl rfl <| st rfl <| pick0 rfl rfl (cd := cB) (v := false) rfl rfl <| x_asg (ss rfl rfl) <| seqN [(6, .d (cB.enc false))] (by kernel_rfl) <|
    lfn (S := (fun (s16 : Bool) => [(6, .d (cB.enc s16))])) h q17 rfl)⟩⟩⟩⟩⟩⟩

def rs_impl_MergePlans_1 (r : Bool) : List D := [cB.enc r]
def m31 : MC := .seq (.reg [⟨some 3, .box (.t 0), none⟩,
    ⟨some 4, .asg (.c (.bool false)), none⟩] [1, 2, 3])
  (.seq (.reg [⟨some 5, .ld 1 1 false, none⟩,
    ⟨some 6, .ld 2 4 true, none⟩,
    ⟨some 7, .ld 3 4 true, none⟩,
    ⟨some 8, .call 32 [(.t 5), (.t 6), (.t 7)], none⟩,
    ⟨some 4, .asg (.t 8), none⟩] [4])
  (.ret))
theorem con_impl_MergePlans_1 {v0 : XTable} {v1 : (List XVariable)} {v2 : XTable} {r : Bool} (h : sh_impl_MergePlans_1 v0 v1 v2 = some r) : Con Try.prog 31 [(cXTable cI (cLs cI rfl) (cLs cI rfl) cI).enc v0, (cP false (cLs (cXVariable cS cI) rfl)).enc v1, (cP false (cXTable cI (cLs cI rfl) (cLs cI rfl) cI)).enc v2] [] (rs_impl_MergePlans_1 r) := by
  delta sh_impl_MergePlans_1 at h
  refine top (out := none) (f := Try.f31) (m := m31) (rs := [.t 4]) (by kernel_rfl) rfl (by kernel_rfl) (by kernel_rfl) (by kernel_rfl) (by kernel_rfl) (by kernel_rfl) ?_
  exact
   ini [(0, .d ((cXTable cI (cLs cI rfl) (cLs cI rfl) cI).enc v0)), (1, .ima ((cLs (cXVariable cS cI) rfl).enc v1)), (2, .ima ((cXTable cI (cLs cI rfl) (cLs cI rfl) cI).enc v2))] rfl <| wpC_seq <| reg_s <| x_box (ss rfl rfl) <| x_asg (sc cB false rfl) <| seqN [(1, .ima ((cLs (cXVariable cS cI) rfl).enc v1)), (2, .ima ((cXTable cI (cLs cI rfl) (cLs cI rfl) cI).enc v2)), (3, .box ((cXTable cI (cLs cI rfl) (cLs cI rfl) cI).enc v0))] (by kernel_rfl) <|
    xn <| wpC_seq <| reg_s <| st rfl <| ldi rfl rfl rfl rfl <| st rfl <| ldi rfl rfl rfl rfl <| st rfl <| ldb rfl rfl rfl rfl <| bnd h fun x3 e4 h => st rfl <| o_call (a1 (c := (cLs (cXVariable cS cI) rfl)) (tLs (tXVariable tS tK)) rfl (a1 (c := (cXTable cI (cLs cI rfl) (cLs cI rfl) cI)) (tXTable tK (tLs tK) (tLs tK) tK) rfl (a1 (c := (cXTable cI (cLs cI rfl) (cLs cI rfl) cI)) (tXTable tK (tLs tK) (tLs tK) tK) rfl a0))) (con_impl_sameMeaning e4) (.inl (so1 sB so0)) <| x_asg (ss rfl rfl) <| seqN [(4, .d (cB.enc x3))] (by kernel_rfl) <|
    xn <| wpC_ret <| re <| fin h (r1 (ss rfl rfl) <| r0) rfl

def rs_slices_IndexFunc_impl_Table_impl_Table_impl_MergePlans_1 (r : Int) : List D := [cI.enc r]
def m49_31 : MC := .seq (.reg [⟨some 4, .asg (.c (.int .i64 0)), none⟩] [0, 1])
  (.seq (.kp [] (.seq (.reg [⟨some 6, .mv (.t 0), none⟩,
    ⟨some 7, .len false (.t 6), none⟩,
    ⟨some 8, .mv (.c (.int .i64 0)), none⟩] [0, 1, 7, 8])
  (.blk 0 (.loop (.seq (.reg [⟨some 9, .bin .lss (.t 8) (.t 7), none⟩] [0, 1, 7, 8, 9])
  (.seq (.kp [0, 1, 7, 8] (.cond (.t 9) (.skip) (.exit 0)))
  (.seq (.kp [0, 1, 7, 8] (.blk 1 (.seq (.reg [⟨some 10, .mv (.t 8), none⟩,
    ⟨some 5, .asg (.t 10), none⟩] [0, 1, 5, 7, 8])
  (.seq (.reg [⟨some 11, .mv (.t 1), none⟩,
    ⟨some 12, .mv (.t 0), none⟩,
    ⟨some 13, .mv (.t 5), none⟩,
    ⟨some 14, .ia 12 (.t 13) 4, none⟩,
    ⟨some 15, .ld 14 4 true, none⟩,
    ⟨some 16, .callf 11 [(false, (.t 15))], none⟩] [0, 1, 5, 7, 8, 16])
  (.cond (.t 16) (.seq (.reg [⟨some 17, .mv (.t 5), none⟩,
    ⟨some 4, .asg (.t 17), none⟩] [4])
  (.ret)) (.skip))))))
  (.reg [⟨some 18, .bin .add (.t 8) (.c (.int .i64 1)), none⟩,
    ⟨some 8, .mv (.t 18), none⟩] [0, 1, 7, 8]))))))))
  (.seq (.reg [⟨some 4, .asg (.c (.int .i64 (-1))), none⟩] [4])
  (.ret)))
theorem con_slices_IndexFunc_impl_Table_impl_Table_impl_MergePlans_1 {v0 : (List XTable)} {v1 : ((List XVariable) × XTable)} {r : Int} (h : sh_slices_IndexFunc_impl_Table_impl_Table_impl_MergePlans_1 v0 v1 = some r) : Con Try.prog 49 [(cLs (cXTable cI (cLs cI rfl) (cLs cI rfl) cI) rfl).enc v0, (cFn 31 (fun (v : ((List XVariable) × XTable)) => [.ptr false ((cLs (cXVariable cS cI) rfl).enc v.1), .ptr false ((cXTable cI (cLs cI rfl) (cLs cI rfl) cI).enc v.2)]) true (fun _ => (im1 rfl (im1 rfl im0)))).enc v1] [] (rs_slices_IndexFunc_impl_Table_impl_Table_impl_MergePlans_1 r) := by
  delta sh_slices_IndexFunc_impl_Table_impl_Table_impl_MergePlans_1 at h
  refine top (out := none) (f := Try.f49) (m := m49_31) (rs := [.t 4]) (by kernel_rfl) rfl (by kernel_rfl) (by kernel_rfl) (by kernel_rfl) (by kernel_rfl) (by kernel_rfl) ?_
  exact
   ini [(0, .d ((cLs (cXTable cI (cLs cI rfl) (cLs cI rfl) cI) rfl).enc v0)), (1, .d ((cFn 31 (fun (v : ((List XVariable) × XTable)) => [.ptr false ((cLs (cXVariable cS cI) rfl).enc v.1), .ptr false ((cXTable cI (cLs cI rfl) (cLs cI rfl) cI).enc v.2)]) true (fun _ => (im1 rfl (im1 rfl im0)))).enc (v1.1, v1.2)))] rfl <| wpC_seq <| reg_s <| x_asg (sc cI (0 : Int) rfl) <| seqN [(0, .d ((cLs (cXTable cI (cLs cI rfl) (cLs cI rfl) cI) rfl).enc v0)), (1, .d ((cFn 31 (fun (v : ((List XVariable) × XTable)) => [.ptr false ((cLs (cXVariable cS cI) rfl).enc v.1), .ptr false ((cXTable cI (cLs cI rfl) (cLs cI rfl) cI).enc v.2)]) true (fun _ => (im1 rfl (im1 rfl im0)))).enc (v1.1, v1.2)))] (by kernel_rfl) <|
    xn <| wpC_seq <| wpC_kp <| wpC_seq <| reg_s <| st rfl <| mvd rfl rfl <| stw rfl <| lens rfl fun l32 => st rfl <| mvc cI (0 : Int) rfl <| seqN [(0, .d ((cLs (cXTable cI (cLs cI rfl) (cLs cI rfl) cI) rfl).enc v0)), (1, .d ((cFn 31 (fun (v : ((List XVariable) × XTable)) => [.ptr false ((cLs (cXVariable cS cI) rfl).enc v.1), .ptr false ((cXTable cI (cLs cI rfl) (cLs cI rfl) cI).enc v.2)]) true (fun _ => (im1 rfl (im1 rfl im0)))).enc (v1.1, v1.2))), (7, .d (cI.enc (v0.length : Int))), (8, .d (cI.enc (0 : Int)))] (by kernel_rfl) <|
    xn <| wpC_blk <| lpR (fun (k34 : Nat) (s33 : Unit) => [(0, .d ((cLs (cXTable cI (cLs cI rfl) (cLs cI rfl) cI) rfl).enc v0)), (1, .d ((cFn 31 (fun (v : ((List XVariable) × XTable)) => [.ptr false ((cLs (cXVariable cS cI) rfl).enc v.1), .ptr false ((cXTable cI (cLs cI rfl) (cLs cI rfl) cI).enc v.2)]) true (fun _ => (im1 rfl (im1 rfl im0)))).enc (v1.1, v1.2))), (7, .d (cI.enc (v0.length : Int))), (8, .d (cI.enc (k34 : Int)))]) () rfl h
    (fun G50 s33 h => wpC_seq <| reg_s <| st rfl <| b_lss (k := .i64) rfl rfl <| seqN [(0, .d ((cLs (cXTable cI (cLs cI rfl) (cLs cI rfl) cI) rfl).enc v0)), (1, .d ((cFn 31 (fun (v : ((List XVariable) × XTable)) => [.ptr false ((cLs (cXVariable cS cI) rfl).enc v.1), .ptr false ((cXTable cI (cLs cI rfl) (cLs cI rfl) cI).enc v.2)]) true (fun _ => (im1 rfl (im1 rfl im0)))).enc (v1.1, v1.2))), (7, .d (cI.enc (v0.length : Int))), (8, .d (cI.enc (v0.length : Int))), (9, .d (cB.enc (decide ((v0.length : Int) < (v0.length : Int)))))] (by kernel_rfl) <|
    xn <| wpC_seq <| wpC_kp <| cnd0 rfl (dlf _) <| wpC_exit <| xt <| xt <| xt <| xb <| kpN [] (by kernel_rfl) <| xn <| wpC_seq <| reg_s <| x_asg (sc cI (-1 : Int) rfl) <| seqN [(4, .d (cI.enc (-1 : Int)))] (by kernel_rfl) <|
    xn <| wpC_ret <| re <| fin h (r1 (ss rfl rfl) <| r0) rfl)
    (fun G50 nx48 k34 s33 x35 hk36 hx37 hn49 h => wpC_seq <| reg_s <| st rfl <| b_lss (k := .i64) rfl rfl <| seqN [(0, .d ((cLs (cXTable cI (cLs cI rfl) (cLs cI rfl) cI) rfl).enc v0)), (1, .d ((cFn 31 (fun (v : ((List XVariable) × XTable)) => [.ptr false ((cLs (cXVariable cS cI) rfl).enc v.1), .ptr false ((cXTable cI (cLs cI rfl) (cLs cI rfl) cI).enc v.2)]) true (fun _ => (im1 rfl (im1 rfl im0)))).enc (v1.1, v1.2))), (7, .d (cI.enc (v0.length : Int))), (8, .d (cI.enc (k34 : Int))), (9, .d (cB.enc (decide ((k34 : Int) < (v0.length : Int)))))] (by kernel_rfl) <|
    xn <| wpC_seq <| wpC_kp <| cnd1 rfl (dlt hk36) <| wpC_skip <| kpN [(0, .d ((cLs (cXTable cI (cLs cI rfl) (cLs cI rfl) cI) rfl).enc v0)), (1, .d ((cFn 31 (fun (v : ((List XVariable) × XTable)) => [.ptr false ((cLs (cXVariable cS cI) rfl).enc v.1), .ptr false ((cXTable cI (cLs cI rfl) (cLs cI rfl) cI).enc v.2)]) true (fun _ => (im1 rfl (im1 rfl im0)))).enc (v1.1, v1.2))), (7, .d (cI.enc (v0.length : Int))), (8, .d (cI.enc (k34 : Int)))] (by kernel_rfl) <| xn <| wpC_seq <| wpC_kp <| wpC_blk <| wpC_seq <| reg_s <| st rfl <| mvd rfl rfl <| x_asg (ss rfl rfl) <| seqN [(0, .d ((cLs (cXTable cI (cLs cI rfl) (cLs cI rfl) cI) rfl).enc v0)), (1, .d ((cFn 31 (fun (v : ((List XVariable) × XTable)) => [.ptr false ((cLs (cXVariable cS cI) rfl).enc v.1), .ptr false ((cXTable cI (cLs cI rfl) (cLs cI rfl) cI).enc v.2)]) true (fun _ => (im1 rfl (im1 rfl im0)))).enc (v1.1, v1.2))), (5, .d (cI.enc (k34 : Int))), (7, .d (cI.enc (v0.length : Int))), (8, .d (cI.enc (k34 : Int)))] (by kernel_rfl) <|
    xn <| wpC_seq <| reg_s <| st rfl <| mvd rfl rfl <| st rfl <| mvd rfl rfl <| st rfl <| mvd rfl rfl <| st rfl <| ias rfl rfl (Int.natCast_nonneg _) hx37 rfl <| st rfl <| ldi rfl rfl rfl rfl <| bnd h fun x58 e59 h => x_cf (cFn 31 (fun (v : ((List XVariable) × XTable)) => [.ptr false ((cLs (cXVariable cS cI) rfl).enc v.1), .ptr false ((cXTable cI (cLs cI rfl) (cLs cI rfl) cI).enc v.2)]) true (fun _ => (im1 rfl (im1 rfl im0)))) (v1.1, v1.2) (fad rfl rfl) k0 (m2 (tXTable tK (tLs tK) (tLs tK) tK) rfl m0) rfl (con_impl_MergePlans_1 e59) (cls rfl (cls rfl cl0)) (so1 sB so0) <| seqN [(0, .d ((cLs (cXTable cI (cLs cI rfl) (cLs cI rfl) cI) rfl).enc v0)), (1, .d ((cFn 31 (fun (v : ((List XVariable) × XTable)) => [.ptr false ((cLs (cXVariable cS cI) rfl).enc v.1), .ptr false ((cXTable cI (cLs cI rfl) (cLs cI rfl) cI).enc v.2)]) true (fun _ => (im1 rfl (im1 rfl im0)))).enc (v1.1, v1.2))), (5, .d (cI.enc (k34 : Int))), (7, .d (cI.enc (v0.length : Int))), (8, .d (cI.enc (k34 : Int))), (16, .d (cB.enc x58))] (by kernel_rfl) <|
    xn <| cnd rfl h (fun b60 h => wpC_seq <| reg_s <| st rfl <| mvd rfl rfl <| x_asg (ss rfl rfl) <| seqN [(4, .d (cI.enc (k34 : Int)))] (by kernel_rfl) <|
    xn <| wpC_ret <| rb <| rt <| rt <| rt <| rb <| rt <| rt <| re <| fin h (r1 (ss rfl rfl) <| r0) rfl)
    (fun b60 h => wpC_skip <| xbb <| kpN [(0, .d ((cLs (cXTable cI (cLs cI rfl) (cLs cI rfl) cI) rfl).enc v0)), (1, .d ((cFn 31 (fun (v : ((List XVariable) × XTable)) => [.ptr false ((cLs (cXVariable cS cI) rfl).enc v.1), .ptr false ((cXTable cI (cLs cI rfl) (cLs cI rfl) cI).enc v.2)]) true (fun _ => (im1 rfl (im1 rfl im0)))).enc (v1.1, v1.2))), (7, .d (cI.enc (v0.length : Int))), (8, .d (cI.enc (k34 : Int)))] (by kernel_rfl) <| xn <| reg_s <| st rfl <| b_inc rfl rfl l32 hk36 <| st rfl <| mvd rfl rfl <| seqN [(0, .d ((cLs (cXTable cI (cLs cI rfl) (cLs cI rfl) cI) rfl).enc v0)), (1, .d ((cFn 31 (fun (v : ((List XVariable) × XTable)) => [.ptr false ((cLs (cXVariable cS cI) rfl).enc v.1), .ptr false ((cXTable cI (cLs cI rfl) (cLs cI rfl) cI).enc v.2)]) true (fun _ => (im1 rfl (im1 rfl im0)))).enc (v1.1, v1.2))), (7, .d (cI.enc (v0.length : Int))), (8, .d (cI.enc ((k34 + 1 : Nat) : Int)))] (by kernel_rfl) <|
    xn <| hn49 () h))

def rs_slices_ContainsFunc_impl_Table_impl_Table_impl_MergePlans_1 (r : Bool) : List D := [cB.enc r]
def m30_31 : MC := .seq (.reg [⟨some 4, .asg (.c (.bool false)), none⟩] [0, 1])
  (.seq (.reg [⟨some 5, .mv (.t 0), none⟩,
    ⟨some 6, .mv (.t 1), none⟩,
    ⟨some 7, .call 49 [(.t 5), (.t 6)], none⟩,
    ⟨some 8, .bin .geq (.t 7) (.c (.int .i64 0)), none⟩,
    ⟨some 4, .asg (.t 8), none⟩] [4])
  (.ret))
theorem con_slices_ContainsFunc_impl_Table_impl_Table_impl_MergePlans_1 {v0 : (List XTable)} {v1 : ((List XVariable) × XTable)} {r : Bool} (h : sh_slices_ContainsFunc_impl_Table_impl_Table_impl_MergePlans_1 v0 v1 = some r) : Con Try.prog 30 [(cLs (cXTable cI (cLs cI rfl) (cLs cI rfl) cI) rfl).enc v0, (cFn 31 (fun (v : ((List XVariable) × XTable)) => [.ptr false ((cLs (cXVariable cS cI) rfl).enc v.1), .ptr false ((cXTable cI (cLs cI rfl) (cLs cI rfl) cI).enc v.2)]) true (fun _ => (im1 rfl (im1 rfl im0)))).enc v1] [] (rs_slices_ContainsFunc_impl_Table_impl_Table_impl_MergePlans_1 r) := by
  delta sh_slices_ContainsFunc_impl_Table_impl_Table_impl_MergePlans_1 at h
  refine top (out := none) (f := Try.f30) (m := m30_31) (rs := [.t 4]) (by kernel_rfl) rfl (by kernel_rfl) (by kernel_rfl) (by kernel_rfl) (by kernel_rfl) (by kernel_rfl) ?_
  exact
   ini [(0, .d ((cLs (cXTable cI (cLs cI rfl) (cLs cI rfl) cI) rfl).enc v0)), (1, .d ((cFn 31 (fun (v : ((List XVariable) × XTable)) => [.ptr false ((cLs (cXVariable cS cI) rfl).enc v.1), .ptr false ((cXTable cI (cLs cI rfl) (cLs cI rfl) cI).enc v.2)]) true (fun _ => (im1 rfl (im1 rfl im0)))).enc (v1.1, v1.2)))] rfl <| wpC_seq <| reg_s <| x_asg (sc cB false rfl) <| seqN [(0, .d ((cLs (cXTable cI (cLs cI rfl) (cLs cI rfl) cI) rfl).enc v0)), (1, .d ((cFn 31 (fun (v : ((List XVariable) × XTable)) => [.ptr false ((cLs (cXVariable cS cI) rfl).enc v.1), .ptr false ((cXTable cI (cLs cI rfl) (cLs cI rfl) cI).enc v.2)]) true (fun _ => (im1 rfl (im1 rfl im0)))).enc (v1.1, v1.2)))] (by kernel_rfl) <|
    xn <| wpC_seq <| reg_s <| st rfl <| mvd rfl rfl <| st rfl <| mvd rfl rfl <| bnd h fun x3 e4 h => st rfl <| o_call (a1 (c := (cLs (cXTable cI (cLs cI rfl) (cLs cI rfl) cI) rfl)) (tLs (tXTable tK (tLs tK) (tLs tK) tK)) rfl (a1 (c := (cFn 31 (fun (v : ((List XVariable) × XTable)) => [.ptr false ((cLs (cXVariable cS cI) rfl).enc v.1), .ptr false ((cXTable cI (cLs cI rfl) (cLs cI rfl) cI).enc v.2)]) true (fun _ => (im1 rfl (im1 rfl im0))))) (tFn (fun _ => (ti1 (tLs (tXVariable tS tK)) (ti1 (tXTable tK (tLs tK) (tLs tK) tK) ti0)))) rfl a0)) (con_slices_IndexFunc_impl_Table_impl_Table_impl_MergePlans_1 e4) (.inl (so1 sK so0)) <| st rfl <| b_geq (k := .i64) rfl rfl <| x_asg (ss rfl rfl) <| seqN [(4, .d (cB.enc (decide ((0 : Int) ≤ x3))))] (by kernel_rfl) <|
    xn <| wpC_ret <| re <| fin h (r1 (ss rfl rfl) <| r0) rfl

def rs_impl_MergePlans (r : ((List XTable) × Bool)) : List D := [(cLo (cXTable cI (cLo cI) (cLo cI) cI)).enc r.1, cB.enc r.2]
def m11 : MC := .seq (.reg [⟨some 4, .box (.t 0), none⟩,
    ⟨some 5, .box (.t 1), none⟩,
    ⟨some 8, .asg (.c (.slice true [])), none⟩,
    ⟨some 9, .asg (.c (.bool false)), none⟩] [2, 3, 4, 5])
  (.fzb 5 (.seq (.kp [2, 3, 5] (.seq (.reg [⟨some 13, .ld 4 1 true, none⟩,
    ⟨some 14, .ld 5 1 false, none⟩,
    ⟨some 15, .mv (.t 2), none⟩,
    ⟨some 16, .call 28 [(.t 13), (.t 14), (.t 15)], none⟩,
    ⟨some 17, .nt (.t 16), none⟩,
    ⟨some 18, .mv (.t 17), none⟩,
    ⟨some 19, .ld 4 1 true, some (18, false)⟩,
    ⟨some 20, .ld 5 1 false, some (18, false)⟩,
    ⟨some 21, .mv (.t 3), some (18, false)⟩,
    ⟨some 22, .call 28 [(.t 19), (.t 20), (.t 21)], some (18, false)⟩,
    ⟨some 23, .nt (.t 22), some (18, false)⟩,
    ⟨some 24, .pick (.t 18) (.c (.bool true)) (.t 23), none⟩] [2, 3, 5, 24])
  (.cond (.t 24) (.seq (.reg [⟨some 8, .asg (.c (.slice true [])), none⟩,
    ⟨some 9, .asg (.c (.bool false)), none⟩] [8, 9])
  (.ret)) (.skip))))
  (.seq (.reg [⟨some 10, .asg (.c (.slice true [])), none⟩] [2, 3, 5, 10])
  (.seq (.kp [10] (.seq (.reg [⟨some 25, .mv (.t 2), none⟩,
    ⟨some 26, .mv (.t 3), none⟩,
    ⟨some 27, .bslf [(.t 25), (.t 26)] 1, none⟩,
    ⟨some 28, .call 29 [(.t 27)], none⟩,
    ⟨some 29, .len false (.t 28), none⟩,
    ⟨some 30, .mv (.c (.int .i64 0)), none⟩] [5, 10, 28, 29, 30])
  (.blk 0 (.loop (.seq (.reg [⟨some 31, .bin .lss (.t 30) (.t 29), none⟩] [5, 10, 28, 29, 30, 31])
  (.seq (.kp [5, 10, 28, 29, 30] (.cond (.t 31) (.skip) (.exit 0)))
  (.seq (.kp [5, 10, 28, 29, 30] (.blk 1 (.seq (.reg [⟨some 32, .ia 28 (.t 30) 4, none⟩,
    ⟨some 33, .ld 32 4 true, none⟩,
    ⟨some 12, .alloc (.agg [.int .i64 0, .slice true [], .slice true [], .int .i64 0]), none⟩,
    ⟨none, .st 12 (.t 33) 4, none⟩] [5, 10, 12, 28, 29, 30])
  (.seq (.reg [⟨some 34, .mv (.t 10), none⟩,
    ⟨some 35, .mkf 31 [(false, 5), (false, 12)], none⟩,
    ⟨some 36, .call 30 [(.t 34), (.t 35)], none⟩,
    ⟨some 37, .nt (.t 36), none⟩] [5, 10, 12, 28, 29, 30, 37])
  (.cond (.t 37) (.reg [⟨some 38, .mv (.t 10), none⟩,
    ⟨some 39, .ld 12 4 true, none⟩,
    ⟨some 40, .call 33 [(.t 39)], none⟩,
    ⟨some 41, .bsl [(.t 40)] 4, none⟩,
    ⟨some 42, .app (.t 38) (.t 41) 4, none⟩,
    ⟨some 10, .asg (.t 42), none⟩] [5, 10, 28, 29, 30]) (.skip))))))
  (.reg [⟨some 43, .bin .add (.t 30) (.c (.int .i64 1)), none⟩,
    ⟨some 30, .mv (.t 43), none⟩] [5, 10, 28, 29, 30]))))))))
  (.seq (.kp [10] (.seq (.reg [⟨some 44, .mv (.t 10), none⟩,
    ⟨some 45, .len false (.t 44), none⟩,
    ⟨some 46, .bin .gtr (.t 45) (.c (.int .i64 20)), none⟩] [10, 46])
  (.cond (.t 46) (.seq (.reg [⟨some 8, .asg (.c (.slice true [])), none⟩,
    ⟨some 9, .asg (.c (.bool false)), none⟩] [8, 9])
  (.ret)) (.skip))))
  (.seq (.reg [⟨some 47, .mv (.t 10), none⟩,
    ⟨some 8, .asg (.t 47), none⟩,
    ⟨some 9, .asg (.c (.bool true)), none⟩] [8, 9])
  (.ret)))))))
theorem con_impl_MergePlans {v0 : XGeo} {v1 : (List XVariable)} {v2 : (List XTable)} {v3 : (List XTable)} {r : ((List XTable) × Bool)} (h : sh_impl_MergePlans v0 v1 v2 v3 = some r) : Con Try.prog 11 [(cXGeo (cLs cI rfl)).enc v0, (cLs (cXVariable cS cI) rfl).enc v1, (cLs (cXTable cI (cLs cI rfl) (cLs cI rfl) cI) rfl).enc v2, (cLs (cXTable cI (cLs cI rfl) (cLs cI rfl) cI) rfl).enc v3] [] (rs_impl_MergePlans r) := by
  delta sh_impl_MergePlans at h
  refine top (out := none) (f := Try.f11) (m := m11) (rs := [.t 8, .t 9]) (by kernel_rfl) rfl (by kernel_rfl) (by kernel_rfl) (by kernel_rfl) (by kernel_rfl) (by kernel_rfl) ?_
  exact
   ini [(0, .d ((cXGeo (cLs cI rfl)).enc v0)), (1, .d ((cLs (cXVariable cS cI) rfl).enc v1)), (2, .d ((cLs (cXTable cI (cLs cI rfl) (cLs cI rfl) cI) rfl).enc v2)), (3, .d ((cLs (cXTable cI (cLs cI rfl) (cLs cI rfl) cI) rfl).enc v3))] rfl <| wpC_seq <| reg_s <| x_box (ss rfl rfl) <| x_box (ss rfl rfl) <| x_asg (sc (cLo (cXTable cI (cLo cI) (cLo cI) cI)) ([] : List XTable) rfl) <| x_asg (sc cB false rfl) <| seqN [(2, .d ((cLs (cXTable cI (cLs cI rfl) (cLs cI rfl) cI) rfl).enc v2)), (3, .d ((cLs (cXTable cI (cLs cI rfl) (cLs cI rfl) cI) rfl).enc v3)), (4, .box ((cXGeo (cLs cI rfl)).enc v0)), (5, .box ((cLs (cXVariable cS cI) rfl).enc v1))] (by kernel_rfl) <|
    xn <| fzb_s (tLs (tXVariable tS tK)) rfl <| wpC_seq <| wpC_kp <| wpC_seq <| reg_s <| st rfl <| ldb rfl rfl rfl rfl <| st rfl <| ldi rfl rfl rfl rfl <| st rfl <| mvd rfl rfl <| bnd h fun x17 e18 h => st rfl <| o_call (a1 (c := (cXGeo (cLs cI rfl))) (tXGeo (tLs tK)) rfl (a1 (c := (cLs (cXVariable cS cI) rfl)) (tLs (tXVariable tS tK)) rfl (a1 (c := (cLs (cXTable cI (cLs cI rfl) (cLs cI rfl) cI) rfl)) (tLs (tXTable tK (tLs tK) (tLs tK) tK)) rfl a0))) (con_impl_isPlan e18) (.inl (so1 sB so0)) <| st rfl <| o_nt rfl <| st rfl <| mvd rfl rfl <| ite_k h (fun b19 h => gf rfl b19 <| gf rfl b19 <| gf rfl b19 <| gf rfl b19 <| gf rfl b19 <| st rfl <| pick1 rfl b19 (cd := cB) (v := true) rfl rfl <| seqN [(2, .d ((cLs (cXTable cI (cLs cI rfl) (cLs cI rfl) cI) rfl).enc v2)), (3, .d ((cLs (cXTable cI (cLs cI rfl) (cLs cI rfl) cI) rfl).enc v3)), (5, .ima ((cLs (cXVariable cS cI) rfl).enc v1)), (24, .d (cB.enc true))] (by kernel_rfl) <|
    xn <| cnd1 rfl rfl <| wpC_seq <| reg_s <| x_asg (sc (cLo (cXTable cI (cLo cI) (cLo cI) cI)) ([] : List XTable) rfl) <| x_asg (sc cB false rfl) <| seqN [(8, .d ((cLo (cXTable cI (cLo cI) (cLo cI) cI)).enc ([] : List XTable))), (9, .d (cB.enc false))] (by kernel_rfl) <|
    xn <| wpC_ret <| rt <| rt <| re <| fin h (r1 (so rfl rfl) <| r1 (ss rfl rfl) <| r0) rfl)
    (fun b19 h => gt' rfl b19 <| st rfl <| ldb rfl rfl rfl rfl <| gt' rfl b19 <| st rfl <| ldi rfl rfl rfl rfl <| gt' rfl b19 <| st rfl <| mvd rfl rfl <| gt' rfl b19 <| bnd h fun x20 e21 h => st rfl <| o_call (a1 (c := (cXGeo (cLs cI rfl))) (tXGeo (tLs tK)) rfl (a1 (c := (cLs (cXVariable cS cI) rfl)) (tLs (tXVariable tS tK)) rfl (a1 (c := (cLs (cXTable cI (cLs cI rfl) (cLs cI rfl) cI) rfl)) (tLs (tXTable tK (tLs tK) (tLs tK) tK)) rfl a0))) (con_impl_isPlan e21) (.inl (so1 sB so0)) <| gt' rfl b19 <| st rfl <| o_nt rfl <| st rfl <| pick0 rfl b19 (cd := cB) (v := (!x20)) rfl rfl <| seqN [(2, .d ((cLs (cXTable cI (cLs cI rfl) (cLs cI rfl) cI) rfl).enc v2)), (3, .d ((cLs (cXTable cI (cLs cI rfl) (cLs cI rfl) cI) rfl).enc v3)), (5, .ima ((cLs (cXVariable cS cI) rfl).enc v1)), (24, .d (cB.enc (!x20)))] (by kernel_rfl) <|
    xn <| cnd rfl h (fun b22 h => wpC_seq <| reg_s <| x_asg (sc (cLo (cXTable cI (cLo cI) (cLo cI) cI)) ([] : List XTable) rfl) <| x_asg (sc cB false rfl) <| seqN [(8, .d ((cLo (cXTable cI (cLo cI) (cLo cI) cI)).enc ([] : List XTable))), (9, .d (cB.enc false))] (by kernel_rfl) <|
    xn <| wpC_ret <| rt <| rt <| re <| fin h (r1 (so rfl rfl) <| r1 (ss rfl rfl) <| r0) rfl)
    (fun b22 h => wpC_skip <| kpN [(2, .d ((cLs (cXTable cI (cLs cI rfl) (cLs cI rfl) cI) rfl).enc v2)), (3, .d ((cLs (cXTable cI (cLs cI rfl) (cLs cI rfl) cI) rfl).enc v3)), (5, .ima ((cLs (cXVariable cS cI) rfl).enc v1))] (by kernel_rfl) <| xn <| wpC_seq <| reg_s <| x_asg (sc (cLo (cXTable cI (cLo cI) (cLo cI) cI)) ([] : List XTable) rfl) <| seqN [(2, .d ((cLs (cXTable cI (cLs cI rfl) (cLs cI rfl) cI) rfl).enc v2)), (3, .d ((cLs (cXTable cI (cLs cI rfl) (cLs cI rfl) cI) rfl).enc v3)), (5, .ima ((cLs (cXVariable cS cI) rfl).enc v1)), (10, .d ((cLo (cXTable cI (cLo cI) (cLo cI) cI)).enc ([] : List XTable)))] (by kernel_rfl) <|
    xn <| wpC_seq <| wpC_kp <| wpC_seq <| reg_s <| st rfl <| mvd rfl rfl <| st rfl <| mvd rfl rfl <| x_bslf (cLs (cXTable cI (cLs cI rfl) (cLs cI rfl) cI) rfl) [v2, v3] (t1 (ss rfl rfl) rfl (t1 (ss rfl rfl) rfl t0)) rfl rfl (tLs (tXTable tK (tLs tK) (tLs tK) tK)) <| bnd h fun x88 e89 h => st rfl <| o_call (a1 (c := (cLs (cLs (cXTable cI (cLs cI rfl) (cLs cI rfl) cI) rfl) rfl)) (tLs (tLs (tXTable tK (tLs tK) (tLs tK) tK))) rfl a0) (con_slices_Concat_impl_Table_impl_Table e89) (.inr (hr1 rfl rfl hr0)) <| stw rfl <| lens rfl fun l90 => st rfl <| mvc cI (0 : Int) rfl <| seqN [(5, .ima ((cLs (cXVariable cS cI) rfl).enc v1)), (10, .d ((cLo (cXTable cI (cLo cI) (cLo cI) cI)).enc ([] : List XTable))), (28, .d ((cLs (cXTable cI (cLs cI rfl) (cLs cI rfl) cI) rfl).enc x88)), (29, .d (cI.enc (x88.length : Int))), (30, .d (cI.enc (0 : Int)))] (by kernel_rfl) <|
    xn <| wpC_blk <| lpR (fun (k92 : Nat) (s91 : (List XTable)) => [(5, .ima ((cLs (cXVariable cS cI) rfl).enc v1)), (10, .d ((cLo (cXTable cI (cLo cI) (cLo cI) cI)).enc s91)), (28, .d ((cLs (cXTable cI (cLs cI rfl) (cLs cI rfl) cI) rfl).enc x88)), (29, .d (cI.enc (x88.length : Int))), (30, .d (cI.enc (k92 : Int)))]) ([] : List XTable) rfl h
    (fun G130 s91 h => wpC_seq <| reg_s <| st rfl <| b_lss (k := .i64) rfl rfl <| seqN [(5, .ima ((cLs (cXVariable cS cI) rfl).enc v1)), (10, .d ((cLo (cXTable cI (cLo cI) (cLo cI) cI)).enc s91)), (28, .d ((cLs (cXTable cI (cLs cI rfl) (cLs cI rfl) cI) rfl).enc x88)), (29, .d (cI.enc (x88.length : Int))), (30, .d (cI.enc (x88.length : Int))), (31, .d (cB.enc (decide ((x88.length : Int) < (x88.length : Int)))))] (by kernel_rfl) <|
    xn <| wpC_seq <| wpC_kp <| cnd0 rfl (dlf _) <| wpC_exit <| xt <| xt <| xt <| xb <| kpN [(10, .d ((cLo (cXTable cI (cLo cI) (cLo cI) cI)).enc s91))] (by kernel_rfl) <| xn <| wpC_seq <| wpC_kp <| wpC_seq <| reg_s <| st rfl <| mvo rfl rfl <| stw rfl <| leno rfl fun l135 => st rfl <| b_gtr (k := .i64) rfl rfl <| seqN [(10, .d ((cLo (cXTable cI (cLo cI) (cLo cI) cI)).enc s91)), (46, .d (cB.enc (decide ((20 : Int) < (s91.length : Int)))))] (by kernel_rfl) <|
    xn <| cnd rfl h (fun b136 h => wpC_seq <| reg_s <| x_asg (sc (cLo (cXTable cI (cLo cI) (cLo cI) cI)) ([] : List XTable) rfl) <| x_asg (sc cB false rfl) <| seqN [(8, .d ((cLo (cXTable cI (cLo cI) (cLo cI) cI)).enc ([] : List XTable))), (9, .d (cB.enc false))] (by kernel_rfl) <|
    xn <| wpC_ret <| rt <| rt <| re <| fin h (r1 (so rfl rfl) <| r1 (ss rfl rfl) <| r0) rfl)
    (fun b136 h => wpC_skip <| kpN [(10, .d ((cLo (cXTable cI (cLo cI) (cLo cI) cI)).enc s91))] (by kernel_rfl) <| xn <| wpC_seq <| reg_s <| st rfl <| mvo rfl rfl <| x_asg (sr rfl rfl) <| x_asg (sc cB true rfl) <| seqN [(8, .d ((cLo (cXTable cI (cLo cI) (cLo cI) cI)).enc s91)), (9, .d (cB.enc true))] (by kernel_rfl) <|
    xn <| wpC_ret <| re <| fin h (r1 (so rfl rfl) <| r1 (ss rfl rfl) <| r0) rfl))
    (fun G130 nx128 k92 s91 x93 hk94 hx95 hn129 h => wpC_seq <| reg_s <| st rfl <| b_lss (k := .i64) rfl rfl <| seqN [(5, .ima ((cLs (cXVariable cS cI) rfl).enc v1)), (10, .d ((cLo (cXTable cI (cLo cI) (cLo cI) cI)).enc s91)), (28, .d ((cLs (cXTable cI (cLs cI rfl) (cLs cI rfl) cI) rfl).enc x88)), (29, .d (cI.enc (x88.length : Int))), (30, .d (cI.enc (k92 : Int))), (31, .d (cB.enc (decide ((k92 : Int) < (x88.length : Int)))))] (by kernel_rfl) <|
    xn <| wpC_seq <| wpC_kp <| cnd1 rfl (dlt hk94) <| wpC_skip <| kpN [(5, .ima ((cLs (cXVariable cS cI) rfl).enc v1)), (10, .d ((cLo (cXTable cI (cLo cI) (cLo cI) cI)).enc s91)), (28, .d ((cLs (cXTable cI (cLs cI rfl) (cLs cI rfl) cI) rfl).enc x88)), (29, .d (cI.enc (x88.length : Int))), (30, .d (cI.enc (k92 : Int)))] (by kernel_rfl) <| xn <| wpC_seq <| wpC_kp <| wpC_blk <| wpC_seq <| reg_s <| st rfl <| ias rfl rfl (Int.natCast_nonneg _) hx95 rfl <| st rfl <| ldi rfl rfl rfl rfl <| x_all (cXTable cI (cLo cI) (cLo cI) cI) (⟨(0 : Int), ([] : List Int), ([] : List Int), (0 : Int)⟩ : XTable) rfl <| x_stb (ss rfl rfl) rfl (Cd.h_sz _ _) rfl <| seqN [(5, .ima ((cLs (cXVariable cS cI) rfl).enc v1)), (10, .d ((cLo (cXTable cI (cLo cI) (cLo cI) cI)).enc s91)), (12, .box ((cXTable cI (cLs cI rfl) (cLs cI rfl) cI).enc x93)), (28, .d ((cLs (cXTable cI (cLs cI rfl) (cLs cI rfl) cI) rfl).enc x88)), (29, .d (cI.enc (x88.length : Int))), (30, .d (cI.enc (k92 : Int)))] (by kernel_rfl) <|
    xn <| wpC_seq <| reg_s <| st rfl <| mvo rfl rfl <| x_mkf (cFn 31 (fun (v : ((List XVariable) × XTable)) => [.ptr false ((cLs (cXVariable cS cI) rfl).enc v.1), .ptr false ((cXTable cI (cLs cI rfl) (cLs cI rfl) cI).enc v.2)]) true (fun _ => (im1 rfl (im1 rfl im0)))) (v1, x93) (cpi rfl (cps (tXTable tK (tLs tK) (tLs tK) tK) rfl cp0)) rfl rfl <| bnd h fun x147 e148 h => st rfl <| o_call (a1 (c := (cLo (cXTable cI (cLo cI) (cLo cI) cI))) (tLo (tXTable tK (tLo tK) (tLo tK) tK)) rfl (a1 (c := (cFn 31 (fun (v : ((List XVariable) × XTable)) => [.ptr false ((cLs (cXVariable cS cI) rfl).enc v.1), .ptr false ((cXTable cI (cLs cI rfl) (cLs cI rfl) cI).enc v.2)]) true (fun _ => (im1 rfl (im1 rfl im0))))) (tFn (fun _ => (ti1 (tLs (tXVariable tS tK)) (ti1 (tXTable tK (tLs tK) (tLs tK) tK) ti0)))) rfl a0)) (con_slices_ContainsFunc_impl_Table_impl_Table_impl_MergePlans_1 e148) (.inl (so1 sB so0)) <| st rfl <| o_nt rfl <| seqN [(5, .ima ((cLs (cXVariable cS cI) rfl).enc v1)), (10, .d ((cLo (cXTable cI (cLo cI) (cLo cI) cI)).enc s91)), (12, .ima ((cXTable cI (cLs cI rfl) (cLs cI rfl) cI).enc x93)), (28, .d ((cLs (cXTable cI (cLs cI rfl) (cLs cI rfl) cI) rfl).enc x88)), (29, .d (cI.enc (x88.length : Int))), (30, .d (cI.enc (k92 : Int))), (37, .d (cB.enc (!x147)))] (by kernel_rfl) <|
    xn <| cnd rfl h (fun b149 h => reg_s <| st rfl <| mvo rfl rfl <| st rfl <| ldi rfl rfl rfl rfl <| bnd h fun x150 e151 h => st rfl <| o_call (a1 (c := (cXTable cI (cLs cI rfl) (cLs cI rfl) cI)) (tXTable tK (tLs tK) (tLs tK) tK) rfl a0) (con_impl_copyTable e151) (.inl (so1 (sXTable sK (sLo sK) (sLo sK) sK) so0)) <| x_bsl (cXTable cI (cLo cI) (cLo cI) cI) [x150] (t1 (so rfl rfl) rfl t0) rfl rfl <| lnO_k h fun l152 h => x_app (sr rfl rfl) (to1 rfl rfl) l152 rfl <| x_asg (so rfl rfl) <| seqN [(5, .ima ((cLs (cXVariable cS cI) rfl).enc v1)), (10, .d ((cLo (cXTable cI (cLo cI) (cLo cI) cI)).enc (s91 ++ [x150]))), (28, .d ((cLs (cXTable cI (cLs cI rfl) (cLs cI rfl) cI) rfl).enc x88)), (29, .d (cI.enc (x88.length : Int))), (30, .d (cI.enc (k92 : Int)))] (by kernel_rfl) <|
    xbb <| kpN [(5, .ima ((cLs (cXVariable cS cI) rfl).enc v1)), (10, .d ((cLo (cXTable cI (cLo cI) (cLo cI) cI)).enc (s91 ++ [x150]))), (28, .d ((cLs (cXTable cI (cLs cI rfl) (cLs cI rfl) cI) rfl).enc x88)), (29, .d (cI.enc (x88.length : Int))), (30, .d (cI.enc (k92 : Int)))] (by kernel_rfl) <| xn <| reg_s <| st rfl <| b_inc rfl rfl l90 hk94 <| st rfl <| mvd rfl rfl <| seqN [(5, .ima ((cLs (cXVariable cS cI) rfl).enc v1)), (10, .d ((cLo (cXTable cI (cLo cI) (cLo cI) cI)).enc (s91 ++ [x150]))), (28, .d ((cLs (cXTable cI (cLs cI rfl) (cLs cI rfl) cI) rfl).enc x88)), (29, .d (cI.enc (x88.length : Int))), (30, .d (cI.enc ((k92 + 1 : Nat) : Int)))] (by kernel_rfl) <|
    xn <| hn129 (s91 ++ [x150]) h)
    (fun b149 h => wpC_skip <| xbb <| kpN [(5, .ima ((cLs (cXVariable cS cI) rfl).enc v1)), (10, .d ((cLo (cXTable cI (cLo cI) (cLo cI) cI)).enc s91)), (28, .d ((cLs (cXTable cI (cLs cI rfl) (cLs cI rfl) cI) rfl).enc x88)), (29, .d (cI.enc (x88.length : Int))), (30, .d (cI.enc (k92 : Int)))] (by kernel_rfl) <| xn <| reg_s <| st rfl <| b_inc rfl rfl l90 hk94 <| st rfl <| mvd rfl rfl <| seqN [(5, .ima ((cLs (cXVariable cS cI) rfl).enc v1)), (10, .d ((cLo (cXTable cI (cLo cI) (cLo cI) cI)).enc s91)), (28, .d ((cLs (cXTable cI (cLs cI rfl) (cLs cI rfl) cI) rfl).enc x88)), (29, .d (cI.enc (x88.length : Int))), (30, .d (cI.enc ((k92 + 1 : Nat) : Int)))] (by kernel_rfl) <|
    xn <| hn129 s91 h))))

def rs_laws_eqIntS (r : Bool) : List D := [cB.enc r]
def m35 : MC := .seq (.reg [⟨some 4, .asg (.c (.bool false)), none⟩] [0, 1])
  (.seq (.kp [0, 1] (.seq (.reg [⟨some 6, .mv (.t 0), none⟩,
    ⟨some 7, .len false (.t 6), none⟩,
    ⟨some 8, .mv (.t 1), none⟩,
    ⟨some 9, .len false (.t 8), none⟩,
    ⟨some 10, .bin .neq (.t 7) (.t 9), none⟩] [0, 1, 10])
  (.cond (.t 10) (.seq (.reg [⟨some 4, .asg (.c (.bool false)), none⟩] [4])
  (.ret)) (.skip))))
  (.seq (.kp [] (.seq (.reg [⟨some 5, .asg (.c (.int .i64 0)), none⟩] [0, 1, 5])
  (.blk 0 (.loop (.seq (.kp [0, 1, 5] (.seq (.reg [⟨some 11, .mv (.t 5), none⟩,
    ⟨some 12, .mv (.t 0), none⟩,
    ⟨some 13, .len false (.t 12), none⟩,
    ⟨some 14, .bin .lss (.t 11) (.t 13), none⟩] [0, 1, 5, 14])
  (.cond (.t 14) (.skip) (.exit 0))))
  (.seq (.kp [0, 1, 5] (.blk 1 (.seq (.drw [⟨0, ⟨some 17, .mv (.t 0), none⟩, [18, 19, 20, 21, 22, 23, 24, 25]⟩,
    ⟨1, ⟨some 18, .mv (.t 5), none⟩, [17, 19, 20, 21, 22, 23, 24, 25]⟩,
    ⟨2, ⟨some 19, .ia 17 (.t 18) 1, none⟩, [20, 21, 22, 23, 24, 25]⟩,
    ⟨3, ⟨some 20, .ld 19 1 false, none⟩, [21, 22, 23, 24, 25]⟩,
    ⟨4, ⟨some 21, .mv (.t 1), none⟩, [17, 18, 19, 20, 22, 23, 24, 25]⟩,
    ⟨5, ⟨some 22, .mv (.t 5), none⟩, [17, 18, 19, 20, 21, 23, 24, 25]⟩,
    ⟨6, ⟨some 23, .ia 21 (.t 22) 1, none⟩, [17, 18, 19, 20, 24, 25]⟩,
    ⟨7, ⟨some 24, .ld 23 1 false, none⟩, [17, 18, 19, 20, 25]⟩,
    ⟨8, ⟨some 25, .bin .neq (.t 20) (.t 24), none⟩, []⟩]
    [] [0, 1, 5, 25])
  (.cond (.t 25) (.seq (.reg [⟨some 4, .asg (.c (.bool false)), none⟩] [4])
  (.ret)) (.skip)))))
  (.reg [⟨some 15, .mv (.t 5), none⟩,
    ⟨some 16, .bin .add (.t 15) (.c (.int .i64 1)), none⟩,
    ⟨some 5, .asg (.t 16), none⟩] [0, 1, 5])))))))
  (.seq (.reg [⟨some 4, .asg (.c (.bool true)), none⟩] [4])
  (.ret))))
theorem con_laws_eqIntS {v0 : (List Int)} {v1 : (List Int)} {r : Bool} (h : sh_laws_eqIntS v0 v1 = some r) : Con Try.prog 35 [(cLs cI rfl).enc v0, (cLs cI rfl).enc v1] [] (rs_laws_eqIntS r) := by
  delta sh_laws_eqIntS at h
  refine top (out := none) (f := Try.f35) (m := m35) (rs := [.t 4]) (by kernel_rfl) rfl (by kernel_rfl) (by kernel_rfl) (by kernel_rfl) (by kernel_rfl) (by kernel_rfl) ?_
  exact
   ini [(0, .d ((cLs cI rfl).enc v0)), (1, .d ((cLs cI rfl).enc v1))] rfl <| wpC_seq <| reg_s <| x_asg (sc cB false rfl) <| seqN [(0, .d ((cLs cI rfl).enc v0)), (1, .d ((cLs cI rfl).enc v1))] (by kernel_rfl) <|
    xn <| wpC_seq <| wpC_kp <| wpC_seq <| reg_s <| st rfl <| mvd rfl rfl <| stw rfl <| lens rfl fun l8 => st rfl <| mvd rfl rfl <| stw rfl <| lens rfl fun l9 => st rfl <| b_neq (k := .i64) rfl rfl <| seqN [(0, .d ((cLs cI rfl).enc v0)), (1, .d ((cLs cI rfl).enc v1)), (10, .d (cB.enc (decide ((v0.length : Int) ≠ (v1.length : Int)))))] (by kernel_rfl) <|
    xn <| cnd rfl h (fun b10 h => wpC_seq <| reg_s <| x_asg (sc cB false rfl) <| seqN [(4, .d (cB.enc false))] (by kernel_rfl) <|
    xn <| wpC_ret <| rt <| rt <| re <| fin h (r1 (ss rfl rfl) <| r0) rfl)
    (fun b10 h => wpC_skip <| kpN [(0, .d ((cLs cI rfl).enc v0)), (1, .d ((cLs cI rfl).enc v1))] (by kernel_rfl) <| xn <| wpC_seq <| wpC_kp <| wpC_seq <| reg_s <| x_asg (sc cI (0 : Int) rfl) <| seqN [(0, .d ((cLs cI rfl).enc v0)), (1, .d ((cLs cI rfl).enc v1)), (5, .d (cI.enc (0 : Int)))] (by kernel_rfl) <|
    xn <| wpC_blk <| lpF (fun (s118 : Int) => [(0, .d ((cLs cI rfl).enc v0)), (1, .d ((cLs cI rfl).enc v1)), (5, .d (cI.enc s118))]) (0 : Int) rfl h
    fun G191 nx189 s118 hn190 h => wpC_seq <| wpC_kp <| wpC_seq <| reg_s <| st rfl <| mvd rfl rfl <| st rfl <| mvd rfl rfl <| stw rfl <| lens rfl fun l196 => st rfl <| b_lss (k := .i64) rfl rfl <| seqN [(0, .d ((cLs cI rfl).enc v0)), (1, .d ((cLs cI rfl).enc v1)), (5, .d (cI.enc s118)), (14, .d (cB.enc (decide (s118 < (v0.length : Int)))))] (by kernel_rfl) <|
    xn <| cnd rfl h (fun b197 h => wpC_skip <| kpN [(0, .d ((cLs cI rfl).enc v0)), (1, .d ((cLs cI rfl).enc v1)), (5, .d (cI.enc s118))] (by kernel_rfl) <| xn <| wpC_seq <| wpC_kp <| wpC_blk <| wpC_seq <| drw_s <| pst rfl <| mvd rfl rfl ⟨rfl, pst rfl <| mvd rfl rfl ⟨rfl, getO_kp h fun x217 i218 g219 h => pst rfl <| ias rfl rfl i218 g219 rfl ⟨rfl, pst rfl <| ldi rfl rfl rfl rfl ⟨rfl, pst rfl <| mvd rfl rfl ⟨rfl, pst rfl <| mvd rfl rfl ⟨rfl, getO_kp h fun x220 i221 g222 h => pst rfl <| ias rfl rfl i221 g222 rfl ⟨rfl, pst rfl <| ldi rfl rfl rfl rfl ⟨rfl, pst rfl <| b_neq (k := .i64) rfl rfl ⟨rfl, preN <| seqN [(0, .d ((cLs cI rfl).enc v0)), (1, .d ((cLs cI rfl).enc v1)), (5, .d (cI.enc s118)), (25, .d (cB.enc (decide (x217 ≠ x220))))] (by kernel_rfl) <|
    xn <| cnd rfl h (fun b223 h => wpC_seq <| reg_s <| x_asg (sc cB false rfl) <| seqN [(4, .d (cB.enc false))] (by kernel_rfl) <|
    xn <| wpC_ret <| rb <| rt <| rt <| rt <| rb <| rt <| rt <| re <| fin h (r1 (ss rfl rfl) <| r0) rfl)
    (fun b223 h => wpC_skip <| xbb <| kpN [(0, .d ((cLs cI rfl).enc v0)), (1, .d ((cLs cI rfl).enc v1)), (5, .d (cI.enc s118))] (by kernel_rfl) <| xn <| reg_s <| st rfl <| mvd rfl rfl <| ckI_k h fun i224 h => st rfl <| b_add (k := .i64) rfl rfl i224 <| x_asg (ss rfl rfl) <| seqN [(0, .d ((cLs cI rfl).enc v0)), (1, .d ((cLs cI rfl).enc v1)), (5, .d (cI.enc (s118 + (1 : Int))))] (by kernel_rfl) <|
    xn <| hn190 (s118 + (1 : Int)) h)⟩⟩⟩⟩⟩⟩⟩⟩⟩)
    (fun b197 h => wpC_exit <| xt <| xt <| xt <| xb <| kpN [] (by kernel_rfl) <| xn <| wpC_seq <| reg_s <| x_asg (sc cB true rfl) <| seqN [(4, .d (cB.enc true))] (by kernel_rfl) <|
    xn <| wpC_ret <| re <| fin h (r1 (ss rfl rfl) <| r0) rfl))

def rs_laws_eqTable (r : Bool) : List D := [cB.enc r]
def m34 : MC := .seq (.reg [⟨some 2, .box (.t 0), none⟩,
    ⟨some 3, .box (.t 1), none⟩,
    ⟨some 4, .asg (.c (.bool false)), none⟩] [2, 3])
  (.seq (.kp [2, 3] (.seq (.reg [⟨some 5, .fa 2 0 0, none⟩,
    ⟨some 6, .ld 5 1 false, none⟩,
    ⟨some 7, .fa 3 0 0, none⟩,
    ⟨some 8, .ld 7 1 false, none⟩,
    ⟨some 9, .bin .neq (.t 6) (.t 8), none⟩] [2, 3, 9])
  (.cond (.t 9) (.seq (.reg [⟨some 4, .asg (.c (.bool false)), none⟩] [4])
  (.ret)) (.skip))))
  (.seq (.kp [2, 3] (.seq (.reg [⟨some 10, .fa 2 1 1, none⟩,
    ⟨some 11, .ld 10 1 false, none⟩,
    ⟨some 12, .fa 3 1 1, none⟩,
    ⟨some 13, .ld 12 1 false, none⟩,
    ⟨some 14, .call 35 [(.t 11), (.t 13)], none⟩,
    ⟨some 15, .nt (.t 14), none⟩] [2, 3, 15])
  (.cond (.t 15) (.seq (.reg [⟨some 4, .asg (.c (.bool false)), none⟩] [4])
  (.ret)) (.skip))))
  (.seq (.kp [2, 3] (.seq (.reg [⟨some 16, .fa 2 2 2, none⟩,
    ⟨some 17, .ld 16 1 false, none⟩,
    ⟨some 18, .fa 3 2 2, none⟩,
    ⟨some 19, .ld 18 1 false, none⟩,
    ⟨some 20, .call 35 [(.t 17), (.t 19)], none⟩,
    ⟨some 21, .nt (.t 20), none⟩] [2, 3, 21])
  (.cond (.t 21) (.seq (.reg [⟨some 4, .asg (.c (.bool false)), none⟩] [4])
  (.ret)) (.skip))))
  (.seq (.kp [] (.seq (.reg [⟨some 22, .fa 2 3 3, none⟩,
    ⟨some 23, .ld 22 1 false, none⟩,
    ⟨some 24, .fa 3 3 3, none⟩,
    ⟨some 25, .ld 24 1 false, none⟩,
    ⟨some 26, .bin .neq (.t 23) (.t 25), none⟩] [26])
  (.cond (.t 26) (.seq (.reg [⟨some 4, .asg (.c (.bool false)), none⟩] [4])
  (.ret)) (.skip))))
  (.seq (.reg [⟨some 4, .asg (.c (.bool true)), none⟩] [4])
  (.ret))))))
theorem con_laws_eqTable {v0 : XTable} {v1 : XTable} {r : Bool} (h : sh_laws_eqTable v0 v1 = some r) : Con Try.prog 34 [(cXTable cI (cLs cI rfl) (cLs cI rfl) cI).enc v0, (cXTable cI (cLs cI rfl) (cLs cI rfl) cI).enc v1] [] (rs_laws_eqTable r) := by
  delta sh_laws_eqTable at h
  refine top (out := none) (f := Try.f34) (m := m34) (rs := [.t 4]) (by kernel_rfl) rfl (by kernel_rfl) (by kernel_rfl) (by kernel_rfl) (by kernel_rfl) (by kernel_rfl) ?_
  exact
   ini [(0, .d ((cXTable cI (cLs cI rfl) (cLs cI rfl) cI).enc v0)), (1, .d ((cXTable cI (cLs cI rfl) (cLs cI rfl) cI).enc v1))] rfl <| wpC_seq <| reg_s <| x_box (ss rfl rfl) <| x_box (ss rfl rfl) <| x_asg (sc cB false rfl) <| seqN [(2, .box ((cXTable cI (cLs cI rfl) (cLs cI rfl) cI).enc v0)), (3, .box ((cXTable cI (cLs cI rfl) (cLs cI rfl) cI).enc v1))] (by kernel_rfl) <|
    xn <| wpC_seq <| wpC_kp <| wpC_seq <| reg_s <| st rfl <| fab rfl rfl rfl rfl <| st rfl <| lda rfl rfl rfl rfl rfl rfl <| st rfl <| fab rfl rfl rfl rfl <| st rfl <| lda rfl rfl rfl rfl rfl rfl <| st rfl <| b_neq (k := .i64) rfl rfl <| seqN [(2, .box ((cXTable cI (cLs cI rfl) (cLs cI rfl) cI).enc v0)), (3, .box ((cXTable cI (cLs cI rfl) (cLs cI rfl) cI).enc v1)), (9, .d (cB.enc (decide (v0.Level ≠ v1.Level))))] (by kernel_rfl) <|
    xn <| cnd rfl h (fun b2 h => wpC_seq <| reg_s <| x_asg (sc cB false rfl) <| seqN [(4, .d (cB.enc false))] (by kernel_rfl) <|
    xn <| wpC_ret <| rt <| rt <| re <| fin h (r1 (ss rfl rfl) <| r0) rfl)
    (fun b2 h => wpC_skip <| kpN [(2, .box ((cXTable cI (cLs cI rfl) (cLs cI rfl) cI).enc v0)), (3, .box ((cXTable cI (cLs cI rfl) (cLs cI rfl) cI).enc v1))] (by kernel_rfl) <| xn <| wpC_seq <| wpC_kp <| wpC_seq <| reg_s <| st rfl <| fab rfl rfl rfl rfl <| st rfl <| lda rfl rfl rfl rfl rfl rfl <| st rfl <| fab rfl rfl rfl rfl <| st rfl <| lda rfl rfl rfl rfl rfl rfl <| bnd h fun x10 e11 h => st rfl <| o_call (a1 (c := (cLs cI rfl)) (tLs tK) rfl (a1 (c := (cLs cI rfl)) (tLs tK) rfl a0)) (con_laws_eqIntS e11) (.inl (so1 sB so0)) <| st rfl <| o_nt rfl <| seqN [(2, .box ((cXTable cI (cLs cI rfl) (cLs cI rfl) cI).enc v0)), (3, .box ((cXTable cI (cLs cI rfl) (cLs cI rfl) cI).enc v1)), (15, .d (cB.enc (!x10)))] (by kernel_rfl) <|
    xn <| cnd rfl h (fun b12 h => wpC_seq <| reg_s <| x_asg (sc cB false rfl) <| seqN [(4, .d (cB.enc false))] (by kernel_rfl) <|
    xn <| wpC_ret <| rt <| rt <| re <| fin h (r1 (ss rfl rfl) <| r0) rfl)
    (fun b12 h => wpC_skip <| kpN [(2, .box ((cXTable cI (cLs cI rfl) (cLs cI rfl) cI).enc v0)), (3, .box ((cXTable cI (cLs cI rfl) (cLs cI rfl) cI).enc v1))] (by kernel_rfl) <| xn <| wpC_seq <| wpC_kp <| wpC_seq <| reg_s <| st rfl <| fab rfl rfl rfl rfl <| st rfl <| lda rfl rfl rfl rfl rfl rfl <| st rfl <| fab rfl rfl rfl rfl <| st rfl <| lda rfl rfl rfl rfl rfl rfl <| bnd h fun x20 e21 h => st rfl <| o_call (a1 (c := (cLs cI rfl)) (tLs tK) rfl (a1 (c := (cLs cI rfl)) (tLs tK) rfl a0)) (con_laws_eqIntS e21) (.inl (so1 sB so0)) <| st rfl <| o_nt rfl <| seqN [(2, .box ((cXTable cI (cLs cI rfl) (cLs cI rfl) cI).enc v0)), (3, .box ((cXTable cI (cLs cI rfl) (cLs cI rfl) cI).enc v1)), (21, .d (cB.enc (!x20)))] (by kernel_rfl) <|
    xn <| cnd rfl h (fun b22 h => wpC_seq <| reg_s <| x_asg (sc cB false rfl) <| seqN [(4, .d (cB.enc false))] (by kernel_rfl) <|
    xn <| wpC_ret <| rt <| rt <| re <| fin h (r1 (ss rfl rfl) <| r0) rfl)
    (fun b22 h => wpC_skip <| kpN [(2, .box ((cXTable cI (cLs cI rfl) (cLs cI rfl) cI).enc v0)), (3, .box ((cXTable cI (cLs cI rfl) (cLs cI rfl) cI).enc v1))] (by kernel_rfl) <| xn <| wpC_seq <| wpC_kp <| wpC_seq <| reg_s <| st rfl <| fab rfl rfl rfl rfl <| st rfl <| lda rfl rfl rfl rfl rfl rfl <| st rfl <| fab rfl rfl rfl rfl <| st rfl <| lda rfl rfl rfl rfl rfl rfl <| st rfl <| b_neq (k := .i64) rfl rfl <| seqN [(26, .d (cB.enc (decide (v0.Sum ≠ v1.Sum))))] (by kernel_rfl) <|
    xn <| cnd rfl h (fun b24 h => wpC_seq <| reg_s <| x_asg (sc cB false rfl) <| seqN [(4, .d (cB.enc false))] (by kernel_rfl) <|
    xn <| wpC_ret <| rt <| rt <| re <| fin h (r1 (ss rfl rfl) <| r0) rfl)
    (fun b24 h => wpC_skip <| kpN [] (by kernel_rfl) <| xn <| wpC_seq <| reg_s <| x_asg (sc cB true rfl) <| seqN [(4, .d (cB.enc true))] (by kernel_rfl) <|
    xn <| wpC_ret <| re <| fin h (r1 (ss rfl rfl) <| r0) rfl))))

def rs_laws_eqTableS (r : Bool) : List D := [cB.enc r]
def m12 : MC := .seq (.reg [⟨some 4, .asg (.c (.bool false)), none⟩] [0, 1])
  (.seq (.kp [0, 1] (.seq (.reg [⟨some 6, .mv (.t 0), none⟩,
    ⟨some 7, .len false (.t 6), none⟩,
    ⟨some 8, .mv (.t 1), none⟩,
    ⟨some 9, .len false (.t 8), none⟩,
    ⟨some 10, .bin .neq (.t 7) (.t 9), none⟩] [0, 1, 10])
  (.cond (.t 10) (.seq (.reg [⟨some 4, .asg (.c (.bool false)), none⟩] [4])
  (.ret)) (.skip))))
  (.seq (.kp [] (.seq (.reg [⟨some 5, .asg (.c (.int .i64 0)), none⟩] [0, 1, 5])
  (.blk 0 (.loop (.seq (.kp [0, 1, 5] (.seq (.reg [⟨some 11, .mv (.t 5), none⟩,
    ⟨some 12, .mv (.t 0), none⟩,
    ⟨some 13, .len false (.t 12), none⟩,
    ⟨some 14, .bin .lss (.t 11) (.t 13), none⟩] [0, 1, 5, 14])
  (.cond (.t 14) (.skip) (.exit 0))))
  (.seq (.kp [0, 1, 5] (.blk 1 (.seq (.drw [⟨0, ⟨some 17, .mv (.t 0), none⟩, [18, 19, 20, 21, 22, 23, 24, 25, 26]⟩,
    ⟨1, ⟨some 18, .mv (.t 5), none⟩, [17, 19, 20, 21, 22, 23, 24, 25, 26]⟩,
    ⟨2, ⟨some 19, .ia 17 (.t 18) 4, none⟩, [20, 21, 22, 23, 24, 25, 26]⟩,
    ⟨3, ⟨some 20, .ld 19 4 true, none⟩, [21, 22, 23, 24, 25, 26]⟩,
    ⟨4, ⟨some 21, .mv (.t 1), none⟩, [17, 18, 19, 20, 22, 23, 24, 25, 26]⟩,
    ⟨5, ⟨some 22, .mv (.t 5), none⟩, [17, 18, 19, 20, 21, 23, 24, 25, 26]⟩,
    ⟨6, ⟨some 23, .ia 21 (.t 22) 4, none⟩, [17, 18, 19, 20, 24, 25, 26]⟩,
    ⟨7, ⟨some 24, .ld 23 4 true, none⟩, [17, 18, 19, 20, 25, 26]⟩,
    ⟨8, ⟨some 25, .call 34 [(.t 20), (.t 24)], none⟩, [26]⟩,
    ⟨9, ⟨some 26, .nt (.t 25), none⟩, []⟩]
    [] [0, 1, 5, 26])
  (.cond (.t 26) (.seq (.reg [⟨some 4, .asg (.c (.bool false)), none⟩] [4])
  (.ret)) (.skip)))))
  (.reg [⟨some 15, .mv (.t 5), none⟩,
    ⟨some 16, .bin .add (.t 15) (.c (.int .i64 1)), none⟩,
    ⟨some 5, .asg (.t 16), none⟩] [0, 1, 5])))))))
  (.seq (.reg [⟨some 4, .asg (.c (.bool true)), none⟩] [4])
  (.ret))))
theorem con_laws_eqTableS {v0 : (List XTable)} {v1 : (List XTable)} {r : Bool} (h : sh_laws_eqTableS v0 v1 = some r) : Con Try.prog 12 [(cLs (cXTable cI (cLs cI rfl) (cLs cI rfl) cI) rfl).enc v0, (cLs (cXTable cI (cLs cI rfl) (cLs cI rfl) cI) rfl).enc v1] [] (rs_laws_eqTableS r) := by
  delta sh_laws_eqTableS at h
  refine top (out := none) (f := Try.f12) (m := m12) (rs := [.t 4]) (by kernel_rfl) rfl (by kernel_rfl) (by kernel_rfl) (by kernel_rfl) (by kernel_rfl) (by kernel_rfl) ?_
  exact
   ini [(0, .d ((cLs (cXTable cI (cLs cI rfl) (cLs cI rfl) cI) rfl).enc v0)), (1, .d ((cLs (cXTable cI (cLs cI rfl) (cLs cI rfl) cI) rfl).enc v1))] rfl <| wpC_seq <| reg_s <| x_asg (sc cB false rfl) <| seqN [(0, .d ((cLs (cXTable cI (cLs cI rfl) (cLs cI rfl) cI) rfl).enc v0)), (1, .d ((cLs (cXTable cI (cLs cI rfl) (cLs cI rfl) cI) rfl).enc v1))] (by kernel_rfl) <|
    xn <| wpC_seq <| wpC_kp <| wpC_seq <| reg_s <| st rfl <| mvd rfl rfl <| stw rfl <| lens rfl fun l8 => st rfl <| mvd rfl rfl <| stw rfl <| lens rfl fun l9 => st rfl <| b_neq (k := .i64) rfl rfl <| seqN [(0, .d ((cLs (cXTable cI (cLs cI rfl) (cLs cI rfl) cI) rfl).enc v0)), (1, .d ((cLs (cXTable cI (cLs cI rfl) (cLs cI rfl) cI) rfl).enc v1)), (10, .d (cB.enc (decide ((v0.length : Int) ≠ (v1.length : Int)))))] (by kernel_rfl) <|
    xn <| cnd rfl h (fun b10 h => wpC_seq <| reg_s <| x_asg (sc cB false rfl) <| seqN [(4, .d (cB.enc false))] (by kernel_rfl) <|
    xn <| wpC_ret <| rt <| rt <| re <| fin h (r1 (ss rfl rfl) <| r0) rfl)
    (fun b10 h => wpC_skip <| kpN [(0, .d ((cLs (cXTable cI (cLs cI rfl) (cLs cI rfl) cI) rfl).enc v0)), (1, .d ((cLs (cXTable cI (cLs cI rfl) (cLs cI rfl) cI) rfl).enc v1))] (by kernel_rfl) <| xn <| wpC_seq <| wpC_kp <| wpC_seq <| reg_s <| x_asg (sc cI (0 : Int) rfl) <| seqN [(0, .d ((cLs (cXTable cI (cLs cI rfl) (cLs cI rfl) cI) rfl).enc v0)), (1, .d ((cLs (cXTable cI (cLs cI rfl) (cLs cI rfl) cI) rfl).enc v1)), (5, .d (cI.enc (0 : Int)))] (by kernel_rfl) <|
    xn <| wpC_blk <| lpF (fun (s142 : Int) => [(0, .d ((cLs (cXTable cI (cLs cI rfl) (cLs cI rfl) cI) rfl).enc v0)), (1, .d ((cLs (cXTable cI (cLs cI rfl) (cLs cI rfl) cI) rfl).enc v1)), (5, .d (cI.enc s142))]) (0 : Int) rfl h
    fun G231 nx229 s142 hn230 h => wpC_seq <| wpC_kp <| wpC_seq <| reg_s <| st rfl <| mvd rfl rfl <| st rfl <| mvd rfl rfl <| stw rfl <| lens rfl fun l236 => st rfl <| b_lss (k := .i64) rfl rfl <| seqN [(0, .d ((cLs (cXTable cI (cLs cI rfl) (cLs cI rfl) cI) rfl).enc v0)), (1, .d ((cLs (cXTable cI (cLs cI rfl) (cLs cI rfl) cI) rfl).enc v1)), (5, .d (cI.enc s142)), (14, .d (cB.enc (decide (s142 < (v0.length : Int)))))] (by kernel_rfl) <|
    xn <| cnd rfl h (fun b237 h => wpC_skip <| kpN [(0, .d ((cLs (cXTable cI (cLs cI rfl) (cLs cI rfl) cI) rfl).enc v0)), (1, .d ((cLs (cXTable cI (cLs cI rfl) (cLs cI rfl) cI) rfl).enc v1)), (5, .d (cI.enc s142))] (by kernel_rfl) <| xn <| wpC_seq <| wpC_kp <| wpC_blk <| wpC_seq <| drw_s <| pst rfl <| mvd rfl rfl ⟨rfl, pst rfl <| mvd rfl rfl ⟨rfl, getO_kp h fun x263 i264 g265 h => pst rfl <| ias rfl rfl i264 g265 rfl ⟨rfl, pst rfl <| ldi rfl rfl rfl rfl ⟨rfl, pst rfl <| mvd rfl rfl ⟨rfl, pst rfl <| mvd rfl rfl ⟨rfl, getO_kp h fun x266 i267 g268 h => pst rfl <| ias rfl rfl i267 g268 rfl ⟨rfl, pst rfl <| ldi rfl rfl rfl rfl ⟨rfl, bndp h fun x269 e270 h => pst rfl <| o_call (a1 (c := (cXTable cI (cLs cI rfl) (cLs cI rfl) cI)) (tXTable tK (tLs tK) (tLs tK) tK) rfl (a1 (c := (cXTable cI (cLs cI rfl) (cLs cI rfl) cI)) (tXTable tK (tLs tK) (tLs tK) tK) rfl a0)) (con_laws_eqTable e270) (.inl (so1 sB so0)) ⟨rfl, pst rfl <| o_nt rfl ⟨rfl, preN <| seqN [(0, .d ((cLs (cXTable cI (cLs cI rfl) (cLs cI rfl) cI) rfl).enc v0)), (1, .d ((cLs (cXTable cI (cLs cI rfl) (cLs cI rfl) cI) rfl).enc v1)), (5, .d (cI.enc s142)), (26, .d (cB.enc (!x269)))] (by kernel_rfl) <|
    xn <| cnd rfl h (fun b271 h => wpC_seq <| reg_s <| x_asg (sc cB false rfl) <| seqN [(4, .d (cB.enc false))] (by kernel_rfl) <|
    xn <| wpC_ret <| rb <| rt <| rt <| rt <| rb <| rt <| rt <| re <| fin h (r1 (ss rfl rfl) <| r0) rfl)
    (fun b271 h => wpC_skip <| xbb <| kpN [(0, .d ((cLs (cXTable cI (cLs cI rfl) (cLs cI rfl) cI) rfl).enc v0)), (1, .d ((cLs (cXTable cI (cLs cI rfl) (cLs cI rfl) cI) rfl).enc v1)), (5, .d (cI.enc s142))] (by kernel_rfl) <| xn <| reg_s <| st rfl <| mvd rfl rfl <| ckI_k h fun i272 h => st rfl <| b_add (k := .i64) rfl rfl i272 <| x_asg (ss rfl rfl) <| seqN [(0, .d ((cLs (cXTable cI (cLs cI rfl) (cLs cI rfl) cI) rfl).enc v0)), (1, .d ((cLs (cXTable cI (cLs cI rfl) (cLs cI rfl) cI) rfl).enc v1)), (5, .d (cI.enc (s142 + (1 : Int))))] (by kernel_rfl) <|
    xn <| hn230 (s142 + (1 : Int)) h)⟩⟩⟩⟩⟩⟩⟩⟩⟩⟩)
    (fun b237 h => wpC_exit <| xt <| xt <| xt <| xb <| kpN [] (by kernel_rfl) <| xn <| wpC_seq <| reg_s <| x_asg (sc cB true rfl) <| seqN [(4, .d (cB.enc true))] (by kernel_rfl) <|
    xn <| wpC_ret <| re <| fin h (r1 (ss rfl rfl) <| r0) rfl))

def rs_laws_eqGeo (r : Bool) : List D := [cB.enc r]
def m13 : MC := .seq (.reg [⟨some 2, .box (.t 0), none⟩,
    ⟨some 3, .box (.t 1), none⟩,
    ⟨some 4, .asg (.c (.bool false)), none⟩] [2, 3])
  (.seq (.kp [] (.seq (.reg [⟨some 5, .fa 2 0 0, none⟩,
    ⟨some 6, .ld 5 1 false, none⟩,
    ⟨some 7, .fa 3 0 0, none⟩,
    ⟨some 8, .ld 7 1 false, none⟩,
    ⟨some 9, .call 35 [(.t 6), (.t 8)], none⟩,
    ⟨some 10, .nt (.t 9), none⟩] [10])
  (.cond (.t 10) (.seq (.reg [⟨some 4, .asg (.c (.bool false)), none⟩] [4])
  (.ret)) (.skip))))
  (.seq (.reg [⟨some 4, .asg (.c (.bool true)), none⟩] [4])
  (.ret)))
theorem con_laws_eqGeo {v0 : XGeo} {v1 : XGeo} {r : Bool} (h : sh_laws_eqGeo v0 v1 = some r) : Con Try.prog 13 [(cXGeo (cLs cI rfl)).enc v0, (cXGeo (cLs cI rfl)).enc v1] [] (rs_laws_eqGeo r) := by
  delta sh_laws_eqGeo at h
  refine top (out := none) (f := Try.f13) (m := m13) (rs := [.t 4]) (by kernel_rfl) rfl (by kernel_rfl) (by kernel_rfl) (by kernel_rfl) (by kernel_rfl) (by kernel_rfl) ?_
  exact
   ini [(0, .d ((cXGeo (cLs cI rfl)).enc v0)), (1, .d ((cXGeo (cLs cI rfl)).enc v1))] rfl <| wpC_seq <| reg_s <| x_box (ss rfl rfl) <| x_box (ss rfl rfl) <| x_asg (sc cB false rfl) <| seqN [(2, .box ((cXGeo (cLs cI rfl)).enc v0)), (3, .box ((cXGeo (cLs cI rfl)).enc v1))] (by kernel_rfl) <|
    xn <| wpC_seq <| wpC_kp <| wpC_seq <| reg_s <| st rfl <| fab rfl rfl rfl rfl <| st rfl <| lda rfl rfl rfl rfl rfl rfl <| st rfl <| fab rfl rfl rfl rfl <| st rfl <| lda rfl rfl rfl rfl rfl rfl <| bnd h fun x8 e9 h => st rfl <| o_call (a1 (c := (cLs cI rfl)) (tLs tK) rfl (a1 (c := (cLs cI rfl)) (tLs tK) rfl a0)) (con_laws_eqIntS e9) (.inl (so1 sB so0)) <| st rfl <| o_nt rfl <| seqN [(10, .d (cB.enc (!x8)))] (by kernel_rfl) <|
    xn <| cnd rfl h (fun b10 h => wpC_seq <| reg_s <| x_asg (sc cB false rfl) <| seqN [(4, .d (cB.enc false))] (by kernel_rfl) <|
    xn <| wpC_ret <| rt <| rt <| re <| fin h (r1 (ss rfl rfl) <| r0) rfl)
    (fun b10 h => wpC_skip <| kpN [] (by kernel_rfl) <| xn <| wpC_seq <| reg_s <| x_asg (sc cB true rfl) <| seqN [(4, .d (cB.enc true))] (by kernel_rfl) <|
    xn <| wpC_ret <| re <| fin h (r1 (ss rfl rfl) <| r0) rfl)

def rs_laws_eqVariable (r : Bool) : List D := [cB.enc r]
def m36 : MC := .seq (.reg [⟨some 2, .box (.t 0), none⟩,
    ⟨some 3, .box (.t 1), none⟩,
    ⟨some 4, .asg (.c (.bool false)), none⟩] [2, 3])
  (.seq (.kp [2, 3] (.seq (.reg [⟨some 5, .fa 2 0 0, none⟩,
    ⟨some 6, .ld 5 1 false, none⟩,
    ⟨some 7, .fa 3 0 0, none⟩,
    ⟨some 8, .ld 7 1 false, none⟩,
    ⟨some 9, .bin .neq (.t 6) (.t 8), none⟩] [2, 3, 9])
  (.cond (.t 9) (.seq (.reg [⟨some 4, .asg (.c (.bool false)), none⟩] [4])
  (.ret)) (.skip))))
  (.seq (.kp [] (.seq (.reg [⟨some 10, .fa 2 1 1, none⟩,
    ⟨some 11, .ld 10 1 false, none⟩,
    ⟨some 12, .fa 3 1 1, none⟩,
    ⟨some 13, .ld 12 1 false, none⟩,
    ⟨some 14, .bin .neq (.t 11) (.t 13), none⟩] [14])
  (.cond (.t 14) (.seq (.reg [⟨some 4, .asg (.c (.bool false)), none⟩] [4])
  (.ret)) (.skip))))
  (.seq (.reg [⟨some 4, .asg (.c (.bool true)), none⟩] [4])
  (.ret))))
theorem con_laws_eqVariable {v0 : XVariable} {v1 : XVariable} {r : Bool} (h : sh_laws_eqVariable v0 v1 = some r) : Con Try.prog 36 [(cXVariable cS cI).enc v0, (cXVariable cS cI).enc v1] [] (rs_laws_eqVariable r) := by
  delta sh_laws_eqVariable at h
  refine top (out := none) (f := Try.f36) (m := m36) (rs := [.t 4]) (by kernel_rfl) rfl (by kernel_rfl) (by kernel_rfl) (by kernel_rfl) (by kernel_rfl) (by kernel_rfl) ?_
  exact
   ini [(0, .d ((cXVariable cS cI).enc v0)), (1, .d ((cXVariable cS cI).enc v1))] rfl <| wpC_seq <| reg_s <| x_box (ss rfl rfl) <| x_box (ss rfl rfl) <| x_asg (sc cB false rfl) <| seqN [(2, .box ((cXVariable cS cI).enc v0)), (3, .box ((cXVariable cS cI).enc v1))] (by kernel_rfl) <|
    xn <| wpC_seq <| wpC_kp <| wpC_seq <| reg_s <| st rfl <| fab rfl rfl rfl rfl <| st rfl <| lda rfl rfl rfl rfl rfl rfl <| st rfl <| fab rfl rfl rfl rfl <| st rfl <| lda rfl rfl rfl rfl rfl rfl <| st rfl <| b_sne rfl rfl <| seqN [(2, .box ((cXVariable cS cI).enc v0)), (3, .box ((cXVariable cS cI).enc v1)), (9, .d (cB.enc (decide (v0.Name ≠ v1.Name))))] (by kernel_rfl) <|
    xn <| cnd rfl h (fun b2 h => wpC_seq <| reg_s <| x_asg (sc cB false rfl) <| seqN [(4, .d (cB.enc false))] (by kernel_rfl) <|
    xn <| wpC_ret <| rt <| rt <| re <| fin h (r1 (ss rfl rfl) <| r0) rfl)
    (fun b2 h => wpC_skip <| kpN [(2, .box ((cXVariable cS cI).enc v0)), (3, .box ((cXVariable cS cI).enc v1))] (by kernel_rfl) <| xn <| wpC_seq <| wpC_kp <| wpC_seq <| reg_s <| st rfl <| fab rfl rfl rfl rfl <| st rfl <| lda rfl rfl rfl rfl rfl rfl <| st rfl <| fab rfl rfl rfl rfl <| st rfl <| lda rfl rfl rfl rfl rfl rfl <| st rfl <| b_neq (k := .i64) rfl rfl <| seqN [(14, .d (cB.enc (decide (v0.Levels ≠ v1.Levels))))] (by kernel_rfl) <|
    xn <| cnd rfl h (fun b4 h => wpC_seq <| reg_s <| x_asg (sc cB false rfl) <| seqN [(4, .d (cB.enc false))] (by kernel_rfl) <|
    xn <| wpC_ret <| rt <| rt <| re <| fin h (r1 (ss rfl rfl) <| r0) rfl)
    (fun b4 h => wpC_skip <| kpN [] (by kernel_rfl) <| xn <| wpC_seq <| reg_s <| x_asg (sc cB true rfl) <| seqN [(4, .d (cB.enc true))] (by kernel_rfl) <|
    xn <| wpC_ret <| re <| fin h (r1 (ss rfl rfl) <| r0) rfl))

def rs_laws_eqVariableS (r : Bool) : List D := [cB.enc r]
def m14 : MC := .seq (.reg [⟨some 4, .asg (.c (.bool false)), none⟩] [0, 1])
  (.seq (.kp [0, 1] (.seq (.reg [⟨some 6, .mv (.t 0), none⟩,
    ⟨some 7, .len false (.t 6), none⟩,
    ⟨some 8, .mv (.t 1), none⟩,
    ⟨some 9, .len false (.t 8), none⟩,
    ⟨some 10, .bin .neq (.t 7) (.t 9), none⟩] [0, 1, 10])
  (.cond (.t 10) (.seq (.reg [⟨some 4, .asg (.c (.bool false)), none⟩] [4])
  (.ret)) (.skip))))
  (.seq (.kp [] (.seq (.reg [⟨some 5, .asg (.c (.int .i64 0)), none⟩] [0, 1, 5])
  (.blk 0 (.loop (.seq (.kp [0, 1, 5] (.seq (.reg [⟨some 11, .mv (.t 5), none⟩,
    ⟨some 12, .mv (.t 0), none⟩,
    ⟨some 13, .len false (.t 12), none⟩,
    ⟨some 14, .bin .lss (.t 11) (.t 13), none⟩] [0, 1, 5, 14])
  (.cond (.t 14) (.skip) (.exit 0))))
  (.seq (.kp [0, 1, 5] (.blk 1 (.seq (.drw [⟨0, ⟨some 17, .mv (.t 0), none⟩, [18, 19, 20, 21, 22, 23, 24, 25, 26]⟩,
    ⟨1, ⟨some 18, .mv (.t 5), none⟩, [17, 19, 20, 21, 22, 23, 24, 25, 26]⟩,
    ⟨2, ⟨some 19, .ia 17 (.t 18) 2, none⟩, [20, 21, 22, 23, 24, 25, 26]⟩,
    ⟨3, ⟨some 20, .ld 19 2 true, none⟩, [21, 22, 23, 24, 25, 26]⟩,
    ⟨4, ⟨some 21, .mv (.t 1), none⟩, [17, 18, 19, 20, 22, 23, 24, 25, 26]⟩,
    ⟨5, ⟨some 22, .mv (.t 5), none⟩, [17, 18, 19, 20, 21, 23, 24, 25, 26]⟩,
    ⟨6, ⟨some 23, .ia 21 (.t 22) 2, none⟩, [17, 18, 19, 20, 24, 25, 26]⟩,
    ⟨7, ⟨some 24, .ld 23 2 true, none⟩, [17, 18, 19, 20, 25, 26]⟩,
    ⟨8, ⟨some 25, .call 36 [(.t 20), (.t 24)], none⟩, [26]⟩,
    ⟨9, ⟨some 26, .nt (.t 25), none⟩, []⟩]
    [] [0, 1, 5, 26])
  (.cond (.t 26) (.seq (.reg [⟨some 4, .asg (.c (.bool false)), none⟩] [4])
  (.ret)) (.skip)))))
  (.reg [⟨some 15, .mv (.t 5), none⟩,
    ⟨some 16, .bin .add (.t 15) (.c (.int .i64 1)), none⟩,
    ⟨some 5, .asg (.t 16), none⟩] [0, 1, 5])))))))
  (.seq (.reg [⟨some 4, .asg (.c (.bool true)), none⟩] [4])
  (.ret))))
theorem con_laws_eqVariableS {v0 : (List XVariable)} {v1 : (List XVariable)} {r : Bool} (h : sh_laws_eqVariableS v0 v1 = some r) : Con Try.prog 14 [(cLs (cXVariable cS cI) rfl).enc v0, (cLs (cXVariable cS cI) rfl).enc v1] [] (rs_laws_eqVariableS r) := by
  delta sh_laws_eqVariableS at h
  refine top (out := none) (f := Try.f14) (m := m14) (rs := [.t 4]) (by kernel_rfl) rfl (by kernel_rfl) (by kernel_rfl) (by kernel_rfl) (by kernel_rfl) (by kernel_rfl) ?_
  exact
   ini [(0, .d ((cLs (cXVariable cS cI) rfl).enc v0)), (1, .d ((cLs (cXVariable cS cI) rfl).enc v1))] rfl <| wpC_seq <| reg_s <| x_asg (sc cB false rfl) <| seqN [(0, .d ((cLs (cXVariable cS cI) rfl).enc v0)), (1, .d ((cLs (cXVariable cS cI) rfl).enc v1))] (by kernel_rfl) <|
    xn <| wpC_seq <| wpC_kp <| wpC_seq <| reg_s <| st rfl <| mvd rfl rfl <| stw rfl <| lens rfl fun l8 => st rfl <| mvd rfl rfl <| stw rfl <| lens rfl fun l9 => st rfl <| b_neq (k := .i64) rfl rfl <| seqN [(0, .d ((cLs (cXVariable cS cI) rfl).enc v0)), (1, .d ((cLs (cXVariable cS cI) rfl).enc v1)), (10, .d (cB.enc (decide ((v0.length : Int) ≠ (v1.length : Int)))))] (by kernel_rfl) <|
    xn <| cnd rfl h (fun b10 h => wpC_seq <| reg_s <| x_asg (sc cB false rfl) <| seqN [(4, .d (cB.enc false))] (by kernel_rfl) <|
    xn <| wpC_ret <| rt <| rt <| re <| fin h (r1 (ss rfl rfl) <| r0) rfl)
    (fun b10 h => wpC_skip <| kpN [(0, .d ((cLs (cXVariable cS cI) rfl).enc v0)), (1, .d ((cLs (cXVariable cS cI) rfl).enc v1))] (by kernel_rfl) <| xn <| wpC_seq <| wpC_kp <| wpC_seq <| reg_s <| x_asg (sc cI (0 : Int) rfl) <| seqN [(0, .d ((cLs (cXVariable cS cI) rfl).enc v0)), (1, .d ((cLs (cXVariable cS cI) rfl).enc v1)), (5, .d (cI.enc (0 : Int)))] (by kernel_rfl) <|
    xn <| wpC_blk <| lpF (fun (s142 : Int) => [(0, .d ((cLs (cXVariable cS cI) rfl).enc v0)), (1, .d ((cLs (cXVariable cS cI) rfl).enc v1)), (5, .d (cI.enc s142))]) (0 : Int) rfl h
    fun G231 nx229 s142 hn230 h => wpC_seq <| wpC_kp <| wpC_seq <| reg_s <| st rfl <| mvd rfl rfl <| st rfl <| mvd rfl rfl <| stw rfl <| lens rfl fun l236 => st rfl <| b_lss (k := .i64) rfl rfl <| seqN [(0, .d ((cLs (cXVariable cS cI) rfl).enc v0)), (1, .d ((cLs (cXVariable cS cI) rfl).enc v1)), (5, .d (cI.enc s142)), (14, .d (cB.enc (decide (s142 < (v0.length : Int)))))] (by kernel_rfl) <|
    xn <| cnd rfl h (fun b237 h => wpC_skip <| kpN [(0, .d ((cLs (cXVariable cS cI) rfl).enc v0)), (1, .d ((cLs (cXVariable cS cI) rfl).enc v1)), (5, .d (cI.enc s142))] (by kernel_rfl) <| xn <| wpC_seq <| wpC_kp <| wpC_blk <| wpC_seq <| drw_s <| pst rfl <| mvd rfl rfl ⟨rfl, pst rfl <| mvd rfl rfl ⟨rfl, getO_kp h fun x263 i264 g265 h => pst rfl <| ias rfl rfl i264 g265 rfl ⟨rfl, pst rfl <| ldi rfl rfl rfl rfl ⟨rfl, pst rfl <| mvd rfl rfl ⟨rfl, pst rfl <| mvd rfl rfl ⟨rfl, getO_kp h fun x266 i267 g268 h => pst rfl <| ias rfl rfl i267 g268 rfl ⟨rfl, pst rfl <| ldi rfl rfl rfl rfl ⟨rfl, bndp h fun x269 e270 h => pst rfl <| o_call (a1 (c := (cXVariable cS cI)) (tXVariable tS tK) rfl (a1 (c := (cXVariable cS cI)) (tXVariable tS tK) rfl a0)) (con_laws_eqVariable e270) (.inl (so1 sB so0)) ⟨rfl, pst rfl <| o_nt rfl ⟨rfl, preN <| seqN [(0, .d ((cLs (cXVariable cS cI) rfl).enc v0)), (1, .d ((cLs (cXVariable cS cI) rfl).enc v1)), (5, .d (cI.enc s142)), (26, .d (cB.enc (!x269)))] (by kernel_rfl) <|
    xn <| cnd rfl h (fun b271 h => wpC_seq <| reg_s <| x_asg (sc cB false rfl) <| seqN [(4, .d (cB.enc false))] (by kernel_rfl) <|
    xn <| wpC_ret <| rb <| rt <| rt <| rt <| rb <| rt <| rt <| re <| fin h (r1 (ss rfl rfl) <| r0) rfl)
    (fun b271 h => wpC_skip <| xbb <| kpN [(0, .d ((cLs (cXVariable cS cI) rfl).enc v0)), (1, .d ((cLs (cXVariable cS cI) rfl).enc v1)), (5, .d (cI.enc s142))] (by kernel_rfl) <| xn <| reg_s <| st rfl <| mvd rfl rfl <| ckI_k h fun i272 h => st rfl <| b_add (k := .i64) rfl rfl i272 <| x_asg (ss rfl rfl) <| seqN [(0, .d ((cLs (cXVariable cS cI) rfl).enc v0)), (1, .d ((cLs (cXVariable cS cI) rfl).enc v1)), (5, .d (cI.enc (s142 + (1 : Int))))] (by kernel_rfl) <|
    xn <| hn230 (s142 + (1 : Int)) h)⟩⟩⟩⟩⟩⟩⟩⟩⟩⟩)
    (fun b237 h => wpC_exit <| xt <| xt <| xt <| xb <| kpN [] (by kernel_rfl) <| xn <| wpC_seq <| reg_s <| x_asg (sc cB true rfl) <| seqN [(4, .d (cB.enc true))] (by kernel_rfl) <|
    xn <| wpC_ret <| re <| fin h (r1 (ss rfl rfl) <| r0) rfl))

def os_laws_markIntS (r : ((List Int) × Int)) : D := (cLo cI).enc r.1
def rs_laws_markIntS (r : ((List Int) × Int)) : List D := [cI.enc r.2]
def m37 : MC := .seq (.reg [⟨some 4, .asg (.c (.int .i64 0)), none⟩] [0, 1])
  (.seq (.kp [0, 1] (.seq (.reg [⟨some 5, .asg (.c (.int .i64 0)), none⟩] [0, 1, 5])
  (.blk 0 (.loop (.seq (.kp [0, 1, 5] (.seq (.reg [⟨some 6, .mv (.t 5), none⟩,
    ⟨some 7, .mv (.t 0), none⟩,
    ⟨some 8, .len false (.t 7), none⟩,
    ⟨some 9, .bin .lss (.t 6) (.t 8), none⟩] [0, 1, 5, 9])
  (.cond (.t 9) (.skip) (.exit 0))))
  (.seq (.kp [0, 1, 5] (.blk 1 (.seq (.reg [⟨some 12, .mv (.t 0), none⟩,
    ⟨some 13, .mv (.t 5), none⟩,
    ⟨some 14, .mv (.t 1), none⟩,
    ⟨some 15, .ia 12 (.t 13) 1, none⟩,
    ⟨none, .st 15 (.t 14) 1, none⟩] [0, 1, 5])
  (.reg [⟨some 16, .mv (.t 1), none⟩,
    ⟨some 17, .bin .add (.t 16) (.c (.int .i64 1)), none⟩,
    ⟨some 1, .asg (.t 17), none⟩] [0, 1, 5]))))
  (.reg [⟨some 10, .mv (.t 5), none⟩,
    ⟨some 11, .bin .add (.t 10) (.c (.int .i64 1)), none⟩,
    ⟨some 5, .asg (.t 11), none⟩] [0, 1, 5])))))))
  (.seq (.reg [⟨some 18, .mv (.t 1), none⟩,
    ⟨some 4, .asg (.t 18), none⟩] [0, 4])
  (.ret)))
theorem con_laws_markIntS {v0 : (List Int)} {v1 : Int} {r : ((List Int) × Int)} (h : sh_laws_markIntS v0 v1 = some r) : Con Try.prog 37 [(cLo cI).enc v0, cI.enc v1] (outsOf (some (0, os_laws_markIntS r))) (rs_laws_markIntS r) := by
  delta sh_laws_markIntS at h
  refine top (out := some (0, os_laws_markIntS r)) (f := Try.f37) (m := m37) (rs := [.t 4]) (by kernel_rfl) rfl (by kernel_rfl) (by kernel_rfl) (by kernel_rfl) (by kernel_rfl) (by kernel_rfl) ?_
  exact
   ini [(0, .d ((cLo cI).enc v0)), (1, .d (cI.enc v1))] rfl <| wpC_seq <| reg_s <| x_asg (sc cI (0 : Int) rfl) <| seqN [(0, .d ((cLo cI).enc v0)), (1, .d (cI.enc v1))] (by kernel_rfl) <|
    xn <| wpC_seq <| wpC_kp <| wpC_seq <| reg_s <| x_asg (sc cI (0 : Int) rfl) <| seqN [(0, .d ((cLo cI).enc v0)), (1, .d (cI.enc v1)), (5, .d (cI.enc (0 : Int)))] (by kernel_rfl) <|
    xn <| wpC_blk <| lpF (fun (s72 : ((List Int) × Int × Int)) => [(0, .d ((cLo cI).enc s72.1)), (1, .d (cI.enc s72.2.1)), (5, .d (cI.enc s72.2.2))]) (v0, v1, (0 : Int)) rfl h
    fun G121 nx119 s72 hn120 h => wpC_seq <| wpC_kp <| wpC_seq <| reg_s <| st rfl <| mvd rfl rfl <| st rfl <| mvo rfl rfl <| stw rfl <| leno rfl fun l126 => st rfl <| b_lss (k := .i64) rfl rfl <| seqN [(0, .d ((cLo cI).enc s72.1)), (1, .d (cI.enc s72.2.1)), (5, .d (cI.enc s72.2.2)), (9, .d (cB.enc (decide (s72.2.2 < (s72.1.length : Int)))))] (by kernel_rfl) <|
    xn <| cnd rfl h (fun b127 h => wpC_skip <| kpN [(0, .d ((cLo cI).enc s72.1)), (1, .d (cI.enc s72.2.1)), (5, .d (cI.enc s72.2.2))] (by kernel_rfl) <| xn <| wpC_seq <| wpC_kp <| wpC_blk <| wpC_seq <| reg_s <| st rfl <| mvo rfl rfl <| st rfl <| mvd rfl rfl <| st rfl <| mvd rfl rfl <| getO_k h fun x138 i139 g140 h => st rfl <| iar rfl rfl rfl rfl i139 g140 rfl <| x_sta ((cLo cI).enc (s72.1.set (s72.2.2).toNat s72.2.1)) (ss rfl rfl) rfl rfl (Ln.idx g140 Ln.nil) (Cd.h_sz cI _) rfl <| seqN [(0, .d ((cLo cI).enc (s72.1.set (s72.2.2).toNat s72.2.1))), (1, .d (cI.enc s72.2.1)), (5, .d (cI.enc s72.2.2))] (by kernel_rfl) <|
    xn <| reg_s <| st rfl <| mvd rfl rfl <| ckI_k h fun i141 h => st rfl <| b_add (k := .i64) rfl rfl i141 <| x_asg (ss rfl rfl) <| seqN [(0, .d ((cLo cI).enc (s72.1.set (s72.2.2).toNat s72.2.1))), (1, .d (cI.enc (s72.2.1 + (1 : Int)))), (5, .d (cI.enc s72.2.2))] (by kernel_rfl) <|
    xbb <| kpN [(0, .d ((cLo cI).enc (s72.1.set (s72.2.2).toNat s72.2.1))), (1, .d (cI.enc (s72.2.1 + (1 : Int)))), (5, .d (cI.enc s72.2.2))] (by kernel_rfl) <| xn <| reg_s <| st rfl <| mvd rfl rfl <| ckI_k h fun i142 h => st rfl <| b_add (k := .i64) rfl rfl i142 <| x_asg (ss rfl rfl) <| seqN [(0, .d ((cLo cI).enc (s72.1.set (s72.2.2).toNat s72.2.1))), (1, .d (cI.enc (s72.2.1 + (1 : Int)))), (5, .d (cI.enc (s72.2.2 + (1 : Int))))] (by kernel_rfl) <|
    xn <| hn120 ((s72.1.set (s72.2.2).toNat s72.2.1), (s72.2.1 + (1 : Int)), (s72.2.2 + (1 : Int))) h)
    (fun b127 h => wpC_exit <| xt <| xt <| xt <| xb <| kpN [(0, .d ((cLo cI).enc s72.1)), (1, .d (cI.enc s72.2.1))] (by kernel_rfl) <| xn <| wpC_seq <| reg_s <| st rfl <| mvd rfl rfl <| x_asg (ss rfl rfl) <| seqN [(0, .d ((cLo cI).enc s72.1)), (4, .d (cI.enc s72.2.1))] (by kernel_rfl) <|
    xn <| wpC_ret <| re <| finO h (r1 (ss rfl rfl) <| r0) rfl rfl)

def os_laws_markGeo (r : (XGeo × Int)) : D := (cXGeo (cLo cI)).enc r.1
def rs_laws_markGeo (r : (XGeo × Int)) : List D := [cI.enc r.2]
def m15 : MC := .seq (.reg [⟨some 2, .boxm 0, none⟩,
    ⟨some 4, .asg (.c (.int .i64 0)), none⟩] [0, 1, 2])
  (.seq (.reg [⟨some 5, .fa 2 0 0, none⟩,
    ⟨some 6, .ld 5 1 false, none⟩,
    ⟨some 7, .mv (.t 1), none⟩,
    ⟨some 8, .callO 37 [(.t 6), (.t 7)], none⟩,
    ⟨some 1, .asg (.t 8), none⟩] [0, 1])
  (.seq (.reg [⟨some 9, .mv (.t 1), none⟩,
    ⟨some 4, .asg (.t 9), none⟩] [0, 4])
  (.ret)))
theorem con_laws_markGeo {v0 : XGeo} {v1 : Int} {r : (XGeo × Int)} (h : sh_laws_markGeo v0 v1 = some r) : Con Try.prog 15 [(cXGeo (cLo cI)).enc v0, cI.enc v1] (outsOf (some (0, os_laws_markGeo r))) (rs_laws_markGeo r) := by
  delta sh_laws_markGeo at h
  refine top (out := some (0, os_laws_markGeo r)) (f := Try.f15) (m := m15) (rs := [.t 4]) (by kernel_rfl) rfl (by kernel_rfl) (by kernel_rfl) (by kernel_rfl) (by kernel_rfl) (by kernel_rfl) ?_
  exact
   ini [(0, .d ((cXGeo (cLo cI)).enc v0)), (1, .d (cI.enc v1))] rfl <| wpC_seq <| reg_s <| x_boxm rfl rfl <| x_asg (sc cI (0 : Int) rfl) <| seqN [(0, .d ((cXGeo (cLo cI)).enc v0)), (1, .d (cI.enc v1)), (2, .mad 0 [])] (by kernel_rfl) <|
    xn <| wpC_seq <| reg_s <| st rfl <| fam rfl rfl rfl rfl rfl rfl <| st rfl <| ldmo rfl rfl rfl rfl rfl rfl <| st rfl <| mvd rfl rfl <| bnd h fun x3 e4 h => x_clr (c := (cLo cI)) (c' := (cLo cI)) ((cXGeo (cLo cI)).enc (⟨x3.1⟩ : XGeo)) (sLo sK) rfl (a1 (c := cI) tK rfl a0) rfl (Ln.fld rfl rfl Ln.nil rfl) (con_laws_markIntS e4) rfl rfl (so1 sK so0) <| x_asg (ss rfl rfl) <| seqN [(0, .d ((cXGeo (cLo cI)).enc (⟨x3.1⟩ : XGeo))), (1, .d (cI.enc x3.2))] (by kernel_rfl) <|
    xn <| wpC_seq <| reg_s <| st rfl <| mvd rfl rfl <| x_asg (ss rfl rfl) <| seqN [(0, .d ((cXGeo (cLo cI)).enc (⟨x3.1⟩ : XGeo))), (4, .d (cI.enc x3.2))] (by kernel_rfl) <|
    xn <| wpC_ret <| re <| finO h (r1 (ss rfl rfl) <| r0) rfl rfl

def rs_laws_markText (r : (List UInt8)) : List D := [cS.enc r]
def m38 : MC := .seq (.reg [⟨some 2, .asg (.c (.str [])), none⟩] [0])
  (.seq (.kp [0] (.seq (.reg [⟨some 4, .mv (.t 0), none⟩,
    ⟨some 5, .bin .leq (.t 4) (.c (.int .i64 0)), none⟩] [0, 5])
  (.cond (.t 5) (.seq (.reg [⟨some 2, .asg (.c (.str [109, 48])), none⟩] [2])
  (.ret)) (.skip))))
  (.seq (.reg [⟨some 3, .asg (.c (.str [])), none⟩] [0, 3])
  (.seq (.kp [3] (.blk 0 (.loop (.kp [0, 3] (.seq (.kp [0, 3] (.seq (.reg [⟨some 6, .mv (.t 0), none⟩,
    ⟨some 7, .bin .gtr (.t 6) (.c (.int .i64 0)), none⟩] [0, 3, 7])
  (.cond (.t 7) (.skip) (.exit 0))))
  (.blk 1 (.seq (.reg [⟨some 8, .mv (.t 0), none⟩,
    ⟨some 9, .bin .rem (.t 8) (.c (.int .i64 10)), none⟩,
    ⟨some 10, .bin .add (.c (.int .i64 48)) (.t 9), none⟩,
    ⟨some 11, .cvi .u8 (.t 10), none⟩,
    ⟨some 12, .bsl [(.t 11)] 1, none⟩,
    ⟨some 13, .b2s (.t 12), none⟩,
    ⟨some 14, .mv (.t 3), none⟩,
    ⟨some 15, .bin .add (.t 13) (.t 14), none⟩,
    ⟨some 3, .asg (.t 15), none⟩] [0, 3])
  (.reg [⟨some 16, .mv (.t 0), none⟩,
    ⟨some 17, .bin .quo (.t 16) (.c (.int .i64 10)), none⟩,
    ⟨some 0, .asg (.t 17), none⟩] [0, 3]))))))))
  (.seq (.reg [⟨some 18, .mv (.t 3), none⟩,
    ⟨some 19, .bin .add (.c (.str [109])) (.t 18), none⟩,
    ⟨some 2, .asg (.t 19), none⟩] [2])
  (.ret)))))
theorem con_laws_markText {v0 : Int} {r : (List UInt8)} (h : sh_laws_markText v0 = some r) : Con Try.prog 38 [cI.enc v0] [] (rs_laws_markText r) := by
  delta sh_laws_markText at h
  refine top (out := none) (f := Try.f38) (m := m38) (rs := [.t 2]) (by kernel_rfl) rfl (by kernel_rfl) (by kernel_rfl) (by kernel_rfl) (by kernel_rfl) (by kernel_rfl) ?_
  exact
   ini [(0, .d (cI.enc v0))] rfl <| wpC_seq <| reg_s <| x_asg (sc cS ([] : List UInt8) rfl) <| seqN [(0, .d (cI.enc v0))] (by kernel_rfl) <|
    xn <| wpC_seq <| wpC_kp <| wpC_seq <| reg_s <| st rfl <| mvd rfl rfl <| st rfl <| b_leq (k := .i64) rfl rfl <| seqN [(0, .d (cI.enc v0)), (5, .d (cB.enc (decide (v0 ≤ (0 : Int)))))] (by kernel_rfl) <|
    xn <| cnd rfl h (fun b2 h => wpC_seq <| reg_s <| x_asg (sc cS ([109, 48] : List UInt8) rfl) <| seqN [(2, .d (cS.enc ([109, 48] : List UInt8)))] (by kernel_rfl) <|
    xn <| wpC_ret <| rt <| rt <| re <| fin h (r1 (ss rfl rfl) <| r0) rfl)
    (fun b2 h => wpC_skip <| kpN [(0, .d (cI.enc v0))] (by kernel_rfl) <| xn <| wpC_seq <| reg_s <| x_asg (sc cS ([] : List UInt8) rfl) <| seqN [(0, .d (cI.enc v0)), (3, .d (cS.enc ([] : List UInt8)))] (by kernel_rfl) <|
    xn <| wpC_seq <| wpC_kp <| wpC_blk <| lpF (fun (s59 : (Int × (List UInt8))) => [(0, .d (cI.enc s59.1)), (3, .d (cS.enc s59.2))]) (v0, ([] : List UInt8)) rfl h
    fun G98 nx96 s59 hn97 h => wpC_kp <| wpC_seq <| wpC_kp <| wpC_seq <| reg_s <| st rfl <| mvd rfl rfl <| st rfl <| b_gtr (k := .i64) rfl rfl <| seqN [(0, .d (cI.enc s59.1)), (3, .d (cS.enc s59.2)), (7, .d (cB.enc (decide ((0 : Int) < s59.1))))] (by kernel_rfl) <|
    xn <| cnd rfl h (fun b100 h => wpC_skip <| kpN [(0, .d (cI.enc s59.1)), (3, .d (cS.enc s59.2))] (by kernel_rfl) <| xn <| wpC_blk <| wpC_seq <| reg_s <| st rfl <| mvd rfl rfl <| ck_k h fun i107 h => st rfl <| b_rem (k := .i64) rfl rfl i107 <| ckI_k h fun i108 h => st rfl <| b_add (k := .i64) rfl rfl i108 <| ckU_k h fun i109 h => st rfl <| o_cvi (k := .i64) (k' := .u8) rfl i109 <| x_bsl cU [((48 : Int) + (s59.1.tmod (10 : Int)))] (t1 (ss rfl rfl) rfl t0) rfl rfl <| ck_k h fun i110 h => st rfl <| o_b2s rfl rfl i110 <| st rfl <| mvd rfl rfl <| lnO_k h fun l112 h => st rfl <| b_cat rfl rfl l112 <| x_asg (ss rfl rfl) <| seqN [(0, .d (cI.enc s59.1)), (3, .d (cS.enc ((bytesOf [((48 : Int) + (s59.1.tmod (10 : Int)))]) ++ s59.2)))] (by kernel_rfl) <|
    xn <| reg_s <| st rfl <| mvd rfl rfl <| ck_k h fun i113 h => ckI_k h fun i114 h => st rfl <| b_quo (k := .i64) rfl rfl i113 i114 <| x_asg (ss rfl rfl) <| seqN [(0, .d (cI.enc (s59.1.tdiv (10 : Int)))), (3, .d (cS.enc ((bytesOf [((48 : Int) + (s59.1.tmod (10 : Int)))]) ++ s59.2)))] (by kernel_rfl) <|
    xbb <| kpN [(0, .d (cI.enc (s59.1.tdiv (10 : Int)))), (3, .d (cS.enc ((bytesOf [((48 : Int) + (s59.1.tmod (10 : Int)))]) ++ s59.2)))] (by kernel_rfl) <| xn <| hn97 ((s59.1.tdiv (10 : Int)), ((bytesOf [((48 : Int) + (s59.1.tmod (10 : Int)))]) ++ s59.2)) h)
    (fun b100 h => wpC_exit <| xt <| xt <| xt <| xt <| xb <| kpN [(3, .d (cS.enc s59.2))] (by kernel_rfl) <| xn <| wpC_seq <| reg_s <| st rfl <| mvd rfl rfl <| lnO_k h fun l116 h => st rfl <| b_cat rfl rfl l116 <| x_asg (ss rfl rfl) <| seqN [(2, .d (cS.enc (([109] : List UInt8) ++ s59.2)))] (by kernel_rfl) <|
    xn <| wpC_ret <| re <| fin h (r1 (ss rfl rfl) <| r0) rfl))

def os_laws_markVariableS (r : ((List XVariable) × Int)) : D := (cLo (cXVariable cS cI)).enc r.1
def rs_laws_markVariableS (r : ((List XVariable) × Int)) : List D := [cI.enc r.2]
def m16 : MC := .seq (.reg [⟨some 4, .asg (.c (.int .i64 0)), none⟩] [0, 1])
  (.seq (.kp [0, 1] (.seq (.reg [⟨some 5, .asg (.c (.int .i64 0)), none⟩] [0, 1, 5])
  (.blk 0 (.loop (.seq (.kp [0, 1, 5] (.seq (.reg [⟨some 6, .mv (.t 5), none⟩,
    ⟨some 7, .mv (.t 0), none⟩,
    ⟨some 8, .len false (.t 7), none⟩,
    ⟨some 9, .bin .lss (.t 6) (.t 8), none⟩] [0, 1, 5, 9])
  (.cond (.t 9) (.skip) (.exit 0))))
  (.seq (.kp [0, 1, 5] (.blk 1 (.seq (.reg [⟨some 12, .mv (.t 0), none⟩,
    ⟨some 13, .mv (.t 5), none⟩,
    ⟨some 14, .mv (.t 1), none⟩,
    ⟨some 15, .call 38 [(.t 14)], none⟩,
    ⟨some 16, .ia 12 (.t 13) 2, none⟩,
    ⟨some 17, .fa 16 0 0, none⟩,
    ⟨none, .st 17 (.t 15) 1, none⟩] [0, 1, 5])
  (.seq (.reg [⟨some 18, .mv (.t 1), none⟩,
    ⟨some 19, .bin .add (.t 18) (.c (.int .i64 1)), none⟩,
    ⟨some 1, .asg (.t 19), none⟩] [0, 1, 5])
  (.seq (.reg [⟨some 20, .mv (.t 0), none⟩,
    ⟨some 21, .mv (.t 5), none⟩,
    ⟨some 22, .mv (.t 1), none⟩,
    ⟨some 23, .ia 20 (.t 21) 2, none⟩,
    ⟨some 24, .fa 23 1 1, none⟩,
    ⟨none, .st 24 (.t 22) 1, none⟩] [0, 1, 5])
  (.reg [⟨some 25, .mv (.t 1), none⟩,
    ⟨some 26, .bin .add (.t 25) (.c (.int .i64 1)), none⟩,
    ⟨some 1, .asg (.t 26), none⟩] [0, 1, 5]))))))
  (.reg [⟨some 10, .mv (.t 5), none⟩,
    ⟨some 11, .bin .add (.t 10) (.c (.int .i64 1)), none⟩,
    ⟨some 5, .asg (.t 11), none⟩] [0, 1, 5])))))))
  (.seq (.reg [⟨some 27, .mv (.t 1), none⟩,
    ⟨some 4, .asg (.t 27), none⟩] [0, 4])
  (.ret)))
theorem con_laws_markVariableS {v0 : (List XVariable)} {v1 : Int} {r : ((List XVariable) × Int)} (h : sh_laws_markVariableS v0 v1 = some r) : Con Try.prog 16 [(cLo (cXVariable cS cI)).enc v0, cI.enc v1] (outsOf (some (0, os_laws_markVariableS r))) (rs_laws_markVariableS r) := by
  delta sh_laws_markVariableS at h
  refine top (out := some (0, os_laws_markVariableS r)) (f := Try.f16) (m := m16) (rs := [.t 4]) (by kernel_rfl) rfl (by kernel_rfl) (by kernel_rfl) (by kernel_rfl) (by kernel_rfl) (by kernel_rfl) ?_
  exact
   ini [(0, .d ((cLo (cXVariable cS cI)).enc v0)), (1, .d (cI.enc v1))] rfl <| wpC_seq <| reg_s <| x_asg (sc cI (0 : Int) rfl) <| seqN [(0, .d ((cLo (cXVariable cS cI)).enc v0)), (1, .d (cI.enc v1))] (by kernel_rfl) <|
    xn <| wpC_seq <| wpC_kp <| wpC_seq <| reg_s <| x_asg (sc cI (0 : Int) rfl) <| seqN [(0, .d ((cLo (cXVariable cS cI)).enc v0)), (1, .d (cI.enc v1)), (5, .d (cI.enc (0 : Int)))] (by kernel_rfl) <|
    xn <| wpC_blk <| lpF (fun (s144 : ((List XVariable) × Int × Int)) => [(0, .d ((cLo (cXVariable cS cI)).enc s144.1)), (1, .d (cI.enc s144.2.1)), (5, .d (cI.enc s144.2.2))]) (v0, v1, (0 : Int)) rfl h
    fun G241 nx239 s144 hn240 h => wpC_seq <| wpC_kp <| wpC_seq <| reg_s <| st rfl <| mvd rfl rfl <| st rfl <| mvo rfl rfl <| stw rfl <| leno rfl fun l246 => st rfl <| b_lss (k := .i64) rfl rfl <| seqN [(0, .d ((cLo (cXVariable cS cI)).enc s144.1)), (1, .d (cI.enc s144.2.1)), (5, .d (cI.enc s144.2.2)), (9, .d (cB.enc (decide (s144.2.2 < (s144.1.length : Int)))))] (by kernel_rfl) <|
    xn <| cnd rfl h (fun b247 h => wpC_skip <| kpN [(0, .d ((cLo (cXVariable cS cI)).enc s144.1)), (1, .d (cI.enc s144.2.1)), (5, .d (cI.enc s144.2.2))] (by kernel_rfl) <| xn <| wpC_seq <| wpC_kp <| wpC_blk <| wpC_seq <| reg_s <| st rfl <| mvo rfl rfl <| st rfl <| mvd rfl rfl <| st rfl <| mvd rfl rfl <| bnd h fun x272 e273 h => st rfl <| o_call (a1 (c := cI) tK rfl a0) (con_laws_markText e273) (.inl (so1 sS so0)) <| getO_k h fun x274 i275 g276 h => st rfl <| iar rfl rfl rfl rfl i275 g276 rfl <| st rfl <| faa rfl rfl (Gt.idx g276 Gt.nil) rfl rfl rfl <| x_sta ((cLo (cXVariable cS cI)).enc (s144.1.set (s144.2.2).toNat (⟨x272, x274.Levels⟩ : XVariable))) (ss rfl rfl) rfl rfl (Ln.idx g276 (Ln.fld rfl rfl Ln.nil rfl)) (Cd.h_sz cS _) rfl <| seqN [(0, .d ((cLo (cXVariable cS cI)).enc (s144.1.set (s144.2.2).toNat (⟨x272, x274.Levels⟩ : XVariable)))), (1, .d (cI.enc s144.2.1)), (5, .d (cI.enc s144.2.2))] (by kernel_rfl) <|
    xn <| wpC_seq <| reg_s <| st rfl <| mvd rfl rfl <| ckI_k h fun i278 h => st rfl <| b_add (k := .i64) rfl rfl i278 <| x_asg (ss rfl rfl) <| seqN [(0, .d ((cLo (cXVariable cS cI)).enc (s144.1.set (s144.2.2).toNat (⟨x272, x274.Levels⟩ : XVariable)))), (1, .d (cI.enc (s144.2.1 + (1 : Int)))), (5, .d (cI.enc s144.2.2))] (by kernel_rfl) <|
    xn <| wpC_seq <| reg_s <| st rfl <| mvo rfl rfl <| st rfl <| mvd rfl rfl <| st rfl <| mvd rfl rfl <| getO_k h fun x282 i283 g284 h => st rfl <| iar rfl rfl rfl rfl i283 g284 rfl <| st rfl <| faa rfl rfl (Gt.idx g284 Gt.nil) rfl rfl rfl <| x_sta ((cLo (cXVariable cS cI)).enc ((s144.1.set (s144.2.2).toNat (⟨x272, x274.Levels⟩ : XVariable)).set (s144.2.2).toNat (⟨x282.Name, (s144.2.1 + (1 : Int))⟩ : XVariable))) (ss rfl rfl) rfl rfl (Ln.idx g284 (Ln.fld rfl rfl Ln.nil rfl)) (Cd.h_sz cI _) rfl <| seqN [(0, .d ((cLo (cXVariable cS cI)).enc ((s144.1.set (s144.2.2).toNat (⟨x272, x274.Levels⟩ : XVariable)).set (s144.2.2).toNat (⟨x282.Name, (s144.2.1 + (1 : Int))⟩ : XVariable)))), (1, .d (cI.enc (s144.2.1 + (1 : Int)))), (5, .d (cI.enc s144.2.2))] (by kernel_rfl) <|
    xn <| reg_s <| st rfl <| mvd rfl rfl <| ckI_k h fun i285 h => st rfl <| b_add (k := .i64) rfl rfl i285 <| x_asg (ss rfl rfl) <| seqN [(0, .d ((cLo (cXVariable cS cI)).enc ((s144.1.set (s144.2.2).toNat (⟨x272, x274.Levels⟩ : XVariable)).set (s144.2.2).toNat (⟨x282.Name, (s144.2.1 + (1 : Int))⟩ : XVariable)))), (1, .d (cI.enc ((s144.2.1 + (1 : Int)) + (1 : Int)))), (5, .d (cI.enc s144.2.2))] (by kernel_rfl) <|
    xbb <| kpN [(0, .d ((cLo (cXVariable cS cI)).enc ((s144.1.set (s144.2.2).toNat (⟨x272, x274.Levels⟩ : XVariable)).set (s144.2.2).toNat (⟨x282.Name, (s144.2.1 + (1 : Int))⟩ : XVariable)))), (1, .d (cI.enc ((s144.2.1 + (1 : Int)) + (1 : Int)))), (5, .d (cI.enc s144.2.2))] (by kernel_rfl) <| xn <| reg_s <| st rfl <| mvd rfl rfl <| ckI_k h fun i286 h => st rfl <| b_add (k := .i64) rfl rfl i286 <| x_asg (ss rfl rfl) <| seqN [(0, .d ((cLo (cXVariable cS cI)).enc ((s144.1.set (s144.2.2).toNat (⟨x272, x274.Levels⟩ : XVariable)).set (s144.2.2).toNat (⟨x282.Name, (s144.2.1 + (1 : Int))⟩ : XVariable)))), (1, .d (cI.enc ((s144.2.1 + (1 : Int)) + (1 : Int)))), (5, .d (cI.enc (s144.2.2 + (1 : Int))))] (by kernel_rfl) <|
    xn <| hn240 (((s144.1.set (s144.2.2).toNat (⟨x272, x274.Levels⟩ : XVariable)).set (s144.2.2).toNat (⟨x282.Name, (s144.2.1 + (1 : Int))⟩ : XVariable)), ((s144.2.1 + (1 : Int)) + (1 : Int)), (s144.2.2 + (1 : Int))) h)
    (fun b247 h => wpC_exit <| xt <| xt <| xt <| xb <| kpN [(0, .d ((cLo (cXVariable cS cI)).enc s144.1)), (1, .d (cI.enc s144.2.1))] (by kernel_rfl) <| xn <| wpC_seq <| reg_s <| st rfl <| mvd rfl rfl <| x_asg (ss rfl rfl) <| seqN [(0, .d ((cLo (cXVariable cS cI)).enc s144.1)), (4, .d (cI.enc s144.2.1))] (by kernel_rfl) <|
    xn <| wpC_ret <| re <| finO h (r1 (ss rfl rfl) <| r0) rfl rfl)

def os_laws_markTableS (r : ((List XTable) × Int)) : D := (cLo (cXTable cI (cLo cI) (cLo cI) cI)).enc r.1
def rs_laws_markTableS (r : ((List XTable) × Int)) : List D := [cI.enc r.2]
def m17 : MC := .seq (.reg [⟨some 4, .asg (.c (.int .i64 0)), none⟩] [0, 1])
  (.seq (.kp [0, 1] (.seq (.reg [⟨some 5, .asg (.c (.int .i64 0)), none⟩] [0, 1, 5])
  (.blk 0 (.loop (.seq (.kp [0, 1, 5] (.seq (.reg [⟨some 6, .mv (.t 5), none⟩,
    ⟨some 7, .mv (.t 0), none⟩,
    ⟨some 8, .len false (.t 7), none⟩,
    ⟨some 9, .bin .lss (.t 6) (.t 8), none⟩] [0, 1, 5, 9])
  (.cond (.t 9) (.skip) (.exit 0))))
  (.seq (.kp [0, 1, 5] (.blk 1 (.seq (.reg [⟨some 12, .mv (.t 0), none⟩,
    ⟨some 13, .mv (.t 5), none⟩,
    ⟨some 14, .mv (.t 1), none⟩,
    ⟨some 15, .ia 12 (.t 13) 4, none⟩,
    ⟨some 16, .fa 15 0 0, none⟩,
    ⟨none, .st 16 (.t 14) 1, none⟩] [0, 1, 5])
  (.seq (.reg [⟨some 17, .mv (.t 1), none⟩,
    ⟨some 18, .bin .add (.t 17) (.c (.int .i64 1)), none⟩,
    ⟨some 1, .asg (.t 18), none⟩] [0, 1, 5])
  (.seq (.reg [⟨some 19, .mv (.t 0), none⟩,
    ⟨some 20, .mv (.t 5), none⟩,
    ⟨some 21, .ia 19 (.t 20) 4, none⟩,
    ⟨some 22, .fa 21 1 1, none⟩,
    ⟨some 23, .ld 22 1 false, none⟩,
    ⟨some 24, .mv (.t 1), none⟩,
    ⟨some 25, .callO 37 [(.t 23), (.t 24)], none⟩,
    ⟨some 1, .asg (.t 25), none⟩] [0, 1, 5])
  (.seq (.reg [⟨some 26, .mv (.t 0), none⟩,
    ⟨some 27, .mv (.t 5), none⟩,
    ⟨some 28, .ia 26 (.t 27) 4, none⟩,
    ⟨some 29, .fa 28 2 2, none⟩,
    ⟨some 30, .ld 29 1 false, none⟩,
    ⟨some 31, .mv (.t 1), none⟩,
    ⟨some 32, .callO 37 [(.t 30), (.t 31)], none⟩,
    ⟨some 1, .asg (.t 32), none⟩] [0, 1, 5])
  (.seq (.reg [⟨some 33, .mv (.t 0), none⟩,
    ⟨some 34, .mv (.t 5), none⟩,
    ⟨some 35, .mv (.t 1), none⟩,
    ⟨some 36, .ia 33 (.t 34) 4, none⟩,
    ⟨some 37, .fa 36 3 3, none⟩,
    ⟨none, .st 37 (.t 35) 1, none⟩] [0, 1, 5])
  (.reg [⟨some 38, .mv (.t 1), none⟩,
    ⟨some 39, .bin .add (.t 38) (.c (.int .i64 1)), none⟩,
    ⟨some 1, .asg (.t 39), none⟩] [0, 1, 5]))))))))
  (.reg [⟨some 10, .mv (.t 5), none⟩,
    ⟨some 11, .bin .add (.t 10) (.c (.int .i64 1)), none⟩,
    ⟨some 5, .asg (.t 11), none⟩] [0, 1, 5])))))))
  (.seq (.reg [⟨some 40, .mv (.t 1), none⟩,
    ⟨some 4, .asg (.t 40), none⟩] [0, 4])
  (.ret)))
theorem con_laws_markTableS {v0 : (List XTable)} {v1 : Int} {r : ((List XTable) × Int)} (h : sh_laws_markTableS v0 v1 = some r) : Con Try.prog 17 [(cLo (cXTable cI (cLo cI) (cLo cI) cI)).enc v0, cI.enc v1] (outsOf (some (0, os_laws_markTableS r))) (rs_laws_markTableS r) := by
  delta sh_laws_markTableS at h
  refine top (out := some (0, os_laws_markTableS r)) (f := Try.f17) (m := m17) (rs := [.t 4]) (by kernel_rfl) rfl (by kernel_rfl) (by kernel_rfl) (by kernel_rfl) (by kernel_rfl) (by kernel_rfl) ?_
  exact
   ini [(0, .d ((cLo (cXTable cI (cLo cI) (cLo cI) cI)).enc v0)), (1, .d (cI.enc v1))] rfl <| wpC_seq <| reg_s <| x_asg (sc cI (0 : Int) rfl) <| seqN [(0, .d ((cLo (cXTable cI (cLo cI) (cLo cI) cI)).enc v0)), (1, .d (cI.enc v1))] (by kernel_rfl) <|
    xn <| wpC_seq <| wpC_kp <| wpC_seq <| reg_s <| x_asg (sc cI (0 : Int) rfl) <| seqN [(0, .d ((cLo (cXTable cI (cLo cI) (cLo cI) cI)).enc v0)), (1, .d (cI.enc v1)), (5, .d (cI.enc (0 : Int)))] (by kernel_rfl) <|
    xn <| wpC_blk <| lpF (fun (s240 : ((List XTable) × Int × Int)) => [(0, .d ((cLo (cXTable cI (cLo cI) (cLo cI) cI)).enc s240.1)), (1, .d (cI.enc s240.2.1)), (5, .d (cI.enc s240.2.2))]) (v0, v1, (0 : Int)) rfl h
    fun G401 nx399 s240 hn400 h => wpC_seq <| wpC_kp <| wpC_seq <| reg_s <| st rfl <| mvd rfl rfl <| st rfl <| mvo rfl rfl <| stw rfl <| leno rfl fun l406 => st rfl <| b_lss (k := .i64) rfl rfl <| seqN [(0, .d ((cLo (cXTable cI (cLo cI) (cLo cI) cI)).enc s240.1)), (1, .d (cI.enc s240.2.1)), (5, .d (cI.enc s240.2.2)), (9, .d (cB.enc (decide (s240.2.2 < (s240.1.length : Int)))))] (by kernel_rfl) <|
    xn <| cnd rfl h (fun b407 h => wpC_skip <| kpN [(0, .d ((cLo (cXTable cI (cLo cI) (cLo cI) cI)).enc s240.1)), (1, .d (cI.enc s240.2.1)), (5, .d (cI.enc s240.2.2))] (by kernel_rfl) <| xn <| wpC_seq <| wpC_kp <| wpC_blk <| wpC_seq <| reg_s <| st rfl <| mvo rfl rfl <| st rfl <| mvd rfl rfl <| st rfl <| mvd rfl rfl <| getO_k h fun x446 i447 g448 h => st rfl <| iar rfl rfl rfl rfl i447 g448 rfl <| st rfl <| faa rfl rfl (Gt.idx g448 Gt.nil) rfl rfl rfl <| x_sta ((cLo (cXTable cI (cLo cI) (cLo cI) cI)).enc (s240.1.set (s240.2.2).toNat (⟨s240.2.1, x446.Vars, x446.Where, x446.Sum⟩ : XTable))) (ss rfl rfl) rfl rfl (Ln.idx g448 (Ln.fld rfl rfl Ln.nil rfl)) (Cd.h_sz cI _) rfl <| seqN [(0, .d ((cLo (cXTable cI (cLo cI) (cLo cI) cI)).enc (s240.1.set (s240.2.2).toNat (⟨s240.2.1, x446.Vars, x446.Where, x446.Sum⟩ : XTable)))), (1, .d (cI.enc s240.2.1)), (5, .d (cI.enc s240.2.2))] (by kernel_rfl) <|
    xn <| wpC_seq <| reg_s <| st rfl <| mvd rfl rfl <| ckI_k h fun i450 h => st rfl <| b_add (k := .i64) rfl rfl i450 <| x_asg (ss rfl rfl) <| seqN [(0, .d ((cLo (cXTable cI (cLo cI) (cLo cI) cI)).enc (s240.1.set (s240.2.2).toNat (⟨s240.2.1, x446.Vars, x446.Where, x446.Sum⟩ : XTable)))), (1, .d (cI.enc (s240.2.1 + (1 : Int)))), (5, .d (cI.enc s240.2.2))] (by kernel_rfl) <|
    xn <| wpC_seq <| reg_s <| st rfl <| mvo rfl rfl <| st rfl <| mvd rfl rfl <| getO_k h fun x456 i457 g458 h => st rfl <| iar rfl rfl rfl rfl i457 g458 rfl <| st rfl <| faa rfl rfl (Gt.idx g458 Gt.nil) rfl rfl rfl <| st rfl <| ldao rfl rfl (Gt.idx g458 (Gt.fld rfl rfl Gt.nil)) rfl rfl rfl <| st rfl <| mvd rfl rfl <| bnd h fun x459 e460 h => x_clr (c := (cLo cI)) (c' := (cLo cI)) ((cLo (cXTable cI (cLo cI) (cLo cI) cI)).enc ((s240.1.set (s240.2.2).toNat (⟨s240.2.1, x446.Vars, x446.Where, x446.Sum⟩ : XTable)).set (s240.2.2).toNat (⟨x456.Level, x459.1, x456.Where, x456.Sum⟩ : XTable))) (sLo sK) rfl (a1 (c := cI) tK rfl a0) rfl (Ln.idx g458 (Ln.fld rfl rfl Ln.nil rfl)) (con_laws_markIntS e460) rfl rfl (so1 sK so0) <| x_asg (ss rfl rfl) <| seqN [(0, .d ((cLo (cXTable cI (cLo cI) (cLo cI) cI)).enc ((s240.1.set (s240.2.2).toNat (⟨s240.2.1, x446.Vars, x446.Where, x446.Sum⟩ : XTable)).set (s240.2.2).toNat (⟨x456.Level, x459.1, x456.Where, x456.Sum⟩ : XTable)))), (1, .d (cI.enc x459.2)), (5, .d (cI.enc s240.2.2))] (by kernel_rfl) <|
    xn <| wpC_seq <| reg_s <| st rfl <| mvo rfl rfl <| st rfl <| mvd rfl rfl <| getO_k h fun x466 i467 g468 h => st rfl <| iar rfl rfl rfl rfl i467 g468 rfl <| st rfl <| faa rfl rfl (Gt.idx g468 Gt.nil) rfl rfl rfl <| st rfl <| ldao rfl rfl (Gt.idx g468 (Gt.fld rfl rfl Gt.nil)) rfl rfl rfl <| st rfl <| mvd rfl rfl <| bnd h fun x469 e470 h => x_clr (c := (cLo cI)) (c' := (cLo cI)) ((cLo (cXTable cI (cLo cI) (cLo cI) cI)).enc (((s240.1.set (s240.2.2).toNat (⟨s240.2.1, x446.Vars, x446.Where, x446.Sum⟩ : XTable)).set (s240.2.2).toNat (⟨x456.Level, x459.1, x456.Where, x456.Sum⟩ : XTable)).set (s240.2.2).toNat (⟨x466.Level, x466.Vars, x469.1, x466.Sum⟩ : XTable))) (sLo sK) rfl (a1 (c := cI) tK rfl a0) rfl (Ln.idx g468 (Ln.fld rfl rfl Ln.nil rfl)) (con_laws_markIntS e470) rfl rfl (so1 sK so0) <| x_asg (ss rfl rfl) <| seqN [(0, .d ((cLo (cXTable cI (cLo cI) (cLo cI) cI)).enc (((s240.1.set (s240.2.2).toNat (⟨s240.2.1, x446.Vars, x446.Where, x446.Sum⟩ : XTable)).set (s240.2.2).toNat (⟨x456.Level, x459.1, x456.Where, x456.Sum⟩ : XTable)).set (s240.2.2).toNat (⟨x466.Level, x466.Vars, x469.1, x466.Sum⟩ : XTable)))), (1, .d (cI.enc x469.2)), (5, .d (cI.enc s240.2.2))] (by kernel_rfl) <|
    xn <| wpC_seq <| reg_s <| st rfl <| mvo rfl rfl <| st rfl <| mvd rfl rfl <| st rfl <| mvd rfl rfl <| getO_k h fun x474 i475 g476 h => st rfl <| iar rfl rfl rfl rfl i475 g476 rfl <| st rfl <| faa rfl rfl (Gt.idx g476 Gt.nil) rfl rfl rfl <| x_sta ((cLo (cXTable cI (cLo cI) (cLo cI) cI)).enc ((((s240.1.set (s240.2.2).toNat (⟨s240.2.1, x446.Vars, x446.Where, x446.Sum⟩ : XTable)).set (s240.2.2).toNat (⟨x456.Level, x459.1, x456.Where, x456.Sum⟩ : XTable)).set (s240.2.2).toNat (⟨x466.Level, x466.Vars, x469.1, x466.Sum⟩ : XTable)).set (s240.2.2).toNat (⟨x474.Level, x474.Vars, x474.Where, x469.2⟩ : XTable))) (ss rfl rfl) rfl rfl (Ln.idx g476 (Ln.fld rfl rfl Ln.nil rfl)) (Cd.h_sz cI _) rfl <| seqN [(0, .d ((cLo (cXTable cI (cLo cI) (cLo cI) cI)).enc ((((s240.1.set (s240.2.2).toNat (⟨s240.2.1, x446.Vars, x446.Where, x446.Sum⟩ : XTable)).set (s240.2.2).toNat (⟨x456.Level, x459.1, x456.Where, x456.Sum⟩ : XTable)).set (s240.2.2).toNat (⟨x466.Level, x466.Vars, x469.1, x466.Sum⟩ : XTable)).set (s240.2.2).toNat (⟨x474.Level, x474.Vars, x474.Where, x469.2⟩ : XTable)))), (1, .d (cI.enc x469.2)), (5, .d (cI.enc s240.2.2))] (by kernel_rfl) <|
    xn <| reg_s <| st rfl <| mvd rfl rfl <| ckI_k h fun i477 h => st rfl <| b_add (k := .i64) rfl rfl i477 <| x_asg (ss rfl rfl) <| seqN [(0, .d ((cLo (cXTable cI (cLo cI) (cLo cI) cI)).enc ((((s240.1.set (s240.2.2).toNat (⟨s240.2.1, x446.Vars, x446.Where, x446.Sum⟩ : XTable)).set (s240.2.2).toNat (⟨x456.Level, x459.1, x456.Where, x456.Sum⟩ : XTable)).set (s240.2.2).toNat (⟨x466.Level, x466.Vars, x469.1, x466.Sum⟩ : XTable)).set (s240.2.2).toNat (⟨x474.Level, x474.Vars, x474.Where, x469.2⟩ : XTable)))), (1, .d (cI.enc (x469.2 + (1 : Int)))), (5, .d (cI.enc s240.2.2))] (by kernel_rfl) <|
    xbb <| kpN [(0, .d ((cLo (cXTable cI (cLo cI) (cLo cI) cI)).enc ((((s240.1.set (s240.2.2).toNat (⟨s240.2.1, x446.Vars, x446.Where, x446.Sum⟩ : XTable)).set (s240.2.2).toNat (⟨x456.Level, x459.1, x456.Where, x456.Sum⟩ : XTable)).set (s240.2.2).toNat (⟨x466.Level, x466.Vars, x469.1, x466.Sum⟩ : XTable)).set (s240.2.2).toNat (⟨x474.Level, x474.Vars, x474.Where, x469.2⟩ : XTable)))), (1, .d (cI.enc (x469.2 + (1 : Int)))), (5, .d (cI.enc s240.2.2))] (by kernel_rfl) <| xn <| reg_s <| st rfl <| mvd rfl rfl <| ckI_k h fun i478 h => st rfl <| b_add (k := .i64) rfl rfl i478 <| x_asg (ss rfl rfl) <| seqN [(0, .d ((cLo (cXTable cI (cLo cI) (cLo cI) cI)).enc ((((s240.1.set (s240.2.2).toNat (⟨s240.2.1, x446.Vars, x446.Where, x446.Sum⟩ : XTable)).set (s240.2.2).toNat (⟨x456.Level, x459.1, x456.Where, x456.Sum⟩ : XTable)).set (s240.2.2).toNat (⟨x466.Level, x466.Vars, x469.1, x466.Sum⟩ : XTable)).set (s240.2.2).toNat (⟨x474.Level, x474.Vars, x474.Where, x469.2⟩ : XTable)))), (1, .d (cI.enc (x469.2 + (1 : Int)))), (5, .d (cI.enc (s240.2.2 + (1 : Int))))] (by kernel_rfl) <|
    xn <| hn400 (((((s240.1.set (s240.2.2).toNat (⟨s240.2.1, x446.Vars, x446.Where, x446.Sum⟩ : XTable)).set (s240.2.2).toNat (⟨x456.Level, x459.1, x456.Where, x456.Sum⟩ : XTable)).set (s240.2.2).toNat (⟨x466.Level, x466.Vars, x469.1, x466.Sum⟩ : XTable)).set (s240.2.2).toNat (⟨x474.Level, x474.Vars, x474.Where, x469.2⟩ : XTable)), (x469.2 + (1 : Int)), (s240.2.2 + (1 : Int))) h)
    (fun b407 h => wpC_exit <| xt <| xt <| xt <| xb <| kpN [(0, .d ((cLo (cXTable cI (cLo cI) (cLo cI) cI)).enc s240.1)), (1, .d (cI.enc s240.2.1))] (by kernel_rfl) <| xn <| wpC_seq <| reg_s <| st rfl <| mvd rfl rfl <| x_asg (ss rfl rfl) <| seqN [(0, .d ((cLo (cXTable cI (cLo cI) (cLo cI) cI)).enc s240.1)), (4, .d (cI.enc s240.2.1))] (by kernel_rfl) <|
    xn <| wpC_ret <| re <| finO h (r1 (ss rfl rfl) <| r0) rfl rfl)

def rs_laws_heldIntS (r : Int) : List D := [cI.enc r]
def m39 : MC := .seq (.reg [⟨some 4, .asg (.c (.int .i64 0)), none⟩] [0, 1])
  (.seq (.kp [1] (.seq (.reg [⟨some 5, .asg (.c (.int .i64 0)), none⟩] [0, 1, 5])
  (.blk 0 (.loop (.seq (.kp [0, 1, 5] (.seq (.reg [⟨some 6, .mv (.t 5), none⟩,
    ⟨some 7, .mv (.t 0), none⟩,
    ⟨some 8, .len false (.t 7), none⟩,
    ⟨some 9, .bin .lss (.t 6) (.t 8), none⟩] [0, 1, 5, 9])
  (.cond (.t 9) (.skip) (.exit 0))))
  (.seq (.kp [0, 1, 5] (.blk 1 (.seq (.kp [0, 1, 5] (.seq (.reg [⟨some 12, .mv (.t 0), none⟩,
    ⟨some 13, .mv (.t 5), none⟩,
    ⟨some 14, .ia 12 (.t 13) 1, none⟩,
    ⟨some 15, .ld 14 1 false, none⟩,
    ⟨some 16, .mv (.t 1), none⟩,
    ⟨some 17, .bin .neq (.t 15) (.t 16), none⟩] [0, 1, 5, 17])
  (.cond (.t 17) (.seq (.reg [⟨some 4, .asg (.c (.int .i64 (-1))), none⟩] [4])
  (.ret)) (.skip))))
  (.reg [⟨some 18, .mv (.t 1), none⟩,
    ⟨some 19, .bin .add (.t 18) (.c (.int .i64 1)), none⟩,
    ⟨some 1, .asg (.t 19), none⟩] [0, 1, 5]))))
  (.reg [⟨some 10, .mv (.t 5), none⟩,
    ⟨some 11, .bin .add (.t 10) (.c (.int .i64 1)), none⟩,
    ⟨some 5, .asg (.t 11), none⟩] [0, 1, 5])))))))
  (.seq (.reg [⟨some 20, .mv (.t 1), none⟩,
    ⟨some 4, .asg (.t 20), none⟩] [4])
  (.ret)))
theorem con_laws_heldIntS {v0 : (List Int)} {v1 : Int} {r : Int} (h : sh_laws_heldIntS v0 v1 = some r) : Con Try.prog 39 [(cLs cI rfl).enc v0, cI.enc v1] [] (rs_laws_heldIntS r) := by
  delta sh_laws_heldIntS at h
  refine top (out := none) (f := Try.f39) (m := m39) (rs := [.t 4]) (by kernel_rfl) rfl (by kernel_rfl) (by kernel_rfl) (by kernel_rfl) (by kernel_rfl) (by kernel_rfl) ?_
  exact
   ini [(0, .d ((cLs cI rfl).enc v0)), (1, .d (cI.enc v1))] rfl <| wpC_seq <| reg_s <| x_asg (sc cI (0 : Int) rfl) <| seqN [(0, .d ((cLs cI rfl).enc v0)), (1, .d (cI.enc v1))] (by kernel_rfl) <|
    xn <| wpC_seq <| wpC_kp <| wpC_seq <| reg_s <| x_asg (sc cI (0 : Int) rfl) <| seqN [(0, .d ((cLs cI rfl).enc v0)), (1, .d (cI.enc v1)), (5, .d (cI.enc (0 : Int)))] (by kernel_rfl) <|
    xn <| wpC_blk <| lpF (fun (s120 : (Int × Int)) => [(0, .d ((cLs cI rfl).enc v0)), (1, .d (cI.enc s120.1)), (5, .d (cI.enc s120.2))]) (v1, (0 : Int)) rfl h
    fun G201 nx199 s120 hn200 h => wpC_seq <| wpC_kp <| wpC_seq <| reg_s <| st rfl <| mvd rfl rfl <| st rfl <| mvd rfl rfl <| stw rfl <| lens rfl fun l206 => st rfl <| b_lss (k := .i64) rfl rfl <| seqN [(0, .d ((cLs cI rfl).enc v0)), (1, .d (cI.enc s120.1)), (5, .d (cI.enc s120.2)), (9, .d (cB.enc (decide (s120.2 < (v0.length : Int)))))] (by kernel_rfl) <|
    xn <| cnd rfl h (fun b207 h => wpC_skip <| kpN [(0, .d ((cLs cI rfl).enc v0)), (1, .d (cI.enc s120.1)), (5, .d (cI.enc s120.2))] (by kernel_rfl) <| xn <| wpC_seq <| wpC_kp <| wpC_blk <| wpC_seq <| wpC_kp <| wpC_seq <| reg_s <| st rfl <| mvd rfl rfl <| st rfl <| mvd rfl rfl <| getO_k h fun x233 i234 g235 h => st rfl <| ias rfl rfl i234 g235 rfl <| st rfl <| ldi rfl rfl rfl rfl <| st rfl <| mvd rfl rfl <| st rfl <| b_neq (k := .i64) rfl rfl <| seqN [(0, .d ((cLs cI rfl).enc v0)), (1, .d (cI.enc s120.1)), (5, .d (cI.enc s120.2)), (17, .d (cB.enc (decide (x233 ≠ s120.1))))] (by kernel_rfl) <|
    xn <| cnd rfl h (fun b236 h => wpC_seq <| reg_s <| x_asg (sc cI (-1 : Int) rfl) <| seqN [(4, .d (cI.enc (-1 : Int)))] (by kernel_rfl) <|
    xn <| wpC_ret <| rt <| rt <| rb <| rt <| rt <| rt <| rb <| rt <| rt <| re <| fin h (r1 (ss rfl rfl) <| r0) rfl)
    (fun b236 h => wpC_skip <| kpN [(0, .d ((cLs cI rfl).enc v0)), (1, .d (cI.enc s120.1)), (5, .d (cI.enc s120.2))] (by kernel_rfl) <| xn <| reg_s <| st rfl <| mvd rfl rfl <| ckI_k h fun i237 h => st rfl <| b_add (k := .i64) rfl rfl i237 <| x_asg (ss rfl rfl) <| seqN [(0, .d ((cLs cI rfl).enc v0)), (1, .d (cI.enc (s120.1 + (1 : Int)))), (5, .d (cI.enc s120.2))] (by kernel_rfl) <|
    xbb <| kpN [(0, .d ((cLs cI rfl).enc v0)), (1, .d (cI.enc (s120.1 + (1 : Int)))), (5, .d (cI.enc s120.2))] (by kernel_rfl) <| xn <| reg_s <| st rfl <| mvd rfl rfl <| ckI_k h fun i238 h => st rfl <| b_add (k := .i64) rfl rfl i238 <| x_asg (ss rfl rfl) <| seqN [(0, .d ((cLs cI rfl).enc v0)), (1, .d (cI.enc (s120.1 + (1 : Int)))), (5, .d (cI.enc (s120.2 + (1 : Int))))] (by kernel_rfl) <|
    xn <| hn200 ((s120.1 + (1 : Int)), (s120.2 + (1 : Int))) h))
    (fun b207 h => wpC_exit <| xt <| xt <| xt <| xb <| kpN [(1, .d (cI.enc s120.1))] (by kernel_rfl) <| xn <| wpC_seq <| reg_s <| st rfl <| mvd rfl rfl <| x_asg (ss rfl rfl) <| seqN [(4, .d (cI.enc s120.1))] (by kernel_rfl) <|
    xn <| wpC_ret <| re <| fin h (r1 (ss rfl rfl) <| r0) rfl)
end AS.W
