/- The program computes the plain functions. No condition. -/
import Derived.Test.YtiohllblkcjafaaGreatQCubeOfTableS
import Derived.Test.YtiohllblkcjafaaGreatProg
import Derived.Test.YtiohllblkcjafaaGreatQCubeOfTableL1
set_option maxRecDepth 100000
set_option linter.unusedVariables false
set_option linter.unusedSimpArgs false
namespace AS.W
open Go Go.Proofs
def rs_spec_sLevels (r : (List Int)) : List D := [cc14.enc r]
def m61 : MC := .seq (.reg [q1 2 (.asg (.c (.slice true [])))] [0])
 (.seq (.reg [q1 3 (.asg (.c (.slice true [])))] [0, 3])
 (.seq (.kp [3] (.seq (.reg [q1 6 (.mv (.t 0)),q1 7 (.len false (.t 6)),q1 8 (.mv (.c (.int .i64 0)))] [0, 3, 6, 7, 8])
 (.blk 0 (.loop (.seq (.reg [q1 9 (.bin .lss (.t 8) (.t 7))] [0, 3, 6, 7, 8, 9])
 (.seq (.kp [0, 3, 6, 7, 8] (.cond (.t 9) (.skip) (.exit 0)))
 (.seq (.kp [0, 3, 6, 7, 8] (.blk 1 (.seq (.reg [q1 10 (.ia 6 (.t 8) 2),q1 11 (.ld 10 2 true),q1 5 (.alloc (.agg [.str [], .int .i64 0])),q0 (.st 5 (.t 11) 2)] [0, 3, 5, 6, 7, 8])
 (.reg [q1 12 (.mv (.t 3)),q1 13 (.fa 5 1 1),q1 14 (.ld 13 1 false),q1 15 (.bsl [(.t 14)] 1),q1 16 (.app (.t 12) (.t 15) 1),q1 3 (.asg (.t 16))] [0, 3, 6, 7, 8]))))
 (.reg [q1 17 (.bin .add (.t 8) (.c (.int .i64 1))),q1 8 (.mv (.t 17))] [0, 3, 6, 7, 8]))))))))
 (.seq (.reg [q1 18 (.mv (.t 3)),q1 2 (.asg (.t 18))] [2])
 (.ret))))
theorem con_spec_sLevels {v0 : (List XVariable)} {r : (List Int)} (h : sh_spec_sLevels v0 = some r) : Con Tryz.prog 61 [cc6.enc v0] [] (rs_spec_sLevels r) := by
 delta sh_spec_sLevels at h
 refine top (out := none) (f := Tryz.f61) (m := m61) (rs := [.t 2]) (by kernel_rfl) rfl (by kernel_rfl) (by kernel_rfl) (by kernel_rfl) (by kernel_rfl) (by kernel_rfl) ?_
 exact
  ini [q2 0 cc6 v0] rfl <| wpC_seq <| reg_s <| x_asg (sc cc14 ([] : List Int) rfl) <| sq [q2 0 cc6 v0] <|
  xn <| wpC_seq <| reg_s <| x_asg (sc cc14 ([] : List Int) rfl) <| sq [q2 0 cc6 v0, q2 3 cc14 ([] : List Int)] <|
  xn <| wpC_seq <| wpC_kp <| wpC_seq <| reg_s <| st rfl <| mvd rfl rfl <| stw rfl <| lens rfl fun l18 => st rfl <| mvc cI (0 : Int) rfl <| sq [q2 0 cc6 v0, q2 3 cc14 ([] : List Int), q2 6 cc6 v0, q2 7 cI (v0.length : Int), q2 8 cI (0 : Int)] <|
  xn <| wpC_blk <| lpR (fun (k20 : Nat) (s19 : (List Int)) => [q2 0 cc6 v0, q2 3 cc14 s19, q2 6 cc6 v0, q2 7 cI (v0.length : Int), q2 8 cI (k20 : Int)]) ([] : List Int) rfl h
  (fun G30 s19 h => wpC_seq <| reg_s <| st rfl <| b_lss (k := .i64) rfl rfl <| sq [q2 0 cc6 v0, q2 3 cc14 s19, q2 6 cc6 v0, q2 7 cI (v0.length : Int), q2 8 cI (v0.length : Int), q2 9 cB (decide ((v0.length : Int) < (v0.length : Int)))] <|
  xn <| wpC_seq <| wpC_kp <| cnd0 rfl (dlf _) <| wpC_exit <| xt <| xt <| xt <| xb <| kpN [q2 3 cc14 s19] (by kernel_rfl) <| xn <| wpC_seq <| reg_s <| st rfl <| mvo rfl rfl <| x_asg (sr rfl rfl) <| sq [q2 2 cc14 s19] <|
  xn <| wpC_ret <| re <| fin h (r1 (so rfl rfl) <| r0) rfl)
  (fun G30 nx28 k20 s19 x21 hk22 hx23 hn29 h => wpC_seq <| reg_s <| st rfl <| b_lss (k := .i64) rfl rfl <| sq [q2 0 cc6 v0, q2 3 cc14 s19, q2 6 cc6 v0, q2 7 cI (v0.length : Int), q2 8 cI (k20 : Int), q2 9 cB (decide ((k20 : Int) < (v0.length : Int)))] <|
  xn <| wpC_seq <| wpC_kp <| cnd1 rfl (dlt hk22) <| wpC_skip <| kpN [q2 0 cc6 v0, q2 3 cc14 s19, q2 6 cc6 v0, q2 7 cI (v0.length : Int), q2 8 cI (k20 : Int)] (by kernel_rfl) <| xn <| wpC_seq <| wpC_kp <| wpC_blk <| wpC_seq <| reg_s <| st rfl <| ias rfl rfl (Int.natCast_nonneg _) hx23 rfl <| st rfl <| ldi rfl rfl rfl rfl <| x_all cc11 (⟨([] : List UInt8), (0 : Int)⟩ : XVariable) rfl <| x_stb (ss rfl rfl) rfl (Cd.h_sz _ _) rfl <| sq [q2 0 cc6 v0, q2 3 cc14 s19, q3 5 cc11 x21, q2 6 cc6 v0, q2 7 cI (v0.length : Int), q2 8 cI (k20 : Int)] <|
  xn <| reg_s <| st rfl <| mvo rfl rfl <| st rfl <| fab rfl rfl rfl rfl <| st rfl <| lda rfl rfl rfl rfl rfl rfl <| x_bsl cI [x21.Levels] (t1 (ss rfl rfl) rfl t0) rfl rfl <| lnO_k h fun l32 h => x_app (sr rfl rfl) (to rfl rfl) l32 rfl <| x_asg (so rfl rfl) <| sq [q2 0 cc6 v0, q2 3 cc14 (s19 ++ [x21.Levels]), q2 6 cc6 v0, q2 7 cI (v0.length : Int), q2 8 cI (k20 : Int)] <|
  xbb <| kpN [q2 0 cc6 v0, q2 3 cc14 (s19 ++ [x21.Levels]), q2 6 cc6 v0, q2 7 cI (v0.length : Int), q2 8 cI (k20 : Int)] (by kernel_rfl) <| xn <| reg_s <| st rfl <| b_inc rfl rfl l18 hk22 <| st rfl <| mvd rfl rfl <| sq [q2 0 cc6 v0, q2 3 cc14 (s19 ++ [x21.Levels]), q2 6 cc6 v0, q2 7 cI (v0.length : Int), q2 8 cI ((k20 + 1 : Nat) : Int)] <|
  xn <| hn29 (s19 ++ [x21.Levels]) h)

def rs_spec_cbSizes (r : (List Int)) : List D := [cc14.enc r]
def m31 : MC := .seq (.reg [q1 3 (.box (.t 0)),q1 5 (.box (.t 2)),q1 6 (.asg (.c (.slice true [])))] [1, 3, 5])
 (.seq (.drw [⟨0, q1 7 (.ld 3 1 true), [8, 9, 10, 11, 12, 13, 14, 15, 16, 17]⟩,
  ⟨1, q1 8 (.fa 5 0 0), [7, 9, 10, 11, 12, 13, 14, 15, 16, 17]⟩,
  ⟨2, q1 9 (.ld 8 1 false), [7, 10, 11, 12, 13, 14, 15, 16, 17]⟩,
  ⟨3, q1 10 (.call 52 [(.t 7), (.t 9)]), [11, 12, 13, 14, 15, 16, 17]⟩,
  ⟨4, q1 11 (.len false (.t 10)), [12, 13, 14, 15, 16, 17]⟩,
  ⟨5, q1 12 (.bsl [(.t 11)] 1), [13, 14, 15, 16, 17]⟩,
  ⟨6, q1 13 (.mv (.t 1)), [7, 8, 9, 10, 11, 12, 14, 15, 16, 17]⟩,
  ⟨7, q1 14 (.fa 5 1 1), [7, 8, 9, 10, 11, 12, 13, 15, 16, 17]⟩,
  ⟨8, q1 15 (.ld 14 1 false), [7, 8, 9, 10, 11, 12, 13, 16, 17]⟩,
  ⟨9, q1 16 (.call 62 [(.t 13), (.t 15)]), [11, 12, 17]⟩,
  ⟨10, q1 17 (.call 61 [(.t 16)]), [11, 12]⟩]
  [(11, q1 18 (.app (.t 12) (.t 17) 1)),
  (12, q1 6 (.asg (.t 18)))] [6])
 (.ret))
theorem con_spec_cbSizes {v0 : XGeo} {v1 : (List XVariable)} {v2 : XTable} {r : (List Int)} (h : sh_spec_cbSizes v0 v1 v2 = some r) : Con Tryz.prog 31 [cc10.enc v0, cc6.enc v1, cc0.enc v2] [] (rs_spec_cbSizes r) := by
 delta sh_spec_cbSizes at h
 refine top (out := none) (f := Tryz.f31) (m := m31) (rs := [.t 6]) (by kernel_rfl) rfl (by kernel_rfl) (by kernel_rfl) (by kernel_rfl) (by kernel_rfl) (by kernel_rfl) ?_
 exact
  ini [q2 0 cc10 v0, q2 1 cc6 v1, q2 2 cc0 v2] rfl <| wpC_seq <| reg_s <| x_box (ss rfl rfl) <| x_box (ss rfl rfl) <| x_asg (sc cc14 ([] : List Int) rfl) <| sq [q2 1 cc6 v1, q3 3 cc10 v0, q3 5 cc0 v2] <|
  xn <| wpC_seq <| drw_s <| pst rfl <| ldb rfl rfl rfl rfl ⟨rfl, pst rfl <| fab rfl rfl rfl rfl ⟨rfl, pst rfl <| lda rfl rfl rfl rfl rfl rfl ⟨rfl, bndp h fun x9 e10 h => pst rfl <| o_call (a1 (c := cc10) (tXGeo (tLs tK)) rfl (a1 (c := cI) tK rfl a0)) (con_spec_gLevel e10) (.inl (so1 (sLo sK) so0)) ⟨rfl, lmO_kp h fun l11 h => pst rfl <| plno rfl l11 ⟨rfl, pst rfl <| p_bsl cI [(x9.length : Int)] (e1 rfl rfl rfl e0) rfl rfl ⟨rfl, pst rfl <| mvd rfl rfl ⟨rfl, pst rfl <| fab rfl rfl rfl rfl ⟨rfl, pst rfl <| lda rfl rfl rfl rfl rfl rfl ⟨rfl, bndp h fun x12 e13 h => pst rfl <| o_call (a1 (c := cc6) (tLs (tXVariable tS tK)) rfl (a1 (c := cc13) (tLs tK) rfl a0)) (con_spec_sPart e13) (.inl (so1 (sLo (sXVariable sS sK)) so0)) ⟨rfl, bndp h fun x14 e15 h => pst rfl <| o_call (a1 (c := cc9) (tLo (tXVariable tS tK)) rfl a0) (con_spec_sLevels e15) (.inl (so1 (sLo sK) so0)) ⟨rfl, preN <| lnO_k h fun l16 h => x_app (so rfl rfl) (to rfl rfl) l16 rfl <| x_asg (so rfl rfl) <| sq [q2 6 cc14 ([(x9.length : Int)] ++ x14)] <|
  xn <| wpC_ret <| re <| fin h (r1 (so rfl rfl) <| r0) rfl⟩⟩⟩⟩⟩⟩⟩⟩⟩⟩⟩

def rs_spec_gUp (r : Int) : List D := [cI.enc r]
def m88 : MC := .seq (.reg [q1 3 (.box (.t 0)),q1 6 (.asg (.c (.int .i64 0)))] [1, 2, 3])
 (.seq (.reg [q1 8 (.ld 3 1 true),q1 9 (.mv (.t 1)),q1 10 (.call 82 [(.t 8), (.t 9)]),q1 7 (.asg (.t 10))] [1, 2, 3, 7])
 (.seq (.kp [1, 2, 3, 7] (.seq (.reg [q1 11 (.mv (.t 2)),q1 12 (.bin .lss (.t 11) (.c (.int .i64 0)))] [1, 2, 3, 7, 12])
 (.cond (.t 12) (.seq (.reg [q1 6 (.asg (.c (.int .i64 (-1))))] [6])
 (.ret)) (.skip))))
 (.seq (.kp [1, 2, 7] (.blk 0 (.loop (.seq (.kp [1, 2, 3, 7] (.seq (.reg [q1 13 (.mv (.t 7)),q1 14 (.mv (.t 2)),q1 15 (.bin .gtr (.t 13) (.t 14))] [1, 2, 3, 7, 15])
 (.cond (.t 15) (.skip) (.exit 0))))
 (.seq (.kp [1, 2, 3, 7] (.blk 1 (.reg [q1 18 (.fa 3 0 0),q1 19 (.ld 18 1 false),q1 20 (.mv (.t 1)),q1 21 (.ia 19 (.t 20) 1),q1 22 (.ld 21 1 false),q1 1 (.asg (.t 22))] [1, 2, 3, 7])))
 (.reg [q1 16 (.mv (.t 7)),q1 17 (.bin .sub (.t 16) (.c (.int .i64 1))),q1 7 (.asg (.t 17))] [1, 2, 3, 7]))))))
 (.seq (.kp [1] (.seq (.reg [q1 23 (.mv (.t 7)),q1 24 (.mv (.t 2)),q1 25 (.bin .lss (.t 23) (.t 24))] [1, 25])
 (.cond (.t 25) (.seq (.reg [q1 6 (.asg (.c (.int .i64 (-1))))] [6])
 (.ret)) (.skip))))
 (.seq (.reg [q1 26 (.mv (.t 1)),q1 6 (.asg (.t 26))] [6])
 (.ret))))))
theorem con_spec_gUp {v0 : XGeo} {v1 : Int} {v2 : Int} {r : Int} (h : sh_spec_gUp v0 v1 v2 = some r) : Con Tryz.prog 88 [cc10.enc v0, cI.enc v1, cI.enc v2] [] (rs_spec_gUp r) := by
 delta sh_spec_gUp at h
 refine top (out := none) (f := Tryz.f88) (m := m88) (rs := [.t 6]) (by kernel_rfl) rfl (by kernel_rfl) (by kernel_rfl) (by kernel_rfl) (by kernel_rfl) (by kernel_rfl) ?_
 exact
  ini [q2 0 cc10 v0, q2 1 cI v1, q2 2 cI v2] rfl <| wpC_seq <| reg_s <| x_box (ss rfl rfl) <| x_asg (sc cI (0 : Int) rfl) <| sq [q2 1 cI v1, q2 2 cI v2, q3 3 cc10 v0] <|
  xn <| wpC_seq <| reg_s <| st rfl <| ldb rfl rfl rfl rfl <| st rfl <| mvd rfl rfl <| bnd h fun x3 e4 h => st rfl <| o_call (a1 (c := cc10) (tXGeo (tLs tK)) rfl (a1 (c := cI) tK rfl a0)) (con_spec_gDepth e4) (.inl (so1 sK so0)) <| x_asg (ss rfl rfl) <| sq [q2 1 cI v1, q2 2 cI v2, q3 3 cc10 v0, q2 7 cI x3] <|
  xn <| wpC_seq <| wpC_kp <| wpC_seq <| reg_s <| st rfl <| mvd rfl rfl <| st rfl <| b_lss (k := .i64) rfl rfl <| sq [q2 1 cI v1, q2 2 cI v2, q3 3 cc10 v0, q2 7 cI x3, q2 12 cB (decide (v2 < (0 : Int)))] <|
  xn <| cnd rfl h (fun b6 h => wpC_seq <| reg_s <| x_asg (sc cI (-1 : Int) rfl) <| sq [q2 6 cI (-1 : Int)] <|
  xn <| wpC_ret <| rt <| rt <| re <| fin h (r1 (ss rfl rfl) <| r0) rfl)
  (fun b6 h => wpC_skip <| kpN [q2 1 cI v1, q2 2 cI v2, q3 3 cc10 v0, q2 7 cI x3] (by kernel_rfl) <| xn <| wpC_seq <| wpC_kp <| wpC_blk <| lpF (fun (s42 : (Int × Int)) => [q2 1 cI s42.1, q2 2 cI v2, q3 3 cc10 v0, q2 7 cI s42.2]) (v1, x3) rfl h
  fun G67 nx65 s42 hn66 h => wpC_seq <| wpC_kp <| wpC_seq <| reg_s <| st rfl <| mvd rfl rfl <| st rfl <| mvd rfl rfl <| st rfl <| b_gtr (k := .i64) rfl rfl <| sq [q2 1 cI s42.1, q2 2 cI v2, q3 3 cc10 v0, q2 7 cI s42.2, q2 15 cB (decide (v2 < s42.2))] <|
  xn <| cnd rfl h (fun b69 h => wpC_skip <| kpN [q2 1 cI s42.1, q2 2 cI v2, q3 3 cc10 v0, q2 7 cI s42.2] (by kernel_rfl) <| xn <| wpC_seq <| wpC_kp <| wpC_blk <| reg_s <| st rfl <| fab rfl rfl rfl rfl <| st rfl <| lda rfl rfl rfl rfl rfl rfl <| st rfl <| mvd rfl rfl <| getO_k h fun x73 i74 g75 h => st rfl <| ias rfl rfl i74 g75 rfl <| st rfl <| ldi rfl rfl rfl rfl <| x_asg (ss rfl rfl) <| sq [q2 1 cI x73, q2 2 cI v2, q3 3 cc10 v0, q2 7 cI s42.2] <|
  xbb <| kpN [q2 1 cI x73, q2 2 cI v2, q3 3 cc10 v0, q2 7 cI s42.2] (by kernel_rfl) <| xn <| reg_s <| st rfl <| mvd rfl rfl <| ckI_k h fun i76 h => st rfl <| b_sub (k := .i64) rfl rfl i76 <| x_asg (ss rfl rfl) <| sq [q2 1 cI x73, q2 2 cI v2, q3 3 cc10 v0, q2 7 cI (s42.2 - (1 : Int))] <|
  xn <| hn66 (x73, (s42.2 - (1 : Int))) h)
  (fun b69 h => wpC_exit <| xt <| xt <| xt <| xb <| kpN [q2 1 cI s42.1, q2 2 cI v2, q2 7 cI s42.2] (by kernel_rfl) <| xn <| wpC_seq <| wpC_kp <| wpC_seq <| reg_s <| st rfl <| mvd rfl rfl <| st rfl <| mvd rfl rfl <| st rfl <| b_lss (k := .i64) rfl rfl <| sq [q2 1 cI s42.1, q2 25 cB (decide (s42.2 < v2))] <|
  xn <| cnd rfl h (fun b78 h => wpC_seq <| reg_s <| x_asg (sc cI (-1 : Int) rfl) <| sq [q2 6 cI (-1 : Int)] <|
  xn <| wpC_ret <| rt <| rt <| re <| fin h (r1 (ss rfl rfl) <| r0) rfl)
  (fun b78 h => wpC_skip <| kpN [q2 1 cI s42.1] (by kernel_rfl) <| xn <| wpC_seq <| reg_s <| st rfl <| mvd rfl rfl <| x_asg (ss rfl rfl) <| sq [q2 6 cI s42.1] <|
  xn <| wpC_ret <| re <| fin h (r1 (ss rfl rfl) <| r0) rfl)))

def rs_spec_uMeets (r : Bool) : List D := [cB.enc r]
def m89 : MC := .seq (.reg [q1 2 (.box (.t 0)),q1 4 (.asg (.c (.bool false)))] [1, 2])
 (.seq (.kp [] (.seq (.reg [q1 7 (.fa 2 2 2),q1 8 (.ld 7 1 false),q1 9 (.len false (.t 8)),q1 10 (.mv (.c (.int .i64 0)))] [1, 2, 7, 8, 9, 10])
 (.blk 0 (.loop (.seq (.reg [q1 11 (.bin .lss (.t 10) (.t 9))] [1, 2, 7, 8, 9, 10, 11])
 (.seq (.kp [1, 2, 7, 8, 9, 10] (.cond (.t 11) (.skip) (.exit 0)))
 (.seq (.kp [1, 2, 7, 8, 9, 10] (.blk 1 (.seq (.reg [q1 12 (.mv (.t 10)),q1 13 (.ia 8 (.t 10) 1),q1 14 (.ld 13 1 false),q1 5 (.asg (.t 12)),q1 6 (.asg (.t 14))] [1, 2, 5, 6, 7, 8, 9, 10])
 (.seq (.reg [q1 15 (.mv (.t 6)),q1 16 (.bin .neq (.t 15) (.c (.int .i64 0))),q1 17 (.mv (.t 16)),
  ⟨some 18, .mv (.t 6), some (17, true)⟩,
  ⟨some 19, .mv (.t 1), some (17, true)⟩,
  ⟨some 20, .mv (.t 5), some (17, true)⟩,
  ⟨some 21, .ia 19 (.t 20) 1, some (17, true)⟩,
  ⟨some 22, .ld 21 1 false, some (17, true)⟩,
  ⟨some 23, .cvi .u64 (.t 22), some (17, true)⟩,
  ⟨some 24, .bin .shr (.t 18) (.t 23), some (17, true)⟩,
  ⟨some 25, .bin .and (.t 24) (.c (.int .i64 1)), some (17, true)⟩,
  ⟨some 26, .bin .eql (.t 25) (.c (.int .i64 0)), some (17, true)⟩,q1 27 (.pick (.t 17) (.t 26) (.c (.bool false)))] [1, 2, 7, 8, 9, 10, 27])
 (.cond (.t 27) (.seq (.reg [q1 4 (.asg (.c (.bool false)))] [4])
 (.ret)) (.skip))))))
 (.reg [q1 28 (.bin .add (.t 10) (.c (.int .i64 1))),q1 10 (.mv (.t 28))] [1, 2, 7, 8, 9, 10]))))))))
 (.seq (.reg [q1 4 (.asg (.c (.bool true)))] [4])
 (.ret)))
theorem con_spec_uMeets {v0 : XTable} {v1 : (List Int)} {r : Bool} (h : sh_spec_uMeets v0 v1 = some r) : Con Tryz.prog 89 [cc0.enc v0, cc13.enc v1] [] (rs_spec_uMeets r) := by
 delta sh_spec_uMeets at h
 refine top (out := none) (f := Tryz.f89) (m := m89) (rs := [.t 4]) (by kernel_rfl) rfl (by kernel_rfl) (by kernel_rfl) (by kernel_rfl) (by kernel_rfl) (by kernel_rfl) ?_
 exact
  ini [q2 0 cc0 v0, q2 1 cc13 v1] rfl <| wpC_seq <| reg_s <| x_box (ss rfl rfl) <| x_asg (sc cB false rfl) <| sq [q2 1 cc13 v1, q3 2 cc0 v0] <|
  xn <| wpC_seq <| wpC_kp <| wpC_seq <| reg_s <| st rfl <| fab rfl rfl rfl rfl <| st rfl <| lda rfl rfl rfl rfl rfl rfl <| stw rfl <| lens rfl fun l96 => st rfl <| mvc cI (0 : Int) rfl <| sq [q2 1 cc13 v1, q3 2 cc0 v0, (7, .adr 2 [.fld 2]), q2 8 cc13 v0.Where, q2 9 cI (v0.Where.length : Int), q2 10 cI (0 : Int)] <|
  xn <| wpC_blk <| lpR (fun (k98 : Nat) (s97 : Unit) => [q2 1 cc13 v1, q3 2 cc0 v0, (7, .adr 2 [.fld 2]), q2 8 cc13 v0.Where, q2 9 cI (v0.Where.length : Int), q2 10 cI (k98 : Int)]) () rfl h
  (fun G146 s97 h => wpC_seq <| reg_s <| st rfl <| b_lss (k := .i64) rfl rfl <| sq [q2 1 cc13 v1, q3 2 cc0 v0, (7, .adr 2 [.fld 2]), q2 8 cc13 v0.Where, q2 9 cI (v0.Where.length : Int), q2 10 cI (v0.Where.length : Int), q2 11 cB (decide ((v0.Where.length : Int) < (v0.Where.length : Int)))] <|
  xn <| wpC_seq <| wpC_kp <| cnd0 rfl (dlf _) <| wpC_exit <| xt <| xt <| xt <| xb <| kpN [] (by kernel_rfl) <| xn <| wpC_seq <| reg_s <| x_asg (sc cB true rfl) <| sq [q2 4 cB true] <|
  xn <| wpC_ret <| re <| fin h (r1 (ss rfl rfl) <| r0) rfl)
  (fun G146 nx144 k98 s97 x99 hk100 hx101 hn145 h => wpC_seq <| reg_s <| st rfl <| b_lss (k := .i64) rfl rfl <| sq [q2 1 cc13 v1, q3 2 cc0 v0, (7, .adr 2 [.fld 2]), q2 8 cc13 v0.Where, q2 9 cI (v0.Where.length : Int), q2 10 cI (k98 : Int), q2 11 cB (decide ((k98 : Int) < (v0.Where.length : Int)))] <|
  xn <| wpC_seq <| wpC_kp <| cnd1 rfl (dlt hk100) <| wpC_skip <| kpN [q2 1 cc13 v1, q3 2 cc0 v0, (7, .adr 2 [.fld 2]), q2 8 cc13 v0.Where, q2 9 cI (v0.Where.length : Int), q2 10 cI (k98 : Int)] (by kernel_rfl) <| xn <| wpC_seq <| wpC_kp <| wpC_blk <| wpC_seq <| reg_s <| st rfl <| mvd rfl rfl <| st rfl <| ias rfl rfl (Int.natCast_nonneg _) hx101 rfl <| st rfl <| ldi rfl rfl rfl rfl <| x_asg (ss rfl rfl) <| x_asg (ss rfl rfl) <| sq [q2 1 cc13 v1, q3 2 cc0 v0, q2 5 cI (k98 : Int), q2 6 cI x99, (7, .adr 2 [.fld 2]), q2 8 cc13 v0.Where, q2 9 cI (v0.Where.length : Int), q2 10 cI (k98 : Int)] <|
  xn <| wpC_seq <| reg_s <| st rfl <| mvd rfl rfl <| st rfl <| b_neq (k := .i64) rfl rfl <| st rfl <| mvd rfl rfl <| ite_k h (fun b178 h => gt' rfl b178 <| st rfl <| mvd rfl rfl <| gt' rfl b178 <| st rfl <| mvd rfl rfl <| gt' rfl b178 <| st rfl <| mvd rfl rfl <| gt' rfl b178 <| getO_k h fun x179 i180 g181 h => st rfl <| ias rfl rfl i180 g181 rfl <| gt' rfl b178 <| st rfl <| ldi rfl rfl rfl rfl <| gt' rfl b178 <| ckK_k h fun i182 h => st rfl <| o_cvi (k := .i64) (k' := .u64) rfl i182 <| gt' rfl b178 <| ck_k h fun i183 h => st rfl <| b_shr (k := .i64) (k' := .u64) rfl rfl i183 rfl <| gt' rfl b178 <| ck_k h fun i184 h => ckK_k h fun i185 h => ck_k h fun i186 h => ckK_k h fun i187 h => st rfl <| b_and (k := .i64) rfl rfl ⟨i184, i185⟩ ⟨i186, i187⟩ <| gt' rfl b178 <| st rfl <| b_eql (k := .i64) rfl rfl <| st rfl <| pick1 rfl b178 (cd := cB) (v := (decide ((((x99 / 2 ^ (x179).toNat).toNat &&& (1 : Int).toNat : Nat) : Int) = (0 : Int)))) rfl rfl <| sq [q2 1 cc13 v1, q3 2 cc0 v0, (7, .adr 2 [.fld 2]), q2 8 cc13 v0.Where, q2 9 cI (v0.Where.length : Int), q2 10 cI (k98 : Int), q2 27 cB (decide ((((x99 / 2 ^ (x179).toNat).toNat &&& (1 : Int).toNat : Nat) : Int) = (0 : Int)))] <|
  xn <| cnd rfl h (fun b188 h => wpC_seq <| reg_s <| x_asg (sc cB false rfl) <| sq [q2 4 cB false] <|
  xn <| wpC_ret <| rb <| rt <| rt <| rt <| rb <| rt <| rt <| re <| fin h (r1 (ss rfl rfl) <| r0) rfl)
  (fun b188 h => wpC_skip <| xbb <| kpN [q2 1 cc13 v1, q3 2 cc0 v0, (7, .adr 2 [.fld 2]), q2 8 cc13 v0.Where, q2 9 cI (v0.Where.length : Int), q2 10 cI (k98 : Int)] (by kernel_rfl) <| xn <| reg_s <| st rfl <| b_inc rfl rfl l96 hk100 <| st rfl <| mvd rfl rfl <| sq [q2 1 cc13 v1, q3 2 cc0 v0, (7, .adr 2 [.fld 2]), q2 8 cc13 v0.Where, q2 9 cI (v0.Where.length : Int), q2 10 cI ((k98 + 1 : Nat) : Int)] <|
  xn <| hn145 () h))
  (fun b178 h => gf rfl b178 <| gf rfl b178 <| gf rfl b178 <| gf rfl b178 <| gf rfl b178 <| gf rfl b178 <| gf rfl b178 <| gf rfl b178 <| gf rfl b178 <| st rfl <| pick0 rfl b178 (cd := cB) (v := false) rfl rfl <| sq [q2 1 cc13 v1, q3 2 cc0 v0, (7, .adr 2 [.fld 2]), q2 8 cc13 v0.Where, q2 9 cI (v0.Where.length : Int), q2 10 cI (k98 : Int), q2 27 cB false] <|
  xn <| cnd0 rfl rfl <| wpC_skip <| xbb <| kpN [q2 1 cc13 v1, q3 2 cc0 v0, (7, .adr 2 [.fld 2]), q2 8 cc13 v0.Where, q2 9 cI (v0.Where.length : Int), q2 10 cI (k98 : Int)] (by kernel_rfl) <| xn <| reg_s <| st rfl <| b_inc rfl rfl l96 hk100 <| st rfl <| mvd rfl rfl <| sq [q2 1 cc13 v1, q3 2 cc0 v0, (7, .adr 2 [.fld 2]), q2 8 cc13 v0.Where, q2 9 cI (v0.Where.length : Int), q2 10 cI ((k98 + 1 : Nat) : Int)] <|
  xn <| hn145 () h))

def rs_spec_l1Find (r : Int) : List D := [cI.enc r]
def m90 : MC := .seq (.reg [q1 4 (.asg (.c (.int .i64 0)))] [0, 1])
 (.seq (.kp [] (.seq (.reg [q1 7 (.mv (.t 0)),q1 8 (.len false (.t 7)),q1 9 (.mv (.c (.int .i64 0)))] [0, 1, 7, 8, 9])
 (.blk 0 (.loop (.seq (.reg [q1 10 (.bin .lss (.t 9) (.t 8))] [0, 1, 7, 8, 9, 10])
 (.seq (.kp [0, 1, 7, 8, 9] (.cond (.t 10) (.skip) (.exit 0)))
 (.seq (.kp [0, 1, 7, 8, 9] (.blk 1 (.seq (.reg [q1 11 (.mv (.t 9)),q1 12 (.ia 7 (.t 9) 1),q1 13 (.ld 12 1 false),q1 5 (.asg (.t 11)),q1 6 (.asg (.t 13))] [0, 1, 5, 6, 7, 8, 9])
 (.seq (.reg [q1 14 (.mv (.t 6)),q1 15 (.mv (.t 1)),q1 16 (.bin .eql (.t 14) (.t 15))] [0, 1, 5, 7, 8, 9, 16])
 (.cond (.t 16) (.seq (.reg [q1 17 (.mv (.t 5)),q1 4 (.asg (.t 17))] [4])
 (.ret)) (.skip))))))
 (.reg [q1 18 (.bin .add (.t 9) (.c (.int .i64 1))),q1 9 (.mv (.t 18))] [0, 1, 7, 8, 9]))))))))
 (.seq (.reg [q1 4 (.asg (.c (.int .i64 (-1))))] [4])
 (.ret)))
theorem con_spec_l1Find {v0 : (List Int)} {v1 : Int} {r : Int} (h : sh_spec_l1Find v0 v1 = some r) : Con Tryz.prog 90 [cc13.enc v0, cI.enc v1] [] (rs_spec_l1Find r) := by
 delta sh_spec_l1Find at h
 refine top (out := none) (f := Tryz.f90) (m := m90) (rs := [.t 4]) (by kernel_rfl) rfl (by kernel_rfl) (by kernel_rfl) (by kernel_rfl) (by kernel_rfl) (by kernel_rfl) ?_
 exact
  ini [q2 0 cc13 v0, q2 1 cI v1] rfl <| wpC_seq <| reg_s <| x_asg (sc cI (0 : Int) rfl) <| sq [q2 0 cc13 v0, q2 1 cI v1] <|
  xn <| wpC_seq <| wpC_kp <| wpC_seq <| reg_s <| st rfl <| mvd rfl rfl <| stw rfl <| lens rfl fun l16 => st rfl <| mvc cI (0 : Int) rfl <| sq [q2 0 cc13 v0, q2 1 cI v1, q2 7 cc13 v0, q2 8 cI (v0.length : Int), q2 9 cI (0 : Int)] <|
  xn <| wpC_blk <| lpR (fun (k18 : Nat) (s17 : Unit) => [q2 0 cc13 v0, q2 1 cI v1, q2 7 cc13 v0, q2 8 cI (v0.length : Int), q2 9 cI (k18 : Int)]) () rfl h
  (fun G26 s17 h => wpC_seq <| reg_s <| st rfl <| b_lss (k := .i64) rfl rfl <| sq [q2 0 cc13 v0, q2 1 cI v1, q2 7 cc13 v0, q2 8 cI (v0.length : Int), q2 9 cI (v0.length : Int), q2 10 cB (decide ((v0.length : Int) < (v0.length : Int)))] <|
  xn <| wpC_seq <| wpC_kp <| cnd0 rfl (dlf _) <| wpC_exit <| xt <| xt <| xt <| xb <| kpN [] (by kernel_rfl) <| xn <| wpC_seq <| reg_s <| x_asg (sc cI (-1 : Int) rfl) <| sq [q2 4 cI (-1 : Int)] <|
  xn <| wpC_ret <| re <| fin h (r1 (ss rfl rfl) <| r0) rfl)
  (fun G26 nx24 k18 s17 x19 hk20 hx21 hn25 h => wpC_seq <| reg_s <| st rfl <| b_lss (k := .i64) rfl rfl <| sq [q2 0 cc13 v0, q2 1 cI v1, q2 7 cc13 v0, q2 8 cI (v0.length : Int), q2 9 cI (k18 : Int), q2 10 cB (decide ((k18 : Int) < (v0.length : Int)))] <|
  xn <| wpC_seq <| wpC_kp <| cnd1 rfl (dlt hk20) <| wpC_skip <| kpN [q2 0 cc13 v0, q2 1 cI v1, q2 7 cc13 v0, q2 8 cI (v0.length : Int), q2 9 cI (k18 : Int)] (by kernel_rfl) <| xn <| wpC_seq <| wpC_kp <| wpC_blk <| wpC_seq <| reg_s <| st rfl <| mvd rfl rfl <| st rfl <| ias rfl rfl (Int.natCast_nonneg _) hx21 rfl <| st rfl <| ldi rfl rfl rfl rfl <| x_asg (ss rfl rfl) <| x_asg (ss rfl rfl) <| sq [q2 0 cc13 v0, q2 1 cI v1, q2 5 cI (k18 : Int), q2 6 cI x19, q2 7 cc13 v0, q2 8 cI (v0.length : Int), q2 9 cI (k18 : Int)] <|
  xn <| wpC_seq <| reg_s <| st rfl <| mvd rfl rfl <| st rfl <| mvd rfl rfl <| st rfl <| b_eql (k := .i64) rfl rfl <| sq [q2 0 cc13 v0, q2 1 cI v1, q2 5 cI (k18 : Int), q2 7 cc13 v0, q2 8 cI (v0.length : Int), q2 9 cI (k18 : Int), q2 16 cB (decide (x19 = v1))] <|
  xn <| cnd rfl h (fun b28 h => wpC_seq <| reg_s <| st rfl <| mvd rfl rfl <| x_asg (ss rfl rfl) <| sq [q2 4 cI (k18 : Int)] <|
  xn <| wpC_ret <| rb <| rt <| rt <| rt <| rb <| rt <| rt <| re <| fin h (r1 (ss rfl rfl) <| r0) rfl)
  (fun b28 h => wpC_skip <| xbb <| kpN [q2 0 cc13 v0, q2 1 cI v1, q2 7 cc13 v0, q2 8 cI (v0.length : Int), q2 9 cI (k18 : Int)] (by kernel_rfl) <| xn <| reg_s <| st rfl <| b_inc rfl rfl l16 hk20 <| st rfl <| mvd rfl rfl <| sq [q2 0 cc13 v0, q2 1 cI v1, q2 7 cc13 v0, q2 8 cI (v0.length : Int), q2 9 cI ((k18 + 1 : Nat) : Int)] <|
  xn <| hn25 () h))

def rs_spec_sPick (r : (List Int)) : List D := [cc14.enc r]
def m92 : MC := .seq (.reg [q1 4 (.asg (.c (.slice true [])))] [0, 1])
 (.seq (.reg [q1 5 (.asg (.c (.slice true [])))] [0, 1, 5])
 (.seq (.kp [5] (.seq (.reg [q1 8 (.mv (.t 1)),q1 9 (.len false (.t 8)),q1 10 (.mv (.c (.int .i64 0)))] [0, 1, 5, 8, 9, 10])
 (.blk 0 (.loop (.seq (.reg [q1 11 (.bin .lss (.t 10) (.t 9))] [0, 1, 5, 8, 9, 10, 11])
 (.seq (.kp [0, 1, 5, 8, 9, 10] (.cond (.t 11) (.skip) (.exit 0)))
 (.seq (.kp [0, 1, 5, 8, 9, 10] (.blk 1 (.seq (.reg [q1 12 (.ia 8 (.t 10) 1),q1 13 (.ld 12 1 false),q1 7 (.asg (.t 13))] [0, 1, 5, 7, 8, 9, 10])
 (.reg [q1 14 (.mv (.t 5)),q1 15 (.mv (.t 0)),q1 16 (.mv (.t 7)),q1 17 (.ia 15 (.t 16) 1),q1 18 (.ld 17 1 false),q1 19 (.bsl [(.t 18)] 1),q1 20 (.app (.t 14) (.t 19) 1),q1 5 (.asg (.t 20))] [0, 1, 5, 8, 9, 10]))))
 (.reg [q1 21 (.bin .add (.t 10) (.c (.int .i64 1))),q1 10 (.mv (.t 21))] [0, 1, 5, 8, 9, 10]))))))))
 (.seq (.reg [q1 22 (.mv (.t 5)),q1 4 (.asg (.t 22))] [4])
 (.ret))))
theorem con_spec_sPick {v0 : (List Int)} {v1 : (List Int)} {r : (List Int)} (h : sh_spec_sPick v0 v1 = some r) : Con Tryz.prog 92 [cc13.enc v0, cc13.enc v1] [] (rs_spec_sPick r) := by
 delta sh_spec_sPick at h
 refine top (out := none) (f := Tryz.f92) (m := m92) (rs := [.t 4]) (by kernel_rfl) rfl (by kernel_rfl) (by kernel_rfl) (by kernel_rfl) (by kernel_rfl) (by kernel_rfl) ?_
 exact
  ini [q2 0 cc13 v0, q2 1 cc13 v1] rfl <| wpC_seq <| reg_s <| x_asg (sc cc14 ([] : List Int) rfl) <| sq [q2 0 cc13 v0, q2 1 cc13 v1] <|
  xn <| wpC_seq <| reg_s <| x_asg (sc cc14 ([] : List Int) rfl) <| sq [q2 0 cc13 v0, q2 1 cc13 v1, q2 5 cc14 ([] : List Int)] <|
  xn <| wpC_seq <| wpC_kp <| wpC_seq <| reg_s <| st rfl <| mvd rfl rfl <| stw rfl <| lens rfl fun l36 => st rfl <| mvc cI (0 : Int) rfl <| sq [q2 0 cc13 v0, q2 1 cc13 v1, q2 5 cc14 ([] : List Int), q2 8 cc13 v1, q2 9 cI (v1.length : Int), q2 10 cI (0 : Int)] <|
  xn <| wpC_blk <| lpR (fun (k38 : Nat) (s37 : (List Int)) => [q2 0 cc13 v0, q2 1 cc13 v1, q2 5 cc14 s37, q2 8 cc13 v1, q2 9 cI (v1.length : Int), q2 10 cI (k38 : Int)]) ([] : List Int) rfl h
  (fun G60 s37 h => wpC_seq <| reg_s <| st rfl <| b_lss (k := .i64) rfl rfl <| sq [q2 0 cc13 v0, q2 1 cc13 v1, q2 5 cc14 s37, q2 8 cc13 v1, q2 9 cI (v1.length : Int), q2 10 cI (v1.length : Int), q2 11 cB (decide ((v1.length : Int) < (v1.length : Int)))] <|
  xn <| wpC_seq <| wpC_kp <| cnd0 rfl (dlf _) <| wpC_exit <| xt <| xt <| xt <| xb <| kpN [q2 5 cc14 s37] (by kernel_rfl) <| xn <| wpC_seq <| reg_s <| st rfl <| mvo rfl rfl <| x_asg (sr rfl rfl) <| sq [q2 4 cc14 s37] <|
  xn <| wpC_ret <| re <| fin h (r1 (so rfl rfl) <| r0) rfl)
  (fun G60 nx58 k38 s37 x39 hk40 hx41 hn59 h => wpC_seq <| reg_s <| st rfl <| b_lss (k := .i64) rfl rfl <| sq [q2 0 cc13 v0, q2 1 cc13 v1, q2 5 cc14 s37, q2 8 cc13 v1, q2 9 cI (v1.length : Int), q2 10 cI (k38 : Int), q2 11 cB (decide ((k38 : Int) < (v1.length : Int)))] <|
  xn <| wpC_seq <| wpC_kp <| cnd1 rfl (dlt hk40) <| wpC_skip <| kpN [q2 0 cc13 v0, q2 1 cc13 v1, q2 5 cc14 s37, q2 8 cc13 v1, q2 9 cI (v1.length : Int), q2 10 cI (k38 : Int)] (by kernel_rfl) <| xn <| wpC_seq <| wpC_kp <| wpC_blk <| wpC_seq <| reg_s <| st rfl <| ias rfl rfl (Int.natCast_nonneg _) hx41 rfl <| st rfl <| ldi rfl rfl rfl rfl <| x_asg (ss rfl rfl) <| sq [q2 0 cc13 v0, q2 1 cc13 v1, q2 5 cc14 s37, q2 7 cI x39, q2 8 cc13 v1, q2 9 cI (v1.length : Int), q2 10 cI (k38 : Int)] <|
  xn <| reg_s <| st rfl <| mvo rfl rfl <| st rfl <| mvd rfl rfl <| st rfl <| mvd rfl rfl <| getO_k h fun x65 i66 g67 h => st rfl <| ias rfl rfl i66 g67 rfl <| st rfl <| ldi rfl rfl rfl rfl <| x_bsl cI [x65] (t1 (ss rfl rfl) rfl t0) rfl rfl <| lnO_k h fun l68 h => x_app (sr rfl rfl) (to rfl rfl) l68 rfl <| x_asg (so rfl rfl) <| sq [q2 0 cc13 v0, q2 1 cc13 v1, q2 5 cc14 (s37 ++ [x65]), q2 8 cc13 v1, q2 9 cI (v1.length : Int), q2 10 cI (k38 : Int)] <|
  xbb <| kpN [q2 0 cc13 v0, q2 1 cc13 v1, q2 5 cc14 (s37 ++ [x65]), q2 8 cc13 v1, q2 9 cI (v1.length : Int), q2 10 cI (k38 : Int)] (by kernel_rfl) <| xn <| reg_s <| st rfl <| b_inc rfl rfl l36 hk40 <| st rfl <| mvd rfl rfl <| sq [q2 0 cc13 v0, q2 1 cc13 v1, q2 5 cc14 (s37 ++ [x65]), q2 8 cc13 v1, q2 9 cI (v1.length : Int), q2 10 cI ((k38 + 1 : Nat) : Int)] <|
  xn <| hn59 (s37 ++ [x65]) h)

def rs_spec_sIndex (r : Int) : List D := [cI.enc r]
def m91 : MC := .seq (.reg [q1 4 (.asg (.c (.int .i64 0)))] [0, 1])
 (.seq (.reg [q1 5 (.asg (.c (.int .i64 0)))] [0, 1, 5])
 (.seq (.kp [5] (.seq (.reg [q1 8 (.mv (.t 0)),q1 9 (.len false (.t 8)),q1 10 (.mv (.c (.int .i64 0)))] [0, 1, 5, 8, 9, 10])
 (.blk 0 (.loop (.seq (.reg [q1 11 (.bin .lss (.t 10) (.t 9))] [0, 1, 5, 8, 9, 10, 11])
 (.seq (.kp [0, 1, 5, 8, 9, 10] (.cond (.t 11) (.skip) (.exit 0)))
 (.seq (.kp [0, 1, 5, 8, 9, 10] (.blk 1 (.seq (.reg [q1 12 (.mv (.t 10)),q1 13 (.ia 8 (.t 10) 2),q1 14 (.ld 13 2 true),q1 7 (.alloc (.agg [.str [], .int .i64 0])),q1 6 (.asg (.t 12)),q0 (.st 7 (.t 14) 2)] [0, 1, 5, 6, 7, 8, 9, 10])
 (.drw [⟨0, q1 15 (.mv (.t 5)), [16, 17, 18, 19, 20, 21, 22, 23]⟩,
  ⟨1, q1 16 (.fa 7 1 1), [15, 17, 18, 19, 20, 21, 22, 23]⟩,
  ⟨2, q1 17 (.ld 16 1 false), [15, 18, 19, 20, 21, 22, 23]⟩,
  ⟨3, q1 18 (.bin .mul (.t 15) (.t 17)), [19, 20, 21, 22, 23]⟩,
  ⟨4, q1 19 (.mv (.t 1)), [15, 16, 17, 18, 20, 21, 22, 23]⟩,
  ⟨5, q1 20 (.mv (.t 6)), [15, 16, 17, 18, 19, 21, 22, 23]⟩,
  ⟨6, q1 21 (.ia 19 (.t 20) 1), [15, 16, 17, 18, 22, 23]⟩,
  ⟨7, q1 22 (.ld 21 1 false), [15, 16, 17, 18, 23]⟩,
  ⟨8, q1 23 (.bin .add (.t 18) (.t 22)), []⟩]
  [(9, q1 5 (.asg (.t 23)))] [0, 1, 5, 8, 9, 10]))))
 (.reg [q1 24 (.bin .add (.t 10) (.c (.int .i64 1))),q1 10 (.mv (.t 24))] [0, 1, 5, 8, 9, 10]))))))))
 (.seq (.reg [q1 25 (.mv (.t 5)),q1 4 (.asg (.t 25))] [4])
 (.ret))))
theorem con_spec_sIndex {v0 : (List XVariable)} {v1 : (List Int)} {r : Int} (h : sh_spec_sIndex v0 v1 = some r) : Con Tryz.prog 91 [cc6.enc v0, cc13.enc v1] [] (rs_spec_sIndex r) := by
 delta sh_spec_sIndex at h
 refine top (out := none) (f := Tryz.f91) (m := m91) (rs := [.t 4]) (by kernel_rfl) rfl (by kernel_rfl) (by kernel_rfl) (by kernel_rfl) (by kernel_rfl) (by kernel_rfl) ?_
 exact
  ini [q2 0 cc6 v0, q2 1 cc13 v1] rfl <| wpC_seq <| reg_s <| x_asg (sc cI (0 : Int) rfl) <| sq [q2 0 cc6 v0, q2 1 cc13 v1] <|
  xn <| wpC_seq <| reg_s <| x_asg (sc cI (0 : Int) rfl) <| sq [q2 0 cc6 v0, q2 1 cc13 v1, q2 5 cI (0 : Int)] <|
  xn <| wpC_seq <| wpC_kp <| wpC_seq <| reg_s <| st rfl <| mvd rfl rfl <| stw rfl <| lens rfl fun l42 => st rfl <| mvc cI (0 : Int) rfl <| sq [q2 0 cc6 v0, q2 1 cc13 v1, q2 5 cI (0 : Int), q2 8 cc6 v0, q2 9 cI (v0.length : Int), q2 10 cI (0 : Int)] <|
  xn <| wpC_blk <| lpR (fun (k44 : Nat) (s43 : Int) => [q2 0 cc6 v0, q2 1 cc13 v1, q2 5 cI s43, q2 8 cc6 v0, q2 9 cI (v0.length : Int), q2 10 cI (k44 : Int)]) (0 : Int) rfl h
  (fun G70 s43 h => wpC_seq <| reg_s <| st rfl <| b_lss (k := .i64) rfl rfl <| sq [q2 0 cc6 v0, q2 1 cc13 v1, q2 5 cI s43, q2 8 cc6 v0, q2 9 cI (v0.length : Int), q2 10 cI (v0.length : Int), q2 11 cB (decide ((v0.length : Int) < (v0.length : Int)))] <|
  xn <| wpC_seq <| wpC_kp <| cnd0 rfl (dlf _) <| wpC_exit <| xt <| xt <| xt <| xb <| kpN [q2 5 cI s43] (by kernel_rfl) <| xn <| wpC_seq <| reg_s <| st rfl <| mvd rfl rfl <| x_asg (ss rfl rfl) <| sq [q2 4 cI s43] <|
  xn <| wpC_ret <| re <| fin h (r1 (ss rfl rfl) <| r0) rfl)
  (fun G70 nx68 k44 s43 x45 hk46 hx47 hn69 h => wpC_seq <| reg_s <| st rfl <| b_lss (k := .i64) rfl rfl <| sq [q2 0 cc6 v0, q2 1 cc13 v1, q2 5 cI s43, q2 8 cc6 v0, q2 9 cI (v0.length : Int), q2 10 cI (k44 : Int), q2 11 cB (decide ((k44 : Int) < (v0.length : Int)))] <|
  xn <| wpC_seq <| wpC_kp <| cnd1 rfl (dlt hk46) <| wpC_skip <| kpN [q2 0 cc6 v0, q2 1 cc13 v1, q2 5 cI s43, q2 8 cc6 v0, q2 9 cI (v0.length : Int), q2 10 cI (k44 : Int)] (by kernel_rfl) <| xn <| wpC_seq <| wpC_kp <| wpC_blk <| wpC_seq <| reg_s <| st rfl <| mvd rfl rfl <| st rfl <| ias rfl rfl (Int.natCast_nonneg _) hx47 rfl <| st rfl <| ldi rfl rfl rfl rfl <| x_all cc11 (⟨([] : List UInt8), (0 : Int)⟩ : XVariable) rfl <| x_asg (ss rfl rfl) <| x_stb (ss rfl rfl) rfl (Cd.h_sz _ _) rfl <| sq [q2 0 cc6 v0, q2 1 cc13 v1, q2 5 cI s43, q2 6 cI (k44 : Int), q3 7 cc11 x45, q2 8 cc6 v0, q2 9 cI (v0.length : Int), q2 10 cI (k44 : Int)] <|
  xn <| drw_s <| pst rfl <| mvd rfl rfl ⟨rfl, pst rfl <| fab rfl rfl rfl rfl ⟨rfl, pst rfl <| lda rfl rfl rfl rfl rfl rfl ⟨rfl, ckI_kp h fun i76 h => pst rfl <| b_mul (k := .i64) rfl rfl i76 ⟨rfl, pst rfl <| mvd rfl rfl ⟨rfl, pst rfl <| mvd rfl rfl ⟨rfl, getO_kp h fun x77 i78 g79 h => pst rfl <| ias rfl rfl i78 g79 rfl ⟨rfl, pst rfl <| ldi rfl rfl rfl rfl ⟨rfl, ckI_kp h fun i80 h => pst rfl <| b_add (k := .i64) rfl rfl i80 ⟨rfl, preN <| x_asg (ss rfl rfl) <| sq [q2 0 cc6 v0, q2 1 cc13 v1, q2 5 cI ((s43 * x45.Levels) + x77), q2 8 cc6 v0, q2 9 cI (v0.length : Int), q2 10 cI (k44 : Int)] <|
  xbb <| kpN [q2 0 cc6 v0, q2 1 cc13 v1, q2 5 cI ((s43 * x45.Levels) + x77), q2 8 cc6 v0, q2 9 cI (v0.length : Int), q2 10 cI (k44 : Int)] (by kernel_rfl) <| xn <| reg_s <| st rfl <| b_inc rfl rfl l42 hk46 <| st rfl <| mvd rfl rfl <| sq [q2 0 cc6 v0, q2 1 cc13 v1, q2 5 cI ((s43 * x45.Levels) + x77), q2 8 cc6 v0, q2 9 cI (v0.length : Int), q2 10 cI ((k44 + 1 : Nat) : Int)] <|
  xn <| hn69 ((s43 * x45.Levels) + x77) h⟩⟩⟩⟩⟩⟩⟩⟩⟩)

def rs_spec_uCell (r : (Int × Int)) : List D := [cI.enc r.1, cI.enc r.2]
def m68 : MC := .seq (.reg [q1 4 (.box (.t 0)),q1 6 (.box (.t 2)),q1 7 (.box (.t 3)),q1 8 (.asg (.c (.int .i64 0))),q1 9 (.asg (.c (.int .i64 0)))] [1, 4, 6, 7])
 (.seq (.reg [q1 13 (.ld 4 1 true),q1 14 (.fa 7 0 0),q1 15 (.ld 14 1 false),q1 16 (.fa 6 0 0),q1 17 (.ld 16 1 false),q1 18 (.call 88 [(.t 13), (.t 15), (.t 17)]),q1 10 (.asg (.t 18))] [1, 4, 6, 7, 10])
 (.seq (.kp [1, 4, 6, 7, 10] (.seq (.reg [q1 19 (.mv (.t 10)),q1 20 (.bin .lss (.t 19) (.c (.int .i64 0))),q1 21 (.mv (.t 20)),
  ⟨some 22, .ld 6 4 true, some (21, false)⟩,
  ⟨some 23, .fa 7 2 2, some (21, false)⟩,
  ⟨some 24, .ld 23 1 false, some (21, false)⟩,
  ⟨some 25, .call 89 [(.t 22), (.t 24)], some (21, false)⟩,
  ⟨some 26, .nt (.t 25), some (21, false)⟩,q1 27 (.pick (.t 21) (.c (.bool true)) (.t 26))] [1, 4, 6, 7, 10, 27])
 (.cond (.t 27) (.seq (.reg [q1 8 (.asg (.c (.int .i64 (-1)))),q1 9 (.asg (.c (.int .i64 0)))] [8, 9])
 (.ret)) (.skip))))
 (.seq (.reg [q1 28 (.mv (.t 1)),q1 29 (.fa 6 1 1),q1 30 (.ld 29 1 false),q1 31 (.call 62 [(.t 28), (.t 30)]),q1 11 (.asg (.t 31))] [4, 6, 7, 10, 11])
 (.seq (.drw [⟨0, q1 32 (.ld 4 1 true), [33, 34, 35, 36, 37, 38, 39, 40, 41, 42, 43, 44, 45, 46, 47, 48]⟩,
  ⟨1, q1 33 (.fa 6 0 0), [32, 34, 35, 36, 37, 38, 39, 40, 41, 42, 43, 44, 45, 46, 47, 48]⟩,
  ⟨2, q1 34 (.ld 33 1 false), [32, 35, 36, 37, 38, 39, 40, 41, 42, 43, 44, 45, 46, 47, 48]⟩,
  ⟨3, q1 35 (.call 52 [(.t 32), (.t 34)]), [36, 37, 38, 39, 40, 41, 42, 43, 44, 45, 46, 47, 48]⟩,
  ⟨4, q1 36 (.mv (.t 10)), [32, 33, 34, 35, 37, 38, 39, 40, 41, 42, 43, 44, 45, 46, 47, 48]⟩,
  ⟨5, q1 37 (.call 90 [(.t 35), (.t 36)]), [38, 39, 40, 41, 42, 43, 44, 45, 46, 47, 48]⟩,
  ⟨6, q1 38 (.mv (.t 11)), [32, 33, 34, 35, 36, 37, 39, 40, 41, 42, 43, 44, 45, 46, 47, 48]⟩,
  ⟨7, q1 39 (.call 83 [(.t 38)]), [40, 41, 42, 43, 44, 45, 46, 47, 48]⟩,
  ⟨8, q1 40 (.bin .mul (.t 37) (.t 39)), [41, 42, 43, 44, 45, 46, 47, 48]⟩,
  ⟨9, q1 41 (.mv (.t 11)), [32, 33, 34, 35, 36, 37, 38, 39, 40, 42, 43, 44, 45, 46, 47, 48]⟩,
  ⟨10, q1 42 (.fa 7 2 2), [32, 33, 34, 35, 36, 37, 38, 39, 40, 41, 43, 44, 45, 46, 47, 48]⟩,
  ⟨11, q1 43 (.ld 42 1 false), [32, 33, 34, 35, 36, 37, 38, 39, 40, 41, 44, 45, 46, 47, 48]⟩,
  ⟨12, q1 44 (.fa 6 1 1), [32, 33, 34, 35, 36, 37, 38, 39, 40, 41, 42, 43, 45, 46, 47, 48]⟩,
  ⟨13, q1 45 (.ld 44 1 false), [32, 33, 34, 35, 36, 37, 38, 39, 40, 41, 42, 43, 46, 47, 48]⟩,
  ⟨14, q1 46 (.call 92 [(.t 43), (.t 45)]), [40, 41, 47, 48]⟩,
  ⟨15, q1 47 (.call 91 [(.t 41), (.t 46)]), [40, 48]⟩,
  ⟨16, q1 48 (.bin .add (.t 40) (.t 47)), []⟩]
  [(17, q1 12 (.asg (.t 48)))] [6, 7, 12])
 (.seq (.kp [6, 7, 12] (.seq (.reg [q1 49 (.fa 6 3 3),q1 50 (.ld 49 1 false),q1 51 (.bin .lss (.t 50) (.c (.int .i64 0)))] [6, 7, 12, 51])
 (.cond (.t 51) (.seq (.reg [q1 52 (.mv (.t 12)),q1 8 (.asg (.t 52)),q1 9 (.asg (.c (.int .i64 1)))] [8, 9])
 (.ret)) (.skip))))
 (.seq (.drw [⟨0, q1 53 (.mv (.t 12)), [8, 9, 54, 55, 56, 57, 58, 59]⟩,
  ⟨1, q1 54 (.fa 7 2 2), [8, 9, 53, 55, 56, 57, 58, 59]⟩,
  ⟨2, q1 55 (.ld 54 1 false), [8, 9, 53, 56, 57, 58, 59]⟩,
  ⟨3, q1 56 (.fa 6 3 3), [8, 9, 53, 54, 55, 57, 58, 59]⟩,
  ⟨4, q1 57 (.ld 56 1 false), [8, 9, 53, 54, 55, 58, 59]⟩,
  ⟨5, q1 58 (.ia 55 (.t 57) 1), [8, 9, 53, 59]⟩,
  ⟨6, q1 59 (.ld 58 1 false), [8, 9, 53]⟩,
  ⟨7, q1 8 (.mv (.t 53)), [9, 54, 55, 56, 57, 58, 59]⟩,
  ⟨8, q1 9 (.mv (.t 59)), []⟩]
  [] [8, 9])
 (.ret)))))))
theorem con_spec_uCell {v0 : XGeo} {v1 : (List XVariable)} {v2 : XTable} {v3 : XRecord} {r : (Int × Int)} (h : sh_spec_uCell v0 v1 v2 v3 = some r) : Con Tryz.prog 68 [cc10.enc v0, cc6.enc v1, cc0.enc v2, cc5.enc v3] [] (rs_spec_uCell r) := by
 delta sh_spec_uCell at h
 refine top (out := none) (f := Tryz.f68) (m := m68) (rs := [.t 8, .t 9]) (by kernel_rfl) rfl (by kernel_rfl) (by kernel_rfl) (by kernel_rfl) (by kernel_rfl) (by kernel_rfl) ?_
 exact
  ini [q2 0 cc10 v0, q2 1 cc6 v1, q2 2 cc0 v2, q2 3 cc5 v3] rfl <| wpC_seq <| reg_s <| x_box (ss rfl rfl) <| x_box (ss rfl rfl) <| x_box (ss rfl rfl) <| x_asg (sc cI (0 : Int) rfl) <| x_asg (sc cI (0 : Int) rfl) <| sq [q2 1 cc6 v1, q3 4 cc10 v0, q3 6 cc0 v2, q3 7 cc5 v3] <|
  xn <| wpC_seq <| reg_s <| st rfl <| ldb rfl rfl rfl rfl <| st rfl <| fab rfl rfl rfl rfl <| st rfl <| lda rfl rfl rfl rfl rfl rfl <| st rfl <| fab rfl rfl rfl rfl <| st rfl <| lda rfl rfl rfl rfl rfl rfl <| bnd h fun x3 e4 h => st rfl <| o_call (a1 (c := cc10) (tXGeo (tLs tK)) rfl (a1 (c := cI) tK rfl (a1 (c := cI) tK rfl a0))) (con_spec_gUp e4) (.inl (so1 sK so0)) <| x_asg (ss rfl rfl) <| sq [q2 1 cc6 v1, q3 4 cc10 v0, q3 6 cc0 v2, q3 7 cc5 v3, q2 10 cI x3] <|
  xn <| wpC_seq <| wpC_kp <| wpC_seq <| reg_s <| st rfl <| mvd rfl rfl <| st rfl <| b_lss (k := .i64) rfl rfl <| st rfl <| mvd rfl rfl <| ite_k h (fun b15 h => gf rfl b15 <| gf rfl b15 <| gf rfl b15 <| gf rfl b15 <| gf rfl b15 <| st rfl <| pick1 rfl b15 (cd := cB) (v := true) rfl rfl <| sq [q2 1 cc6 v1, q3 4 cc10 v0, q3 6 cc0 v2, q3 7 cc5 v3, q2 10 cI x3, q2 27 cB true] <|
  xn <| cnd1 rfl rfl <| wpC_seq <| reg_s <| x_asg (sc cI (-1 : Int) rfl) <| x_asg (sc cI (0 : Int) rfl) <| sq [q2 8 cI (-1 : Int), q2 9 cI (0 : Int)] <|
  xn <| wpC_ret <| rt <| rt <| re <| fin h (r1 (ss rfl rfl) <| r1 (ss rfl rfl) <| r0) rfl)
  (fun b15 h => gt' rfl b15 <| st rfl <| ldb rfl rfl rfl rfl <| gt' rfl b15 <| st rfl <| fab rfl rfl rfl rfl <| gt' rfl b15 <| st rfl <| lda rfl rfl rfl rfl rfl rfl <| gt' rfl b15 <| bnd h fun x16 e17 h => st rfl <| o_call (a1 (c := cc0) (tXTable tK (tLs tK) (tLs tK) tK) rfl (a1 (c := cc13) (tLs tK) rfl a0)) (con_spec_uMeets e17) (.inl (so1 sB so0)) <| gt' rfl b15 <| st rfl <| o_nt rfl <| st rfl <| pick0 rfl b15 (cd := cB) (v := (!x16)) rfl rfl <| sq [q2 1 cc6 v1, q3 4 cc10 v0, q3 6 cc0 v2, q3 7 cc5 v3, q2 10 cI x3, q2 27 cB (!x16)] <|
  xn <| cnd rfl h (fun b18 h => wpC_seq <| reg_s <| x_asg (sc cI (-1 : Int) rfl) <| x_asg (sc cI (0 : Int) rfl) <| sq [q2 8 cI (-1 : Int), q2 9 cI (0 : Int)] <|
  xn <| wpC_ret <| rt <| rt <| re <| fin h (r1 (ss rfl rfl) <| r1 (ss rfl rfl) <| r0) rfl)
  (fun b18 h => wpC_skip <| kpN [q2 1 cc6 v1, q3 4 cc10 v0, q3 6 cc0 v2, q3 7 cc5 v3, q2 10 cI x3] (by kernel_rfl) <| xn <| wpC_seq <| reg_s <| st rfl <| mvd rfl rfl <| st rfl <| fab rfl rfl rfl rfl <| st rfl <| lda rfl rfl rfl rfl rfl rfl <| bnd h fun x21 e22 h => st rfl <| o_call (a1 (c := cc6) (tLs (tXVariable tS tK)) rfl (a1 (c := cc13) (tLs tK) rfl a0)) (con_spec_sPart e22) (.inl (so1 (sLo (sXVariable sS sK)) so0)) <| x_asg (so rfl rfl) <| sq [q3 4 cc10 v0, q3 6 cc0 v2, q3 7 cc5 v3, q2 10 cI x3, q2 11 cc9 x21] <|
  xn <| wpC_seq <| drw_s <| pst rfl <| ldb rfl rfl rfl rfl ⟨rfl, pst rfl <| fab rfl rfl rfl rfl ⟨rfl, pst rfl <| lda rfl rfl rfl rfl rfl rfl ⟨rfl, bndp h fun x35 e36 h => pst rfl <| o_call (a1 (c := cc10) (tXGeo (tLs tK)) rfl (a1 (c := cI) tK rfl a0)) (con_spec_gLevel e36) (.inl (so1 (sLo sK) so0)) ⟨rfl, pst rfl <| mvd rfl rfl ⟨rfl, bndp h fun x37 e38 h => pst rfl <| o_call (a1 (c := cc14) (tLo tK) rfl (a1 (c := cI) tK rfl a0)) (con_spec_l1Find e38) (.inl (so1 sK so0)) ⟨rfl, pst rfl <| mvo rfl rfl ⟨rfl, bndp h fun x39 e40 h => pst rfl <| o_call (a1 (c := cc9) (tLo (tXVariable tS tK)) rfl a0) (con_spec_sCount e40) (.inl (so1 sK so0)) ⟨rfl, ckI_kp h fun i41 h => pst rfl <| b_mul (k := .i64) rfl rfl i41 ⟨rfl, pst rfl <| mvo rfl rfl ⟨rfl, pst rfl <| fab rfl rfl rfl rfl ⟨rfl, pst rfl <| lda rfl rfl rfl rfl rfl rfl ⟨rfl, pst rfl <| fab rfl rfl rfl rfl ⟨rfl, pst rfl <| lda rfl rfl rfl rfl rfl rfl ⟨rfl, bndp h fun x42 e43 h => pst rfl <| o_call (a1 (c := cc13) (tLs tK) rfl (a1 (c := cc13) (tLs tK) rfl a0)) (con_spec_sPick e43) (.inl (so1 (sLo sK) so0)) ⟨rfl, bndp h fun x44 e45 h => pst rfl <| o_call (a1 (c := cc9) (tLo (tXVariable tS tK)) rfl (a1 (c := cc14) (tLo tK) rfl a0)) (con_spec_sIndex e45) (.inl (so1 sK so0)) ⟨rfl, ckI_kp h fun i46 h => pst rfl <| b_add (k := .i64) rfl rfl i46 ⟨rfl, preN <| x_asg (ss rfl rfl) <| sq [q3 6 cc0 v2, q3 7 cc5 v3, q2 12 cI ((x37 * x39) + x44)] <|
  xn <| wpC_seq <| wpC_kp <| wpC_seq <| reg_s <| st rfl <| fab rfl rfl rfl rfl <| st rfl <| lda rfl rfl rfl rfl rfl rfl <| st rfl <| b_lss (k := .i64) rfl rfl <| sq [q3 6 cc0 v2, q3 7 cc5 v3, q2 12 cI ((x37 * x39) + x44), q2 51 cB (decide (v2.Sum < (0 : Int)))] <|
  xn <| cnd rfl h (fun b48 h => wpC_seq <| reg_s <| st rfl <| mvd rfl rfl <| x_asg (ss rfl rfl) <| x_asg (sc cI (1 : Int) rfl) <| sq [q2 8 cI ((x37 * x39) + x44), q2 9 cI (1 : Int)] <|
  xn <| wpC_ret <| rt <| rt <| re <| fin h (r1 (ss rfl rfl) <| r1 (ss rfl rfl) <| r0) rfl)
  (fun b48 h => wpC_skip <| kpN [q3 6 cc0 v2, q3 7 cc5 v3, q2 12 cI ((x37 * x39) + x44)] (by kernel_rfl) <| xn <| wpC_seq <| drw_s <| pst rfl <| mvd rfl rfl ⟨rfl, pst rfl <| fab rfl rfl rfl rfl ⟨rfl, pst rfl <| lda rfl rfl rfl rfl rfl rfl ⟨rfl, pst rfl <| fab rfl rfl rfl rfl ⟨rfl, pst rfl <| lda rfl rfl rfl rfl rfl rfl ⟨rfl, getO_kp h fun x52 i53 g54 h => pst rfl <| ias rfl rfl i53 g54 rfl ⟨rfl, pst rfl <| ldi rfl rfl rfl rfl ⟨rfl, pst rfl <| mvd rfl rfl ⟨rfl, pst rfl <| mvd rfl rfl ⟨rfl, preN <| sq [q2 8 cI ((x37 * x39) + x44), q2 9 cI x52] <|
  xn <| wpC_ret <| re <| fin h (r1 (ss rfl rfl) <| r1 (ss rfl rfl) <| r0) rfl⟩⟩⟩⟩⟩⟩⟩⟩⟩)⟩⟩⟩⟩⟩⟩⟩⟩⟩⟩⟩⟩⟩⟩⟩⟩⟩))

def rs_spec_uTable (r : (List Int)) : List D := [cc14.enc r]
def m34 : MC := .seq (.reg [q1 4 (.box (.t 0)),q1 6 (.box (.t 2)),q1 8 (.asg (.c (.slice true [])))] [1, 3, 4, 6])
 (.seq (.reg [q1 14 (.ld 4 1 true),q1 15 (.mv (.t 1)),q1 16 (.ld 6 4 true),q1 17 (.call 56 [(.t 14), (.t 15), (.t 16)]),q1 18 (.mk (.int .i64 0) (.t 17)),q1 9 (.asg (.t 18))] [1, 3, 4, 6, 9])
 (.seq (.kp [9] (.seq (.reg [q1 19 (.mv (.t 3)),q1 20 (.len false (.t 19)),q1 21 (.mv (.c (.int .i64 0)))] [1, 3, 4, 6, 9, 19, 20, 21])
 (.blk 0 (.loop (.seq (.reg [q1 22 (.bin .lss (.t 21) (.t 20))] [1, 3, 4, 6, 9, 19, 20, 21, 22])
 (.seq (.kp [1, 3, 4, 6, 9, 19, 20, 21] (.cond (.t 22) (.skip) (.exit 0)))
 (.seq (.kp [1, 3, 4, 6, 9, 19, 20, 21] (.blk 1 (.seq (.reg [q1 23 (.ia 19 (.t 21) 3),q1 24 (.ld 23 3 true),q1 11 (.alloc (.agg [.int .i64 0, .int .i64 0, .slice true []])),q0 (.st 11 (.t 24) 3)] [1, 3, 4, 6, 9, 11, 19, 20, 21])
 (.seq (.reg [q1 26 (.ld 4 1 true),q1 27 (.mv (.t 1)),q1 28 (.ld 6 4 true),q1 29 (.ld 11 3 true),q1 30 (.call 68 [(.t 26), (.t 27), (.t 28), (.t 29)]),q1 25 (.mvt 30),q1 31 (.ext 25 0),q1 32 (.ext 25 1),q1 12 (.asg (.t 31)),q1 13 (.asg (.t 32))] [1, 3, 4, 6, 9, 12, 13, 19, 20, 21])
 (.seq (.reg [q1 33 (.mv (.t 12)),q1 34 (.bin .geq (.t 33) (.c (.int .i64 0)))] [1, 3, 4, 6, 9, 12, 13, 19, 20, 21, 34])
 (.cond (.t 34) (.reg [q1 35 (.mv (.t 9)),q1 36 (.mv (.t 12)),q1 37 (.ia 35 (.t 36) 1),q1 38 (.ld 37 1 false),q1 39 (.mv (.t 13)),q1 40 (.bin .add (.t 38) (.t 39)),q1 41 (.ia 35 (.t 36) 1),q0 (.st 41 (.t 40) 1)] [1, 3, 4, 6, 9, 19, 20, 21]) (.skip)))))))
 (.reg [q1 42 (.bin .add (.t 21) (.c (.int .i64 1))),q1 21 (.mv (.t 42))] [1, 3, 4, 6, 9, 19, 20, 21]))))))))
 (.seq (.reg [q1 43 (.mv (.t 9)),q1 8 (.asg (.t 43))] [8])
 (.ret))))
theorem con_spec_uTable {v0 : XGeo} {v1 : (List XVariable)} {v2 : XTable} {v3 : (List XRecord)} {r : (List Int)} (h : sh_spec_uTable v0 v1 v2 v3 = some r) : Con Tryz.prog 34 [cc10.enc v0, cc6.enc v1, cc0.enc v2, cc1.enc v3] [] (rs_spec_uTable r) := by
 delta sh_spec_uTable at h
 refine top (out := none) (f := Tryz.f34) (m := m34) (rs := [.t 8]) (by kernel_rfl) rfl (by kernel_rfl) (by kernel_rfl) (by kernel_rfl) (by kernel_rfl) (by kernel_rfl) ?_
 exact
  ini [q2 0 cc10 v0, q2 1 cc6 v1, q2 2 cc0 v2, q2 3 cc1 v3] rfl <| wpC_seq <| reg_s <| x_box (ss rfl rfl) <| x_box (ss rfl rfl) <| x_asg (sc cc14 ([] : List Int) rfl) <| sq [q2 1 cc6 v1, q2 3 cc1 v3, q3 4 cc10 v0, q3 6 cc0 v2] <|
  xn <| wpC_seq <| reg_s <| st rfl <| ldb rfl rfl rfl rfl <| st rfl <| mvd rfl rfl <| st rfl <| ldb rfl rfl rfl rfl <| bnd h fun x5 e6 h => st rfl <| o_call (a1 (c := cc10) (tXGeo (tLs tK)) rfl (a1 (c := cc6) (tLs (tXVariable tS tK)) rfl (a1 (c := cc0) (tXTable tK (tLs tK) (tLs tK) tK) rfl a0))) (con_spec_uCount e6) (.inl (so1 sK so0)) <| mkO_k h fun i7 l8 h => st rfl <| o_mk (c := cI) (a0 := (0 : Int)) rfl (k := .i64) rfl i7 l8 <| x_asg (so rfl rfl) <| sq [q2 1 cc6 v1, q2 3 cc1 v3, q3 4 cc10 v0, q3 6 cc0 v2, q2 9 cc14 (List.replicate (x5).toNat (0 : Int))] <|
  xn <| wpC_seq <| wpC_kp <| wpC_seq <| reg_s <| st rfl <| mvd rfl rfl <| stw rfl <| lens rfl fun l74 => st rfl <| mvc cI (0 : Int) rfl <| sq [q2 1 cc6 v1, q2 3 cc1 v3, q3 4 cc10 v0, q3 6 cc0 v2, q2 9 cc14 (List.replicate (x5).toNat (0 : Int)), q2 19 cc1 v3, q2 20 cI (v3.length : Int), q2 21 cI (0 : Int)] <|
  xn <| wpC_blk <| lpR (fun (k76 : Nat) (s75 : (List Int)) => [q2 1 cc6 v1, q2 3 cc1 v3, q3 4 cc10 v0, q3 6 cc0 v2, q2 9 cc14 s75, q2 19 cc1 v3, q2 20 cI (v3.length : Int), q2 21 cI (k76 : Int)]) (List.replicate (x5).toNat (0 : Int)) rfl h
  (fun G118 s75 h => wpC_seq <| reg_s <| st rfl <| b_lss (k := .i64) rfl rfl <| sq [q2 1 cc6 v1, q2 3 cc1 v3, q3 4 cc10 v0, q3 6 cc0 v2, q2 9 cc14 s75, q2 19 cc1 v3, q2 20 cI (v3.length : Int), q2 21 cI (v3.length : Int), q2 22 cB (decide ((v3.length : Int) < (v3.length : Int)))] <|
  xn <| wpC_seq <| wpC_kp <| cnd0 rfl (dlf _) <| wpC_exit <| xt <| xt <| xt <| xb <| kpN [q2 9 cc14 s75] (by kernel_rfl) <| xn <| wpC_seq <| reg_s <| st rfl <| mvo rfl rfl <| x_asg (sr rfl rfl) <| sq [q2 8 cc14 s75] <|
  xn <| wpC_ret <| re <| fin h (r1 (so rfl rfl) <| r0) rfl)
  (fun G118 nx116 k76 s75 x77 hk78 hx79 hn117 h => wpC_seq <| reg_s <| st rfl <| b_lss (k := .i64) rfl rfl <| sq [q2 1 cc6 v1, q2 3 cc1 v3, q3 4 cc10 v0, q3 6 cc0 v2, q2 9 cc14 s75, q2 19 cc1 v3, q2 20 cI (v3.length : Int), q2 21 cI (k76 : Int), q2 22 cB (decide ((k76 : Int) < (v3.length : Int)))] <|
  xn <| wpC_seq <| wpC_kp <| cnd1 rfl (dlt hk78) <| wpC_skip <| kpN [q2 1 cc6 v1, q2 3 cc1 v3, q3 4 cc10 v0, q3 6 cc0 v2, q2 9 cc14 s75, q2 19 cc1 v3, q2 20 cI (v3.length : Int), q2 21 cI (k76 : Int)] (by kernel_rfl) <| xn <| wpC_seq <| wpC_kp <| wpC_blk <| wpC_seq <| reg_s <| st rfl <| ias rfl rfl (Int.natCast_nonneg _) hx79 rfl <| st rfl <| ldi rfl rfl rfl rfl <| x_all cc8 (⟨(0 : Int), (0 : Int), ([] : List Int)⟩ : XRecord) rfl <| x_stb (ss rfl rfl) rfl (Cd.h_sz _ _) rfl <| sq [q2 1 cc6 v1, q2 3 cc1 v3, q3 4 cc10 v0, q3 6 cc0 v2, q2 9 cc14 s75, q3 11 cc5 x77, q2 19 cc1 v3, q2 20 cI (v3.length : Int), q2 21 cI (k76 : Int)] <|
  xn <| wpC_seq <| reg_s <| st rfl <| ldb rfl rfl rfl rfl <| st rfl <| mvd rfl rfl <| st rfl <| ldb rfl rfl rfl rfl <| st rfl <| ldb rfl rfl rfl rfl <| bnd h fun x130 e131 h => st rfl <| o_call (a1 (c := cc10) (tXGeo (tLs tK)) rfl (a1 (c := cc6) (tLs (tXVariable tS tK)) rfl (a1 (c := cc0) (tXTable tK (tLs tK) (tLs tK) tK) rfl (a1 (c := cc5) (tXRecord tK tK (tLs tK)) rfl a0)))) (con_spec_uCell e131) (.inl (so1 sK (so1 sK so0))) <| x_mvt rfl <| x_ext rfl rfl <| x_ext rfl rfl <| x_asg (ss rfl rfl) <| x_asg (ss rfl rfl) <| sq [q2 1 cc6 v1, q2 3 cc1 v3, q3 4 cc10 v0, q3 6 cc0 v2, q2 9 cc14 s75, q2 12 cI x130.1, q2 13 cI x130.2, q2 19 cc1 v3, q2 20 cI (v3.length : Int), q2 21 cI (k76 : Int)] <|
  xn <| wpC_seq <| reg_s <| st rfl <| mvd rfl rfl <| st rfl <| b_geq (k := .i64) rfl rfl <| sq [q2 1 cc6 v1, q2 3 cc1 v3, q3 4 cc10 v0, q3 6 cc0 v2, q2 9 cc14 s75, q2 12 cI x130.1, q2 13 cI x130.2, q2 19 cc1 v3, q2 20 cI (v3.length : Int), q2 21 cI (k76 : Int), q2 34 cB (decide ((0 : Int) ≤ x130.1))] <|
  xn <| cnd rfl h (fun b132 h => reg_s <| st rfl <| mvo rfl rfl <| st rfl <| mvd rfl rfl <| getO_k h fun x133 i134 g135 h => st rfl <| iar rfl rfl rfl rfl i134 g135 rfl <| st rfl <| lda rfl rfl (Gt.idx g135 Gt.nil) rfl rfl rfl <| st rfl <| mvd rfl rfl <| ckI_k h fun i136 h => st rfl <| b_add (k := .i64) rfl rfl i136 <| st rfl <| iar rfl rfl rfl rfl i134 g135 rfl <| x_sta (cc14.enc (s75.set (x130.1).toNat (x133 + x130.2))) (ss rfl rfl) rfl rfl (Ln.idx g135 Ln.nil) (Cd.h_sz cI _) rfl <| sq [q2 1 cc6 v1, q2 3 cc1 v3, q3 4 cc10 v0, q3 6 cc0 v2, q2 9 cc14 (s75.set (x130.1).toNat (x133 + x130.2)), q2 19 cc1 v3, q2 20 cI (v3.length : Int), q2 21 cI (k76 : Int)] <|
  xbb <| kpN [q2 1 cc6 v1, q2 3 cc1 v3, q3 4 cc10 v0, q3 6 cc0 v2, q2 9 cc14 (s75.set (x130.1).toNat (x133 + x130.2)), q2 19 cc1 v3, q2 20 cI (v3.length : Int), q2 21 cI (k76 : Int)] (by kernel_rfl) <| xn <| reg_s <| st rfl <| b_inc rfl rfl l74 hk78 <| st rfl <| mvd rfl rfl <| sq [q2 1 cc6 v1, q2 3 cc1 v3, q3 4 cc10 v0, q3 6 cc0 v2, q2 9 cc14 (s75.set (x130.1).toNat (x133 + x130.2)), q2 19 cc1 v3, q2 20 cI (v3.length : Int), q2 21 cI ((k76 + 1 : Nat) : Int)] <|
  xn <| hn117 (s75.set (x130.1).toNat (x133 + x130.2)) h)
  (fun b132 h => wpC_skip <| xbb <| kpN [q2 1 cc6 v1, q2 3 cc1 v3, q3 4 cc10 v0, q3 6 cc0 v2, q2 9 cc14 s75, q2 19 cc1 v3, q2 20 cI (v3.length : Int), q2 21 cI (k76 : Int)] (by kernel_rfl) <| xn <| reg_s <| st rfl <| b_inc rfl rfl l74 hk78 <| st rfl <| mvd rfl rfl <| sq [q2 1 cc6 v1, q2 3 cc1 v3, q3 4 cc10 v0, q3 6 cc0 v2, q2 9 cc14 s75, q2 19 cc1 v3, q2 20 cI (v3.length : Int), q2 21 cI ((k76 + 1 : Nat) : Int)] <|
  xn <| hn117 s75 h))

def rs_spec_l1Own (r : (List Int)) : List D := [cc14.enc r]
def m64 : MC := .seq (.reg [q1 2 (.asg (.c (.slice true [])))] [0])
 (.seq (.reg [q1 3 (.bsl [] 1),q1 4 (.mv (.t 0)),q1 5 (.app (.t 3) (.t 4) 1),q1 2 (.asg (.t 5))] [2])
 (.ret))
theorem con_spec_l1Own {v0 : (List Int)} {r : (List Int)} (h : sh_spec_l1Own v0 = some r) : Con Tryz.prog 64 [cc13.enc v0] [] (rs_spec_l1Own r) := by
 delta sh_spec_l1Own at h
 refine top (out := none) (f := Tryz.f64) (m := m64) (rs := [.t 2]) (by kernel_rfl) rfl (by kernel_rfl) (by kernel_rfl) (by kernel_rfl) (by kernel_rfl) (by kernel_rfl) ?_
 exact
  ini [q2 0 cc13 v0] rfl <| wpC_seq <| reg_s <| x_asg (sc cc14 ([] : List Int) rfl) <| sq [q2 0 cc13 v0] <|
  xn <| wpC_seq <| reg_s <| x_bsl cI ([] : List Int) t0 rfl rfl <| st rfl <| mvd rfl rfl <| lnO_k h fun l2 h => x_app (so rfl rfl) (ts rfl) l2 rfl <| x_asg (so rfl rfl) <| sq [q2 2 cc14 (([] : List Int) ++ v0)] <|
  xn <| wpC_ret <| re <| fin h (r1 (so rfl rfl) <| r0) rfl

def rs_spec_cbBase (r : (List Int)) : List D := [cc14.enc r]
def m65 : MC := .seq (.reg [q1 2 (.asg (.c (.slice true [])))] [0])
 (.seq (.reg [q1 3 (.asg (.c (.slice true [])))] [0, 3])
 (.seq (.kp [3] (.seq (.reg [q1 4 (.asg (.c (.int .i64 0)))] [0, 3, 4])
 (.blk 0 (.loop (.seq (.kp [0, 3, 4] (.seq (.reg [q1 8 (.mv (.t 4)),q1 9 (.mv (.t 0)),q1 10 (.call 30 [(.t 9)]),q1 11 (.bin .lss (.t 8) (.t 10))] [0, 3, 4, 11])
 (.cond (.t 11) (.skip) (.exit 0))))
 (.seq (.kp [0, 3, 4] (.blk 1 (.seq (.reg [q1 5 (.asg (.c (.bool true)))] [0, 3, 4, 5])
 (.seq (.kp [0, 3, 4, 5] (.seq (.reg [q1 14 (.mv (.t 0)),q1 15 (.mv (.t 4)),q1 16 (.call 66 [(.t 14), (.t 15)]),q1 17 (.len false (.t 16)),q1 18 (.mv (.c (.int .i64 0)))] [0, 3, 4, 5, 16, 17, 18])
 (.blk 2 (.loop (.seq (.reg [q1 19 (.bin .lss (.t 18) (.t 17))] [0, 3, 4, 5, 16, 17, 18, 19])
 (.seq (.kp [0, 3, 4, 5, 16, 17, 18] (.cond (.t 19) (.skip) (.exit 2)))
 (.seq (.kp [0, 3, 4, 5, 16, 17, 18] (.blk 3 (.seq (.reg [q1 20 (.mv (.t 18)),q1 21 (.ia 16 (.t 18) 1),q1 22 (.ld 21 1 false),q1 6 (.asg (.t 20)),q1 7 (.asg (.t 22))] [0, 3, 4, 5, 6, 7, 16, 17, 18])
 (.reg [q1 23 (.mv (.t 5)),q1 24 (.mv (.t 23)),
  ⟨some 25, .mv (.t 7), some (24, true)⟩,
  ⟨some 26, .mv (.t 0), some (24, true)⟩,
  ⟨some 27, .mv (.t 6), some (24, true)⟩,
  ⟨some 28, .ia 26 (.t 27) 1, some (24, true)⟩,
  ⟨some 29, .ld 28 1 false, some (24, true)⟩,
  ⟨some 30, .bin .lss (.t 25) (.t 29), some (24, true)⟩,q1 31 (.pick (.t 24) (.t 30) (.c (.bool false))),q1 5 (.asg (.t 31))] [0, 3, 4, 5, 16, 17, 18]))))
 (.reg [q1 32 (.bin .add (.t 18) (.c (.int .i64 1))),q1 18 (.mv (.t 32))] [0, 3, 4, 5, 16, 17, 18]))))))))
 (.seq (.reg [q1 33 (.mv (.t 5))] [0, 3, 4, 33])
 (.cond (.t 33) (.reg [q1 34 (.mv (.t 3)),q1 35 (.mv (.t 4)),q1 36 (.bsl [(.t 35)] 1),q1 37 (.app (.t 34) (.t 36) 1),q1 3 (.asg (.t 37))] [0, 3, 4]) (.skip)))))))
 (.reg [q1 12 (.mv (.t 4)),q1 13 (.bin .add (.t 12) (.c (.int .i64 1))),q1 4 (.asg (.t 13))] [0, 3, 4])))))))
 (.seq (.reg [q1 38 (.mv (.t 3)),q1 2 (.asg (.t 38))] [2])
 (.ret))))
theorem con_spec_cbBase {v0 : (List Int)} {r : (List Int)} (h : sh_spec_cbBase v0 = some r) : Con Tryz.prog 65 [cc13.enc v0] [] (rs_spec_cbBase r) := by
 delta sh_spec_cbBase at h
 refine top (out := none) (f := Tryz.f65) (m := m65) (rs := [.t 2]) (by kernel_rfl) rfl (by kernel_rfl) (by kernel_rfl) (by kernel_rfl) (by kernel_rfl) (by kernel_rfl) ?_
 exact
  ini [q2 0 cc13 v0] rfl <| wpC_seq <| reg_s <| x_asg (sc cc14 ([] : List Int) rfl) <| sq [q2 0 cc13 v0] <|
  xn <| wpC_seq <| reg_s <| x_asg (sc cc14 ([] : List Int) rfl) <| sq [q2 0 cc13 v0, q2 3 cc14 ([] : List Int)] <|
  xn <| wpC_seq <| wpC_kp <| wpC_seq <| reg_s <| x_asg (sc cI (0 : Int) rfl) <| sq [q2 0 cc13 v0, q2 3 cc14 ([] : List Int), q2 4 cI (0 : Int)] <|
  xn <| wpC_blk <| lpF (fun (s489 : ((List Int) × Int)) => [q2 0 cc13 v0, q2 3 cc14 s489.1, q2 4 cI s489.2]) (([] : List Int), (0 : Int)) rfl h
  fun G816 nx814 s489 hn815 h => wpC_seq <| wpC_kp <| wpC_seq <| reg_s <| st rfl <| mvd rfl rfl <| st rfl <| mvd rfl rfl <| bnd h fun x824 e825 h => st rfl <| o_call (a1 (c := cc13) (tLs tK) rfl a0) (con_spec_cbCount e825) (.inl (so1 sK so0)) <| st rfl <| b_lss (k := .i64) rfl rfl <| sq [q2 0 cc13 v0, q2 3 cc14 s489.1, q2 4 cI s489.2, q2 11 cB (decide (s489.2 < x824))] <|
  xn <| cnd rfl h (fun b826 h => wpC_skip <| kpN [q2 0 cc13 v0, q2 3 cc14 s489.1, q2 4 cI s489.2] (by kernel_rfl) <| xn <| wpC_seq <| wpC_kp <| wpC_blk <| wpC_seq <| reg_s <| x_asg (sc cB true rfl) <| sq [q2 0 cc13 v0, q2 3 cc14 s489.1, q2 4 cI s489.2, q2 5 cB true] <|
  xn <| wpC_seq <| wpC_kp <| wpC_seq <| reg_s <| st rfl <| mvd rfl rfl <| st rfl <| mvd rfl rfl <| bnd h fun x940 e941 h => st rfl <| o_call (a1 (c := cc13) (tLs tK) rfl (a1 (c := cI) tK rfl a0)) (con_spec_cbIndices e941) (.inl (so1 (sLo sK) so0)) <| stw rfl <| leno rfl fun l942 => st rfl <| mvc cI (0 : Int) rfl <| sq [q2 0 cc13 v0, q2 3 cc14 s489.1, q2 4 cI s489.2, q2 5 cB true, q2 16 cc14 x940, q2 17 cI (x940.length : Int), q2 18 cI (0 : Int)] <|
  xn <| wpC_blk <| lpR (fun (k944 : Nat) (s943 : Bool) => [q2 0 cc13 v0, q2 3 cc14 s489.1, q2 4 cI s489.2, q2 5 cB s943, q2 16 cc14 x940, q2 17 cI (x940.length : Int), q2 18 cI (k944 : Int)]) true rfl h
  (fun G964 s943 h => wpC_seq <| reg_s <| st rfl <| b_lss (k := .i64) rfl rfl <| sq [q2 0 cc13 v0, q2 3 cc14 s489.1, q2 4 cI s489.2, q2 5 cB s943, q2 16 cc14 x940, q2 17 cI (x940.length : Int), q2 18 cI (x940.length : Int), q2 19 cB (decide ((x940.length : Int) < (x940.length : Int)))] <|
  xn <| wpC_seq <| wpC_kp <| cnd0 rfl (dlf _) <| wpC_exit <| xt <| xt <| xt <| xb <| kpN [q2 0 cc13 v0, q2 3 cc14 s489.1, q2 4 cI s489.2, q2 5 cB s943] (by kernel_rfl) <| xn <| wpC_seq <| reg_s <| st rfl <| mvd rfl rfl <| sq [q2 0 cc13 v0, q2 3 cc14 s489.1, q2 4 cI s489.2, q2 33 cB s943] <|
  xn <| cnd rfl h (fun b965 h => reg_s <| st rfl <| mvo rfl rfl <| st rfl <| mvd rfl rfl <| x_bsl cI [s489.2] (t1 (ss rfl rfl) rfl t0) rfl rfl <| lnO_k h fun l966 h => x_app (sr rfl rfl) (to rfl rfl) l966 rfl <| x_asg (so rfl rfl) <| sq [q2 0 cc13 v0, q2 3 cc14 (s489.1 ++ [s489.2]), q2 4 cI s489.2] <|
  xbb <| kpN [q2 0 cc13 v0, q2 3 cc14 (s489.1 ++ [s489.2]), q2 4 cI s489.2] (by kernel_rfl) <| xn <| reg_s <| st rfl <| mvd rfl rfl <| ckI_k h fun i967 h => st rfl <| b_add (k := .i64) rfl rfl i967 <| x_asg (ss rfl rfl) <| sq [q2 0 cc13 v0, q2 3 cc14 (s489.1 ++ [s489.2]), q2 4 cI (s489.2 + (1 : Int))] <|
  xn <| hn815 ((s489.1 ++ [s489.2]), (s489.2 + (1 : Int))) h)
  (fun b965 h => wpC_skip <| xbb <| kpN [q2 0 cc13 v0, q2 3 cc14 s489.1, q2 4 cI s489.2] (by kernel_rfl) <| xn <| reg_s <| st rfl <| mvd rfl rfl <| ckI_k h fun i968 h => st rfl <| b_add (k := .i64) rfl rfl i968 <| x_asg (ss rfl rfl) <| sq [q2 0 cc13 v0, q2 3 cc14 s489.1, q2 4 cI (s489.2 + (1 : Int))] <|
  xn <| hn815 (s489.1, (s489.2 + (1 : Int))) h))
  (fun G964 nx962 k944 s943 x945 hk946 hx947 hn963 h => wpC_seq <| reg_s <| st rfl <| b_lss (k := .i64) rfl rfl <| sq [q2 0 cc13 v0, q2 3 cc14 s489.1, q2 4 cI s489.2, q2 5 cB s943, q2 16 cc14 x940, q2 17 cI (x940.length : Int), q2 18 cI (k944 : Int), q2 19 cB (decide ((k944 : Int) < (x940.length : Int)))] <|
  xn <| wpC_seq <| wpC_kp <| cnd1 rfl (dlt hk946) <| wpC_skip <| kpN [q2 0 cc13 v0, q2 3 cc14 s489.1, q2 4 cI s489.2, q2 5 cB s943, q2 16 cc14 x940, q2 17 cI (x940.length : Int), q2 18 cI (k944 : Int)] (by kernel_rfl) <| xn <| wpC_seq <| wpC_kp <| wpC_blk <| wpC_seq <| reg_s <| st rfl <| mvd rfl rfl <| st rfl <| iao rfl rfl (Int.natCast_nonneg _) hx947 rfl <| st rfl <| lda rfl rfl (Gt.idx hx947 Gt.nil) rfl rfl rfl <| x_asg (ss rfl rfl) <| x_asg (ss rfl rfl) <| sq [q2 0 cc13 v0, q2 3 cc14 s489.1, q2 4 cI s489.2, q2 5 cB s943, q2 6 cI (k944 : Int), q2 7 cI x945, q2 16 cc14 x940, q2 17 cI (x940.length : Int), q2 18 cI (k944 : Int)] <|
  xn <| reg_s <| st rfl <| mvd rfl rfl <| st rfl <| mvd rfl rfl <| ite_k h (fun b973 h => gt' rfl b973 <| st rfl <| mvd rfl rfl <| gt' rfl b973 <| st rfl <| mvd rfl rfl <| gt' rfl b973 <| st rfl <| mvd rfl rfl <| gt' rfl b973 <| getO_k h fun x974 i975 g976 h => st rfl <| ias rfl rfl i975 g976 rfl <| gt' rfl b973 <| st rfl <| ldi rfl rfl rfl rfl <| gt' rfl b973 <| st rfl <| b_lss (k := .i64) rfl rfl <| st rfl <| pick1 rfl b973 (cd := cB) (v := (decide (x945 < x974))) rfl rfl <| x_asg (ss rfl rfl) <| sq [q2 0 cc13 v0, q2 3 cc14 s489.1, q2 4 cI s489.2, q2 5 cB (decide (x945 < x974)), q2 16 cc14 x940, q2 17 cI (x940.length : Int), q2 18 cI (k944 : Int)] <|
  xbb <| kpN [q2 0 cc13 v0, q2 3 cc14 s489.1, q2 4 cI s489.2, q2 5 cB (decide (x945 < x974)), q2 16 cc14 x940, q2 17 cI (x940.length : Int), q2 18 cI (k944 : Int)] (by kernel_rfl) <| xn <| reg_s <| st rfl <| b_inc rfl rfl l942 hk946 <| st rfl <| mvd rfl rfl <| sq [q2 0 cc13 v0, q2 3 cc14 s489.1, q2 4 cI s489.2, q2 5 cB (decide (x945 < x974)), q2 16 cc14 x940, q2 17 cI (x940.length : Int), q2 18 cI ((k944 + 1 : Nat) : Int)] <|
  xn <| hn963 (decide (x945 < x974)) h)
  (fun b973 h => gf rfl b973 <| gf rfl b973 <| gf rfl b973 <| gf rfl b973 <| gf rfl b973 <| gf rfl b973 <| st rfl <| pick0 rfl b973 (cd := cB) (v := false) rfl rfl <| x_asg (ss rfl rfl) <| sq [q2 0 cc13 v0, q2 3 cc14 s489.1, q2 4 cI s489.2, q2 5 cB false, q2 16 cc14 x940, q2 17 cI (x940.length : Int), q2 18 cI (k944 : Int)] <|
  xbb <| kpN [q2 0 cc13 v0, q2 3 cc14 s489.1, q2 4 cI s489.2, q2 5 cB false, q2 16 cc14 x940, q2 17 cI (x940.length : Int), q2 18 cI (k944 : Int)] (by kernel_rfl) <| xn <| reg_s <| st rfl <| b_inc rfl rfl l942 hk946 <| st rfl <| mvd rfl rfl <| sq [q2 0 cc13 v0, q2 3 cc14 s489.1, q2 4 cI s489.2, q2 5 cB false, q2 16 cc14 x940, q2 17 cI (x940.length : Int), q2 18 cI ((k944 + 1 : Nat) : Int)] <|
  xn <| hn963 false h)))
  (fun b826 h => wpC_exit <| xt <| xt <| xt <| xb <| kpN [q2 3 cc14 s489.1] (by kernel_rfl) <| xn <| wpC_seq <| reg_s <| st rfl <| mvo rfl rfl <| x_asg (sr rfl rfl) <| sq [q2 2 cc14 s489.1] <|
  xn <| wpC_ret <| re <| fin h (r1 (so rfl rfl) <| r0) rfl)

def rs_spec_cbOf (r : XCube) : List D := [cc7.enc r]
def m33 : MC := .seq (.reg [q1 4 (.alloc (.agg [.slice true [], .slice true []]))] [0, 1, 4])
 (.seq (.reg [q1 12 (.mv (.t 0)),q1 13 (.call 64 [(.t 12)]),q1 14 (.mv (.t 0)),q1 15 (.call 30 [(.t 14)]),q1 16 (.mk (.int .i64 0) (.t 15)),q1 17 (.bld [.slice true [], .slice true []] [(0, (.t 13)), (1, (.t 16))]),q1 5 (.alloc (.agg [.slice true [], .slice true []])),q0 (.st 5 (.t 17) 2)] [0, 1, 4, 5])
 (.seq (.kp [4, 5] (.seq (.reg [q1 18 (.mv (.t 0)),q1 19 (.call 65 [(.t 18)]),q1 20 (.len false (.t 19)),q1 21 (.mv (.c (.int .i64 0)))] [0, 1, 4, 5, 19, 20, 21])
 (.blk 0 (.loop (.seq (.reg [q1 22 (.bin .lss (.t 21) (.t 20))] [0, 1, 4, 5, 19, 20, 21, 22])
 (.seq (.kp [0, 1, 4, 5, 19, 20, 21] (.cond (.t 22) (.skip) (.exit 0)))
 (.seq (.kp [0, 1, 4, 5, 19, 20, 21] (.blk 1 (.seq (.reg [q1 23 (.mv (.t 21)),q1 24 (.ia 19 (.t 21) 1),q1 25 (.ld 24 1 false),q1 6 (.asg (.t 23)),q1 7 (.asg (.t 25))] [0, 1, 4, 5, 6, 7, 19, 20, 21])
 (.seq (.reg [q1 26 (.mv (.t 0)),q1 27 (.mv (.t 7)),q1 28 (.call 66 [(.t 26), (.t 27)]),q1 8 (.asg (.t 28))] [0, 1, 4, 5, 6, 8, 19, 20, 21])
 (.seq (.reg [q1 9 (.asg (.c (.int .i64 0)))] [0, 1, 4, 5, 6, 8, 9, 19, 20, 21])
 (.blk 2 (.loop (.seq (.kp [0, 1, 4, 5, 6, 8, 9, 19, 20, 21] (.seq (.reg [q1 29 (.mv (.t 9)),q1 30 (.mv (.t 0)),q1 31 (.len false (.t 30)),q1 32 (.cvi .u64 (.t 31)),q1 33 (.bin .shl (.c (.int .i64 1)) (.t 32)),q1 34 (.bin .lss (.t 29) (.t 33))] [0, 1, 4, 5, 6, 8, 9, 19, 20, 21, 34])
 (.cond (.t 34) (.skip) (.exit 2))))
 (.seq (.kp [0, 1, 4, 5, 6, 8, 9, 19, 20, 21] (.blk 3 (.seq (.reg [q1 37 (.mv (.t 8)),q1 38 (.call 64 [(.t 37)]),q1 10 (.asg (.t 38))] [0, 1, 4, 5, 6, 8, 9, 10, 19, 20, 21])
 (.seq (.kp [0, 1, 4, 5, 6, 8, 9, 10, 19, 20, 21] (.seq (.reg [q1 39 (.mv (.t 10)),q1 40 (.len false (.t 39)),q1 41 (.mv (.c (.int .i64 0)))] [0, 1, 4, 5, 6, 8, 9, 10, 19, 20, 21, 40, 41])
 (.blk 4 (.loop (.seq (.reg [q1 42 (.bin .lss (.t 41) (.t 40))] [0, 1, 4, 5, 6, 8, 9, 10, 19, 20, 21, 40, 41, 42])
 (.seq (.kp [0, 1, 4, 5, 6, 8, 9, 10, 19, 20, 21, 40, 41] (.cond (.t 42) (.skip) (.exit 4)))
 (.seq (.kp [0, 1, 4, 5, 6, 8, 9, 10, 19, 20, 21, 40, 41] (.blk 5 (.seq (.reg [q1 43 (.mv (.t 41)),q1 11 (.asg (.t 43))] [0, 1, 4, 5, 6, 8, 9, 10, 11, 19, 20, 21, 40, 41])
 (.seq (.reg [q1 44 (.mv (.t 9)),q1 45 (.mv (.t 11)),q1 46 (.cvi .u64 (.t 45)),q1 47 (.bin .shr (.t 44) (.t 46)),q1 48 (.bin .and (.t 47) (.c (.int .i64 1))),q1 49 (.bin .eql (.t 48) (.c (.int .i64 1)))] [0, 1, 4, 5, 6, 8, 9, 10, 11, 19, 20, 21, 40, 41, 49])
 (.cond (.t 49) (.reg [q1 50 (.mv (.t 10)),q1 51 (.mv (.t 11)),q1 52 (.mv (.t 0)),q1 53 (.mv (.t 11)),q1 54 (.ia 52 (.t 53) 1),q1 55 (.ld 54 1 false),q1 56 (.ia 50 (.t 51) 1),q0 (.st 56 (.t 55) 1)] [0, 1, 4, 5, 6, 8, 9, 10, 19, 20, 21, 40, 41]) (.skip))))))
 (.reg [q1 57 (.bin .add (.t 41) (.c (.int .i64 1))),q1 41 (.mv (.t 57))] [0, 1, 4, 5, 6, 8, 9, 10, 19, 20, 21, 40, 41]))))))))
 (.drw [⟨0, q1 58 (.fa 5 1 1), [59, 60, 61, 62, 63, 64, 65, 66, 67, 68, 69, 70]⟩,
  ⟨1, q1 59 (.ld 58 1 false), [60, 61, 62, 63, 64, 65, 66, 67, 68, 69, 70]⟩,
  ⟨2, q1 60 (.mv (.t 0)), [58, 59, 61, 62, 63, 64, 65, 66, 67, 68, 69, 70]⟩,
  ⟨3, q1 61 (.mv (.t 10)), [58, 59, 60, 62, 63, 64, 65, 66, 67, 68, 69, 70]⟩,
  ⟨4, q1 62 (.call 67 [(.t 60), (.t 61)]), [58, 59, 63, 64, 65, 66, 67, 68, 69, 70]⟩,
  ⟨5, q1 63 (.ia 59 (.t 62) 1), [64, 65, 66, 67, 68, 69, 70]⟩,
  ⟨6, q1 64 (.ld 63 1 false), [65, 66, 67, 68, 69, 70]⟩,
  ⟨7, q1 65 (.mv (.t 1)), [58, 59, 60, 61, 62, 63, 64, 66, 67, 68, 69, 70]⟩,
  ⟨8, q1 66 (.mv (.t 6)), [58, 59, 60, 61, 62, 63, 64, 65, 67, 68, 69, 70]⟩,
  ⟨9, q1 67 (.ia 65 (.t 66) 1), [58, 59, 60, 61, 62, 63, 64, 68, 69, 70]⟩,
  ⟨10, q1 68 (.ld 67 1 false), [58, 59, 60, 61, 62, 63, 64, 69, 70]⟩,
  ⟨11, q1 69 (.bin .add (.t 64) (.t 68)), [70]⟩,
  ⟨12, q1 70 (.ia 59 (.t 62) 1), []⟩]
  [(13, q0 (.st 70 (.t 69) 1))] [0, 1, 4, 5, 6, 8, 9, 19, 20, 21])))))
 (.reg [q1 35 (.mv (.t 9)),q1 36 (.bin .add (.t 35) (.c (.int .i64 1))),q1 9 (.asg (.t 36))] [0, 1, 4, 5, 6, 8, 9, 19, 20, 21]))))))))))
 (.reg [q1 71 (.bin .add (.t 21) (.c (.int .i64 1))),q1 21 (.mv (.t 71))] [0, 1, 4, 5, 19, 20, 21]))))))))
 (.seq (.reg [q1 72 (.ld 5 2 true),q0 (.st 4 (.t 72) 2)] [4])
 (.ret))))
theorem con_spec_cbOf {v0 : (List Int)} {v1 : (List Int)} {r : XCube} (h : sh_spec_cbOf v0 v1 = some r) : Con Tryz.prog 33 [cc13.enc v0, cc13.enc v1] [] (rs_spec_cbOf r) := by
 delta sh_spec_cbOf at h
 refine top (out := none) (f := Tryz.f33) (m := m33) (rs := [.c 4 2 true]) (by kernel_rfl) rfl (by kernel_rfl) (by kernel_rfl) (by kernel_rfl) (by kernel_rfl) (by kernel_rfl) ?_
 exact
  ini [q2 0 cc13 v0, q2 1 cc13 v1] rfl <| wpC_seq <| reg_s <| x_all cc7 (⟨([] : List Int), ([] : List Int)⟩ : XCube) rfl <| sq [q2 0 cc13 v0, q2 1 cc13 v1, q3 4 cc7 (⟨([] : List Int), ([] : List Int)⟩ : XCube)] <|
  xn <| wpC_seq <| reg_s <| st rfl <| mvd rfl rfl <| bnd h fun x7 e8 h => st rfl <| o_call (a1 (c := cc13) (tLs tK) rfl a0) (con_spec_l1Own e8) (.inl (so1 (sLo sK) so0)) <| st rfl <| mvd rfl rfl <| bnd h fun x9 e10 h => st rfl <| o_call (a1 (c := cc13) (tLs tK) rfl a0) (con_spec_cbCount e10) (.inl (so1 sK so0)) <| mkO_k h fun i11 l12 h => st rfl <| o_mk (c := cI) (a0 := (0 : Int)) rfl (k := .i64) rfl i11 l12 <| x_bld (cc7.enc (⟨x7, (List.replicate (x9).toNat (0 : Int))⟩ : XCube)) (t1 (so rfl rfl) rfl (t1 (so rfl rfl) rfl t0)) rfl rfl <| x_all cc7 (⟨([] : List Int), ([] : List Int)⟩ : XCube) rfl <| x_stb (so rfl rfl) rfl (Cd.h_sz _ _) rfl <| sq [q2 0 cc13 v0, q2 1 cc13 v1, q3 4 cc7 (⟨([] : List Int), ([] : List Int)⟩ : XCube), q3 5 cc7 (⟨x7, (List.replicate (x9).toNat (0 : Int))⟩ : XCube)] <|
  xn <| wpC_seq <| wpC_kp <| wpC_seq <| reg_s <| st rfl <| mvd rfl rfl <| bnd h fun x9408 e9409 h => st rfl <| o_call (a1 (c := cc13) (tLs tK) rfl a0) (con_spec_cbBase e9409) (.inl (so1 (sLo sK) so0)) <| stw rfl <| leno rfl fun l9410 => st rfl <| mvc cI (0 : Int) rfl <| sq [q2 0 cc13 v0, q2 1 cc13 v1, q3 4 cc7 (⟨([] : List Int), ([] : List Int)⟩ : XCube), q3 5 cc7 (⟨x7, (List.replicate (x9).toNat (0 : Int))⟩ : XCube), q2 19 cc14 x9408, q2 20 cI (x9408.length : Int), q2 21 cI (0 : Int)] <|
  xn <| wpC_blk <| lpR (fun (k9412 : Nat) (s9411 : XCube) => [q2 0 cc13 v0, q2 1 cc13 v1, q3 4 cc7 (⟨([] : List Int), ([] : List Int)⟩ : XCube), q3 5 cc7 s9411, q2 19 cc14 x9408, q2 20 cI (x9408.length : Int), q2 21 cI (k9412 : Int)]) (⟨x7, (List.replicate (x9).toNat (0 : Int))⟩ : XCube) rfl h
  (fun G15670 s9411 h => wpC_seq <| reg_s <| st rfl <| b_lss (k := .i64) rfl rfl <| sq [q2 0 cc13 v0, q2 1 cc13 v1, q3 4 cc7 (⟨([] : List Int), ([] : List Int)⟩ : XCube), q3 5 cc7 s9411, q2 19 cc14 x9408, q2 20 cI (x9408.length : Int), q2 21 cI (x9408.length : Int), q2 22 cB (decide ((x9408.length : Int) < (x9408.length : Int)))] <|
  xn <| wpC_seq <| wpC_kp <| cnd0 rfl (dlf _) <| wpC_exit <| xt <| xt <| xt <| xb <| kpN [q3 4 cc7 (⟨([] : List Int), ([] : List Int)⟩ : XCube), q3 5 cc7 s9411] (by kernel_rfl) <| xn <| wpC_seq <| reg_s <| st rfl <| ldbo rfl rfl rfl rfl <| x_stb (sb rfl rfl) rfl (Cd.h_sz _ _) rfl <| sq [q3 4 cc7 s9411] <|
  xn <| wpC_ret <| re <| fin h (r2 rfl rfl rfl <| r0) rfl)
  (fun G15670 nx15668 k9412 s9411 x9413 hk9414 hx9415 hn15669 h => wpC_seq <| reg_s <| st rfl <| b_lss (k := .i64) rfl rfl <| sq [q2 0 cc13 v0, q2 1 cc13 v1, q3 4 cc7 (⟨([] : List Int), ([] : List Int)⟩ : XCube), q3 5 cc7 s9411, q2 19 cc14 x9408, q2 20 cI (x9408.length : Int), q2 21 cI (k9412 : Int), q2 22 cB (decide ((k9412 : Int) < (x9408.length : Int)))] <|
  xn <| wpC_seq <| wpC_kp <| cnd1 rfl (dlt hk9414) <| wpC_skip <| kpN [q2 0 cc13 v0, q2 1 cc13 v1, q3 4 cc7 (⟨([] : List Int), ([] : List Int)⟩ : XCube), q3 5 cc7 s9411, q2 19 cc14 x9408, q2 20 cI (x9408.length : Int), q2 21 cI (k9412 : Int)] (by kernel_rfl) <| xn <| wpC_seq <| wpC_kp <| wpC_blk <| wpC_seq <| reg_s <| st rfl <| mvd rfl rfl <| st rfl <| iao rfl rfl (Int.natCast_nonneg _) hx9415 rfl <| st rfl <| lda rfl rfl (Gt.idx hx9415 Gt.nil) rfl rfl rfl <| x_asg (ss rfl rfl) <| x_asg (ss rfl rfl) <| sq [q2 0 cc13 v0, q2 1 cc13 v1, q3 4 cc7 (⟨([] : List Int), ([] : List Int)⟩ : XCube), q3 5 cc7 s9411, q2 6 cI (k9412 : Int), q2 7 cI x9413, q2 19 cc14 x9408, q2 20 cI (x9408.length : Int), q2 21 cI (k9412 : Int)] <|
  xn <| wpC_seq <| reg_s <| st rfl <| mvd rfl rfl <| st rfl <| mvd rfl rfl <| bnd h fun x17236 e17237 h => st rfl <| o_call (a1 (c := cc13) (tLs tK) rfl (a1 (c := cI) tK rfl a0)) (con_spec_cbIndices e17237) (.inl (so1 (sLo sK) so0)) <| x_asg (so rfl rfl) <| sq [q2 0 cc13 v0, q2 1 cc13 v1, q3 4 cc7 (⟨([] : List Int), ([] : List Int)⟩ : XCube), q3 5 cc7 s9411, q2 6 cI (k9412 : Int), q2 8 cc14 x17236, q2 19 cc14 x9408, q2 20 cI (x9408.length : Int), q2 21 cI (k9412 : Int)] <|
  xn <| wpC_seq <| reg_s <| x_asg (sc cI (0 : Int) rfl) <| sq [q2 0 cc13 v0, q2 1 cc13 v1, q3 4 cc7 (⟨([] : List Int), ([] : List Int)⟩ : XCube), q3 5 cc7 s9411, q2 6 cI (k9412 : Int), q2 8 cc14 x17236, q2 9 cI (0 : Int), q2 19 cc14 x9408, q2 20 cI (x9408.length : Int), q2 21 cI (k9412 : Int)] <|
  xn <| wpC_blk <| lpF (fun (s17238 : (XCube × Int)) => [q2 0 cc13 v0, q2 1 cc13 v1, q3 4 cc7 (⟨([] : List Int), ([] : List Int)⟩ : XCube), q3 5 cc7 s17238.1, q2 6 cI (k9412 : Int), q2 8 cc14 x17236, q2 9 cI s17238.2, q2 19 cc14 x9408, q2 20 cI (x9408.length : Int), q2 21 cI (k9412 : Int)]) (s9411, (0 : Int)) rfl h
  fun G18279 nx18277 s17238 hn18278 h => wpC_seq <| wpC_kp <| wpC_seq <| reg_s <| st rfl <| mvd rfl rfl <| st rfl <| mvd rfl rfl <| stw rfl <| lens rfl fun l18293 => ckK_k h fun i18294 h => st rfl <| o_cvi (k := .i64) (k' := .u64) rfl i18294 <| ck_k h fun i18295 h => ckI_k h fun i18296 h => st rfl <| b_shl (k := .i64) (k' := .u64) rfl rfl i18295 rfl i18296 <| st rfl <| b_lss (k := .i64) rfl rfl <| sq [q2 0 cc13 v0, q2 1 cc13 v1, q3 4 cc7 (⟨([] : List Int), ([] : List Int)⟩ : XCube), q3 5 cc7 s17238.1, q2 6 cI (k9412 : Int), q2 8 cc14 x17236, q2 9 cI s17238.2, q2 19 cc14 x9408, q2 20 cI (x9408.length : Int), q2 21 cI (k9412 : Int), q2 34 cB (decide (s17238.2 < ((1 : Int) * 2 ^ ((v0.length : Int)).toNat)))] <|
  xn <| cnd rfl h (fun b18297 h => wpC_skip <| kpN [q2 0 cc13 v0, q2 1 cc13 v1, q3 4 cc7 (⟨([] : List Int), ([] : List Int)⟩ : XCube), q3 5 cc7 s17238.1, q2 6 cI (k9412 : Int), q2 8 cc14 x17236, q2 9 cI s17238.2, q2 19 cc14 x9408, q2 20 cI (x9408.length : Int), q2 21 cI (k9412 : Int)] (by kernel_rfl) <| xn <| wpC_seq <| wpC_kp <| wpC_blk <| wpC_seq <| reg_s <| st rfl <| mvo rfl rfl <| bnd h fun x18549 e18550 h => st rfl <| o_call (a1 (c := cc14) (tLo tK) rfl a0) (con_spec_l1Own e18550) (.inl (so1 (sLo sK) so0)) <| x_asg (so rfl rfl) <| sq [q2 0 cc13 v0, q2 1 cc13 v1, q3 4 cc7 (⟨([] : List Int), ([] : List Int)⟩ : XCube), q3 5 cc7 s17238.1, q2 6 cI (k9412 : Int), q2 8 cc14 x17236, q2 9 cI s17238.2, q2 10 cc14 x18549, q2 19 cc14 x9408, q2 20 cI (x9408.length : Int), q2 21 cI (k9412 : Int)] <|
  xn <| wpC_seq <| wpC_kp <| wpC_seq <| reg_s <| st rfl <| mvo rfl rfl <| stw rfl <| leno rfl fun l18670 => st rfl <| mvc cI (0 : Int) rfl <| sq [q2 0 cc13 v0, q2 1 cc13 v1, q3 4 cc7 (⟨([] : List Int), ([] : List Int)⟩ : XCube), q3 5 cc7 s17238.1, q2 6 cI (k9412 : Int), q2 8 cc14 x17236, q2 9 cI s17238.2, q2 10 cc14 x18549, q2 19 cc14 x9408, q2 20 cI (x9408.length : Int), q2 21 cI (k9412 : Int), q2 40 cI (x18549.length : Int), q2 41 cI (0 : Int)] <|
  xn <| wpC_blk <| lpR (fun (k18672 : Nat) (s18671 : (List Int)) => [q2 0 cc13 v0, q2 1 cc13 v1, q3 4 cc7 (⟨([] : List Int), ([] : List Int)⟩ : XCube), q3 5 cc7 s17238.1, q2 6 cI (k9412 : Int), q2 8 cc14 x17236, q2 9 cI s17238.2, q2 10 cc14 s18671, q2 19 cc14 x9408, q2 20 cI (x9408.length : Int), q2 21 cI (k9412 : Int), q2 40 cI (x18549.length : Int), q2 41 cI (k18672 : Int)]) x18549 rfl h
  (fun G18748 s18671 h => wpC_seq <| reg_s <| st rfl <| b_lss (k := .i64) rfl rfl <| sq [q2 0 cc13 v0, q2 1 cc13 v1, q3 4 cc7 (⟨([] : List Int), ([] : List Int)⟩ : XCube), q3 5 cc7 s17238.1, q2 6 cI (k9412 : Int), q2 8 cc14 x17236, q2 9 cI s17238.2, q2 10 cc14 s18671, q2 19 cc14 x9408, q2 20 cI (x9408.length : Int), q2 21 cI (k9412 : Int), q2 40 cI (x18549.length : Int), q2 41 cI (x18549.length : Int), q2 42 cB (decide ((x18549.length : Int) < (x18549.length : Int)))] <|
  xn <| wpC_seq <| wpC_kp <| cnd0 rfl (dlf _) <| wpC_exit <| xt <| xt <| xt <| xb <| kpN [q2 0 cc13 v0, q2 1 cc13 v1, q3 4 cc7 (⟨([] : List Int), ([] : List Int)⟩ : XCube), q3 5 cc7 s17238.1, q2 6 cI (k9412 : Int), q2 8 cc14 x17236, q2 9 cI s17238.2, q2 10 cc14 s18671, q2 19 cc14 x9408, q2 20 cI (x9408.length : Int), q2 21 cI (k9412 : Int)] (by kernel_rfl) <| xn <| drw_s <| pst rfl <| fab rfl rfl rfl rfl ⟨rfl, pst rfl <| ldao rfl rfl rfl rfl rfl rfl ⟨rfl, pst rfl <| mvd rfl rfl ⟨rfl, pst rfl <| mvo rfl rfl ⟨rfl, bndp h fun x18749 e18750 h => pst rfl <| o_call (a1 (c := cc13) (tLs tK) rfl (a1 (c := cc14) (tLo tK) rfl a0)) (con_spec_cbAt e18750) (.inl (so1 sK so0)) ⟨rfl, getO_kp h fun x18751 i18752 g18753 h => pst rfl <| iar rfl rfl rfl rfl i18752 g18753 rfl ⟨rfl, pst rfl <| lda rfl rfl (Gt.fld rfl rfl (Gt.idx g18753 Gt.nil)) rfl rfl rfl ⟨rfl, pst rfl <| mvd rfl rfl ⟨rfl, pst rfl <| mvd rfl rfl ⟨rfl, getO_kp h fun x18754 i18755 g18756 h => pst rfl <| ias rfl rfl i18755 g18756 rfl ⟨rfl, pst rfl <| ldi rfl rfl rfl rfl ⟨rfl, ckI_kp h fun i18757 h => pst rfl <| b_add (k := .i64) rfl rfl i18757 ⟨rfl, pst rfl <| iar rfl rfl rfl rfl i18752 g18753 rfl ⟨rfl, preN <| x_sta (cc7.enc (⟨s17238.1.Sizes, (s17238.1.Cells.set (x18749).toNat (x18751 + x18754))⟩ : XCube)) (ss rfl rfl) rfl rfl (Ln.fld rfl rfl (Ln.idx g18753 Ln.nil) rfl) (Cd.h_sz cI _) rfl <| sq [q2 0 cc13 v0, q2 1 cc13 v1, q3 4 cc7 (⟨([] : List Int), ([] : List Int)⟩ : XCube), q3 5 cc7 (⟨s17238.1.Sizes, (s17238.1.Cells.set (x18749).toNat (x18751 + x18754))⟩ : XCube), q2 6 cI (k9412 : Int), q2 8 cc14 x17236, q2 9 cI s17238.2, q2 19 cc14 x9408, q2 20 cI (x9408.length : Int), q2 21 cI (k9412 : Int)] <|
  xbb <| kpN [q2 0 cc13 v0, q2 1 cc13 v1, q3 4 cc7 (⟨([] : List Int), ([] : List Int)⟩ : XCube), q3 5 cc7 (⟨s17238.1.Sizes, (s17238.1.Cells.set (x18749).toNat (x18751 + x18754))⟩ : XCube), q2 6 cI (k9412 : Int), q2 8 cc14 x17236, q2 9 cI s17238.2, q2 19 cc14 x9408, q2 20 cI (x9408.length : Int), q2 21 cI (k9412 : Int)] (by kernel_rfl) <| xn <| reg_s <| st rfl <| mvd rfl rfl <| ckI_k h fun i18758 h => st rfl <| b_add (k := .i64) rfl rfl i18758 <| x_asg (ss rfl rfl) <| sq [q2 0 cc13 v0, q2 1 cc13 v1, q3 4 cc7 (⟨([] : List Int), ([] : List Int)⟩ : XCube), q3 5 cc7 (⟨s17238.1.Sizes, (s17238.1.Cells.set (x18749).toNat (x18751 + x18754))⟩ : XCube), q2 6 cI (k9412 : Int), q2 8 cc14 x17236, q2 9 cI (s17238.2 + (1 : Int)), q2 19 cc14 x9408, q2 20 cI (x9408.length : Int), q2 21 cI (k9412 : Int)] <|
  xn <| hn18278 ((⟨s17238.1.Sizes, (s17238.1.Cells.set (x18749).toNat (x18751 + x18754))⟩ : XCube), (s17238.2 + (1 : Int))) h⟩⟩⟩⟩⟩⟩⟩⟩⟩⟩⟩⟩⟩)
  (fun G18748 nx18746 k18672 s18671 x18673 hk18674 hx18675 hn18747 h => wpC_seq <| reg_s <| st rfl <| b_lss (k := .i64) rfl rfl <| sq [q2 0 cc13 v0, q2 1 cc13 v1, q3 4 cc7 (⟨([] : List Int), ([] : List Int)⟩ : XCube), q3 5 cc7 s17238.1, q2 6 cI (k9412 : Int), q2 8 cc14 x17236, q2 9 cI s17238.2, q2 10 cc14 s18671, q2 19 cc14 x9408, q2 20 cI (x9408.length : Int), q2 21 cI (k9412 : Int), q2 40 cI (x18549.length : Int), q2 41 cI (k18672 : Int), q2 42 cB (decide ((k18672 : Int) < (x18549.length : Int)))] <|
  xn <| wpC_seq <| wpC_kp <| cnd1 rfl (dlt hk18674) <| wpC_skip <| kpN [q2 0 cc13 v0, q2 1 cc13 v1, q3 4 cc7 (⟨([] : List Int), ([] : List Int)⟩ : XCube), q3 5 cc7 s17238.1, q2 6 cI (k9412 : Int), q2 8 cc14 x17236, q2 9 cI s17238.2, q2 10 cc14 s18671, q2 19 cc14 x9408, q2 20 cI (x9408.length : Int), q2 21 cI (k9412 : Int), q2 40 cI (x18549.length : Int), q2 41 cI (k18672 : Int)] (by kernel_rfl) <| xn <| wpC_seq <| wpC_kp <| wpC_blk <| wpC_seq <| reg_s <| st rfl <| mvd rfl rfl <| x_asg (ss rfl rfl) <| sq [q2 0 cc13 v0, q2 1 cc13 v1, q3 4 cc7 (⟨([] : List Int), ([] : List Int)⟩ : XCube), q3 5 cc7 s17238.1, q2 6 cI (k9412 : Int), q2 8 cc14 x17236, q2 9 cI s17238.2, q2 10 cc14 s18671, q2 11 cI (k18672 : Int), q2 19 cc14 x9408, q2 20 cI (x9408.length : Int), q2 21 cI (k9412 : Int), q2 40 cI (x18549.length : Int), q2 41 cI (k18672 : Int)] <|
  xn <| wpC_seq <| reg_s <| st rfl <| mvd rfl rfl <| st rfl <| mvd rfl rfl <| ckK_k h fun i18784 h => st rfl <| o_cvi (k := .i64) (k' := .u64) rfl i18784 <| ck_k h fun i18785 h => st rfl <| b_shr (k := .i64) (k' := .u64) rfl rfl i18785 rfl <| ck_k h fun i18786 h => ckK_k h fun i18787 h => ck_k h fun i18788 h => ckK_k h fun i18789 h => st rfl <| b_and (k := .i64) rfl rfl ⟨i18786, i18787⟩ ⟨i18788, i18789⟩ <| st rfl <| b_eql (k := .i64) rfl rfl <| sq [q2 0 cc13 v0, q2 1 cc13 v1, q3 4 cc7 (⟨([] : List Int), ([] : List Int)⟩ : XCube), q3 5 cc7 s17238.1, q2 6 cI (k9412 : Int), q2 8 cc14 x17236, q2 9 cI s17238.2, q2 10 cc14 s18671, q2 11 cI (k18672 : Int), q2 19 cc14 x9408, q2 20 cI (x9408.length : Int), q2 21 cI (k9412 : Int), q2 40 cI (x18549.length : Int), q2 41 cI (k18672 : Int), q2 49 cB (decide ((((s17238.2 / 2 ^ ((k18672 : Int)).toNat).toNat &&& (1 : Int).toNat : Nat) : Int) = (1 : Int)))] <|
  xn <| cnd rfl h (fun b18790 h => reg_s <| st rfl <| mvo rfl rfl <| st rfl <| mvd rfl rfl <| st rfl <| mvd rfl rfl <| st rfl <| mvd rfl rfl <| getO_k h fun x18791 i18792 g18793 h => st rfl <| ias rfl rfl i18792 g18793 rfl <| st rfl <| ldi rfl rfl rfl rfl <| getO_k h fun x18794 i18795 g18796 h => st rfl <| iar rfl rfl rfl rfl i18795 g18796 rfl <| x_sta (cc14.enc (s18671.set ((k18672 : Int)).toNat x18791)) (ss rfl rfl) rfl rfl (Ln.idx g18796 Ln.nil) (Cd.h_sz cI _) rfl <| sq [q2 0 cc13 v0, q2 1 cc13 v1, q3 4 cc7 (⟨([] : List Int), ([] : List Int)⟩ : XCube), q3 5 cc7 s17238.1, q2 6 cI (k9412 : Int), q2 8 cc14 x17236, q2 9 cI s17238.2, q2 10 cc14 (s18671.set ((k18672 : Int)).toNat x18791), q2 19 cc14 x9408, q2 20 cI (x9408.length : Int), q2 21 cI (k9412 : Int), q2 40 cI (x18549.length : Int), q2 41 cI (k18672 : Int)] <|
  xbb <| kpN [q2 0 cc13 v0, q2 1 cc13 v1, q3 4 cc7 (⟨([] : List Int), ([] : List Int)⟩ : XCube), q3 5 cc7 s17238.1, q2 6 cI (k9412 : Int), q2 8 cc14 x17236, q2 9 cI s17238.2, q2 10 cc14 (s18671.set ((k18672 : Int)).toNat x18791), q2 19 cc14 x9408, q2 20 cI (x9408.length : Int), q2 21 cI (k9412 : Int), q2 40 cI (x18549.length : Int), q2 41 cI (k18672 : Int)] (by kernel_rfl) <| xn <| reg_s <| st rfl <| b_inc rfl rfl l18670 hk18674 <| st rfl <| mvd rfl rfl <| sq [q2 0 cc13 v0, q2 1 cc13 v1, q3 4 cc7 (⟨([] : List Int), ([] : List Int)⟩ : XCube), q3 5 cc7 s17238.1, q2 6 cI (k9412 : Int), q2 8 cc14 x17236, q2 9 cI s17238.2, q2 10 cc14 (s18671.set ((k18672 : Int)).toNat x18791), q2 19 cc14 x9408, q2 20 cI (x9408.length : Int), q2 21 cI (k9412 : Int), q2 40 cI (x18549.length : Int), q2 41 cI ((k18672 + 1 : Nat) : Int)] <|
  xn <| hn18747 (s18671.set ((k18672 : Int)).toNat x18791) h)
  (fun b18790 h => wpC_skip <| xbb <| kpN [q2 0 cc13 v0, q2 1 cc13 v1, q3 4 cc7 (⟨([] : List Int), ([] : List Int)⟩ : XCube), q3 5 cc7 s17238.1, q2 6 cI (k9412 : Int), q2 8 cc14 x17236, q2 9 cI s17238.2, q2 10 cc14 s18671, q2 19 cc14 x9408, q2 20 cI (x9408.length : Int), q2 21 cI (k9412 : Int), q2 40 cI (x18549.length : Int), q2 41 cI (k18672 : Int)] (by kernel_rfl) <| xn <| reg_s <| st rfl <| b_inc rfl rfl l18670 hk18674 <| st rfl <| mvd rfl rfl <| sq [q2 0 cc13 v0, q2 1 cc13 v1, q3 4 cc7 (⟨([] : List Int), ([] : List Int)⟩ : XCube), q3 5 cc7 s17238.1, q2 6 cI (k9412 : Int), q2 8 cc14 x17236, q2 9 cI s17238.2, q2 10 cc14 s18671, q2 19 cc14 x9408, q2 20 cI (x9408.length : Int), q2 21 cI (k9412 : Int), q2 40 cI (x18549.length : Int), q2 41 cI ((k18672 + 1 : Nat) : Int)] <|
  xn <| hn18747 s18671 h)))
  (fun b18297 h => wpC_exit <| xt <| xt <| xt <| xb <| xbb <| kpN [q2 0 cc13 v0, q2 1 cc13 v1, q3 4 cc7 (⟨([] : List Int), ([] : List Int)⟩ : XCube), q3 5 cc7 s17238.1, q2 19 cc14 x9408, q2 20 cI (x9408.length : Int), q2 21 cI (k9412 : Int)] (by kernel_rfl) <| xn <| reg_s <| st rfl <| b_inc rfl rfl l9410 hk9414 <| st rfl <| mvd rfl rfl <| sq [q2 0 cc13 v0, q2 1 cc13 v1, q3 4 cc7 (⟨([] : List Int), ([] : List Int)⟩ : XCube), q3 5 cc7 s17238.1, q2 19 cc14 x9408, q2 20 cI (x9408.length : Int), q2 21 cI ((k9412 + 1 : Nat) : Int)] <|
  xn <| hn15669 s17238.1 h))

def rs_spec_cbIf (r : (XCube × Bool)) : List D := [cc7.enc r.1, cB.enc r.2]
def m32 : MC := .seq (.reg [q1 1 (.box (.t 0)),q1 2 (.alloc (.agg [.slice true [], .slice true []])),q1 3 (.asg (.c (.bool false)))] [1, 2])
 (.seq (.kp [1, 2] (.seq (.reg [q1 4 (.ld 1 2 true),q1 5 (.call 63 [(.t 4)]),q1 6 (.nt (.t 5))] [1, 2, 6])
 (.cond (.t 6) (.seq (.reg [q1 7 (.bld [.slice true [], .slice true []] []),q0 (.st 2 (.t 7) 2),q1 3 (.asg (.c (.bool false)))] [2, 3])
 (.ret)) (.skip))))
 (.seq (.reg [q1 8 (.ld 1 2 true),q0 (.st 2 (.t 8) 2),q1 3 (.asg (.c (.bool true)))] [2, 3])
 (.ret)))
theorem con_spec_cbIf {v0 : XCube} {r : (XCube × Bool)} (h : sh_spec_cbIf v0 = some r) : Con Tryz.prog 32 [cc7.enc v0] [] (rs_spec_cbIf r) := by
 delta sh_spec_cbIf at h
 refine top (out := none) (f := Tryz.f32) (m := m32) (rs := [.c 2 2 true, .t 3]) (by kernel_rfl) rfl (by kernel_rfl) (by kernel_rfl) (by kernel_rfl) (by kernel_rfl) (by kernel_rfl) ?_
 exact
  ini [q2 0 cc7 v0] rfl <| wpC_seq <| reg_s <| x_box (so rfl rfl) <| x_all cc7 (⟨([] : List Int), ([] : List Int)⟩ : XCube) rfl <| x_asg (sc cB false rfl) <| sq [q3 1 cc7 v0, q3 2 cc7 (⟨([] : List Int), ([] : List Int)⟩ : XCube)] <|
  xn <| wpC_seq <| wpC_kp <| wpC_seq <| reg_s <| st rfl <| ldbo rfl rfl rfl rfl <| bnd h fun x8 e9 h => st rfl <| o_call (a1 (c := cc7) (tXCube (tLo tK) (tLo tK)) rfl a0) (con_spec_cbGood e9) (.inl (so1 sB so0)) <| st rfl <| o_nt rfl <| sq [q3 1 cc7 v0, q3 2 cc7 (⟨([] : List Int), ([] : List Int)⟩ : XCube), q2 6 cB (!x8)] <|
  xn <| cnd rfl h (fun b10 h => wpC_seq <| reg_s <| x_bld (cc7.enc (⟨([] : List Int), ([] : List Int)⟩ : XCube)) t0 rfl rfl <| x_stb (so rfl rfl) rfl (Cd.h_sz _ _) rfl <| x_asg (sc cB false rfl) <| sq [q3 2 cc7 (⟨([] : List Int), ([] : List Int)⟩ : XCube), q2 3 cB false] <|
  xn <| wpC_ret <| rt <| rt <| re <| fin h (r2 rfl rfl rfl <| r1 (ss rfl rfl) <| r0) rfl)
  (fun b10 h => wpC_skip <| kpN [q3 1 cc7 v0, q3 2 cc7 (⟨([] : List Int), ([] : List Int)⟩ : XCube)] (by kernel_rfl) <| xn <| wpC_seq <| reg_s <| st rfl <| ldbo rfl rfl rfl rfl <| x_stb (sb rfl rfl) rfl (Cd.h_sz _ _) rfl <| x_asg (sc cB true rfl) <| sq [q3 2 cc7 v0, q2 3 cB true] <|
  xn <| wpC_ret <| re <| fin h (r2 rfl rfl rfl <| r1 (ss rfl rfl) <| r0) rfl)
def rs_spec_CubeOfTable (r : (XCube × Bool)) : List D := [cc7.enc r.1, cB.enc r.2]
def m8 : MC := .seq (.reg [q1 4 (.box (.t 0)),q1 6 (.box (.t 2)),q1 8 (.alloc (.agg [.slice true [], .slice true []])),q1 9 (.asg (.c (.bool false)))] [1, 3, 4, 6, 8])
 (.seq (.kp [1, 3, 4, 6, 8] (.seq (.reg [q1 10 (.ld 4 1 true),q1 11 (.mv (.t 1)),q1 12 (.ld 6 4 true),q1 13 (.call 28 [(.t 10), (.t 11), (.t 12)]),q1 14 (.nt (.t 13)),q1 15 (.mv (.t 14)),
  ⟨some 16, .ld 4 1 true, some (15, false)⟩,
  ⟨some 17, .mv (.t 1), some (15, false)⟩,
  ⟨some 18, .mv (.t 3), some (15, false)⟩,
  ⟨some 19, .call 29 [(.t 16), (.t 17), (.t 18)], some (15, false)⟩,
  ⟨some 20, .nt (.t 19), some (15, false)⟩,q1 21 (.pick (.t 15) (.c (.bool true)) (.t 20)),q1 22 (.mv (.t 21)),
  ⟨some 23, .ld 4 1 true, some (22, false)⟩,
  ⟨some 24, .mv (.t 1), some (22, false)⟩,
  ⟨some 25, .ld 6 4 true, some (22, false)⟩,
  ⟨some 26, .call 31 [(.t 23), (.t 24), (.t 25)], some (22, false)⟩,
  ⟨some 27, .call 30 [(.t 26)], some (22, false)⟩,
  ⟨some 28, .bin .eql (.t 27) (.c (.int .i64 0)), some (22, false)⟩,q1 29 (.pick (.t 22) (.c (.bool true)) (.t 28))] [1, 3, 4, 6, 8, 29])
 (.cond (.t 29) (.seq (.reg [q1 30 (.bld [.slice true [], .slice true []] []),q0 (.st 8 (.t 30) 2),q1 9 (.asg (.c (.bool false)))] [8, 9])
 (.ret)) (.skip))))
 (.seq (.drg [⟨0, q1 31 (.ld 4 1 true), [32, 33, 34, 35, 36, 37, 38, 39, 40]⟩,
  ⟨1, q1 32 (.mv (.t 1)), [31, 33, 34, 35, 36, 37, 38, 39, 40]⟩,
  ⟨2, q1 33 (.ld 6 4 true), [31, 32, 34, 35, 36, 37, 38, 39, 40]⟩,
  ⟨3, q1 34 (.call 31 [(.t 31), (.t 32), (.t 33)]), [35, 36, 37, 38, 39, 40]⟩,
  ⟨4, q1 35 (.ld 4 1 true), [31, 32, 33, 34, 36, 37, 38, 39, 40]⟩,
  ⟨5, q1 36 (.mv (.t 1)), [31, 32, 33, 34, 35, 37, 38, 39, 40]⟩,
  ⟨6, q1 37 (.ld 6 4 true), [31, 32, 33, 34, 35, 36, 38, 39, 40]⟩,
  ⟨7, q1 38 (.mv (.t 3)), [31, 32, 33, 34, 35, 36, 37, 39, 40]⟩,
  ⟨8, q1 39 (.call 34 [(.t 35), (.t 36), (.t 37), (.t 38)]), [40]⟩,
  ⟨9, q1 40 (.call 33 [(.t 34), (.t 39)]), []⟩]
  [(10, q1 41 (.callT 32 [(true, (.t 40))])),
  (11, q1 42 (.ext 41 0)),
  (12, q1 43 (.ext 41 1)),
  (13, q0 (.st 8 (.t 42) 2)),
  (14, q1 9 (.asg (.t 43)))] [8, 9] [8, 9, 40, 41, 42, 43] [([false, false, false, false, false], 0), ([true, false, false, false, false], 1), ([true, false, false, false, false], 2), ([true, true, false, false, false], 2), ([true, false, true, false, false], 1), ([true, true, true, false, false], 3), ([true, true, true, true, false], 4)])
 (.ret)))
theorem con_spec_CubeOfTable {v0 : XGeo} {v1 : (List XVariable)} {v2 : XTable} {v3 : (List XRecord)} {r : (XCube × Bool)} (h : sh_spec_CubeOfTable v0 v1 v2 v3 = some r) : Con Tryz.prog 8 [cc10.enc v0, cc6.enc v1, cc0.enc v2, cc1.enc v3] [] (rs_spec_CubeOfTable r) := by
 delta sh_spec_CubeOfTable at h
 refine top (out := none) (f := Tryz.f8) (m := m8) (rs := [.c 8 2 true, .t 9]) (by kernel_rfl) rfl (by kernel_rfl) (by kernel_rfl) (by kernel_rfl) (by kernel_rfl) (by kernel_rfl) ?_
 exact
  ini [q2 0 cc10 v0, q2 1 cc6 v1, q2 2 cc0 v2, q2 3 cc1 v3] rfl <| wpC_seq <| reg_s <| x_box (ss rfl rfl) <| x_box (ss rfl rfl) <| x_all cc7 (⟨([] : List Int), ([] : List Int)⟩ : XCube) rfl <| x_asg (sc cB false rfl) <| sq [q2 1 cc6 v1, q2 3 cc1 v3, q3 4 cc10 v0, q3 6 cc0 v2, q3 8 cc7 (⟨([] : List Int), ([] : List Int)⟩ : XCube)] <|
  xn <| wpC_seq <| wpC_kp <| wpC_seq <| reg_s <| st rfl <| ldb rfl rfl rfl rfl <| st rfl <| mvd rfl rfl <| st rfl <| ldb rfl rfl rfl rfl <| bnd h fun x32 e33 h => st rfl <| o_call (a1 (c := cc10) (tXGeo (tLs tK)) rfl (a1 (c := cc6) (tLs (tXVariable tS tK)) rfl (a1 (c := cc0) (tXTable tK (tLs tK) (tLs tK) tK) rfl a0))) (con_spec_uGood e33) (.inl (so1 sB so0)) <| st rfl <| o_nt rfl <| st rfl <| mvd rfl rfl <| ite_k h (fun b34 h => gf rfl b34 <| gf rfl b34 <| gf rfl b34 <| gf rfl b34 <| gf rfl b34 <| st rfl <| pick1 rfl b34 (cd := cB) (v := true) rfl rfl <| st rfl <| mvd rfl rfl <| gf rfl rfl <| gf rfl rfl <| gf rfl rfl <| gf rfl rfl <| gf rfl rfl <| gf rfl rfl <| st rfl <| pick1 rfl rfl (cd := cB) (v := true) rfl rfl <| sq [q2 1 cc6 v1, q2 3 cc1 v3, q3 4 cc10 v0, q3 6 cc0 v2, q3 8 cc7 (⟨([] : List Int), ([] : List Int)⟩ : XCube), q2 29 cB true] <|
  xn <| cnd1 rfl rfl <| wpC_seq <| reg_s <| x_bld (cc7.enc (⟨([] : List Int), ([] : List Int)⟩ : XCube)) t0 rfl rfl <| x_stb (so rfl rfl) rfl (Cd.h_sz _ _) rfl <| x_asg (sc cB false rfl) <| sq [q3 8 cc7 (⟨([] : List Int), ([] : List Int)⟩ : XCube), q2 9 cB false] <|
  xn <| wpC_ret <| rt <| rt <| re <| fin h (r2 rfl rfl rfl <| r1 (ss rfl rfl) <| r0) rfl)
  (fun b34 h => gt' rfl b34 <| st rfl <| ldb rfl rfl rfl rfl <| gt' rfl b34 <| st rfl <| mvd rfl rfl <| gt' rfl b34 <| st rfl <| mvd rfl rfl <| gt' rfl b34 <| bnd h fun x35 e36 h => st rfl <| o_call (a1 (c := cc10) (tXGeo (tLs tK)) rfl (a1 (c := cc6) (tLs (tXVariable tS tK)) rfl (a1 (c := cc1) (tLs (tXRecord tK tK (tLs tK))) rfl a0))) (con_spec_uSurvey e36) (.inl (so1 sB so0)) <| gt' rfl b34 <| st rfl <| o_nt rfl <| st rfl <| pick0 rfl b34 (cd := cB) (v := (!x35)) rfl rfl <| st rfl <| mvd rfl rfl <| ite_k h (fun b37 h => gf rfl b37 <| gf rfl b37 <| gf rfl b37 <| gf rfl b37 <| gf rfl b37 <| gf rfl b37 <| st rfl <| pick1 rfl b37 (cd := cB) (v := true) rfl rfl <| sq [q2 1 cc6 v1, q2 3 cc1 v3, q3 4 cc10 v0, q3 6 cc0 v2, q3 8 cc7 (⟨([] : List Int), ([] : List Int)⟩ : XCube), q2 29 cB true] <|
  xn <| cnd1 rfl rfl <| wpC_seq <| reg_s <| x_bld (cc7.enc (⟨([] : List Int), ([] : List Int)⟩ : XCube)) t0 rfl rfl <| x_stb (so rfl rfl) rfl (Cd.h_sz _ _) rfl <| x_asg (sc cB false rfl) <| sq [q3 8 cc7 (⟨([] : List Int), ([] : List Int)⟩ : XCube), q2 9 cB false] <|
  xn <| wpC_ret <| rt <| rt <| re <| fin h (r2 rfl rfl rfl <| r1 (ss rfl rfl) <| r0) rfl)
  (fun b37 h => gt' rfl b37 <| st rfl <| ldb rfl rfl rfl rfl <| gt' rfl b37 <| st rfl <| mvd rfl rfl <| gt' rfl b37 <| st rfl <| ldb rfl rfl rfl rfl <| gt' rfl b37 <| bnd h fun x38 e39 h => st rfl <| o_call (a1 (c := cc10) (tXGeo (tLs tK)) rfl (a1 (c := cc6) (tLs (tXVariable tS tK)) rfl (a1 (c := cc0) (tXTable tK (tLs tK) (tLs tK) tK) rfl a0))) (con_spec_cbSizes e39) (.inl (so1 (sLo sK) so0)) <| gt' rfl b37 <| bnd h fun x40 e41 h => st rfl <| o_call (a1 (c := cc14) (tLo tK) rfl a0) (con_spec_cbCount e41) (.inl (so1 sK so0)) <| gt' rfl b37 <| st rfl <| b_eql (k := .i64) rfl rfl <| st rfl <| pick0 rfl b37 (cd := cB) (v := (decide (x40 = (0 : Int)))) rfl rfl <| sq [q2 1 cc6 v1, q2 3 cc1 v3, q3 4 cc10 v0, q3 6 cc0 v2, q3 8 cc7 (⟨([] : List Int), ([] : List Int)⟩ : XCube), q2 29 cB (decide (x40 = (0 : Int)))] <|
  xn <| cnd rfl h (fun b42 h => wpC_seq <| reg_s <| x_bld (cc7.enc (⟨([] : List Int), ([] : List Int)⟩ : XCube)) t0 rfl rfl <| x_stb (so rfl rfl) rfl (Cd.h_sz _ _) rfl <| x_asg (sc cB false rfl) <| sq [q3 8 cc7 (⟨([] : List Int), ([] : List Int)⟩ : XCube), q2 9 cB false] <|
  xn <| wpC_ret <| rt <| rt <| re <| fin h (r2 rfl rfl rfl <| r1 (ss rfl rfl) <| r0) rfl)
  (fun b42 h => wpC_skip <| kpN [q2 1 cc6 v1, q2 3 cc1 v3, q3 4 cc10 v0, q3 6 cc0 v2, q3 8 cc7 (⟨([] : List Int), ([] : List Int)⟩ : XCube)] (by kernel_rfl) <| xn <| wpC_seq <| drg_s <| pst rfl <| ldb rfl rfl rfl rfl ⟨rfl, pst rfl <| mvd rfl rfl ⟨rfl, pst rfl <| ldb rfl rfl rfl rfl ⟨rfl, bndp h fun x51 e52 h => pst rfl <| o_call (a1 (c := cc10) (tXGeo (tLs tK)) rfl (a1 (c := cc6) (tLs (tXVariable tS tK)) rfl (a1 (c := cc0) (tXTable tK (tLs tK) (tLs tK) tK) rfl a0))) (con_spec_cbSizes e52) (.inl (so1 (sLo sK) so0)) ⟨rfl, pst rfl <| ldb rfl rfl rfl rfl ⟨rfl, pst rfl <| mvd rfl rfl ⟨rfl, pst rfl <| ldb rfl rfl rfl rfl ⟨rfl, pst rfl <| mvd rfl rfl ⟨rfl, bndp h fun x53 e54 h => pst rfl <| o_call (a1 (c := cc10) (tXGeo (tLs tK)) rfl (a1 (c := cc6) (tLs (tXVariable tS tK)) rfl (a1 (c := cc0) (tXTable tK (tLs tK) (tLs tK) tK) rfl (a1 (c := cc1) (tLs (tXRecord tK tK (tLs tK))) rfl a0)))) (con_spec_uTable e54) (.inl (so1 (sLo sK) so0)) ⟨rfl, bndp h fun x55 e56 h => pst rfl <| o_call (a1 (c := cc14) (tLo tK) rfl (a1 (c := cc14) (tLo tK) rfl a0)) (con_spec_cbOf e56) (.inl (so1 (sXCube (sLo sK) (sLo sK)) so0)) ⟨rfl, bndp h fun x57 e58 h => preN <| gr_s [] [([false, false, false, false, false], [q3 8 cc7 (⟨([] : List Int), ([] : List Int)⟩ : XCube), (9, .un), q2 40 cc7 x55, (41, .un), (42, .un), (43, .un)]),
  ([true, false, false, false, false], [q3 8 cc7 (⟨([] : List Int), ([] : List Int)⟩ : XCube), (9, .un), (40, .un), (41, .tup [some (cc7.enc x57.1), some (cB.enc x57.2)]), (42, .un), (43, .un)]),
  ([true, true, false, false, false], [q3 8 cc7 (⟨([] : List Int), ([] : List Int)⟩ : XCube), (9, .un), (40, .un), (41, .tup [none, some (cB.enc x57.2)]), q2 42 cc7 x57.1, (43, .un)]),
  ([true, false, true, false, false], [q3 8 cc7 (⟨([] : List Int), ([] : List Int)⟩ : XCube), (9, .un), (40, .un), (41, .tup [some (cc7.enc x57.1), none]), (42, .un), q2 43 cB x57.2]),
  ([true, true, true, false, false], [q3 8 cc7 (⟨([] : List Int), ([] : List Int)⟩ : XCube), (9, .un), (40, .un), (41, .tup [none, none]), q2 42 cc7 x57.1, q2 43 cB x57.2]),
  ([true, true, true, true, false], [q3 8 cc7 x57.1, (9, .un), (40, .un), (41, .tup [none, none]), (42, .un), q2 43 cB x57.2]),
  ([true, true, true, true, true], [q3 8 cc7 x57.1, q2 9 cB x57.2, (40, .un), (41, .tup [none, none]), (42, .un), q2 43 cB x57.2])] [q3 8 cc7 x57.1, q2 9 cB x57.2] [([false, false, false, false, false], [])] (by kernel_rfl) (sa1 rfl (by kernel_rfl) <| sa0) rfl
  (ob1 rfl rfl rfl (x_clt (k1 (so rfl rfl) k0) (m1 m0) (con_spec_cbIf e58) (so1 (sXCube (sLo sK) (sLo sK)) (so1 sB so0)) <| obN (by kernel_rfl)) <|
  ob1 rfl rfl rfl (x_ext rfl rfl <| obN (by kernel_rfl)) <|
  ob1 rfl rfl rfl (x_ext rfl rfl <| obN (by kernel_rfl)) <|
  ob1 rfl rfl rfl (x_ext rfl rfl <| obN (by kernel_rfl)) <|
  ob1 rfl rfl rfl (x_ext rfl rfl <| obN (by kernel_rfl)) <|
  ob1 rfl rfl rfl (x_stb (so rfl rfl) rfl (Cd.h_sz _ _) rfl <| obN (by kernel_rfl)) <|
  ob1 rfl rfl rfl (x_asg (ss rfl rfl) <| obN (by kernel_rfl)) <|
  ob0)
  (by kernel_rfl) <|
  xn <| wpC_ret <| re <| fin h (r2 rfl rfl rfl <| r1 (ss rfl rfl) <| r0) rfl⟩⟩⟩⟩⟩⟩⟩⟩⟩⟩)))

def rs_impl_IsGeo (r : Bool) : List D := [cB.enc r]
def m69 : MC := .seq (.reg [q1 1 (.box (.t 0)),q1 2 (.asg (.c (.bool false)))] [1])
 (.seq (.kp [1] (.seq (.reg [q1 4 (.fa 1 0 0),q1 5 (.ld 4 1 false),q1 6 (.len false (.t 5)),q1 7 (.bin .lss (.t 6) (.c (.int .i64 1))),q1 8 (.mv (.t 7)),
  ⟨some 9, .fa 1 0 0, some (8, false)⟩,
  ⟨some 10, .ld 9 1 false, some (8, false)⟩,
  ⟨some 11, .len false (.t 10), some (8, false)⟩,
  ⟨some 12, .bin .gtr (.t 11) (.c (.int .i64 30)), some (8, false)⟩,q1 13 (.pick (.t 8) (.c (.bool true)) (.t 12)),q1 14 (.mv (.t 13)),
  ⟨some 15, .fa 1 0 0, some (14, false)⟩,
  ⟨some 16, .ld 15 1 false, some (14, false)⟩,
  ⟨some 17, .ia 16 (.c (.int .i64 0)) 1, some (14, false)⟩,
  ⟨some 18, .ld 17 1 false, some (14, false)⟩,
  ⟨some 19, .bin .neq (.t 18) (.c (.int .i64 (-1))), some (14, false)⟩,q1 20 (.pick (.t 14) (.c (.bool true)) (.t 19))] [1, 20])
 (.cond (.t 20) (.seq (.reg [q1 2 (.asg (.c (.bool false)))] [2])
 (.ret)) (.skip))))
 (.seq (.kp [] (.seq (.reg [q1 3 (.asg (.c (.int .i64 1)))] [1, 3])
 (.blk 0 (.loop (.seq (.kp [1, 3] (.seq (.reg [q1 21 (.mv (.t 3)),q1 22 (.fa 1 0 0),q1 23 (.ld 22 1 false),q1 24 (.len false (.t 23)),q1 25 (.bin .lss (.t 21) (.t 24))] [1, 3, 25])
 (.cond (.t 25) (.skip) (.exit 0))))
 (.seq (.kp [1, 3] (.blk 1 (.seq (.reg [q1 28 (.fa 1 0 0),q1 29 (.ld 28 1 false),q1 30 (.mv (.t 3)),q1 31 (.ia 29 (.t 30) 1),q1 32 (.ld 31 1 false),q1 33 (.bin .lss (.t 32) (.c (.int .i64 0))),q1 34 (.mv (.t 33)),
  ⟨some 35, .fa 1 0 0, some (34, false)⟩,
  ⟨some 36, .ld 35 1 false, some (34, false)⟩,
  ⟨some 37, .mv (.t 3), some (34, false)⟩,
  ⟨some 38, .ia 36 (.t 37) 1, some (34, false)⟩,
  ⟨some 39, .ld 38 1 false, some (34, false)⟩,
  ⟨some 40, .mv (.t 3), some (34, false)⟩,
  ⟨some 41, .bin .geq (.t 39) (.t 40), some (34, false)⟩,q1 42 (.pick (.t 34) (.c (.bool true)) (.t 41))] [1, 3, 42])
 (.cond (.t 42) (.seq (.reg [q1 2 (.asg (.c (.bool false)))] [2])
 (.ret)) (.skip)))))
 (.reg [q1 26 (.mv (.t 3)),q1 27 (.bin .add (.t 26) (.c (.int .i64 1))),q1 3 (.asg (.t 27))] [1, 3])))))))
 (.seq (.reg [q1 2 (.asg (.c (.bool true)))] [2])
 (.ret))))
theorem con_impl_IsGeo {v0 : XGeo} {r : Bool} (h : sh_impl_IsGeo v0 = some r) : Con Tryz.prog 69 [cc10.enc v0] [] (rs_impl_IsGeo r) := by
 delta sh_impl_IsGeo at h
 refine top (out := none) (f := Tryz.f69) (m := m69) (rs := [.t 2]) (by kernel_rfl) rfl (by kernel_rfl) (by kernel_rfl) (by kernel_rfl) (by kernel_rfl) (by kernel_rfl) ?_
 exact
  ini [q2 0 cc10 v0] rfl <| wpC_seq <| reg_s <| x_box (ss rfl rfl) <| x_asg (sc cB false rfl) <| sq [q3 1 cc10 v0] <|
  xn <| wpC_seq <| wpC_kp <| wpC_seq <| reg_s <| st rfl <| fab rfl rfl rfl rfl <| st rfl <| lda rfl rfl rfl rfl rfl rfl <| stw rfl <| lens rfl fun l23 => st rfl <| b_lss (k := .i64) rfl rfl <| st rfl <| mvd rfl rfl <| ite_k h (fun b24 h => gf rfl b24 <| gf rfl b24 <| gf rfl b24 <| gf rfl b24 <| st rfl <| pick1 rfl b24 (cd := cB) (v := true) rfl rfl <| st rfl <| mvd rfl rfl <| gf rfl rfl <| gf rfl rfl <| gf rfl rfl <| gf rfl rfl <| gf rfl rfl <| st rfl <| pick1 rfl rfl (cd := cB) (v := true) rfl rfl <| sq [q3 1 cc10 v0, q2 20 cB true] <|
  xn <| cnd1 rfl rfl <| wpC_seq <| reg_s <| x_asg (sc cB false rfl) <| sq [q2 2 cB false] <|
  xn <| wpC_ret <| rt <| rt <| re <| fin h (r1 (ss rfl rfl) <| r0) rfl)
  (fun b24 h => gt' rfl b24 <| st rfl <| fab rfl rfl rfl rfl <| gt' rfl b24 <| st rfl <| lda rfl rfl rfl rfl rfl rfl <| gt' rfl b24 <| stw rfl <| lens rfl fun l25 => gt' rfl b24 <| st rfl <| b_gtr (k := .i64) rfl rfl <| st rfl <| pick0 rfl b24 (cd := cB) (v := (decide ((30 : Int) < (v0.Parents.length : Int)))) rfl rfl <| st rfl <| mvd rfl rfl <| ite_k h (fun b26 h => gf rfl b26 <| gf rfl b26 <| gf rfl b26 <| gf rfl b26 <| gf rfl b26 <| st rfl <| pick1 rfl b26 (cd := cB) (v := true) rfl rfl <| sq [q3 1 cc10 v0, q2 20 cB true] <|
  xn <| cnd1 rfl rfl <| wpC_seq <| reg_s <| x_asg (sc cB false rfl) <| sq [q2 2 cB false] <|
  xn <| wpC_ret <| rt <| rt <| re <| fin h (r1 (ss rfl rfl) <| r0) rfl)
  (fun b26 h => gt' rfl b26 <| st rfl <| fab rfl rfl rfl rfl <| gt' rfl b26 <| st rfl <| lda rfl rfl rfl rfl rfl rfl <| gt' rfl b26 <| getO_k h fun x27 i28 g29 h => st rfl <| ias rfl rfl i28 g29 rfl <| gt' rfl b26 <| st rfl <| ldi rfl rfl rfl rfl <| gt' rfl b26 <| st rfl <| b_neq (k := .i64) rfl rfl <| st rfl <| pick0 rfl b26 (cd := cB) (v := (decide (x27 ≠ (-1 : Int)))) rfl rfl <| sq [q3 1 cc10 v0, q2 20 cB (decide (x27 ≠ (-1 : Int)))] <|
  xn <| cnd rfl h (fun b30 h => wpC_seq <| reg_s <| x_asg (sc cB false rfl) <| sq [q2 2 cB false] <|
  xn <| wpC_ret <| rt <| rt <| re <| fin h (r1 (ss rfl rfl) <| r0) rfl)
  (fun b30 h => wpC_skip <| kpN [q3 1 cc10 v0] (by kernel_rfl) <| xn <| wpC_seq <| wpC_kp <| wpC_seq <| reg_s <| x_asg (sc cI (1 : Int) rfl) <| sq [q3 1 cc10 v0, q2 3 cI (1 : Int)] <|
  xn <| wpC_blk <| lpF (fun (s114 : Int) => [q3 1 cc10 v0, q2 3 cI s114]) (1 : Int) rfl h
  fun G171 nx169 s114 hn170 h => wpC_seq <| wpC_kp <| wpC_seq <| reg_s <| st rfl <| mvd rfl rfl <| st rfl <| fab rfl rfl rfl rfl <| st rfl <| lda rfl rfl rfl rfl rfl rfl <| stw rfl <| lens rfl fun l176 => st rfl <| b_lss (k := .i64) rfl rfl <| sq [q3 1 cc10 v0, q2 3 cI s114, q2 25 cB (decide (s114 < (v0.Parents.length : Int)))] <|
  xn <| cnd rfl h (fun b177 h => wpC_skip <| kpN [q3 1 cc10 v0, q2 3 cI s114] (by kernel_rfl) <| xn <| wpC_seq <| wpC_kp <| wpC_blk <| wpC_seq <| reg_s <| st rfl <| fab rfl rfl rfl rfl <| st rfl <| lda rfl rfl rfl rfl rfl rfl <| st rfl <| mvd rfl rfl <| getO_k h fun x191 i192 g193 h => st rfl <| ias rfl rfl i192 g193 rfl <| st rfl <| ldi rfl rfl rfl rfl <| st rfl <| b_lss (k := .i64) rfl rfl <| st rfl <| mvd rfl rfl <| ite_k h (fun b194 h => gf rfl b194 <| gf rfl b194 <| gf rfl b194 <| gf rfl b194 <| gf rfl b194 <| gf rfl b194 <| gf rfl b194 <| st rfl <| pick1 rfl b194 (cd := cB) (v := true) rfl rfl <| sq [q3 1 cc10 v0, q2 3 cI s114, q2 42 cB true] <|
  xn <| cnd1 rfl rfl <| wpC_seq <| reg_s <| x_asg (sc cB false rfl) <| sq [q2 2 cB false] <|
  xn <| wpC_ret <| rb <| rt <| rt <| rt <| rb <| rt <| rt <| re <| fin h (r1 (ss rfl rfl) <| r0) rfl)
  (fun b194 h => gt' rfl b194 <| st rfl <| fab rfl rfl rfl rfl <| gt' rfl b194 <| st rfl <| lda rfl rfl rfl rfl rfl rfl <| gt' rfl b194 <| st rfl <| mvd rfl rfl <| gt' rfl b194 <| st rfl <| ias rfl rfl i192 g193 rfl <| gt' rfl b194 <| st rfl <| ldi rfl rfl rfl rfl <| gt' rfl b194 <| st rfl <| mvd rfl rfl <| gt' rfl b194 <| st rfl <| b_geq (k := .i64) rfl rfl <| st rfl <| pick0 rfl b194 (cd := cB) (v := (decide (s114 ≤ x191))) rfl rfl <| sq [q3 1 cc10 v0, q2 3 cI s114, q2 42 cB (decide (s114 ≤ x191))] <|
  xn <| cnd rfl h (fun b195 h => wpC_seq <| reg_s <| x_asg (sc cB false rfl) <| sq [q2 2 cB false] <|
  xn <| wpC_ret <| rb <| rt <| rt <| rt <| rb <| rt <| rt <| re <| fin h (r1 (ss rfl rfl) <| r0) rfl)
  (fun b195 h => wpC_skip <| xbb <| kpN [q3 1 cc10 v0, q2 3 cI s114] (by kernel_rfl) <| xn <| reg_s <| st rfl <| mvd rfl rfl <| ckI_k h fun i196 h => st rfl <| b_add (k := .i64) rfl rfl i196 <| x_asg (ss rfl rfl) <| sq [q3 1 cc10 v0, q2 3 cI (s114 + (1 : Int))] <|
  xn <| hn170 (s114 + (1 : Int)) h)))
  (fun b177 h => wpC_exit <| xt <| xt <| xt <| xb <| kpN [] (by kernel_rfl) <| xn <| wpC_seq <| reg_s <| x_asg (sc cB true rfl) <| sq [q2 2 cB true] <|
  xn <| wpC_ret <| re <| fin h (r1 (ss rfl rfl) <| r0) rfl))))

def rs_impl_isWord (r : Bool) : List D := [cB.enc r]
def m93 : MC := .seq (.reg [q1 2 (.asg (.c (.bool false)))] [0])
 (.seq (.kp [0] (.seq (.reg [q1 4 (.mv (.t 0)),q1 5 (.len true (.t 4)),q1 6 (.bin .lss (.t 5) (.c (.int .i64 1))),q1 7 (.mv (.t 6)),
  ⟨some 8, .mv (.t 0), some (7, false)⟩,
  ⟨some 9, .len true (.t 8), some (7, false)⟩,
  ⟨some 10, .bin .gtr (.t 9) (.c (.int .i64 8)), some (7, false)⟩,q1 11 (.pick (.t 7) (.c (.bool true)) (.t 10))] [0, 11])
 (.cond (.t 11) (.seq (.reg [q1 2 (.asg (.c (.bool false)))] [2])
 (.ret)) (.skip))))
 (.seq (.kp [] (.seq (.reg [q1 12 (.mv (.t 0)),q1 13 (.len true (.t 12)),q1 14 (.mv (.c (.int .i64 0)))] [0, 13, 14])
 (.blk 0 (.loop (.seq (.reg [q1 15 (.bin .lss (.t 14) (.t 13))] [0, 13, 14, 15])
 (.seq (.kp [0, 13, 14] (.cond (.t 15) (.skip) (.exit 0)))
 (.seq (.kp [0, 13, 14] (.blk 1 (.seq (.reg [q1 16 (.mv (.t 14)),q1 3 (.asg (.t 16))] [0, 3, 13, 14])
 (.seq (.reg [q1 17 (.mv (.t 0)),q1 18 (.mv (.t 3)),q1 19 (.ix (.t 17) (.t 18)),q1 20 (.bin .lss (.t 19) (.c (.int .u8 97))),q1 21 (.mv (.t 20)),
  ⟨some 22, .mv (.t 0), some (21, false)⟩,
  ⟨some 23, .mv (.t 3), some (21, false)⟩,
  ⟨some 24, .ix (.t 22) (.t 23), some (21, false)⟩,
  ⟨some 25, .bin .gtr (.t 24) (.c (.int .u8 122)), some (21, false)⟩,q1 26 (.pick (.t 21) (.c (.bool true)) (.t 25))] [0, 13, 14, 26])
 (.cond (.t 26) (.seq (.reg [q1 2 (.asg (.c (.bool false)))] [2])
 (.ret)) (.skip))))))
 (.reg [q1 27 (.bin .add (.t 14) (.c (.int .i64 1))),q1 14 (.mv (.t 27))] [0, 13, 14]))))))))
 (.seq (.reg [q1 2 (.asg (.c (.bool true)))] [2])
 (.ret))))
theorem con_impl_isWord {v0 : (List UInt8)} {r : Bool} (h : sh_impl_isWord v0 = some r) : Con Tryz.prog 93 [cS.enc v0] [] (rs_impl_isWord r) := by
 delta sh_impl_isWord at h
 refine top (out := none) (f := Tryz.f93) (m := m93) (rs := [.t 2]) (by kernel_rfl) rfl (by kernel_rfl) (by kernel_rfl) (by kernel_rfl) (by kernel_rfl) (by kernel_rfl) ?_
 exact
  ini [q2 0 cS v0] rfl <| wpC_seq <| reg_s <| x_asg (sc cB false rfl) <| sq [q2 0 cS v0] <|
  xn <| wpC_seq <| wpC_kp <| wpC_seq <| reg_s <| st rfl <| mvd rfl rfl <| stw rfl <| lent rfl fun l11 => st rfl <| b_lss (k := .i64) rfl rfl <| st rfl <| mvd rfl rfl <| ite_k h (fun b12 h => gf rfl b12 <| gf rfl b12 <| gf rfl b12 <| st rfl <| pick1 rfl b12 (cd := cB) (v := true) rfl rfl <| sq [q2 0 cS v0, q2 11 cB true] <|
  xn <| cnd1 rfl rfl <| wpC_seq <| reg_s <| x_asg (sc cB false rfl) <| sq [q2 2 cB false] <|
  xn <| wpC_ret <| rt <| rt <| re <| fin h (r1 (ss rfl rfl) <| r0) rfl)
  (fun b12 h => gt' rfl b12 <| st rfl <| mvd rfl rfl <| gt' rfl b12 <| stw rfl <| lent rfl fun l13 => gt' rfl b12 <| st rfl <| b_gtr (k := .i64) rfl rfl <| st rfl <| pick0 rfl b12 (cd := cB) (v := (decide ((8 : Int) < (v0.length : Int)))) rfl rfl <| sq [q2 0 cS v0, q2 11 cB (decide ((8 : Int) < (v0.length : Int)))] <|
  xn <| cnd rfl h (fun b14 h => wpC_seq <| reg_s <| x_asg (sc cB false rfl) <| sq [q2 2 cB false] <|
  xn <| wpC_ret <| rt <| rt <| re <| fin h (r1 (ss rfl rfl) <| r0) rfl)
  (fun b14 h => wpC_skip <| kpN [q2 0 cS v0] (by kernel_rfl) <| xn <| wpC_seq <| wpC_kp <| wpC_seq <| reg_s <| st rfl <| mvd rfl rfl <| stw rfl <| lent rfl fun l38 => st rfl <| mvc cI (0 : Int) rfl <| sq [q2 0 cS v0, q2 13 cI (v0.length : Int), q2 14 cI (0 : Int)] <|
  xn <| wpC_blk <| lpR (fun (k40 : Nat) (s39 : Unit) => [q2 0 cS v0, q2 13 cI (v0.length : Int), q2 14 cI (k40 : Int)]) () rfl h
  (fun G52 s39 h => wpC_seq <| reg_s <| st rfl <| b_lss (k := .i64) rfl rfl <| sq [q2 0 cS v0, q2 13 cI (v0.length : Int), q2 14 cI (v0.length : Int), q2 15 cB (decide ((v0.length : Int) < (v0.length : Int)))] <|
  xn <| wpC_seq <| wpC_kp <| cnd0 rfl (dlf _) <| wpC_exit <| xt <| xt <| xt <| xb <| kpN [] (by kernel_rfl) <| xn <| wpC_seq <| reg_s <| x_asg (sc cB true rfl) <| sq [q2 2 cB true] <|
  xn <| wpC_ret <| re <| fin h (r1 (ss rfl rfl) <| r0) rfl)
  (fun G52 nx50 k40 s39 x41 hk42 hx43 hn51 h => wpC_seq <| reg_s <| st rfl <| b_lss (k := .i64) rfl rfl <| sq [q2 0 cS v0, q2 13 cI (v0.length : Int), q2 14 cI (k40 : Int), q2 15 cB (decide ((k40 : Int) < (v0.length : Int)))] <|
  xn <| wpC_seq <| wpC_kp <| cnd1 rfl (dlt hk42) <| wpC_skip <| kpN [q2 0 cS v0, q2 13 cI (v0.length : Int), q2 14 cI (k40 : Int)] (by kernel_rfl) <| xn <| wpC_seq <| wpC_kp <| wpC_blk <| wpC_seq <| reg_s <| st rfl <| mvd rfl rfl <| x_asg (ss rfl rfl) <| sq [q2 0 cS v0, q2 3 cI (k40 : Int), q2 13 cI (v0.length : Int), q2 14 cI (k40 : Int)] <|
  xn <| wpC_seq <| reg_s <| st rfl <| mvd rfl rfl <| st rfl <| mvd rfl rfl <| st rfl <| o_ix (k := .i64) rfl rfl (Int.natCast_nonneg _) hx43 <| st rfl <| b_lss (k := .u8) rfl rfl <| st rfl <| mvd rfl rfl <| ite_k h (fun b57 h => gf rfl b57 <| gf rfl b57 <| gf rfl b57 <| gf rfl b57 <| st rfl <| pick1 rfl b57 (cd := cB) (v := true) rfl rfl <| sq [q2 0 cS v0, q2 13 cI (v0.length : Int), q2 14 cI (k40 : Int), q2 26 cB true] <|
  xn <| cnd1 rfl rfl <| wpC_seq <| reg_s <| x_asg (sc cB false rfl) <| sq [q2 2 cB false] <|
  xn <| wpC_ret <| rb <| rt <| rt <| rt <| rb <| rt <| rt <| re <| fin h (r1 (ss rfl rfl) <| r0) rfl)
  (fun b57 h => gt' rfl b57 <| st rfl <| mvd rfl rfl <| gt' rfl b57 <| st rfl <| mvd rfl rfl <| gt' rfl b57 <| st rfl <| o_ix (k := .i64) rfl rfl (Int.natCast_nonneg _) hx43 <| gt' rfl b57 <| st rfl <| b_gtr (k := .u8) rfl rfl <| st rfl <| pick0 rfl b57 (cd := cB) (v := (decide ((122 : Int) < (x41.toNat : Int)))) rfl rfl <| sq [q2 0 cS v0, q2 13 cI (v0.length : Int), q2 14 cI (k40 : Int), q2 26 cB (decide ((122 : Int) < (x41.toNat : Int)))] <|
  xn <| cnd rfl h (fun b58 h => wpC_seq <| reg_s <| x_asg (sc cB false rfl) <| sq [q2 2 cB false] <|
  xn <| wpC_ret <| rb <| rt <| rt <| rt <| rb <| rt <| rt <| re <| fin h (r1 (ss rfl rfl) <| r0) rfl)
  (fun b58 h => wpC_skip <| xbb <| kpN [q2 0 cS v0, q2 13 cI (v0.length : Int), q2 14 cI (k40 : Int)] (by kernel_rfl) <| xn <| reg_s <| st rfl <| b_inc rfl rfl l38 hk42 <| st rfl <| mvd rfl rfl <| sq [q2 0 cS v0, q2 13 cI (v0.length : Int), q2 14 cI ((k40 + 1 : Nat) : Int)] <|
  xn <| hn51 () h)))))

end AS.W
