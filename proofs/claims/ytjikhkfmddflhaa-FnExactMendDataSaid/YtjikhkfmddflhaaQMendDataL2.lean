/- The program computes the plain functions. No condition. -/
import Derived.Test.YtjikhkfmddflhaaQMendDataS
import Derived.Test.YtjikhkfmddflhaaProg
import Derived.Test.YtjikhkfmddflhaaQMendDataL1
set_option maxRecDepth 100000
set_option linter.unusedVariables false
set_option linter.unusedSimpArgs false
namespace AS.W
open Go Go.Proofs
def rs_spec_l1Less (r : Int) : List D := [cI.enc r]
def m79 : MC := .seq (.reg [q1 4 (.asg (.c (.int .i64 0)))] [0, 1])
 (.seq (.kp [0, 1] (.seq (.reg [q1 5 (.asg (.c (.int .i64 0)))] [0, 1, 5])
 (.blk 0 (.loop (.seq (.kp [0, 1, 5] (.seq (.reg [q1 6 (.mv (.t 5)),q1 7 (.mv (.t 0)),q1 8 (.len false (.t 7)),q1 9 (.bin .lss (.t 6) (.t 8)),q1 10 (.mv (.t 9)),
  ⟨some 11, .mv (.t 5), some (10, true)⟩,
  ⟨some 12, .mv (.t 1), some (10, true)⟩,
  ⟨some 13, .len false (.t 12), some (10, true)⟩,
  ⟨some 14, .bin .lss (.t 11) (.t 13), some (10, true)⟩,q1 15 (.pick (.t 10) (.t 14) (.c (.bool false)))] [0, 1, 5, 15])
 (.cond (.t 15) (.skip) (.exit 0))))
 (.seq (.kp [0, 1, 5] (.blk 1 (.seq (.drw [⟨0, q1 18 (.mv (.t 0)), [19, 20, 21, 22, 23, 24, 25, 26]⟩,
  ⟨1, q1 19 (.mv (.t 5)), [18, 20, 21, 22, 23, 24, 25, 26]⟩,
  ⟨2, q1 20 (.ia 18 (.t 19) 1), [21, 22, 23, 24, 25, 26]⟩,
  ⟨3, q1 21 (.ld 20 1 false), [22, 23, 24, 25, 26]⟩,
  ⟨4, q1 22 (.mv (.t 1)), [18, 19, 20, 21, 23, 24, 25, 26]⟩,
  ⟨5, q1 23 (.mv (.t 5)), [18, 19, 20, 21, 22, 24, 25, 26]⟩,
  ⟨6, q1 24 (.ia 22 (.t 23) 1), [18, 19, 20, 21, 25, 26]⟩,
  ⟨7, q1 25 (.ld 24 1 false), [18, 19, 20, 21, 26]⟩,
  ⟨8, q1 26 (.bin .neq (.t 21) (.t 25)), []⟩]
  [] [0, 1, 5, 26])
 (.cond (.t 26) (.seq (.kp [] (.seq (.drw [⟨0, q1 27 (.mv (.t 0)), [28, 29, 30, 31, 32, 33, 34, 35]⟩,
  ⟨1, q1 28 (.mv (.t 5)), [27, 29, 30, 31, 32, 33, 34, 35]⟩,
  ⟨2, q1 29 (.ia 27 (.t 28) 1), [30, 31, 32, 33, 34, 35]⟩,
  ⟨3, q1 30 (.ld 29 1 false), [31, 32, 33, 34, 35]⟩,
  ⟨4, q1 31 (.mv (.t 1)), [27, 28, 29, 30, 32, 33, 34, 35]⟩,
  ⟨5, q1 32 (.mv (.t 5)), [27, 28, 29, 30, 31, 33, 34, 35]⟩,
  ⟨6, q1 33 (.ia 31 (.t 32) 1), [27, 28, 29, 30, 34, 35]⟩,
  ⟨7, q1 34 (.ld 33 1 false), [27, 28, 29, 30, 35]⟩,
  ⟨8, q1 35 (.bin .lss (.t 30) (.t 34)), []⟩]
  [] [35])
 (.cond (.t 35) (.seq (.reg [q1 4 (.asg (.c (.int .i64 (-1))))] [4])
 (.ret)) (.skip))))
 (.seq (.reg [q1 4 (.asg (.c (.int .i64 1)))] [4])
 (.ret))) (.skip)))))
 (.reg [q1 16 (.mv (.t 5)),q1 17 (.bin .add (.t 16) (.c (.int .i64 1))),q1 5 (.asg (.t 17))] [0, 1, 5])))))))
 (.seq (.reg [q1 36 (.mv (.t 0)),q1 37 (.len false (.t 36)),q1 38 (.mv (.t 1)),q1 39 (.len false (.t 38)),q1 40 (.bin .sub (.t 37) (.t 39)),q1 41 (.call 131 [(.t 40)]),q1 4 (.asg (.t 41))] [4])
 (.ret)))
theorem con_spec_l1Less {v0 : (List Int)} {v1 : (List Int)} {r : Int} (h : sh_spec_l1Less v0 v1 = some r) : Con Try.prog 79 [cc11.enc v0, cc11.enc v1] [] (rs_spec_l1Less r) := by
 delta sh_spec_l1Less at h
 refine top (out := none) (f := Try.f79) (m := m79) (rs := [.t 4]) (by kernel_rfl) rfl (by kernel_rfl) (by kernel_rfl) (by kernel_rfl) (by kernel_rfl) (by kernel_rfl) ?_
 exact
  ini [q2 0 cc11 v0, q2 1 cc11 v1] rfl <| wpC_seq <| reg_s <| x_asg (sc cI (0 : Int) rfl) <| sq [q2 0 cc11 v0, q2 1 cc11 v1] <|
  xn <| sqj (fun (s144 : Unit) => [q2 0 cc11 v0, q2 1 cc11 v1]) h (fun s144 h => wpC_seq <| reg_s <| st rfl <| mvd rfl rfl <| stw rfl <| lens rfl fun l152 => st rfl <| mvd rfl rfl <| stw rfl <| lens rfl fun l153 => ckI_k h fun i154 h => st rfl <| b_sub (k := .i64) rfl rfl i154 <| bnd h fun x155 e156 h => st rfl <| o_call (a1 (c := cI) tK rfl a0) (con_spec_l1Sign e156) (.inl (so1 sK so0)) <| x_asg (ss rfl rfl) <| sq [q2 4 cI x155] <|
  xn <| wpC_ret <| re <| fin h (r1 (ss rfl rfl) <| r0) rfl)
  fun m146 h => wpC_kp <| wpC_seq <| reg_s <| x_asg (sc cI (0 : Int) rfl) <| sq [q2 0 cc11 v0, q2 1 cc11 v1, q2 5 cI (0 : Int)] <|
  xn <| wpC_blk <| lpF (fun (s157 : Int) => [q2 0 cc11 v0, q2 1 cc11 v1, q2 5 cI s157]) (0 : Int) rfl h
  fun G254 nx252 s157 hn253 h => wpC_seq <| wpC_kp <| wpC_seq <| reg_s <| st rfl <| mvd rfl rfl <| st rfl <| mvd rfl rfl <| stw rfl <| lens rfl fun l265 => st rfl <| b_lss (k := .i64) rfl rfl <| st rfl <| mvd rfl rfl <| ite_k h (fun b266 h => gt' rfl b266 <| st rfl <| mvd rfl rfl <| gt' rfl b266 <| st rfl <| mvd rfl rfl <| gt' rfl b266 <| stw rfl <| lens rfl fun l267 => gt' rfl b266 <| st rfl <| b_lss (k := .i64) rfl rfl <| st rfl <| pick1 rfl b266 (cd := cB) (v := (decide (s157 < (v1.length : Int)))) rfl rfl <| sq [q2 0 cc11 v0, q2 1 cc11 v1, q2 5 cI s157, q2 15 cB (decide (s157 < (v1.length : Int)))] <|
  xn <| cnd rfl h (fun b268 h => wpC_skip <| kpN [q2 0 cc11 v0, q2 1 cc11 v1, q2 5 cI s157] (by kernel_rfl) <| xn <| wpC_seq <| wpC_kp <| wpC_blk <| wpC_seq <| drw_s <| pst rfl <| mvd rfl rfl ⟨rfl, pst rfl <| mvd rfl rfl ⟨rfl, getO_kp h fun x290 i291 g292 h => pst rfl <| ias rfl rfl i291 g292 rfl ⟨rfl, pst rfl <| ldi rfl rfl rfl rfl ⟨rfl, pst rfl <| mvd rfl rfl ⟨rfl, pst rfl <| mvd rfl rfl ⟨rfl, getO_kp h fun x293 i294 g295 h => pst rfl <| ias rfl rfl i294 g295 rfl ⟨rfl, pst rfl <| ldi rfl rfl rfl rfl ⟨rfl, pst rfl <| b_neq (k := .i64) rfl rfl ⟨rfl, preN <| sq [q2 0 cc11 v0, q2 1 cc11 v1, q2 5 cI s157, q2 26 cB (decide (x290 ≠ x293))] <|
  xn <| cnd rfl h (fun b296 h => wpC_seq <| wpC_kp <| wpC_seq <| drw_s <| pst rfl <| mvd rfl rfl ⟨rfl, pst rfl <| mvd rfl rfl ⟨rfl, pst rfl <| ias rfl rfl i291 g292 rfl ⟨rfl, pst rfl <| ldi rfl rfl rfl rfl ⟨rfl, pst rfl <| mvd rfl rfl ⟨rfl, pst rfl <| mvd rfl rfl ⟨rfl, pst rfl <| ias rfl rfl i294 g295 rfl ⟨rfl, pst rfl <| ldi rfl rfl rfl rfl ⟨rfl, pst rfl <| b_lss (k := .i64) rfl rfl ⟨rfl, preN <| sq [q2 35 cB (decide (x290 < x293))] <|
  xn <| cnd rfl h (fun b298 h => wpC_seq <| reg_s <| x_asg (sc cI (-1 : Int) rfl) <| sq [q2 4 cI (-1 : Int)] <|
  xn <| wpC_ret <| rt <| rt <| rb <| rt <| rt <| rt <| rb <| rt <| rt <| re <| fin h (r1 (ss rfl rfl) <| r0) rfl)
  (fun b298 h => wpC_skip <| kpN [] (by kernel_rfl) <| xn <| wpC_seq <| reg_s <| x_asg (sc cI (1 : Int) rfl) <| sq [q2 4 cI (1 : Int)] <|
  xn <| wpC_ret <| rb <| rt <| rt <| rt <| rb <| rt <| rt <| re <| fin h (r1 (ss rfl rfl) <| r0) rfl)⟩⟩⟩⟩⟩⟩⟩⟩⟩)
  (fun b296 h => wpC_skip <| xbb <| kpN [q2 0 cc11 v0, q2 1 cc11 v1, q2 5 cI s157] (by kernel_rfl) <| xn <| reg_s <| st rfl <| mvd rfl rfl <| ckI_k h fun i299 h => st rfl <| b_add (k := .i64) rfl rfl i299 <| x_asg (ss rfl rfl) <| sq [q2 0 cc11 v0, q2 1 cc11 v1, q2 5 cI (s157 + (1 : Int))] <|
  xn <| hn253 (s157 + (1 : Int)) h)⟩⟩⟩⟩⟩⟩⟩⟩⟩)
  (fun b268 h => wpC_exit <| xt <| xt <| xt <| xb <| kpN [q2 0 cc11 v0, q2 1 cc11 v1] (by kernel_rfl) <| m146 () h))
  (fun b266 h => gf rfl b266 <| gf rfl b266 <| gf rfl b266 <| gf rfl b266 <| st rfl <| pick0 rfl b266 (cd := cB) (v := false) rfl rfl <| sq [q2 0 cc11 v0, q2 1 cc11 v1, q2 5 cI s157, q2 15 cB false] <|
  xn <| cnd0 rfl rfl <| wpC_exit <| xt <| xt <| xt <| xb <| kpN [q2 0 cc11 v0, q2 1 cc11 v1] (by kernel_rfl) <| m146 () h)

def rs_impl_membersOf (r : (List Int)) : List D := [cc12.enc r]
def m132 : MC := .seq (.reg [q1 2 (.asg (.c (.slice true [])))] [0])
 (.seq (.reg [q1 3 (.asg (.c (.slice true [])))] [0, 3])
 (.seq (.kp [3] (.seq (.reg [q1 4 (.asg (.c (.int .i64 0)))] [0, 3, 4])
 (.blk 0 (.loop (.seq (.kp [0, 3, 4] (.seq (.reg [q1 5 (.mv (.t 0)),q1 6 (.mv (.t 4)),q1 7 (.bin .shr (.t 5) (.t 6)),q1 8 (.bin .neq (.t 7) (.c (.int .i64 0)))] [0, 3, 4, 8])
 (.cond (.t 8) (.skip) (.exit 0))))
 (.seq (.kp [0, 3, 4] (.blk 1 (.seq (.reg [q1 11 (.mv (.t 0)),q1 12 (.mv (.t 4)),q1 13 (.bin .shr (.t 11) (.t 12)),q1 14 (.bin .and (.t 13) (.c (.int .i64 1))),q1 15 (.bin .eql (.t 14) (.c (.int .i64 1)))] [0, 3, 4, 15])
 (.cond (.t 15) (.reg [q1 16 (.mv (.t 3)),q1 17 (.mv (.t 4)),q1 18 (.bsl [(.t 17)] 1),q1 19 (.app (.t 16) (.t 18) 1),q1 3 (.asg (.t 19))] [0, 3, 4]) (.skip)))))
 (.reg [q1 9 (.mv (.t 4)),q1 10 (.bin .add (.t 9) (.c (.int .i64 1))),q1 4 (.asg (.t 10))] [0, 3, 4])))))))
 (.seq (.reg [q1 20 (.mv (.t 3)),q1 2 (.asg (.t 20))] [2])
 (.ret))))
theorem con_impl_membersOf {v0 : Int} {r : (List Int)} (h : sh_impl_membersOf v0 = some r) : Con Try.prog 132 [cI.enc v0] [] (rs_impl_membersOf r) := by
 delta sh_impl_membersOf at h
 refine top (out := none) (f := Try.f132) (m := m132) (rs := [.t 2]) (by kernel_rfl) rfl (by kernel_rfl) (by kernel_rfl) (by kernel_rfl) (by kernel_rfl) (by kernel_rfl) ?_
 exact
  ini [q2 0 cI v0] rfl <| wpC_seq <| reg_s <| x_asg (sc cc12 ([] : List Int) rfl) <| sq [q2 0 cI v0] <|
  xn <| wpC_seq <| reg_s <| x_asg (sc cc12 ([] : List Int) rfl) <| sq [q2 0 cI v0, q2 3 cc12 ([] : List Int)] <|
  xn <| wpC_seq <| wpC_kp <| wpC_seq <| reg_s <| x_asg (sc cI (0 : Int) rfl) <| sq [q2 0 cI v0, q2 3 cc12 ([] : List Int), q2 4 cI (0 : Int)] <|
  xn <| wpC_blk <| lpF (fun (s105 : ((List Int) × Int)) => [q2 0 cI v0, q2 3 cc12 s105.1, q2 4 cI s105.2]) (([] : List Int), (0 : Int)) rfl h
  fun G176 nx174 s105 hn175 h => wpC_seq <| wpC_kp <| wpC_seq <| reg_s <| st rfl <| mvd rfl rfl <| st rfl <| mvd rfl rfl <| ck_k h fun i181 h => st rfl <| b_shr (k := .i64) (k' := .i64) rfl rfl i181 rfl <| st rfl <| b_neq (k := .i64) rfl rfl <| sq [q2 0 cI v0, q2 3 cc12 s105.1, q2 4 cI s105.2, q2 8 cB (decide ((v0 / 2 ^ (s105.2).toNat) ≠ (0 : Int)))] <|
  xn <| cnd rfl h (fun b182 h => wpC_skip <| kpN [q2 0 cI v0, q2 3 cc12 s105.1, q2 4 cI s105.2] (by kernel_rfl) <| xn <| wpC_seq <| wpC_kp <| wpC_blk <| wpC_seq <| reg_s <| st rfl <| mvd rfl rfl <| st rfl <| mvd rfl rfl <| ck_k h fun i200 h => st rfl <| b_shr (k := .i64) (k' := .i64) rfl rfl i200 rfl <| ck_k h fun i201 h => ckK_k h fun i202 h => ck_k h fun i203 h => ckK_k h fun i204 h => st rfl <| b_and (k := .i64) rfl rfl ⟨i201, i202⟩ ⟨i203, i204⟩ <| st rfl <| b_eql (k := .i64) rfl rfl <| sq [q2 0 cI v0, q2 3 cc12 s105.1, q2 4 cI s105.2, q2 15 cB (decide ((((v0 / 2 ^ (s105.2).toNat).toNat &&& (1 : Int).toNat : Nat) : Int) = (1 : Int)))] <|
  xn <| cnd rfl h (fun b205 h => reg_s <| st rfl <| mvo rfl rfl <| st rfl <| mvd rfl rfl <| x_bsl cI [s105.2] (t1 (ss rfl rfl) rfl t0) rfl rfl <| lnO_k h fun l206 h => x_app (sr rfl rfl) (to rfl rfl) l206 rfl <| x_asg (so rfl rfl) <| sq [q2 0 cI v0, q2 3 cc12 (s105.1 ++ [s105.2]), q2 4 cI s105.2] <|
  xbb <| kpN [q2 0 cI v0, q2 3 cc12 (s105.1 ++ [s105.2]), q2 4 cI s105.2] (by kernel_rfl) <| xn <| reg_s <| st rfl <| mvd rfl rfl <| ckI_k h fun i207 h => st rfl <| b_add (k := .i64) rfl rfl i207 <| x_asg (ss rfl rfl) <| sq [q2 0 cI v0, q2 3 cc12 (s105.1 ++ [s105.2]), q2 4 cI (s105.2 + (1 : Int))] <|
  xn <| hn175 ((s105.1 ++ [s105.2]), (s105.2 + (1 : Int))) h)
  (fun b205 h => wpC_skip <| xbb <| kpN [q2 0 cI v0, q2 3 cc12 s105.1, q2 4 cI s105.2] (by kernel_rfl) <| xn <| reg_s <| st rfl <| mvd rfl rfl <| ckI_k h fun i208 h => st rfl <| b_add (k := .i64) rfl rfl i208 <| x_asg (ss rfl rfl) <| sq [q2 0 cI v0, q2 3 cc12 s105.1, q2 4 cI (s105.2 + (1 : Int))] <|
  xn <| hn175 (s105.1, (s105.2 + (1 : Int))) h))
  (fun b182 h => wpC_exit <| xt <| xt <| xt <| xb <| kpN [q2 3 cc12 s105.1] (by kernel_rfl) <| xn <| wpC_seq <| reg_s <| st rfl <| mvo rfl rfl <| x_asg (sr rfl rfl) <| sq [q2 2 cc12 s105.1] <|
  xn <| wpC_ret <| re <| fin h (r1 (so rfl rfl) <| r0) rfl)

def rs_cmp_isNaN_int (r : Bool) : List D := [cB.enc r]
def m163 : MC := .seq (.reg [q1 2 (.asg (.c (.bool false)))] [0])
 (.seq (.reg [q1 3 (.mv (.t 0)),q1 4 (.mv (.t 0)),q1 5 (.bin .neq (.t 3) (.t 4)),q1 2 (.asg (.t 5))] [2])
 (.ret))
theorem con_cmp_isNaN_int {v0 : Int} {r : Bool} (h : sh_cmp_isNaN_int v0 = some r) : Con Try.prog 163 [cI.enc v0] [] (rs_cmp_isNaN_int r) := by
 delta sh_cmp_isNaN_int at h
 refine top (out := none) (f := Try.f163) (m := m163) (rs := [.t 2]) (by kernel_rfl) rfl (by kernel_rfl) (by kernel_rfl) (by kernel_rfl) (by kernel_rfl) (by kernel_rfl) ?_
 exact
  ini [q2 0 cI v0] rfl <| wpC_seq <| reg_s <| x_asg (sc cB false rfl) <| sq [q2 0 cI v0] <|
  xn <| wpC_seq <| reg_s <| st rfl <| mvd rfl rfl <| st rfl <| mvd rfl rfl <| st rfl <| b_neq (k := .i64) rfl rfl <| x_asg (ss rfl rfl) <| sq [q2 2 cB (decide (v0 ≠ v0))] <|
  xn <| wpC_ret <| re <| fin h (r1 (ss rfl rfl) <| r0) rfl

def rs_cmp_Compare_int (r : Int) : List D := [cI.enc r]
def m134 : MC := .seq (.reg [q1 4 (.asg (.c (.int .i64 0)))] [0, 1])
 (.seq (.reg [q1 7 (.mv (.t 0)),q1 8 (.call 163 [(.t 7)]),q1 5 (.asg (.t 8))] [0, 1, 5])
 (.seq (.reg [q1 9 (.mv (.t 1)),q1 10 (.call 163 [(.t 9)]),q1 6 (.asg (.t 10))] [0, 1, 5, 6])
 (.seq (.kp [0, 1, 6] (.seq (.reg [q1 11 (.mv (.t 5))] [0, 1, 6, 11])
 (.cond (.t 11) (.seq (.kp [] (.seq (.reg [q1 12 (.mv (.t 6))] [12])
 (.cond (.t 12) (.seq (.reg [q1 4 (.asg (.c (.int .i64 0)))] [4])
 (.ret)) (.skip))))
 (.seq (.reg [q1 4 (.asg (.c (.int .i64 (-1))))] [4])
 (.ret))) (.skip))))
 (.seq (.kp [0, 1] (.seq (.reg [q1 13 (.mv (.t 6))] [0, 1, 13])
 (.cond (.t 13) (.seq (.reg [q1 4 (.asg (.c (.int .i64 1)))] [4])
 (.ret)) (.skip))))
 (.seq (.kp [0, 1] (.seq (.reg [q1 14 (.mv (.t 0)),q1 15 (.mv (.t 1)),q1 16 (.bin .lss (.t 14) (.t 15))] [0, 1, 16])
 (.cond (.t 16) (.seq (.reg [q1 4 (.asg (.c (.int .i64 (-1))))] [4])
 (.ret)) (.skip))))
 (.seq (.kp [] (.seq (.reg [q1 17 (.mv (.t 0)),q1 18 (.mv (.t 1)),q1 19 (.bin .gtr (.t 17) (.t 18))] [19])
 (.cond (.t 19) (.seq (.reg [q1 4 (.asg (.c (.int .i64 1)))] [4])
 (.ret)) (.skip))))
 (.seq (.reg [q1 4 (.asg (.c (.int .i64 0)))] [4])
 (.ret))))))))
theorem con_cmp_Compare_int {v0 : Int} {v1 : Int} {r : Int} (h : sh_cmp_Compare_int v0 v1 = some r) : Con Try.prog 134 [cI.enc v0, cI.enc v1] [] (rs_cmp_Compare_int r) := by
 delta sh_cmp_Compare_int at h
 refine top (out := none) (f := Try.f134) (m := m134) (rs := [.t 4]) (by kernel_rfl) rfl (by kernel_rfl) (by kernel_rfl) (by kernel_rfl) (by kernel_rfl) (by kernel_rfl) ?_
 exact
  ini [q2 0 cI v0, q2 1 cI v1] rfl <| wpC_seq <| reg_s <| x_asg (sc cI (0 : Int) rfl) <| sq [q2 0 cI v0, q2 1 cI v1] <|
  xn <| wpC_seq <| reg_s <| st rfl <| mvd rfl rfl <| bnd h fun x3 e4 h => st rfl <| o_call (a1 (c := cI) tK rfl a0) (con_cmp_isNaN_int e4) (.inl (so1 sB so0)) <| x_asg (ss rfl rfl) <| sq [q2 0 cI v0, q2 1 cI v1, q2 5 cB x3] <|
  xn <| wpC_seq <| reg_s <| st rfl <| mvd rfl rfl <| bnd h fun x7 e8 h => st rfl <| o_call (a1 (c := cI) tK rfl a0) (con_cmp_isNaN_int e8) (.inl (so1 sB so0)) <| x_asg (ss rfl rfl) <| sq [q2 0 cI v0, q2 1 cI v1, q2 5 cB x3, q2 6 cB x7] <|
  xn <| wpC_seq <| wpC_kp <| wpC_seq <| reg_s <| st rfl <| mvd rfl rfl <| sq [q2 0 cI v0, q2 1 cI v1, q2 6 cB x7, q2 11 cB x3] <|
  xn <| cnd rfl h (fun b12 h => wpC_seq <| wpC_kp <| wpC_seq <| reg_s <| st rfl <| mvd rfl rfl <| sq [q2 12 cB x7] <|
  xn <| cnd rfl h (fun b14 h => wpC_seq <| reg_s <| x_asg (sc cI (0 : Int) rfl) <| sq [q2 4 cI (0 : Int)] <|
  xn <| wpC_ret <| rt <| rt <| rt <| rt <| re <| fin h (r1 (ss rfl rfl) <| r0) rfl)
  (fun b14 h => wpC_skip <| kpN [] (by kernel_rfl) <| xn <| wpC_seq <| reg_s <| x_asg (sc cI (-1 : Int) rfl) <| sq [q2 4 cI (-1 : Int)] <|
  xn <| wpC_ret <| rt <| rt <| re <| fin h (r1 (ss rfl rfl) <| r0) rfl))
  (fun b12 h => wpC_skip <| kpN [q2 0 cI v0, q2 1 cI v1, q2 6 cB x7] (by kernel_rfl) <| xn <| wpC_seq <| wpC_kp <| wpC_seq <| reg_s <| st rfl <| mvd rfl rfl <| sq [q2 0 cI v0, q2 1 cI v1, q2 13 cB x7] <|
  xn <| cnd rfl h (fun b16 h => wpC_seq <| reg_s <| x_asg (sc cI (1 : Int) rfl) <| sq [q2 4 cI (1 : Int)] <|
  xn <| wpC_ret <| rt <| rt <| re <| fin h (r1 (ss rfl rfl) <| r0) rfl)
  (fun b16 h => wpC_skip <| kpN [q2 0 cI v0, q2 1 cI v1] (by kernel_rfl) <| xn <| wpC_seq <| wpC_kp <| wpC_seq <| reg_s <| st rfl <| mvd rfl rfl <| st rfl <| mvd rfl rfl <| st rfl <| b_lss (k := .i64) rfl rfl <| sq [q2 0 cI v0, q2 1 cI v1, q2 16 cB (decide (v0 < v1))] <|
  xn <| cnd rfl h (fun b18 h => wpC_seq <| reg_s <| x_asg (sc cI (-1 : Int) rfl) <| sq [q2 4 cI (-1 : Int)] <|
  xn <| wpC_ret <| rt <| rt <| re <| fin h (r1 (ss rfl rfl) <| r0) rfl)
  (fun b18 h => wpC_skip <| kpN [q2 0 cI v0, q2 1 cI v1] (by kernel_rfl) <| xn <| wpC_seq <| wpC_kp <| wpC_seq <| reg_s <| st rfl <| mvd rfl rfl <| st rfl <| mvd rfl rfl <| st rfl <| b_gtr (k := .i64) rfl rfl <| sq [q2 19 cB (decide (v1 < v0))] <|
  xn <| cnd rfl h (fun b20 h => wpC_seq <| reg_s <| x_asg (sc cI (1 : Int) rfl) <| sq [q2 4 cI (1 : Int)] <|
  xn <| wpC_ret <| rt <| rt <| re <| fin h (r1 (ss rfl rfl) <| r0) rfl)
  (fun b20 h => wpC_skip <| kpN [] (by kernel_rfl) <| xn <| wpC_seq <| reg_s <| x_asg (sc cI (0 : Int) rfl) <| sq [q2 4 cI (0 : Int)] <|
  xn <| wpC_ret <| re <| fin h (r1 (ss rfl rfl) <| r0) rfl))))

def rs_slices_Compare_int (r : Int) : List D := [cI.enc r]
def m135 : MC := .seq (.reg [q1 4 (.asg (.c (.int .i64 0)))] [0, 1])
 (.seq (.kp [0, 1] (.seq (.reg [q1 9 (.mv (.t 0)),q1 10 (.len false (.t 9)),q1 11 (.mv (.c (.int .i64 0)))] [0, 1, 9, 10, 11])
 (.blk 0 (.loop (.seq (.reg [q1 12 (.bin .lss (.t 11) (.t 10))] [0, 1, 9, 10, 11, 12])
 (.seq (.kp [0, 1, 9, 10, 11] (.cond (.t 12) (.skip) (.exit 0)))
 (.seq (.kp [0, 1, 9, 10, 11] (.blk 1 (.seq (.reg [q1 13 (.mv (.t 11)),q1 14 (.ia 9 (.t 11) 1),q1 15 (.ld 14 1 false),q1 5 (.asg (.t 13)),q1 6 (.asg (.t 15))] [0, 1, 5, 6, 9, 10, 11])
 (.seq (.kp [0, 1, 5, 6, 9, 10, 11] (.seq (.reg [q1 16 (.mv (.t 5)),q1 17 (.mv (.t 1)),q1 18 (.len false (.t 17)),q1 19 (.bin .geq (.t 16) (.t 18))] [0, 1, 5, 6, 9, 10, 11, 19])
 (.cond (.t 19) (.seq (.reg [q1 4 (.asg (.c (.int .i64 1)))] [4])
 (.ret)) (.skip))))
 (.seq (.reg [q1 20 (.mv (.t 1)),q1 21 (.mv (.t 5)),q1 22 (.ia 20 (.t 21) 1),q1 23 (.ld 22 1 false),q1 7 (.asg (.t 23))] [0, 1, 6, 7, 9, 10, 11])
 (.seq (.reg [q1 24 (.mv (.t 6)),q1 25 (.mv (.t 7)),q1 26 (.call 134 [(.t 24), (.t 25)]),q1 8 (.asg (.t 26))] [0, 1, 8, 9, 10, 11])
 (.seq (.reg [q1 27 (.mv (.t 8)),q1 28 (.bin .neq (.t 27) (.c (.int .i64 0)))] [0, 1, 8, 9, 10, 11, 28])
 (.cond (.t 28) (.seq (.reg [q1 29 (.mv (.t 8)),q1 4 (.asg (.t 29))] [4])
 (.ret)) (.skip)))))))))
 (.reg [q1 30 (.bin .add (.t 11) (.c (.int .i64 1))),q1 11 (.mv (.t 30))] [0, 1, 9, 10, 11]))))))))
 (.seq (.kp [] (.seq (.reg [q1 31 (.mv (.t 0)),q1 32 (.len false (.t 31)),q1 33 (.mv (.t 1)),q1 34 (.len false (.t 33)),q1 35 (.bin .lss (.t 32) (.t 34))] [35])
 (.cond (.t 35) (.seq (.reg [q1 4 (.asg (.c (.int .i64 (-1))))] [4])
 (.ret)) (.skip))))
 (.seq (.reg [q1 4 (.asg (.c (.int .i64 0)))] [4])
 (.ret))))
theorem con_slices_Compare_int {v0 : (List Int)} {v1 : (List Int)} {r : Int} (h : sh_slices_Compare_int v0 v1 = some r) : Con Try.prog 135 [cc11.enc v0, cc11.enc v1] [] (rs_slices_Compare_int r) := by
 delta sh_slices_Compare_int at h
 refine top (out := none) (f := Try.f135) (m := m135) (rs := [.t 4]) (by kernel_rfl) rfl (by kernel_rfl) (by kernel_rfl) (by kernel_rfl) (by kernel_rfl) (by kernel_rfl) ?_
 exact
  ini [q2 0 cc11 v0, q2 1 cc11 v1] rfl <| wpC_seq <| reg_s <| x_asg (sc cI (0 : Int) rfl) <| sq [q2 0 cc11 v0, q2 1 cc11 v1] <|
  xn <| wpC_seq <| wpC_kp <| wpC_seq <| reg_s <| st rfl <| mvd rfl rfl <| stw rfl <| lens rfl fun l80 => st rfl <| mvc cI (0 : Int) rfl <| sq [q2 0 cc11 v0, q2 1 cc11 v1, q2 9 cc11 v0, q2 10 cI (v0.length : Int), q2 11 cI (0 : Int)] <|
  xn <| wpC_blk <| lpR (fun (k82 : Nat) (s81 : Unit) => [q2 0 cc11 v0, q2 1 cc11 v1, q2 9 cc11 v0, q2 10 cI (v0.length : Int), q2 11 cI (k82 : Int)]) () rfl h
  (fun G122 s81 h => wpC_seq <| reg_s <| st rfl <| b_lss (k := .i64) rfl rfl <| sq [q2 0 cc11 v0, q2 1 cc11 v1, q2 9 cc11 v0, q2 10 cI (v0.length : Int), q2 11 cI (v0.length : Int), q2 12 cB (decide ((v0.length : Int) < (v0.length : Int)))] <|
  xn <| wpC_seq <| wpC_kp <| cnd0 rfl (dlf _) <| wpC_exit <| xt <| xt <| xt <| xb <| kpN [q2 0 cc11 v0, q2 1 cc11 v1] (by kernel_rfl) <| xn <| wpC_seq <| wpC_kp <| wpC_seq <| reg_s <| st rfl <| mvd rfl rfl <| stw rfl <| lens rfl fun l130 => st rfl <| mvd rfl rfl <| stw rfl <| lens rfl fun l131 => st rfl <| b_lss (k := .i64) rfl rfl <| sq [q2 35 cB (decide ((v0.length : Int) < (v1.length : Int)))] <|
  xn <| cnd rfl h (fun b132 h => wpC_seq <| reg_s <| x_asg (sc cI (-1 : Int) rfl) <| sq [q2 4 cI (-1 : Int)] <|
  xn <| wpC_ret <| rt <| rt <| re <| fin h (r1 (ss rfl rfl) <| r0) rfl)
  (fun b132 h => wpC_skip <| kpN [] (by kernel_rfl) <| xn <| wpC_seq <| reg_s <| x_asg (sc cI (0 : Int) rfl) <| sq [q2 4 cI (0 : Int)] <|
  xn <| wpC_ret <| re <| fin h (r1 (ss rfl rfl) <| r0) rfl))
  (fun G122 nx120 k82 s81 x83 hk84 hx85 hn121 h => wpC_seq <| reg_s <| st rfl <| b_lss (k := .i64) rfl rfl <| sq [q2 0 cc11 v0, q2 1 cc11 v1, q2 9 cc11 v0, q2 10 cI (v0.length : Int), q2 11 cI (k82 : Int), q2 12 cB (decide ((k82 : Int) < (v0.length : Int)))] <|
  xn <| wpC_seq <| wpC_kp <| cnd1 rfl (dlt hk84) <| wpC_skip <| kpN [q2 0 cc11 v0, q2 1 cc11 v1, q2 9 cc11 v0, q2 10 cI (v0.length : Int), q2 11 cI (k82 : Int)] (by kernel_rfl) <| xn <| wpC_seq <| wpC_kp <| wpC_blk <| wpC_seq <| reg_s <| st rfl <| mvd rfl rfl <| st rfl <| ias rfl rfl (Int.natCast_nonneg _) hx85 rfl <| st rfl <| ldi rfl rfl rfl rfl <| x_asg (ss rfl rfl) <| x_asg (ss rfl rfl) <| sq [q2 0 cc11 v0, q2 1 cc11 v1, q2 5 cI (k82 : Int), q2 6 cI x83, q2 9 cc11 v0, q2 10 cI (v0.length : Int), q2 11 cI (k82 : Int)] <|
  xn <| wpC_seq <| wpC_kp <| wpC_seq <| reg_s <| st rfl <| mvd rfl rfl <| st rfl <| mvd rfl rfl <| stw rfl <| lens rfl fun l154 => st rfl <| b_geq (k := .i64) rfl rfl <| sq [q2 0 cc11 v0, q2 1 cc11 v1, q2 5 cI (k82 : Int), q2 6 cI x83, q2 9 cc11 v0, q2 10 cI (v0.length : Int), q2 11 cI (k82 : Int), q2 19 cB (decide ((v1.length : Int) ≤ (k82 : Int)))] <|
  xn <| cnd rfl h (fun b155 h => wpC_seq <| reg_s <| x_asg (sc cI (1 : Int) rfl) <| sq [q2 4 cI (1 : Int)] <|
  xn <| wpC_ret <| rt <| rt <| rb <| rt <| rt <| rt <| rb <| rt <| rt <| re <| fin h (r1 (ss rfl rfl) <| r0) rfl)
  (fun b155 h => wpC_skip <| kpN [q2 0 cc11 v0, q2 1 cc11 v1, q2 5 cI (k82 : Int), q2 6 cI x83, q2 9 cc11 v0, q2 10 cI (v0.length : Int), q2 11 cI (k82 : Int)] (by kernel_rfl) <| xn <| wpC_seq <| reg_s <| st rfl <| mvd rfl rfl <| st rfl <| mvd rfl rfl <| getO_k h fun x159 i160 g161 h => st rfl <| ias rfl rfl i160 g161 rfl <| st rfl <| ldi rfl rfl rfl rfl <| x_asg (ss rfl rfl) <| sq [q2 0 cc11 v0, q2 1 cc11 v1, q2 6 cI x83, q2 7 cI x159, q2 9 cc11 v0, q2 10 cI (v0.length : Int), q2 11 cI (k82 : Int)] <|
  xn <| wpC_seq <| reg_s <| st rfl <| mvd rfl rfl <| st rfl <| mvd rfl rfl <| bnd h fun x164 e165 h => st rfl <| o_call (a1 (c := cI) tK rfl (a1 (c := cI) tK rfl a0)) (con_cmp_Compare_int e165) (.inl (so1 sK so0)) <| x_asg (ss rfl rfl) <| sq [q2 0 cc11 v0, q2 1 cc11 v1, q2 8 cI x164, q2 9 cc11 v0, q2 10 cI (v0.length : Int), q2 11 cI (k82 : Int)] <|
  xn <| wpC_seq <| reg_s <| st rfl <| mvd rfl rfl <| st rfl <| b_neq (k := .i64) rfl rfl <| sq [q2 0 cc11 v0, q2 1 cc11 v1, q2 8 cI x164, q2 9 cc11 v0, q2 10 cI (v0.length : Int), q2 11 cI (k82 : Int), q2 28 cB (decide (x164 ≠ (0 : Int)))] <|
  xn <| cnd rfl h (fun b166 h => wpC_seq <| reg_s <| st rfl <| mvd rfl rfl <| x_asg (ss rfl rfl) <| sq [q2 4 cI x164] <|
  xn <| wpC_ret <| rb <| rt <| rt <| rt <| rb <| rt <| rt <| re <| fin h (r1 (ss rfl rfl) <| r0) rfl)
  (fun b166 h => wpC_skip <| xbb <| kpN [q2 0 cc11 v0, q2 1 cc11 v1, q2 9 cc11 v0, q2 10 cI (v0.length : Int), q2 11 cI (k82 : Int)] (by kernel_rfl) <| xn <| reg_s <| st rfl <| b_inc rfl rfl l80 hk84 <| st rfl <| mvd rfl rfl <| sq [q2 0 cc11 v0, q2 1 cc11 v1, q2 9 cc11 v0, q2 10 cI (v0.length : Int), q2 11 cI ((k82 + 1 : Nat) : Int)] <|
  xn <| hn121 () h)))

def rs_cmp_Or_int (r : Int) : List D := [cI.enc r]
def m133 : MC := .seq (.reg [q1 2 (.asg (.c (.int .i64 0)))] [0])
 (.seq (.reg [q1 3 (.asg (.c (.int .i64 0)))] [0, 3])
 (.seq (.kp [3] (.seq (.reg [q1 6 (.mv (.t 0)),q1 7 (.len false (.t 6)),q1 8 (.mv (.c (.int .i64 0)))] [0, 3, 6, 7, 8])
 (.blk 0 (.loop (.seq (.reg [q1 9 (.bin .lss (.t 8) (.t 7))] [0, 3, 6, 7, 8, 9])
 (.seq (.kp [0, 3, 6, 7, 8] (.cond (.t 9) (.skip) (.exit 0)))
 (.seq (.kp [0, 3, 6, 7, 8] (.blk 1 (.seq (.reg [q1 10 (.ia 6 (.t 8) 1),q1 11 (.ld 10 1 false),q1 5 (.asg (.t 11))] [0, 3, 5, 6, 7, 8])
 (.seq (.reg [q1 12 (.mv (.t 5)),q1 13 (.mv (.t 3)),q1 14 (.bin .neq (.t 12) (.t 13))] [0, 3, 5, 6, 7, 8, 14])
 (.cond (.t 14) (.seq (.reg [q1 15 (.mv (.t 5)),q1 2 (.asg (.t 15))] [2])
 (.ret)) (.skip))))))
 (.reg [q1 16 (.bin .add (.t 8) (.c (.int .i64 1))),q1 8 (.mv (.t 16))] [0, 3, 6, 7, 8]))))))))
 (.seq (.reg [q1 17 (.mv (.t 3)),q1 2 (.asg (.t 17))] [2])
 (.ret))))
theorem con_cmp_Or_int {v0 : (List Int)} {r : Int} (h : sh_cmp_Or_int v0 = some r) : Con Try.prog 133 [cc11.enc v0] [] (rs_cmp_Or_int r) := by
 delta sh_cmp_Or_int at h
 refine top (out := none) (f := Try.f133) (m := m133) (rs := [.t 2]) (by kernel_rfl) rfl (by kernel_rfl) (by kernel_rfl) (by kernel_rfl) (by kernel_rfl) (by kernel_rfl) ?_
 exact
  ini [q2 0 cc11 v0] rfl <| wpC_seq <| reg_s <| x_asg (sc cI (0 : Int) rfl) <| sq [q2 0 cc11 v0] <|
  xn <| wpC_seq <| reg_s <| x_asg (sc cI (0 : Int) rfl) <| sq [q2 0 cc11 v0, q2 3 cI (0 : Int)] <|
  xn <| wpC_seq <| wpC_kp <| wpC_seq <| reg_s <| st rfl <| mvd rfl rfl <| stw rfl <| lens rfl fun l16 => st rfl <| mvc cI (0 : Int) rfl <| sq [q2 0 cc11 v0, q2 3 cI (0 : Int), q2 6 cc11 v0, q2 7 cI (v0.length : Int), q2 8 cI (0 : Int)] <|
  xn <| wpC_blk <| lpR (fun (k18 : Nat) (s17 : Unit) => [q2 0 cc11 v0, q2 3 cI (0 : Int), q2 6 cc11 v0, q2 7 cI (v0.length : Int), q2 8 cI (k18 : Int)]) () rfl h
  (fun G26 s17 h => wpC_seq <| reg_s <| st rfl <| b_lss (k := .i64) rfl rfl <| sq [q2 0 cc11 v0, q2 3 cI (0 : Int), q2 6 cc11 v0, q2 7 cI (v0.length : Int), q2 8 cI (v0.length : Int), q2 9 cB (decide ((v0.length : Int) < (v0.length : Int)))] <|
  xn <| wpC_seq <| wpC_kp <| cnd0 rfl (dlf _) <| wpC_exit <| xt <| xt <| xt <| xb <| kpN [q2 3 cI (0 : Int)] (by kernel_rfl) <| xn <| wpC_seq <| reg_s <| st rfl <| mvd rfl rfl <| x_asg (ss rfl rfl) <| sq [q2 2 cI (0 : Int)] <|
  xn <| wpC_ret <| re <| fin h (r1 (ss rfl rfl) <| r0) rfl)
  (fun G26 nx24 k18 s17 x19 hk20 hx21 hn25 h => wpC_seq <| reg_s <| st rfl <| b_lss (k := .i64) rfl rfl <| sq [q2 0 cc11 v0, q2 3 cI (0 : Int), q2 6 cc11 v0, q2 7 cI (v0.length : Int), q2 8 cI (k18 : Int), q2 9 cB (decide ((k18 : Int) < (v0.length : Int)))] <|
  xn <| wpC_seq <| wpC_kp <| cnd1 rfl (dlt hk20) <| wpC_skip <| kpN [q2 0 cc11 v0, q2 3 cI (0 : Int), q2 6 cc11 v0, q2 7 cI (v0.length : Int), q2 8 cI (k18 : Int)] (by kernel_rfl) <| xn <| wpC_seq <| wpC_kp <| wpC_blk <| wpC_seq <| reg_s <| st rfl <| ias rfl rfl (Int.natCast_nonneg _) hx21 rfl <| st rfl <| ldi rfl rfl rfl rfl <| x_asg (ss rfl rfl) <| sq [q2 0 cc11 v0, q2 3 cI (0 : Int), q2 5 cI x19, q2 6 cc11 v0, q2 7 cI (v0.length : Int), q2 8 cI (k18 : Int)] <|
  xn <| wpC_seq <| reg_s <| st rfl <| mvd rfl rfl <| st rfl <| mvd rfl rfl <| st rfl <| b_neq (k := .i64) rfl rfl <| sq [q2 0 cc11 v0, q2 3 cI (0 : Int), q2 5 cI x19, q2 6 cc11 v0, q2 7 cI (v0.length : Int), q2 8 cI (k18 : Int), q2 14 cB (decide (x19 ≠ (0 : Int)))] <|
  xn <| cnd rfl h (fun b28 h => wpC_seq <| reg_s <| st rfl <| mvd rfl rfl <| x_asg (ss rfl rfl) <| sq [q2 2 cI x19] <|
  xn <| wpC_ret <| rb <| rt <| rt <| rt <| rb <| rt <| rt <| re <| fin h (r1 (ss rfl rfl) <| r0) rfl)
  (fun b28 h => wpC_skip <| xbb <| kpN [q2 0 cc11 v0, q2 3 cI (0 : Int), q2 6 cc11 v0, q2 7 cI (v0.length : Int), q2 8 cI (k18 : Int)] (by kernel_rfl) <| xn <| reg_s <| st rfl <| b_inc rfl rfl l16 hk20 <| st rfl <| mvd rfl rfl <| sq [q2 0 cc11 v0, q2 3 cI (0 : Int), q2 6 cc11 v0, q2 7 cI (v0.length : Int), q2 8 cI ((k18 + 1 : Nat) : Int)] <|
  xn <| hn25 () h))

def rs_impl_otherVars (r : (List Int)) : List D := [cc12.enc r]
def m94 : MC := .seq (.reg [q1 4 (.asg (.c (.slice true [])))] [0, 1])
 (.seq (.reg [q1 5 (.asg (.c (.slice true [])))] [0, 1, 5])
 (.seq (.kp [5] (.seq (.reg [q1 7 (.mv (.t 0)),q1 8 (.len false (.t 7)),q1 9 (.mv (.c (.int .i64 0)))] [1, 5, 8, 9])
 (.blk 0 (.loop (.seq (.reg [q1 10 (.bin .lss (.t 9) (.t 8))] [1, 5, 8, 9, 10])
 (.seq (.kp [1, 5, 8, 9] (.cond (.t 10) (.skip) (.exit 0)))
 (.seq (.kp [1, 5, 8, 9] (.blk 1 (.seq (.reg [q1 11 (.mv (.t 9)),q1 6 (.asg (.t 11))] [1, 5, 6, 8, 9])
 (.seq (.reg [q1 12 (.mv (.t 1)),q1 13 (.mv (.t 6)),q1 14 (.call 143 [(.t 12), (.t 13)]),q1 15 (.nt (.t 14))] [1, 5, 6, 8, 9, 15])
 (.cond (.t 15) (.reg [q1 16 (.mv (.t 5)),q1 17 (.mv (.t 6)),q1 18 (.bsl [(.t 17)] 1),q1 19 (.app (.t 16) (.t 18) 1),q1 5 (.asg (.t 19))] [1, 5, 8, 9]) (.skip))))))
 (.reg [q1 20 (.bin .add (.t 9) (.c (.int .i64 1))),q1 9 (.mv (.t 20))] [1, 5, 8, 9]))))))))
 (.seq (.reg [q1 21 (.mv (.t 5)),q1 4 (.asg (.t 21))] [4])
 (.ret))))
theorem con_impl_otherVars {v0 : (List XVariable)} {v1 : (List Int)} {r : (List Int)} (h : sh_impl_otherVars v0 v1 = some r) : Con Try.prog 94 [cc4.enc v0, cc11.enc v1] [] (rs_impl_otherVars r) := by
 delta sh_impl_otherVars at h
 refine top (out := none) (f := Try.f94) (m := m94) (rs := [.t 4]) (by kernel_rfl) rfl (by kernel_rfl) (by kernel_rfl) (by kernel_rfl) (by kernel_rfl) (by kernel_rfl) ?_
 exact
  ini [q2 0 cc4 v0, q2 1 cc11 v1] rfl <| wpC_seq <| reg_s <| x_asg (sc cc12 ([] : List Int) rfl) <| sq [q2 0 cc4 v0, q2 1 cc11 v1] <|
  xn <| wpC_seq <| reg_s <| x_asg (sc cc12 ([] : List Int) rfl) <| sq [q2 0 cc4 v0, q2 1 cc11 v1, q2 5 cc12 ([] : List Int)] <|
  xn <| wpC_seq <| wpC_kp <| wpC_seq <| reg_s <| st rfl <| mvd rfl rfl <| stw rfl <| lens rfl fun l48 => st rfl <| mvc cI (0 : Int) rfl <| sq [q2 1 cc11 v1, q2 5 cc12 ([] : List Int), q2 8 cI (v0.length : Int), q2 9 cI (0 : Int)] <|
  xn <| wpC_blk <| lpR (fun (k50 : Nat) (s49 : (List Int)) => [q2 1 cc11 v1, q2 5 cc12 s49, q2 8 cI (v0.length : Int), q2 9 cI (k50 : Int)]) ([] : List Int) rfl h
  (fun G80 s49 h => wpC_seq <| reg_s <| st rfl <| b_lss (k := .i64) rfl rfl <| sq [q2 1 cc11 v1, q2 5 cc12 s49, q2 8 cI (v0.length : Int), q2 9 cI (v0.length : Int), q2 10 cB (decide ((v0.length : Int) < (v0.length : Int)))] <|
  xn <| wpC_seq <| wpC_kp <| cnd0 rfl (dlf _) <| wpC_exit <| xt <| xt <| xt <| xb <| kpN [q2 5 cc12 s49] (by kernel_rfl) <| xn <| wpC_seq <| reg_s <| st rfl <| mvo rfl rfl <| x_asg (sr rfl rfl) <| sq [q2 4 cc12 s49] <|
  xn <| wpC_ret <| re <| fin h (r1 (so rfl rfl) <| r0) rfl)
  (fun G80 nx78 k50 s49 x51 hk52 hx53 hn79 h => wpC_seq <| reg_s <| st rfl <| b_lss (k := .i64) rfl rfl <| sq [q2 1 cc11 v1, q2 5 cc12 s49, q2 8 cI (v0.length : Int), q2 9 cI (k50 : Int), q2 10 cB (decide ((k50 : Int) < (v0.length : Int)))] <|
  xn <| wpC_seq <| wpC_kp <| cnd1 rfl (dlt hk52) <| wpC_skip <| kpN [q2 1 cc11 v1, q2 5 cc12 s49, q2 8 cI (v0.length : Int), q2 9 cI (k50 : Int)] (by kernel_rfl) <| xn <| wpC_seq <| wpC_kp <| wpC_blk <| wpC_seq <| reg_s <| st rfl <| mvd rfl rfl <| x_asg (ss rfl rfl) <| sq [q2 1 cc11 v1, q2 5 cc12 s49, q2 6 cI (k50 : Int), q2 8 cI (v0.length : Int), q2 9 cI (k50 : Int)] <|
  xn <| wpC_seq <| reg_s <| st rfl <| mvd rfl rfl <| st rfl <| mvd rfl rfl <| bnd h fun x89 e90 h => st rfl <| o_call (a1 (c := cc11) (tLs tK) rfl (a1 (c := cI) tK rfl a0)) (con_slices_Contains_int e90) (.inl (so1 sB so0)) <| st rfl <| o_nt rfl <| sq [q2 1 cc11 v1, q2 5 cc12 s49, q2 6 cI (k50 : Int), q2 8 cI (v0.length : Int), q2 9 cI (k50 : Int), q2 15 cB (!x89)] <|
  xn <| cnd rfl h (fun b91 h => reg_s <| st rfl <| mvo rfl rfl <| st rfl <| mvd rfl rfl <| x_bsl cI [(k50 : Int)] (t1 (ss rfl rfl) rfl t0) rfl rfl <| lnO_k h fun l92 h => x_app (sr rfl rfl) (to rfl rfl) l92 rfl <| x_asg (so rfl rfl) <| sq [q2 1 cc11 v1, q2 5 cc12 (s49 ++ [(k50 : Int)]), q2 8 cI (v0.length : Int), q2 9 cI (k50 : Int)] <|
  xbb <| kpN [q2 1 cc11 v1, q2 5 cc12 (s49 ++ [(k50 : Int)]), q2 8 cI (v0.length : Int), q2 9 cI (k50 : Int)] (by kernel_rfl) <| xn <| reg_s <| st rfl <| b_inc rfl rfl l48 hk52 <| st rfl <| mvd rfl rfl <| sq [q2 1 cc11 v1, q2 5 cc12 (s49 ++ [(k50 : Int)]), q2 8 cI (v0.length : Int), q2 9 cI ((k50 + 1 : Nat) : Int)] <|
  xn <| hn79 (s49 ++ [(k50 : Int)]) h)
  (fun b91 h => wpC_skip <| xbb <| kpN [q2 1 cc11 v1, q2 5 cc12 s49, q2 8 cI (v0.length : Int), q2 9 cI (k50 : Int)] (by kernel_rfl) <| xn <| reg_s <| st rfl <| b_inc rfl rfl l48 hk52 <| st rfl <| mvd rfl rfl <| sq [q2 1 cc11 v1, q2 5 cc12 s49, q2 8 cI (v0.length : Int), q2 9 cI ((k50 + 1 : Nat) : Int)] <|
  xn <| hn79 s49 h))

def rs_spec_iWeights (r : Bool) : List D := [cB.enc r]
def m97 : MC := .seq (.reg [q1 4 (.asg (.c (.bool false)))] [0, 1])
 (.seq (.reg [q1 5 (.mv (.t 1)),q1 6 (.len false (.t 5)),q1 7 (.mv (.t 0)),q1 8 (.len false (.t 7)),q1 9 (.bin .eql (.t 6) (.t 8)),q1 10 (.mv (.t 9)),
  ⟨some 11, .mv (.t 1), some (10, true)⟩,
  ⟨some 12, .call 144 [(.t 11), (.c (.int .i64 1)), (.c (.int .i64 100))], some (10, true)⟩,q1 13 (.pick (.t 10) (.t 12) (.c (.bool false))),q1 4 (.asg (.t 13))] [4])
 (.ret))
theorem con_spec_iWeights {v0 : (List XVariable)} {v1 : (List Int)} {r : Bool} (h : sh_spec_iWeights v0 v1 = some r) : Con Try.prog 97 [cc4.enc v0, cc11.enc v1] [] (rs_spec_iWeights r) := by
 delta sh_spec_iWeights at h
 refine top (out := none) (f := Try.f97) (m := m97) (rs := [.t 4]) (by kernel_rfl) rfl (by kernel_rfl) (by kernel_rfl) (by kernel_rfl) (by kernel_rfl) (by kernel_rfl) ?_
 exact
  ini [q2 0 cc4 v0, q2 1 cc11 v1] rfl <| wpC_seq <| reg_s <| x_asg (sc cB false rfl) <| sq [q2 0 cc4 v0, q2 1 cc11 v1] <|
  xn <| wpC_seq <| reg_s <| st rfl <| mvd rfl rfl <| stw rfl <| lens rfl fun l6 => st rfl <| mvd rfl rfl <| stw rfl <| lens rfl fun l7 => st rfl <| b_eql (k := .i64) rfl rfl <| st rfl <| mvd rfl rfl <| ite_k h (fun b8 h => gt' rfl b8 <| st rfl <| mvd rfl rfl <| gt' rfl b8 <| bnd h fun x9 e10 h => st rfl <| o_call (a1 (c := cc11) (tLs tK) rfl (a1 (c := cI) tK rfl (a1 (c := cI) tK rfl a0))) (con_spec_l1All e10) (.inl (so1 sB so0)) <| st rfl <| pick1 rfl b8 (cd := cB) (v := x9) rfl rfl <| x_asg (ss rfl rfl) <| sq [q2 4 cB x9] <|
  xn <| wpC_ret <| re <| fin h (r1 (ss rfl rfl) <| r0) rfl)
  (fun b8 h => gf rfl b8 <| gf rfl b8 <| st rfl <| pick0 rfl b8 (cd := cB) (v := false) rfl rfl <| x_asg (ss rfl rfl) <| sq [q2 4 cB false] <|
  xn <| wpC_ret <| re <| fin h (r1 (ss rfl rfl) <| r0) rfl)

def rs_spec_iBits (r : (List Int)) : List D := [cc12.enc r]
def m136 : MC := .seq (.reg [q1 2 (.asg (.c (.slice true [])))] [0])
 (.seq (.reg [q1 3 (.asg (.c (.slice true [])))] [0, 3])
 (.seq (.kp [3] (.seq (.reg [q1 4 (.asg (.c (.int .i64 0)))] [0, 3, 4])
 (.blk 0 (.loop (.seq (.kp [0, 3, 4] (.seq (.reg [q1 5 (.mv (.t 0)),q1 6 (.mv (.t 4)),q1 7 (.cvi .u64 (.t 6)),q1 8 (.bin .shr (.t 5) (.t 7)),q1 9 (.bin .gtr (.t 8) (.c (.int .i64 0)))] [0, 3, 4, 9])
 (.cond (.t 9) (.skip) (.exit 0))))
 (.seq (.kp [0, 3, 4] (.blk 1 (.seq (.reg [q1 12 (.mv (.t 0)),q1 13 (.mv (.t 4)),q1 14 (.cvi .u64 (.t 13)),q1 15 (.bin .shr (.t 12) (.t 14)),q1 16 (.bin .and (.t 15) (.c (.int .i64 1))),q1 17 (.bin .eql (.t 16) (.c (.int .i64 1)))] [0, 3, 4, 17])
 (.cond (.t 17) (.reg [q1 18 (.mv (.t 3)),q1 19 (.mv (.t 4)),q1 20 (.bsl [(.t 19)] 1),q1 21 (.app (.t 18) (.t 20) 1),q1 3 (.asg (.t 21))] [0, 3, 4]) (.skip)))))
 (.reg [q1 10 (.mv (.t 4)),q1 11 (.bin .add (.t 10) (.c (.int .i64 1))),q1 4 (.asg (.t 11))] [0, 3, 4])))))))
 (.seq (.reg [q1 22 (.mv (.t 3)),q1 2 (.asg (.t 22))] [2])
 (.ret))))
theorem con_spec_iBits {v0 : Int} {r : (List Int)} (h : sh_spec_iBits v0 = some r) : Con Try.prog 136 [cI.enc v0] [] (rs_spec_iBits r) := by
 delta sh_spec_iBits at h
 refine top (out := none) (f := Try.f136) (m := m136) (rs := [.t 2]) (by kernel_rfl) rfl (by kernel_rfl) (by kernel_rfl) (by kernel_rfl) (by kernel_rfl) (by kernel_rfl) ?_
 exact
  ini [q2 0 cI v0] rfl <| wpC_seq <| reg_s <| x_asg (sc cc12 ([] : List Int) rfl) <| sq [q2 0 cI v0] <|
  xn <| wpC_seq <| reg_s <| x_asg (sc cc12 ([] : List Int) rfl) <| sq [q2 0 cI v0, q2 3 cc12 ([] : List Int)] <|
  xn <| wpC_seq <| wpC_kp <| wpC_seq <| reg_s <| x_asg (sc cI (0 : Int) rfl) <| sq [q2 0 cI v0, q2 3 cc12 ([] : List Int), q2 4 cI (0 : Int)] <|
  xn <| wpC_blk <| lpF (fun (s129 : ((List Int) × Int)) => [q2 0 cI v0, q2 3 cc12 s129.1, q2 4 cI s129.2]) (([] : List Int), (0 : Int)) rfl h
  fun G216 nx214 s129 hn215 h => wpC_seq <| wpC_kp <| wpC_seq <| reg_s <| st rfl <| mvd rfl rfl <| st rfl <| mvd rfl rfl <| ckK_k h fun i224 h => st rfl <| o_cvi (k := .i64) (k' := .u64) rfl i224 <| ck_k h fun i225 h => st rfl <| b_shr (k := .i64) (k' := .u64) rfl rfl i225 rfl <| st rfl <| b_gtr (k := .i64) rfl rfl <| sq [q2 0 cI v0, q2 3 cc12 s129.1, q2 4 cI s129.2, q2 9 cB (decide ((0 : Int) < (v0 / 2 ^ (s129.2).toNat)))] <|
  xn <| cnd rfl h (fun b226 h => wpC_skip <| kpN [q2 0 cI v0, q2 3 cc12 s129.1, q2 4 cI s129.2] (by kernel_rfl) <| xn <| wpC_seq <| wpC_kp <| wpC_blk <| wpC_seq <| reg_s <| st rfl <| mvd rfl rfl <| st rfl <| mvd rfl rfl <| ckK_k h fun i247 h => st rfl <| o_cvi (k := .i64) (k' := .u64) rfl i247 <| ck_k h fun i248 h => st rfl <| b_shr (k := .i64) (k' := .u64) rfl rfl i248 rfl <| ck_k h fun i249 h => ckK_k h fun i250 h => ck_k h fun i251 h => ckK_k h fun i252 h => st rfl <| b_and (k := .i64) rfl rfl ⟨i249, i250⟩ ⟨i251, i252⟩ <| st rfl <| b_eql (k := .i64) rfl rfl <| sq [q2 0 cI v0, q2 3 cc12 s129.1, q2 4 cI s129.2, q2 17 cB (decide ((((v0 / 2 ^ (s129.2).toNat).toNat &&& (1 : Int).toNat : Nat) : Int) = (1 : Int)))] <|
  xn <| cnd rfl h (fun b253 h => reg_s <| st rfl <| mvo rfl rfl <| st rfl <| mvd rfl rfl <| x_bsl cI [s129.2] (t1 (ss rfl rfl) rfl t0) rfl rfl <| lnO_k h fun l254 h => x_app (sr rfl rfl) (to rfl rfl) l254 rfl <| x_asg (so rfl rfl) <| sq [q2 0 cI v0, q2 3 cc12 (s129.1 ++ [s129.2]), q2 4 cI s129.2] <|
  xbb <| kpN [q2 0 cI v0, q2 3 cc12 (s129.1 ++ [s129.2]), q2 4 cI s129.2] (by kernel_rfl) <| xn <| reg_s <| st rfl <| mvd rfl rfl <| ckI_k h fun i255 h => st rfl <| b_add (k := .i64) rfl rfl i255 <| x_asg (ss rfl rfl) <| sq [q2 0 cI v0, q2 3 cc12 (s129.1 ++ [s129.2]), q2 4 cI (s129.2 + (1 : Int))] <|
  xn <| hn215 ((s129.1 ++ [s129.2]), (s129.2 + (1 : Int))) h)
  (fun b253 h => wpC_skip <| xbb <| kpN [q2 0 cI v0, q2 3 cc12 s129.1, q2 4 cI s129.2] (by kernel_rfl) <| xn <| reg_s <| st rfl <| mvd rfl rfl <| ckI_k h fun i256 h => st rfl <| b_add (k := .i64) rfl rfl i256 <| x_asg (ss rfl rfl) <| sq [q2 0 cI v0, q2 3 cc12 s129.1, q2 4 cI (s129.2 + (1 : Int))] <|
  xn <| hn215 (s129.1, (s129.2 + (1 : Int))) h))
  (fun b226 h => wpC_exit <| xt <| xt <| xt <| xb <| kpN [q2 3 cc12 s129.1] (by kernel_rfl) <| xn <| wpC_seq <| reg_s <| st rfl <| mvo rfl rfl <| x_asg (sr rfl rfl) <| sq [q2 2 cc12 s129.1] <|
  xn <| wpC_ret <| re <| fin h (r1 (so rfl rfl) <| r0) rfl)

def rs_spec_iSum (r : Int) : List D := [cI.enc r]
def m137 : MC := .seq (.reg [q1 4 (.asg (.c (.int .i64 0)))] [0, 1])
 (.seq (.reg [q1 5 (.asg (.c (.int .i64 0)))] [0, 1, 5])
 (.seq (.kp [5] (.seq (.reg [q1 8 (.mv (.t 1)),q1 9 (.len false (.t 8)),q1 10 (.mv (.c (.int .i64 0)))] [0, 1, 5, 8, 9, 10])
 (.blk 0 (.loop (.seq (.reg [q1 11 (.bin .lss (.t 10) (.t 9))] [0, 1, 5, 8, 9, 10, 11])
 (.seq (.kp [0, 1, 5, 8, 9, 10] (.cond (.t 11) (.skip) (.exit 0)))
 (.seq (.kp [0, 1, 5, 8, 9, 10] (.blk 1 (.seq (.reg [q1 12 (.ia 8 (.t 10) 1),q1 13 (.ld 12 1 false),q1 7 (.asg (.t 13))] [0, 1, 5, 7, 8, 9, 10])
 (.reg [q1 14 (.mv (.t 5)),q1 15 (.mv (.t 0)),q1 16 (.mv (.t 7)),q1 17 (.ia 15 (.t 16) 1),q1 18 (.ld 17 1 false),q1 19 (.bin .add (.t 14) (.t 18)),q1 5 (.asg (.t 19))] [0, 1, 5, 8, 9, 10]))))
 (.reg [q1 20 (.bin .add (.t 10) (.c (.int .i64 1))),q1 10 (.mv (.t 20))] [0, 1, 5, 8, 9, 10]))))))))
 (.seq (.reg [q1 21 (.mv (.t 5)),q1 4 (.asg (.t 21))] [4])
 (.ret))))
theorem con_spec_iSum {v0 : (List Int)} {v1 : (List Int)} {r : Int} (h : sh_spec_iSum v0 v1 = some r) : Con Try.prog 137 [cc11.enc v0, cc11.enc v1] [] (rs_spec_iSum r) := by
 delta sh_spec_iSum at h
 refine top (out := none) (f := Try.f137) (m := m137) (rs := [.t 4]) (by kernel_rfl) rfl (by kernel_rfl) (by kernel_rfl) (by kernel_rfl) (by kernel_rfl) (by kernel_rfl) ?_
 exact
  ini [q2 0 cc11 v0, q2 1 cc11 v1] rfl <| wpC_seq <| reg_s <| x_asg (sc cI (0 : Int) rfl) <| sq [q2 0 cc11 v0, q2 1 cc11 v1] <|
  xn <| wpC_seq <| reg_s <| x_asg (sc cI (0 : Int) rfl) <| sq [q2 0 cc11 v0, q2 1 cc11 v1, q2 5 cI (0 : Int)] <|
  xn <| wpC_seq <| wpC_kp <| wpC_seq <| reg_s <| st rfl <| mvd rfl rfl <| stw rfl <| lens rfl fun l36 => st rfl <| mvc cI (0 : Int) rfl <| sq [q2 0 cc11 v0, q2 1 cc11 v1, q2 5 cI (0 : Int), q2 8 cc11 v1, q2 9 cI (v1.length : Int), q2 10 cI (0 : Int)] <|
  xn <| wpC_blk <| lpR (fun (k38 : Nat) (s37 : Int) => [q2 0 cc11 v0, q2 1 cc11 v1, q2 5 cI s37, q2 8 cc11 v1, q2 9 cI (v1.length : Int), q2 10 cI (k38 : Int)]) (0 : Int) rfl h
  (fun G60 s37 h => wpC_seq <| reg_s <| st rfl <| b_lss (k := .i64) rfl rfl <| sq [q2 0 cc11 v0, q2 1 cc11 v1, q2 5 cI s37, q2 8 cc11 v1, q2 9 cI (v1.length : Int), q2 10 cI (v1.length : Int), q2 11 cB (decide ((v1.length : Int) < (v1.length : Int)))] <|
  xn <| wpC_seq <| wpC_kp <| cnd0 rfl (dlf _) <| wpC_exit <| xt <| xt <| xt <| xb <| kpN [q2 5 cI s37] (by kernel_rfl) <| xn <| wpC_seq <| reg_s <| st rfl <| mvd rfl rfl <| x_asg (ss rfl rfl) <| sq [q2 4 cI s37] <|
  xn <| wpC_ret <| re <| fin h (r1 (ss rfl rfl) <| r0) rfl)
  (fun G60 nx58 k38 s37 x39 hk40 hx41 hn59 h => wpC_seq <| reg_s <| st rfl <| b_lss (k := .i64) rfl rfl <| sq [q2 0 cc11 v0, q2 1 cc11 v1, q2 5 cI s37, q2 8 cc11 v1, q2 9 cI (v1.length : Int), q2 10 cI (k38 : Int), q2 11 cB (decide ((k38 : Int) < (v1.length : Int)))] <|
  xn <| wpC_seq <| wpC_kp <| cnd1 rfl (dlt hk40) <| wpC_skip <| kpN [q2 0 cc11 v0, q2 1 cc11 v1, q2 5 cI s37, q2 8 cc11 v1, q2 9 cI (v1.length : Int), q2 10 cI (k38 : Int)] (by kernel_rfl) <| xn <| wpC_seq <| wpC_kp <| wpC_blk <| wpC_seq <| reg_s <| st rfl <| ias rfl rfl (Int.natCast_nonneg _) hx41 rfl <| st rfl <| ldi rfl rfl rfl rfl <| x_asg (ss rfl rfl) <| sq [q2 0 cc11 v0, q2 1 cc11 v1, q2 5 cI s37, q2 7 cI x39, q2 8 cc11 v1, q2 9 cI (v1.length : Int), q2 10 cI (k38 : Int)] <|
  xn <| reg_s <| st rfl <| mvd rfl rfl <| st rfl <| mvd rfl rfl <| st rfl <| mvd rfl rfl <| getO_k h fun x65 i66 g67 h => st rfl <| ias rfl rfl i66 g67 rfl <| st rfl <| ldi rfl rfl rfl rfl <| ckI_k h fun i68 h => st rfl <| b_add (k := .i64) rfl rfl i68 <| x_asg (ss rfl rfl) <| sq [q2 0 cc11 v0, q2 1 cc11 v1, q2 5 cI (s37 + x65), q2 8 cc11 v1, q2 9 cI (v1.length : Int), q2 10 cI (k38 : Int)] <|
  xbb <| kpN [q2 0 cc11 v0, q2 1 cc11 v1, q2 5 cI (s37 + x65), q2 8 cc11 v1, q2 9 cI (v1.length : Int), q2 10 cI (k38 : Int)] (by kernel_rfl) <| xn <| reg_s <| st rfl <| b_inc rfl rfl l36 hk40 <| st rfl <| mvd rfl rfl <| sq [q2 0 cc11 v0, q2 1 cc11 v1, q2 5 cI (s37 + x65), q2 8 cc11 v1, q2 9 cI (v1.length : Int), q2 10 cI ((k38 + 1 : Nat) : Int)] <|
  xn <| hn59 (s37 + x65) h)

def rs_spec_iOthers (r : (List Int)) : List D := [cc12.enc r]
def m138 : MC := .seq (.reg [q1 4 (.asg (.c (.slice true [])))] [0, 1])
 (.seq (.reg [q1 5 (.asg (.c (.slice true [])))] [0, 1, 5])
 (.seq (.kp [5] (.seq (.reg [q1 7 (.mv (.t 0)),q1 8 (.len false (.t 7)),q1 9 (.mv (.c (.int .i64 0)))] [1, 5, 8, 9])
 (.blk 0 (.loop (.seq (.reg [q1 10 (.bin .lss (.t 9) (.t 8))] [1, 5, 8, 9, 10])
 (.seq (.kp [1, 5, 8, 9] (.cond (.t 10) (.skip) (.exit 0)))
 (.seq (.kp [1, 5, 8, 9] (.blk 1 (.seq (.reg [q1 11 (.mv (.t 9)),q1 6 (.asg (.t 11))] [1, 5, 6, 8, 9])
 (.seq (.reg [q1 12 (.mv (.t 1)),q1 13 (.mv (.t 6)),q1 14 (.call 78 [(.t 12), (.t 13)]),q1 15 (.nt (.t 14))] [1, 5, 6, 8, 9, 15])
 (.cond (.t 15) (.reg [q1 16 (.mv (.t 5)),q1 17 (.mv (.t 6)),q1 18 (.bsl [(.t 17)] 1),q1 19 (.app (.t 16) (.t 18) 1),q1 5 (.asg (.t 19))] [1, 5, 8, 9]) (.skip))))))
 (.reg [q1 20 (.bin .add (.t 9) (.c (.int .i64 1))),q1 9 (.mv (.t 20))] [1, 5, 8, 9]))))))))
 (.seq (.reg [q1 21 (.mv (.t 5)),q1 4 (.asg (.t 21))] [4])
 (.ret))))
theorem con_spec_iOthers {v0 : (List XVariable)} {v1 : (List Int)} {r : (List Int)} (h : sh_spec_iOthers v0 v1 = some r) : Con Try.prog 138 [cc4.enc v0, cc11.enc v1] [] (rs_spec_iOthers r) := by
 delta sh_spec_iOthers at h
 refine top (out := none) (f := Try.f138) (m := m138) (rs := [.t 4]) (by kernel_rfl) rfl (by kernel_rfl) (by kernel_rfl) (by kernel_rfl) (by kernel_rfl) (by kernel_rfl) ?_
 exact
  ini [q2 0 cc4 v0, q2 1 cc11 v1] rfl <| wpC_seq <| reg_s <| x_asg (sc cc12 ([] : List Int) rfl) <| sq [q2 0 cc4 v0, q2 1 cc11 v1] <|
  xn <| wpC_seq <| reg_s <| x_asg (sc cc12 ([] : List Int) rfl) <| sq [q2 0 cc4 v0, q2 1 cc11 v1, q2 5 cc12 ([] : List Int)] <|
  xn <| wpC_seq <| wpC_kp <| wpC_seq <| reg_s <| st rfl <| mvd rfl rfl <| stw rfl <| lens rfl fun l48 => st rfl <| mvc cI (0 : Int) rfl <| sq [q2 1 cc11 v1, q2 5 cc12 ([] : List Int), q2 8 cI (v0.length : Int), q2 9 cI (0 : Int)] <|
  xn <| wpC_blk <| lpR (fun (k50 : Nat) (s49 : (List Int)) => [q2 1 cc11 v1, q2 5 cc12 s49, q2 8 cI (v0.length : Int), q2 9 cI (k50 : Int)]) ([] : List Int) rfl h
  (fun G80 s49 h => wpC_seq <| reg_s <| st rfl <| b_lss (k := .i64) rfl rfl <| sq [q2 1 cc11 v1, q2 5 cc12 s49, q2 8 cI (v0.length : Int), q2 9 cI (v0.length : Int), q2 10 cB (decide ((v0.length : Int) < (v0.length : Int)))] <|
  xn <| wpC_seq <| wpC_kp <| cnd0 rfl (dlf _) <| wpC_exit <| xt <| xt <| xt <| xb <| kpN [q2 5 cc12 s49] (by kernel_rfl) <| xn <| wpC_seq <| reg_s <| st rfl <| mvo rfl rfl <| x_asg (sr rfl rfl) <| sq [q2 4 cc12 s49] <|
  xn <| wpC_ret <| re <| fin h (r1 (so rfl rfl) <| r0) rfl)
  (fun G80 nx78 k50 s49 x51 hk52 hx53 hn79 h => wpC_seq <| reg_s <| st rfl <| b_lss (k := .i64) rfl rfl <| sq [q2 1 cc11 v1, q2 5 cc12 s49, q2 8 cI (v0.length : Int), q2 9 cI (k50 : Int), q2 10 cB (decide ((k50 : Int) < (v0.length : Int)))] <|
  xn <| wpC_seq <| wpC_kp <| cnd1 rfl (dlt hk52) <| wpC_skip <| kpN [q2 1 cc11 v1, q2 5 cc12 s49, q2 8 cI (v0.length : Int), q2 9 cI (k50 : Int)] (by kernel_rfl) <| xn <| wpC_seq <| wpC_kp <| wpC_blk <| wpC_seq <| reg_s <| st rfl <| mvd rfl rfl <| x_asg (ss rfl rfl) <| sq [q2 1 cc11 v1, q2 5 cc12 s49, q2 6 cI (k50 : Int), q2 8 cI (v0.length : Int), q2 9 cI (k50 : Int)] <|
  xn <| wpC_seq <| reg_s <| st rfl <| mvd rfl rfl <| st rfl <| mvd rfl rfl <| bnd h fun x89 e90 h => st rfl <| o_call (a1 (c := cc11) (tLs tK) rfl (a1 (c := cI) tK rfl a0)) (con_spec_l1Has e90) (.inl (so1 sB so0)) <| st rfl <| o_nt rfl <| sq [q2 1 cc11 v1, q2 5 cc12 s49, q2 6 cI (k50 : Int), q2 8 cI (v0.length : Int), q2 9 cI (k50 : Int), q2 15 cB (!x89)] <|
  xn <| cnd rfl h (fun b91 h => reg_s <| st rfl <| mvo rfl rfl <| st rfl <| mvd rfl rfl <| x_bsl cI [(k50 : Int)] (t1 (ss rfl rfl) rfl t0) rfl rfl <| lnO_k h fun l92 h => x_app (sr rfl rfl) (to rfl rfl) l92 rfl <| x_asg (so rfl rfl) <| sq [q2 1 cc11 v1, q2 5 cc12 (s49 ++ [(k50 : Int)]), q2 8 cI (v0.length : Int), q2 9 cI (k50 : Int)] <|
  xbb <| kpN [q2 1 cc11 v1, q2 5 cc12 (s49 ++ [(k50 : Int)]), q2 8 cI (v0.length : Int), q2 9 cI (k50 : Int)] (by kernel_rfl) <| xn <| reg_s <| st rfl <| b_inc rfl rfl l48 hk52 <| st rfl <| mvd rfl rfl <| sq [q2 1 cc11 v1, q2 5 cc12 (s49 ++ [(k50 : Int)]), q2 8 cI (v0.length : Int), q2 9 cI ((k50 + 1 : Nat) : Int)] <|
  xn <| hn79 (s49 ++ [(k50 : Int)]) h)
  (fun b91 h => wpC_skip <| xbb <| kpN [q2 1 cc11 v1, q2 5 cc12 s49, q2 8 cI (v0.length : Int), q2 9 cI (k50 : Int)] (by kernel_rfl) <| xn <| reg_s <| st rfl <| b_inc rfl rfl l48 hk52 <| st rfl <| mvd rfl rfl <| sq [q2 1 cc11 v1, q2 5 cc12 s49, q2 8 cI (v0.length : Int), q2 9 cI ((k50 + 1 : Nat) : Int)] <|
  xn <| hn79 s49 h))

def rs_spec_iCheapest (r : ((List Int) × Int × Bool)) : List D := [cc12.enc r.1, cI.enc r.2.1, cB.enc r.2.2]
def m83 : MC := .seq (.reg [q1 8 (.asg (.c (.slice true []))),q1 9 (.asg (.c (.int .i64 0))),q1 10 (.asg (.c (.bool false)))] [0, 1, 2, 3])
 (.seq (.reg [q1 11 (.asg (.c (.slice true [])))] [0, 1, 2, 3, 11])
 (.seq (.reg [q1 12 (.asg (.c (.int .i64 0))),q1 13 (.asg (.c (.bool false)))] [0, 1, 2, 3, 11, 12, 13])
 (.seq (.kp [11, 12, 13] (.seq (.reg [q1 14 (.asg (.c (.int .i64 0)))] [0, 1, 2, 3, 11, 12, 13, 14])
 (.blk 0 (.loop (.seq (.kp [0, 1, 2, 3, 11, 12, 13, 14] (.seq (.reg [q1 19 (.mv (.t 14)),q1 20 (.mv (.t 0)),q1 21 (.len false (.t 20)),q1 22 (.cvi .u64 (.t 21)),q1 23 (.bin .shl (.c (.int .i64 1)) (.t 22)),q1 24 (.bin .lss (.t 19) (.t 23))] [0, 1, 2, 3, 11, 12, 13, 14, 24])
 (.cond (.t 24) (.skip) (.exit 0))))
 (.seq (.kp [0, 1, 2, 3, 11, 12, 13, 14] (.blk 1 (.seq (.reg [q1 27 (.mv (.t 14)),q1 28 (.call 136 [(.t 27)]),q1 15 (.asg (.t 28))] [0, 1, 2, 3, 11, 12, 13, 14, 15])
 (.seq (.reg [q1 29 (.mv (.t 2)),q1 30 (.mv (.t 15)),q1 31 (.call 137 [(.t 29), (.t 30)]),q1 16 (.asg (.t 31))] [0, 1, 2, 3, 11, 12, 13, 14, 15, 16])
 (.seq (.kp [0, 1, 2, 3, 11, 12, 13, 14, 15, 16] (.seq (.reg [q1 32 (.mv (.t 13)),q1 33 (.mv (.t 32)),
  ⟨some 34, .mv (.t 16), some (33, true)⟩,
  ⟨some 35, .mv (.t 12), some (33, true)⟩,
  ⟨some 36, .bin .gtr (.t 34) (.t 35), some (33, true)⟩,
  ⟨some 37, .mv (.t 36), some (33, true)⟩,
  ⟨some 38, .mv (.t 16), some (37, false)⟩,
  ⟨some 39, .mv (.t 12), some (37, false)⟩,
  ⟨some 40, .bin .eql (.t 38) (.t 39), some (37, false)⟩,
  ⟨some 41, .mv (.t 40), some (37, false)⟩,
  ⟨some 42, .mv (.t 15), some (41, true)⟩,
  ⟨some 43, .len false (.t 42), some (41, true)⟩,
  ⟨some 44, .mv (.t 11), some (41, true)⟩,
  ⟨some 45, .len false (.t 44), some (41, true)⟩,
  ⟨some 46, .bin .gtr (.t 43) (.t 45), some (41, true)⟩,
  ⟨some 47, .mv (.t 46), some (41, true)⟩,
  ⟨some 48, .mv (.t 15), some (47, false)⟩,
  ⟨some 49, .len false (.t 48), some (47, false)⟩,
  ⟨some 50, .mv (.t 11), some (47, false)⟩,
  ⟨some 51, .len false (.t 50), some (47, false)⟩,
  ⟨some 52, .bin .eql (.t 49) (.t 51), some (47, false)⟩,
  ⟨some 53, .mv (.t 52), some (47, false)⟩,
  ⟨some 54, .mv (.t 15), some (53, true)⟩,
  ⟨some 55, .mv (.t 11), some (53, true)⟩,
  ⟨some 56, .call 79 [(.t 54), (.t 55)], some (53, true)⟩,
  ⟨some 57, .bin .geq (.t 56) (.c (.int .i64 0)), some (53, true)⟩,
  ⟨some 58, .pick (.t 53) (.t 57) (.c (.bool false)), some (47, false)⟩,
  ⟨some 59, .pick (.t 47) (.c (.bool true)) (.t 58), some (41, true)⟩,
  ⟨some 60, .pick (.t 41) (.t 59) (.c (.bool false)), some (37, false)⟩,
  ⟨some 61, .pick (.t 37) (.c (.bool true)) (.t 60), some (33, true)⟩,q1 62 (.pick (.t 33) (.t 61) (.c (.bool false)))] [0, 1, 2, 3, 11, 12, 13, 14, 15, 16, 62])
 (.cond (.t 62) (.exit 1) (.skip))))
 (.seq (.reg [q1 64 (.mv (.t 0)),q1 65 (.mv (.t 1)),q1 66 (.mv (.t 0)),q1 67 (.mv (.t 15)),q1 68 (.call 138 [(.t 66), (.t 67)]),q1 69 (.mv (.t 3)),q1 70 (.call 72 [(.t 64), (.t 65), (.t 68), (.t 69)]),q1 63 (.mvt 70),q1 71 (.ext 63 0),q1 72 (.ext 63 1),q1 17 (.asg (.t 71)),q1 18 (.asg (.t 72))] [0, 1, 2, 3, 11, 12, 13, 14, 15, 16, 18])
 (.seq (.reg [q1 73 (.mv (.t 18))] [0, 1, 2, 3, 11, 12, 13, 14, 15, 16, 73])
 (.cond (.t 73) (.seq (.reg [q1 74 (.mv (.t 15)),q1 11 (.asg (.t 74))] [0, 1, 2, 3, 11, 14, 16])
 (.seq (.reg [q1 75 (.mv (.t 16)),q1 12 (.asg (.t 75))] [0, 1, 2, 3, 11, 12, 14])
 (.reg [q1 13 (.asg (.c (.bool true)))] [0, 1, 2, 3, 11, 12, 13, 14]))) (.skip)))))))))
 (.reg [q1 25 (.mv (.t 14)),q1 26 (.bin .add (.t 25) (.c (.int .i64 1))),q1 14 (.asg (.t 26))] [0, 1, 2, 3, 11, 12, 13, 14])))))))
 (.seq (.reg [q1 76 (.mv (.t 11)),q1 77 (.mv (.t 12)),q1 78 (.mv (.t 13)),q1 8 (.asg (.t 76)),q1 9 (.asg (.t 77)),q1 10 (.asg (.t 78))] [8, 9, 10])
 (.ret)))))
theorem con_spec_iCheapest {v0 : (List XVariable)} {v1 : (List XEdit)} {v2 : (List Int)} {v3 : (List Int)} {r : ((List Int) × Int × Bool)} (h : sh_spec_iCheapest v0 v1 v2 v3 = some r) : Con Try.prog 83 [cc4.enc v0, cc1.enc v1, cc11.enc v2, cc11.enc v3] [] (rs_spec_iCheapest r) := by
 delta sh_spec_iCheapest at h
 refine top (out := none) (f := Try.f83) (m := m83) (rs := [.t 8, .t 9, .t 10]) (by kernel_rfl) rfl (by kernel_rfl) (by kernel_rfl) (by kernel_rfl) (by kernel_rfl) (by kernel_rfl) ?_
 exact
  ini [q2 0 cc4 v0, q2 1 cc1 v1, q2 2 cc11 v2, q2 3 cc11 v3] rfl <| wpC_seq <| reg_s <| x_asg (sc cc12 ([] : List Int) rfl) <| x_asg (sc cI (0 : Int) rfl) <| x_asg (sc cB false rfl) <| sq [q2 0 cc4 v0, q2 1 cc1 v1, q2 2 cc11 v2, q2 3 cc11 v3] <|
  xn <| wpC_seq <| reg_s <| x_asg (sc cc12 ([] : List Int) rfl) <| sq [q2 0 cc4 v0, q2 1 cc1 v1, q2 2 cc11 v2, q2 3 cc11 v3, q2 11 cc12 ([] : List Int)] <|
  xn <| wpC_seq <| reg_s <| x_asg (sc cI (0 : Int) rfl) <| x_asg (sc cB false rfl) <| sq [q2 0 cc4 v0, q2 1 cc1 v1, q2 2 cc11 v2, q2 3 cc11 v3, q2 11 cc12 ([] : List Int), q2 12 cI (0 : Int), q2 13 cB false] <|
  xn <| wpC_seq <| wpC_kp <| wpC_seq <| reg_s <| x_asg (sc cI (0 : Int) rfl) <| sq [q2 0 cc4 v0, q2 1 cc1 v1, q2 2 cc11 v2, q2 3 cc11 v3, q2 11 cc12 ([] : List Int), q2 12 cI (0 : Int), q2 13 cB false, q2 14 cI (0 : Int)] <|
  xn <| wpC_blk <| lpF (fun (s373 : ((List Int) × Int × Bool × Int)) => [q2 0 cc4 v0, q2 1 cc1 v1, q2 2 cc11 v2, q2 3 cc11 v3, q2 11 cc12 s373.1, q2 12 cI s373.2.1, q2 13 cB s373.2.2.1, q2 14 cI s373.2.2.2]) (([] : List Int), (0 : Int), false, (0 : Int)) rfl h
  fun G589 nx587 s373 hn588 h => wpC_seq <| wpC_kp <| wpC_seq <| reg_s <| st rfl <| mvd rfl rfl <| st rfl <| mvd rfl rfl <| stw rfl <| lens rfl fun l603 => ckK_k h fun i604 h => st rfl <| o_cvi (k := .i64) (k' := .u64) rfl i604 <| ck_k h fun i605 h => ckI_k h fun i606 h => st rfl <| b_shl (k := .i64) (k' := .u64) rfl rfl i605 rfl i606 <| st rfl <| b_lss (k := .i64) rfl rfl <| sq [q2 0 cc4 v0, q2 1 cc1 v1, q2 2 cc11 v2, q2 3 cc11 v3, q2 11 cc12 s373.1, q2 12 cI s373.2.1, q2 13 cB s373.2.2.1, q2 14 cI s373.2.2.2, q2 24 cB (decide (s373.2.2.2 < ((1 : Int) * 2 ^ ((v0.length : Int)).toNat)))] <|
  xn <| cnd rfl h (fun b607 h => wpC_skip <| kpN [q2 0 cc4 v0, q2 1 cc1 v1, q2 2 cc11 v2, q2 3 cc11 v3, q2 11 cc12 s373.1, q2 12 cI s373.2.1, q2 13 cB s373.2.2.1, q2 14 cI s373.2.2.2] (by kernel_rfl) <| xn <| wpC_seq <| wpC_kp <| wpC_blk <| wpC_seq <| reg_s <| st rfl <| mvd rfl rfl <| bnd h fun x677 e678 h => st rfl <| o_call (a1 (c := cI) tK rfl a0) (con_spec_iBits e678) (.inl (so1 (sLo sK) so0)) <| x_asg (so rfl rfl) <| sq [q2 0 cc4 v0, q2 1 cc1 v1, q2 2 cc11 v2, q2 3 cc11 v3, q2 11 cc12 s373.1, q2 12 cI s373.2.1, q2 13 cB s373.2.2.1, q2 14 cI s373.2.2.2, q2 15 cc12 x677] <|
  xn <| wpC_seq <| reg_s <| st rfl <| mvd rfl rfl <| st rfl <| mvo rfl rfl <| bnd h fun x681 e682 h => st rfl <| o_call (a1 (c := cc11) (tLs tK) rfl (a1 (c := cc12) (tLo tK) rfl a0)) (con_spec_iSum e682) (.inl (so1 sK so0)) <| x_asg (ss rfl rfl) <| sq [q2 0 cc4 v0, q2 1 cc1 v1, q2 2 cc11 v2, q2 3 cc11 v3, q2 11 cc12 s373.1, q2 12 cI s373.2.1, q2 13 cB s373.2.2.1, q2 14 cI s373.2.2.2, q2 15 cc12 x677, q2 16 cI x681] <|
  xn <| wpC_seq <| wpC_kp <| wpC_seq <| jw (fun (s719 : Bool) => [q2 0 cc4 v0, q2 1 cc1 v1, q2 2 cc11 v2, q2 3 cc11 v3, q2 11 cc12 s373.1, q2 12 cI s373.2.1, q2 13 cB s373.2.2.1, q2 14 cI s373.2.2.2, q2 15 cc12 x677, q2 16 cI x681, q2 62 cB s719]) h (fun s719 h => xn <| cnd rfl h (fun b721 h => wpC_exit <| xt <| xt <| xb <| kpN [q2 0 cc4 v0, q2 1 cc1 v1, q2 2 cc11 v2, q2 3 cc11 v3, q2 11 cc12 s373.1, q2 12 cI s373.2.1, q2 13 cB s373.2.2.1, q2 14 cI s373.2.2.2] (by kernel_rfl) <| xn <| reg_s <| st rfl <| mvd rfl rfl <| ckI_k h fun i722 h => st rfl <| b_add (k := .i64) rfl rfl i722 <| x_asg (ss rfl rfl) <| sq [q2 0 cc4 v0, q2 1 cc1 v1, q2 2 cc11 v2, q2 3 cc11 v3, q2 11 cc12 s373.1, q2 12 cI s373.2.1, q2 13 cB s373.2.2.1, q2 14 cI (s373.2.2.2 + (1 : Int))] <|
  xn <| hn588 (s373.1, s373.2.1, s373.2.2.1, (s373.2.2.2 + (1 : Int))) h)
  (fun b721 h => wpC_skip <| kpN [q2 0 cc4 v0, q2 1 cc1 v1, q2 2 cc11 v2, q2 3 cc11 v3, q2 11 cc12 s373.1, q2 12 cI s373.2.1, q2 13 cB s373.2.2.1, q2 14 cI s373.2.2.2, q2 15 cc12 x677, q2 16 cI x681] (by kernel_rfl) <| xn <| wpC_seq <| reg_s <| st rfl <| mvd rfl rfl <| st rfl <| mvd rfl rfl <| st rfl <| mvd rfl rfl <| st rfl <| mvo rfl rfl <| bnd h fun x727 e728 h => st rfl <| o_call (a1 (c := cc4) (tLs (tXVariable tS tK)) rfl (a1 (c := cc12) (tLo tK) rfl a0)) (con_spec_iOthers e728) (.inl (so1 (sLo sK) so0)) <| st rfl <| mvd rfl rfl <| bnd h fun x729 e730 h => st rfl <| o_call (a1 (c := cc4) (tLs (tXVariable tS tK)) rfl (a1 (c := cc1) (tLs (tXEdit (tLs tK))) rfl (a1 (c := cc12) (tLo tK) rfl (a1 (c := cc11) (tLs tK) rfl a0)))) (con_spec_eComplete e730) (.inl (so1 (sLo sK) (so1 sB so0))) <| x_mvt rfl <| x_ext rfl rfl <| x_ext rfl rfl <| x_asg (so rfl rfl) <| x_asg (ss rfl rfl) <| sq [q2 0 cc4 v0, q2 1 cc1 v1, q2 2 cc11 v2, q2 3 cc11 v3, q2 11 cc12 s373.1, q2 12 cI s373.2.1, q2 13 cB s373.2.2.1, q2 14 cI s373.2.2.2, q2 15 cc12 x677, q2 16 cI x681, q2 18 cB x729.2] <|
  xn <| wpC_seq <| reg_s <| st rfl <| mvd rfl rfl <| sq [q2 0 cc4 v0, q2 1 cc1 v1, q2 2 cc11 v2, q2 3 cc11 v3, q2 11 cc12 s373.1, q2 12 cI s373.2.1, q2 13 cB s373.2.2.1, q2 14 cI s373.2.2.2, q2 15 cc12 x677, q2 16 cI x681, q2 73 cB x729.2] <|
  xn <| cnd rfl h (fun b731 h => wpC_seq <| reg_s <| st rfl <| mvo rfl rfl <| x_asg (sr rfl rfl) <| sq [q2 0 cc4 v0, q2 1 cc1 v1, q2 2 cc11 v2, q2 3 cc11 v3, q2 11 cc12 x677, q2 14 cI s373.2.2.2, q2 16 cI x681] <|
  xn <| wpC_seq <| reg_s <| st rfl <| mvd rfl rfl <| x_asg (ss rfl rfl) <| sq [q2 0 cc4 v0, q2 1 cc1 v1, q2 2 cc11 v2, q2 3 cc11 v3, q2 11 cc12 x677, q2 12 cI x681, q2 14 cI s373.2.2.2] <|
  xn <| reg_s <| x_asg (sc cB true rfl) <| sq [q2 0 cc4 v0, q2 1 cc1 v1, q2 2 cc11 v2, q2 3 cc11 v3, q2 11 cc12 x677, q2 12 cI x681, q2 13 cB true, q2 14 cI s373.2.2.2] <|
  xbb <| kpN [q2 0 cc4 v0, q2 1 cc1 v1, q2 2 cc11 v2, q2 3 cc11 v3, q2 11 cc12 x677, q2 12 cI x681, q2 13 cB true, q2 14 cI s373.2.2.2] (by kernel_rfl) <| xn <| reg_s <| st rfl <| mvd rfl rfl <| ckI_k h fun i732 h => st rfl <| b_add (k := .i64) rfl rfl i732 <| x_asg (ss rfl rfl) <| sq [q2 0 cc4 v0, q2 1 cc1 v1, q2 2 cc11 v2, q2 3 cc11 v3, q2 11 cc12 x677, q2 12 cI x681, q2 13 cB true, q2 14 cI (s373.2.2.2 + (1 : Int))] <|
  xn <| hn588 (x677, x681, true, (s373.2.2.2 + (1 : Int))) h)
  (fun b731 h => wpC_skip <| xbb <| kpN [q2 0 cc4 v0, q2 1 cc1 v1, q2 2 cc11 v2, q2 3 cc11 v3, q2 11 cc12 s373.1, q2 12 cI s373.2.1, q2 13 cB s373.2.2.1, q2 14 cI s373.2.2.2] (by kernel_rfl) <| xn <| reg_s <| st rfl <| mvd rfl rfl <| ckI_k h fun i733 h => st rfl <| b_add (k := .i64) rfl rfl i733 <| x_asg (ss rfl rfl) <| sq [q2 0 cc4 v0, q2 1 cc1 v1, q2 2 cc11 v2, q2 3 cc11 v3, q2 11 cc12 s373.1, q2 12 cI s373.2.1, q2 13 cB s373.2.2.1, q2 14 cI (s373.2.2.2 + (1 : Int))] <|
  xn <| hn588 (s373.1, s373.2.1, s373.2.2.1, (s373.2.2.2 + (1 : Int))) h)))
  fun s719' q720 h => reg_s <| st rfl <| mvd rfl rfl <| st rfl <| mvd rfl rfl <| ite_k h (fun b734 h => gt' rfl b734 <| st rfl <| mvd rfl rfl <| gt' rfl b734 <| st rfl <| mvd rfl rfl <| gt' rfl b734 <| st rfl <| b_gtr (k := .i64) rfl rfl <| gt' rfl b734 <| st rfl <| mvd rfl rfl <| ite_k h (fun b735 h => gf rfl b735 <| gf rfl b735 <| gf rfl b735 <| gf rfl b735 <| gu rfl <| gu rfl <| gu rfl <| gu rfl <| gu rfl <| gu rfl <| gu rfl <| gu rfl <| gu rfl <| gu rfl <| gu rfl <| gu rfl <| gu rfl <| gu rfl <| gu rfl <| gu rfl <| gu rfl <| gu rfl <| gf rfl b735 <| gt' rfl b734 <| st rfl <| pick1 rfl b735 (cd := cB) (v := true) rfl rfl <| st rfl <| pick1 rfl b734 (cd := cB) (v := true) rfl rfl <| sq [q2 0 cc4 v0, q2 1 cc1 v1, q2 2 cc11 v2, q2 3 cc11 v3, q2 11 cc12 s373.1, q2 12 cI s373.2.1, q2 13 cB s373.2.2.1, q2 14 cI s373.2.2.2, q2 15 cc12 x677, q2 16 cI x681, q2 62 cB true] <|
  lfn (S := (fun (s719 : Bool) => [q2 0 cc4 v0, q2 1 cc1 v1, q2 2 cc11 v2, q2 3 cc11 v3, q2 11 cc12 s373.1, q2 12 cI s373.2.1, q2 13 cB s373.2.2.1, q2 14 cI s373.2.2.2, q2 15 cc12 x677, q2 16 cI x681, q2 62 cB s719])) h q720 rfl)
  (fun b735 h => gt' rfl b735 <| st rfl <| mvd rfl rfl <| gt' rfl b735 <| st rfl <| mvd rfl rfl <| gt' rfl b735 <| st rfl <| b_eql (k := .i64) rfl rfl <| gt' rfl b735 <| st rfl <| mvd rfl rfl <| ite_k h (fun b736 h => gt' rfl b736 <| st rfl <| mvo rfl rfl <| gt' rfl b736 <| stw rfl <| leno rfl fun l737 => gt' rfl b736 <| st rfl <| mvo rfl rfl <| gt' rfl b736 <| stw rfl <| leno rfl fun l738 => gt' rfl b736 <| st rfl <| b_gtr (k := .i64) rfl rfl <| gt' rfl b736 <| st rfl <| mvd rfl rfl <| ite_k h (fun b739 h => gf rfl b739 <| gf rfl b739 <| gf rfl b739 <| gf rfl b739 <| gf rfl b739 <| gf rfl b739 <| gu rfl <| gu rfl <| gu rfl <| gu rfl <| gf rfl b739 <| gt' rfl b736 <| st rfl <| pick1 rfl b739 (cd := cB) (v := true) rfl rfl <| gt' rfl b735 <| st rfl <| pick1 rfl b736 (cd := cB) (v := true) rfl rfl <| gt' rfl b734 <| st rfl <| pick0 rfl b735 (cd := cB) (v := true) rfl rfl <| st rfl <| pick1 rfl b734 (cd := cB) (v := true) rfl rfl <| sq [q2 0 cc4 v0, q2 1 cc1 v1, q2 2 cc11 v2, q2 3 cc11 v3, q2 11 cc12 s373.1, q2 12 cI s373.2.1, q2 13 cB s373.2.2.1, q2 14 cI s373.2.2.2, q2 15 cc12 x677, q2 16 cI x681, q2 62 cB true] <|
  lfn (S := (fun (s719 : Bool) => [q2 0 cc4 v0, q2 1 cc1 v1, q2 2 cc11 v2, q2 3 cc11 v3, q2 11 cc12 s373.1, q2 12 cI s373.2.1, q2 13 cB s373.2.2.1, q2 14 cI s373.2.2.2, q2 15 cc12 x677, q2 16 cI x681, q2 62 cB s719])) h q720 rfl)
  (fun b739 h => gt' rfl b739 <| st rfl <| mvo rfl rfl <| gt' rfl b739 <| stw rfl <| leno rfl fun l740 => gt' rfl b739 <| st rfl <| mvo rfl rfl <| gt' rfl b739 <| stw rfl <| leno rfl fun l741 => gt' rfl b739 <| st rfl <| b_eql (k := .i64) rfl rfl <| gt' rfl b739 <| st rfl <| mvd rfl rfl <| ite_k h (fun b742 h => gt' rfl b742 <| st rfl <| mvo rfl rfl <| gt' rfl b742 <| st rfl <| mvo rfl rfl <| gt' rfl b742 <| bnd h fun x743 e744 h => st rfl <| o_call (a1 (c := cc12) (tLo tK) rfl (a1 (c := cc12) (tLo tK) rfl a0)) (con_spec_l1Less e744) (.inl (so1 sK so0)) <| gt' rfl b742 <| st rfl <| b_geq (k := .i64) rfl rfl <| gt' rfl b739 <| st rfl <| pick1 rfl b742 (cd := cB) (v := (decide ((0 : Int) ≤ x743))) rfl rfl <| gt' rfl b736 <| st rfl <| pick0 rfl b739 (cd := cB) (v := (decide ((0 : Int) ≤ x743))) rfl rfl <| gt' rfl b735 <| st rfl <| pick1 rfl b736 (cd := cB) (v := (decide ((0 : Int) ≤ x743))) rfl rfl <| gt' rfl b734 <| st rfl <| pick0 rfl b735 (cd := cB) (v := (decide ((0 : Int) ≤ x743))) rfl rfl <| st rfl <| pick1 rfl b734 (cd := cB) (v := (decide ((0 : Int) ≤ x743))) rfl rfl <| sq [q2 0 cc4 v0, q2 1 cc1 v1, q2 2 cc11 v2, q2 3 cc11 v3, q2 11 cc12 s373.1, q2 12 cI s373.2.1, q2 13 cB s373.2.2.1, q2 14 cI s373.2.2.2, q2 15 cc12 x677, q2 16 cI x681, q2 62 cB (decide ((0 : Int) ≤ x743))] <|
  lfn (S := (fun (s719 : Bool) => [q2 0 cc4 v0, q2 1 cc1 v1, q2 2 cc11 v2, q2 3 cc11 v3, q2 11 cc12 s373.1, q2 12 cI s373.2.1, q2 13 cB s373.2.2.1, q2 14 cI s373.2.2.2, q2 15 cc12 x677, q2 16 cI x681, q2 62 cB s719])) h q720 rfl)
  (fun b742 h => gf rfl b742 <| gf rfl b742 <| gf rfl b742 <| gf rfl b742 <| gt' rfl b739 <| st rfl <| pick0 rfl b742 (cd := cB) (v := false) rfl rfl <| gt' rfl b736 <| st rfl <| pick0 rfl b739 (cd := cB) (v := false) rfl rfl <| gt' rfl b735 <| st rfl <| pick1 rfl b736 (cd := cB) (v := false) rfl rfl <| gt' rfl b734 <| st rfl <| pick0 rfl b735 (cd := cB) (v := false) rfl rfl <| st rfl <| pick1 rfl b734 (cd := cB) (v := false) rfl rfl <| sq [q2 0 cc4 v0, q2 1 cc1 v1, q2 2 cc11 v2, q2 3 cc11 v3, q2 11 cc12 s373.1, q2 12 cI s373.2.1, q2 13 cB s373.2.2.1, q2 14 cI s373.2.2.2, q2 15 cc12 x677, q2 16 cI x681, q2 62 cB false] <|
  lfn (S := (fun (s719 : Bool) => [q2 0 cc4 v0, q2 1 cc1 v1, q2 2 cc11 v2, q2 3 cc11 v3, q2 11 cc12 s373.1, q2 12 cI s373.2.1, q2 13 cB s373.2.2.1, q2 14 cI s373.2.2.2, q2 15 cc12 x677, q2 16 cI x681, q2 62 cB s719])) h q720 rfl)))
  (fun b736 h => gf rfl b736 <| gf rfl b736 <| gf rfl b736 <| gf rfl b736 <| gf rfl b736 <| gf rfl b736 <| gu rfl <| gu rfl <| gu rfl <| gu rfl <| gu rfl <| gu rfl <| gu rfl <| gu rfl <| gu rfl <| gu rfl <| gu rfl <| gf rfl b736 <| gt' rfl b735 <| st rfl <| pick0 rfl b736 (cd := cB) (v := false) rfl rfl <| gt' rfl b734 <| st rfl <| pick0 rfl b735 (cd := cB) (v := false) rfl rfl <| st rfl <| pick1 rfl b734 (cd := cB) (v := false) rfl rfl <| sq [q2 0 cc4 v0, q2 1 cc1 v1, q2 2 cc11 v2, q2 3 cc11 v3, q2 11 cc12 s373.1, q2 12 cI s373.2.1, q2 13 cB s373.2.2.1, q2 14 cI s373.2.2.2, q2 15 cc12 x677, q2 16 cI x681, q2 62 cB false] <|
  lfn (S := (fun (s719 : Bool) => [q2 0 cc4 v0, q2 1 cc1 v1, q2 2 cc11 v2, q2 3 cc11 v3, q2 11 cc12 s373.1, q2 12 cI s373.2.1, q2 13 cB s373.2.2.1, q2 14 cI s373.2.2.2, q2 15 cc12 x677, q2 16 cI x681, q2 62 cB s719])) h q720 rfl)))
  (fun b734 h => gf rfl b734 <| gf rfl b734 <| gf rfl b734 <| gf rfl b734 <| gu rfl <| gu rfl <| gu rfl <| gu rfl <| gu rfl <| gu rfl <| gu rfl <| gu rfl <| gu rfl <| gu rfl <| gu rfl <| gu rfl <| gu rfl <| gu rfl <| gu rfl <| gu rfl <| gu rfl <| gu rfl <| gu rfl <| gu rfl <| gu rfl <| gu rfl <| gu rfl <| gf rfl b734 <| st rfl <| pick0 rfl b734 (cd := cB) (v := false) rfl rfl <| sq [q2 0 cc4 v0, q2 1 cc1 v1, q2 2 cc11 v2, q2 3 cc11 v3, q2 11 cc12 s373.1, q2 12 cI s373.2.1, q2 13 cB s373.2.2.1, q2 14 cI s373.2.2.2, q2 15 cc12 x677, q2 16 cI x681, q2 62 cB false] <|
  lfn (S := (fun (s719 : Bool) => [q2 0 cc4 v0, q2 1 cc1 v1, q2 2 cc11 v2, q2 3 cc11 v3, q2 11 cc12 s373.1, q2 12 cI s373.2.1, q2 13 cB s373.2.2.1, q2 14 cI s373.2.2.2, q2 15 cc12 x677, q2 16 cI x681, q2 62 cB s719])) h q720 rfl))
  (fun b607 h => wpC_exit <| xt <| xt <| xt <| xb <| kpN [q2 11 cc12 s373.1, q2 12 cI s373.2.1, q2 13 cB s373.2.2.1] (by kernel_rfl) <| xn <| wpC_seq <| reg_s <| st rfl <| mvo rfl rfl <| st rfl <| mvd rfl rfl <| st rfl <| mvd rfl rfl <| x_asg (sr rfl rfl) <| x_asg (ss rfl rfl) <| x_asg (ss rfl rfl) <| sq [q2 8 cc12 s373.1, q2 9 cI s373.2.1, q2 10 cB s373.2.2.1] <|
  xn <| wpC_ret <| re <| fin h (r1 (so rfl rfl) <| r1 (ss rfl rfl) <| r1 (ss rfl rfl) <| r0) rfl)

def rs_impl_areWeights (r : Bool) : List D := [cB.enc r]
def m139 : MC := .seq (.reg [q1 4 (.asg (.c (.bool false)))] [0, 1])
 (.seq (.kp [1] (.seq (.reg [q1 7 (.mv (.t 1)),q1 8 (.len false (.t 7)),q1 9 (.mv (.t 0)),q1 10 (.len false (.t 9)),q1 11 (.bin .neq (.t 8) (.t 10))] [1, 11])
 (.cond (.t 11) (.seq (.reg [q1 4 (.asg (.c (.bool false)))] [4])
 (.ret)) (.skip))))
 (.seq (.kp [] (.seq (.reg [q1 12 (.mv (.t 1)),q1 13 (.len false (.t 12)),q1 14 (.mv (.c (.int .i64 0)))] [1, 12, 13, 14])
 (.blk 0 (.loop (.seq (.reg [q1 15 (.bin .lss (.t 14) (.t 13))] [1, 12, 13, 14, 15])
 (.seq (.kp [1, 12, 13, 14] (.cond (.t 15) (.skip) (.exit 0)))
 (.seq (.kp [1, 12, 13, 14] (.blk 1 (.seq (.reg [q1 16 (.ia 12 (.t 14) 1),q1 17 (.ld 16 1 false),q1 6 (.asg (.t 17))] [1, 6, 12, 13, 14])
 (.seq (.reg [q1 18 (.mv (.t 6)),q1 19 (.bin .lss (.t 18) (.c (.int .i64 1))),q1 20 (.mv (.t 19)),
  ⟨some 21, .mv (.t 6), some (20, false)⟩,
  ⟨some 22, .bin .gtr (.t 21) (.c (.int .i64 100)), some (20, false)⟩,q1 23 (.pick (.t 20) (.c (.bool true)) (.t 22))] [1, 12, 13, 14, 23])
 (.cond (.t 23) (.seq (.reg [q1 4 (.asg (.c (.bool false)))] [4])
 (.ret)) (.skip))))))
 (.reg [q1 24 (.bin .add (.t 14) (.c (.int .i64 1))),q1 14 (.mv (.t 24))] [1, 12, 13, 14]))))))))
 (.seq (.reg [q1 4 (.asg (.c (.bool true)))] [4])
 (.ret))))
theorem con_impl_areWeights {v0 : (List XVariable)} {v1 : (List Int)} {r : Bool} (h : sh_impl_areWeights v0 v1 = some r) : Con Try.prog 139 [cc4.enc v0, cc11.enc v1] [] (rs_impl_areWeights r) := by
 delta sh_impl_areWeights at h
 refine top (out := none) (f := Try.f139) (m := m139) (rs := [.t 4]) (by kernel_rfl) rfl (by kernel_rfl) (by kernel_rfl) (by kernel_rfl) (by kernel_rfl) (by kernel_rfl) ?_
 exact
  ini [q2 0 cc4 v0, q2 1 cc11 v1] rfl <| wpC_seq <| reg_s <| x_asg (sc cB false rfl) <| sq [q2 0 cc4 v0, q2 1 cc11 v1] <|
  xn <| wpC_seq <| wpC_kp <| wpC_seq <| reg_s <| st rfl <| mvd rfl rfl <| stw rfl <| lens rfl fun l8 => st rfl <| mvd rfl rfl <| stw rfl <| lens rfl fun l9 => st rfl <| b_neq (k := .i64) rfl rfl <| sq [q2 1 cc11 v1, q2 11 cB (decide ((v1.length : Int) ≠ (v0.length : Int)))] <|
  xn <| cnd rfl h (fun b10 h => wpC_seq <| reg_s <| x_asg (sc cB false rfl) <| sq [q2 4 cB false] <|
  xn <| wpC_ret <| rt <| rt <| re <| fin h (r1 (ss rfl rfl) <| r0) rfl)
  (fun b10 h => wpC_skip <| kpN [q2 1 cc11 v1] (by kernel_rfl) <| xn <| wpC_seq <| wpC_kp <| wpC_seq <| reg_s <| st rfl <| mvd rfl rfl <| stw rfl <| lens rfl fun l34 => st rfl <| mvc cI (0 : Int) rfl <| sq [q2 1 cc11 v1, q2 12 cc11 v1, q2 13 cI (v1.length : Int), q2 14 cI (0 : Int)] <|
  xn <| wpC_blk <| lpR (fun (k36 : Nat) (s35 : Unit) => [q2 1 cc11 v1, q2 12 cc11 v1, q2 13 cI (v1.length : Int), q2 14 cI (k36 : Int)]) () rfl h
  (fun G48 s35 h => wpC_seq <| reg_s <| st rfl <| b_lss (k := .i64) rfl rfl <| sq [q2 1 cc11 v1, q2 12 cc11 v1, q2 13 cI (v1.length : Int), q2 14 cI (v1.length : Int), q2 15 cB (decide ((v1.length : Int) < (v1.length : Int)))] <|
  xn <| wpC_seq <| wpC_kp <| cnd0 rfl (dlf _) <| wpC_exit <| xt <| xt <| xt <| xb <| kpN [] (by kernel_rfl) <| xn <| wpC_seq <| reg_s <| x_asg (sc cB true rfl) <| sq [q2 4 cB true] <|
  xn <| wpC_ret <| re <| fin h (r1 (ss rfl rfl) <| r0) rfl)
  (fun G48 nx46 k36 s35 x37 hk38 hx39 hn47 h => wpC_seq <| reg_s <| st rfl <| b_lss (k := .i64) rfl rfl <| sq [q2 1 cc11 v1, q2 12 cc11 v1, q2 13 cI (v1.length : Int), q2 14 cI (k36 : Int), q2 15 cB (decide ((k36 : Int) < (v1.length : Int)))] <|
  xn <| wpC_seq <| wpC_kp <| cnd1 rfl (dlt hk38) <| wpC_skip <| kpN [q2 1 cc11 v1, q2 12 cc11 v1, q2 13 cI (v1.length : Int), q2 14 cI (k36 : Int)] (by kernel_rfl) <| xn <| wpC_seq <| wpC_kp <| wpC_blk <| wpC_seq <| reg_s <| st rfl <| ias rfl rfl (Int.natCast_nonneg _) hx39 rfl <| st rfl <| ldi rfl rfl rfl rfl <| x_asg (ss rfl rfl) <| sq [q2 1 cc11 v1, q2 6 cI x37, q2 12 cc11 v1, q2 13 cI (v1.length : Int), q2 14 cI (k36 : Int)] <|
  xn <| wpC_seq <| reg_s <| st rfl <| mvd rfl rfl <| st rfl <| b_lss (k := .i64) rfl rfl <| st rfl <| mvd rfl rfl <| ite_k h (fun b53 h => gf rfl b53 <| gf rfl b53 <| st rfl <| pick1 rfl b53 (cd := cB) (v := true) rfl rfl <| sq [q2 1 cc11 v1, q2 12 cc11 v1, q2 13 cI (v1.length : Int), q2 14 cI (k36 : Int), q2 23 cB true] <|
  xn <| cnd1 rfl rfl <| wpC_seq <| reg_s <| x_asg (sc cB false rfl) <| sq [q2 4 cB false] <|
  xn <| wpC_ret <| rb <| rt <| rt <| rt <| rb <| rt <| rt <| re <| fin h (r1 (ss rfl rfl) <| r0) rfl)
  (fun b53 h => gt' rfl b53 <| st rfl <| mvd rfl rfl <| gt' rfl b53 <| st rfl <| b_gtr (k := .i64) rfl rfl <| st rfl <| pick0 rfl b53 (cd := cB) (v := (decide ((100 : Int) < x37))) rfl rfl <| sq [q2 1 cc11 v1, q2 12 cc11 v1, q2 13 cI (v1.length : Int), q2 14 cI (k36 : Int), q2 23 cB (decide ((100 : Int) < x37))] <|
  xn <| cnd rfl h (fun b54 h => wpC_seq <| reg_s <| x_asg (sc cB false rfl) <| sq [q2 4 cB false] <|
  xn <| wpC_ret <| rb <| rt <| rt <| rt <| rb <| rt <| rt <| re <| fin h (r1 (ss rfl rfl) <| r0) rfl)
  (fun b54 h => wpC_skip <| xbb <| kpN [q2 1 cc11 v1, q2 12 cc11 v1, q2 13 cI (v1.length : Int), q2 14 cI (k36 : Int)] (by kernel_rfl) <| xn <| reg_s <| st rfl <| b_inc rfl rfl l34 hk38 <| st rfl <| mvd rfl rfl <| sq [q2 1 cc11 v1, q2 12 cc11 v1, q2 13 cI (v1.length : Int), q2 14 cI ((k36 + 1 : Nat) : Int)] <|
  xn <| hn47 () h))))

def rs_impl_isMendable (r : Bool) : List D := [cB.enc r]
def m84 : MC := .seq (.reg [q1 6 (.asg (.c (.bool false)))] [0, 1, 2])
 (.seq (.reg [q1 7 (.mv (.t 0)),q1 8 (.call 73 [(.t 7)]),q1 9 (.mv (.t 8)),
  ⟨some 10, .mv (.t 0), some (9, true)⟩,
  ⟨some 11, .mv (.t 1), some (9, true)⟩,
  ⟨some 12, .call 64 [(.t 10), (.t 11)], some (9, true)⟩,q1 13 (.pick (.t 9) (.t 12) (.c (.bool false))),q1 14 (.mv (.t 13)),
  ⟨some 15, .mv (.t 0), some (14, true)⟩,
  ⟨some 16, .mv (.t 2), some (14, true)⟩,
  ⟨some 17, .call 139 [(.t 15), (.t 16)], some (14, true)⟩,q1 18 (.pick (.t 14) (.t 17) (.c (.bool false))),q1 6 (.asg (.t 18))] [6])
 (.ret))
theorem con_impl_isMendable {v0 : (List XVariable)} {v1 : (List XEdit)} {v2 : (List Int)} {r : Bool} (h : sh_impl_isMendable v0 v1 v2 = some r) : Con Try.prog 84 [cc4.enc v0, cc1.enc v1, cc11.enc v2] [] (rs_impl_isMendable r) := by
 delta sh_impl_isMendable at h
 refine top (out := none) (f := Try.f84) (m := m84) (rs := [.t 6]) (by kernel_rfl) rfl (by kernel_rfl) (by kernel_rfl) (by kernel_rfl) (by kernel_rfl) (by kernel_rfl) ?_
 exact
  ini [q2 0 cc4 v0, q2 1 cc1 v1, q2 2 cc11 v2] rfl <| wpC_seq <| reg_s <| x_asg (sc cB false rfl) <| sq [q2 0 cc4 v0, q2 1 cc1 v1, q2 2 cc11 v2] <|
  xn <| wpC_seq <| reg_s <| st rfl <| mvd rfl rfl <| bnd h fun x9 e10 h => st rfl <| o_call (a1 (c := cc4) (tLs (tXVariable tS tK)) rfl a0) (con_impl_isSmall e10) (.inl (so1 sB so0)) <| st rfl <| mvd rfl rfl <| ite_k h (fun b11 h => gt' rfl b11 <| st rfl <| mvd rfl rfl <| gt' rfl b11 <| st rfl <| mvd rfl rfl <| gt' rfl b11 <| bnd h fun x12 e13 h => st rfl <| o_call (a1 (c := cc4) (tLs (tXVariable tS tK)) rfl (a1 (c := cc1) (tLs (tXEdit (tLs tK))) rfl a0)) (con_impl_areEdits e13) (.inl (so1 sB so0)) <| st rfl <| pick1 rfl b11 (cd := cB) (v := x12) rfl rfl <| st rfl <| mvd rfl rfl <| ite_k h (fun b14 h => gt' rfl b14 <| st rfl <| mvd rfl rfl <| gt' rfl b14 <| st rfl <| mvd rfl rfl <| gt' rfl b14 <| bnd h fun x15 e16 h => st rfl <| o_call (a1 (c := cc4) (tLs (tXVariable tS tK)) rfl (a1 (c := cc11) (tLs tK) rfl a0)) (con_impl_areWeights e16) (.inl (so1 sB so0)) <| st rfl <| pick1 rfl b14 (cd := cB) (v := x15) rfl rfl <| x_asg (ss rfl rfl) <| sq [q2 6 cB x15] <|
  xn <| wpC_ret <| re <| fin h (r1 (ss rfl rfl) <| r0) rfl)
  (fun b14 h => gf rfl b14 <| gf rfl b14 <| gf rfl b14 <| st rfl <| pick0 rfl b14 (cd := cB) (v := false) rfl rfl <| x_asg (ss rfl rfl) <| sq [q2 6 cB false] <|
  xn <| wpC_ret <| re <| fin h (r1 (ss rfl rfl) <| r0) rfl))
  (fun b11 h => gf rfl b11 <| gf rfl b11 <| gf rfl b11 <| st rfl <| pick0 rfl b11 (cd := cB) (v := false) rfl rfl <| st rfl <| mvd rfl rfl <| gf rfl rfl <| gf rfl rfl <| gf rfl rfl <| st rfl <| pick0 rfl rfl (cd := cB) (v := false) rfl rfl <| x_asg (ss rfl rfl) <| sq [q2 6 cB false] <|
  xn <| wpC_ret <| re <| fin h (r1 (ss rfl rfl) <| r0) rfl)

def rs_impl_weightOf (r : Int) : List D := [cI.enc r]
def m86 : MC := .seq (.reg [q1 4 (.asg (.c (.int .i64 0)))] [0, 1])
 (.seq (.reg [q1 5 (.asg (.c (.int .i64 0)))] [0, 1, 5])
 (.seq (.kp [5] (.seq (.reg [q1 8 (.mv (.t 1)),q1 9 (.len false (.t 8)),q1 10 (.mv (.c (.int .i64 0)))] [0, 1, 5, 8, 9, 10])
 (.blk 0 (.loop (.seq (.reg [q1 11 (.bin .lss (.t 10) (.t 9))] [0, 1, 5, 8, 9, 10, 11])
 (.seq (.kp [0, 1, 5, 8, 9, 10] (.cond (.t 11) (.skip) (.exit 0)))
 (.seq (.kp [0, 1, 5, 8, 9, 10] (.blk 1 (.seq (.reg [q1 12 (.ia 8 (.t 10) 1),q1 13 (.ld 12 1 false),q1 7 (.asg (.t 13))] [0, 1, 5, 7, 8, 9, 10])
 (.reg [q1 14 (.mv (.t 5)),q1 15 (.mv (.t 0)),q1 16 (.mv (.t 7)),q1 17 (.ia 15 (.t 16) 1),q1 18 (.ld 17 1 false),q1 19 (.bin .add (.t 14) (.t 18)),q1 5 (.asg (.t 19))] [0, 1, 5, 8, 9, 10]))))
 (.reg [q1 20 (.bin .add (.t 10) (.c (.int .i64 1))),q1 10 (.mv (.t 20))] [0, 1, 5, 8, 9, 10]))))))))
 (.seq (.reg [q1 21 (.mv (.t 5)),q1 4 (.asg (.t 21))] [4])
 (.ret))))
theorem con_impl_weightOf {v0 : (List Int)} {v1 : (List Int)} {r : Int} (h : sh_impl_weightOf v0 v1 = some r) : Con Try.prog 86 [cc11.enc v0, cc11.enc v1] [] (rs_impl_weightOf r) := by
 delta sh_impl_weightOf at h
 refine top (out := none) (f := Try.f86) (m := m86) (rs := [.t 4]) (by kernel_rfl) rfl (by kernel_rfl) (by kernel_rfl) (by kernel_rfl) (by kernel_rfl) (by kernel_rfl) ?_
 exact
  ini [q2 0 cc11 v0, q2 1 cc11 v1] rfl <| wpC_seq <| reg_s <| x_asg (sc cI (0 : Int) rfl) <| sq [q2 0 cc11 v0, q2 1 cc11 v1] <|
  xn <| wpC_seq <| reg_s <| x_asg (sc cI (0 : Int) rfl) <| sq [q2 0 cc11 v0, q2 1 cc11 v1, q2 5 cI (0 : Int)] <|
  xn <| wpC_seq <| wpC_kp <| wpC_seq <| reg_s <| st rfl <| mvd rfl rfl <| stw rfl <| lens rfl fun l36 => st rfl <| mvc cI (0 : Int) rfl <| sq [q2 0 cc11 v0, q2 1 cc11 v1, q2 5 cI (0 : Int), q2 8 cc11 v1, q2 9 cI (v1.length : Int), q2 10 cI (0 : Int)] <|
  xn <| wpC_blk <| lpR (fun (k38 : Nat) (s37 : Int) => [q2 0 cc11 v0, q2 1 cc11 v1, q2 5 cI s37, q2 8 cc11 v1, q2 9 cI (v1.length : Int), q2 10 cI (k38 : Int)]) (0 : Int) rfl h
  (fun G60 s37 h => wpC_seq <| reg_s <| st rfl <| b_lss (k := .i64) rfl rfl <| sq [q2 0 cc11 v0, q2 1 cc11 v1, q2 5 cI s37, q2 8 cc11 v1, q2 9 cI (v1.length : Int), q2 10 cI (v1.length : Int), q2 11 cB (decide ((v1.length : Int) < (v1.length : Int)))] <|
  xn <| wpC_seq <| wpC_kp <| cnd0 rfl (dlf _) <| wpC_exit <| xt <| xt <| xt <| xb <| kpN [q2 5 cI s37] (by kernel_rfl) <| xn <| wpC_seq <| reg_s <| st rfl <| mvd rfl rfl <| x_asg (ss rfl rfl) <| sq [q2 4 cI s37] <|
  xn <| wpC_ret <| re <| fin h (r1 (ss rfl rfl) <| r0) rfl)
  (fun G60 nx58 k38 s37 x39 hk40 hx41 hn59 h => wpC_seq <| reg_s <| st rfl <| b_lss (k := .i64) rfl rfl <| sq [q2 0 cc11 v0, q2 1 cc11 v1, q2 5 cI s37, q2 8 cc11 v1, q2 9 cI (v1.length : Int), q2 10 cI (k38 : Int), q2 11 cB (decide ((k38 : Int) < (v1.length : Int)))] <|
  xn <| wpC_seq <| wpC_kp <| cnd1 rfl (dlt hk40) <| wpC_skip <| kpN [q2 0 cc11 v0, q2 1 cc11 v1, q2 5 cI s37, q2 8 cc11 v1, q2 9 cI (v1.length : Int), q2 10 cI (k38 : Int)] (by kernel_rfl) <| xn <| wpC_seq <| wpC_kp <| wpC_blk <| wpC_seq <| reg_s <| st rfl <| ias rfl rfl (Int.natCast_nonneg _) hx41 rfl <| st rfl <| ldi rfl rfl rfl rfl <| x_asg (ss rfl rfl) <| sq [q2 0 cc11 v0, q2 1 cc11 v1, q2 5 cI s37, q2 7 cI x39, q2 8 cc11 v1, q2 9 cI (v1.length : Int), q2 10 cI (k38 : Int)] <|
  xn <| reg_s <| st rfl <| mvd rfl rfl <| st rfl <| mvd rfl rfl <| st rfl <| mvd rfl rfl <| getO_k h fun x65 i66 g67 h => st rfl <| ias rfl rfl i66 g67 rfl <| st rfl <| ldi rfl rfl rfl rfl <| ckI_k h fun i68 h => st rfl <| b_add (k := .i64) rfl rfl i68 <| x_asg (ss rfl rfl) <| sq [q2 0 cc11 v0, q2 1 cc11 v1, q2 5 cI (s37 + x65), q2 8 cc11 v1, q2 9 cI (v1.length : Int), q2 10 cI (k38 : Int)] <|
  xbb <| kpN [q2 0 cc11 v0, q2 1 cc11 v1, q2 5 cI (s37 + x65), q2 8 cc11 v1, q2 9 cI (v1.length : Int), q2 10 cI (k38 : Int)] (by kernel_rfl) <| xn <| reg_s <| st rfl <| b_inc rfl rfl l36 hk40 <| st rfl <| mvd rfl rfl <| sq [q2 0 cc11 v0, q2 1 cc11 v1, q2 5 cI (s37 + x65), q2 8 cc11 v1, q2 9 cI (v1.length : Int), q2 10 cI ((k38 + 1 : Nat) : Int)] <|
  xn <| hn59 (s37 + x65) h)

def rs_impl_cheapestChange_1 (r : Int) : List D := [cI.enc r]
def m140 : MC := .seq (.reg [q1 3 (.asg (.c (.int .i64 0)))] [0, 1])
 (.seq (.reg [q1 4 (.ld 1 1 false),q1 5 (.mv (.t 0)),q1 6 (.call 86 [(.t 4), (.t 5)]),q1 3 (.asg (.t 6))] [3])
 (.ret))
theorem con_impl_cheapestChange_1 {v0 : (List Int)} {v1 : (List Int)} {r : Int} (h : sh_impl_cheapestChange_1 v0 v1 = some r) : Con Try.prog 140 [cc11.enc v0, (cP false cc11).enc v1] [] (rs_impl_cheapestChange_1 r) := by
 delta sh_impl_cheapestChange_1 at h
 refine top (out := none) (f := Try.f140) (m := m140) (rs := [.t 3]) (by kernel_rfl) rfl (by kernel_rfl) (by kernel_rfl) (by kernel_rfl) (by kernel_rfl) (by kernel_rfl) ?_
 exact
  ini [q2 0 cc11 v0, (1, .ima (cc11.enc v1))] rfl <| wpC_seq <| reg_s <| x_asg (sc cI (0 : Int) rfl) <| sq [q2 0 cc11 v0, (1, .ima (cc11.enc v1))] <|
  xn <| wpC_seq <| reg_s <| st rfl <| ldi rfl rfl rfl rfl <| st rfl <| mvd rfl rfl <| bnd h fun x3 e4 h => st rfl <| o_call (a1 (c := cc11) (tLs tK) rfl (a1 (c := cc11) (tLs tK) rfl a0)) (con_impl_weightOf e4) (.inl (so1 sK so0)) <| x_asg (ss rfl rfl) <| sq [q2 3 cI x3] <|
  xn <| wpC_ret <| re <| fin h (r1 (ss rfl rfl) <| r0) rfl

def rs_impl_leastCover_impl_cheapestChange_1 (r : ((List Int) × Bool)) : List D := [cc12.enc r.1, cB.enc r.2]
def m80_140 : MC := .seq (.reg [q1 8 (.asg (.c (.slice true []))),q1 9 (.asg (.c (.bool false)))] [0, 1, 2, 3])
 (.seq (.reg [q1 10 (.asg (.c (.slice true [])))] [0, 1, 2, 3, 10])
 (.seq (.reg [q1 11 (.asg (.c (.bool false)))] [0, 1, 2, 3, 10, 11])
 (.seq (.kp [10, 11] (.seq (.reg [q1 14 (.mv (.t 0)),q1 15 (.len false (.t 14)),q1 16 (.bin .shl (.c (.int .i64 1)) (.t 15)),q1 17 (.mv (.c (.int .i64 0)))] [0, 1, 2, 3, 10, 11, 16, 17])
 (.blk 0 (.loop (.seq (.reg [q1 18 (.bin .lss (.t 17) (.t 16))] [0, 1, 2, 3, 10, 11, 16, 17, 18])
 (.seq (.kp [0, 1, 2, 3, 10, 11, 16, 17] (.cond (.t 18) (.skip) (.exit 0)))
 (.seq (.kp [0, 1, 2, 3, 10, 11, 16, 17] (.blk 1 (.seq (.reg [q1 19 (.mv (.t 17)),q1 12 (.asg (.t 19))] [0, 1, 2, 3, 10, 11, 12, 16, 17])
 (.seq (.reg [q1 20 (.mv (.t 12)),q1 21 (.call 132 [(.t 20)]),q1 13 (.asg (.t 21))] [0, 1, 2, 3, 10, 11, 13, 16, 17])
 (.seq (.kp [0, 1, 2, 3, 10, 11, 13, 16, 17] (.seq (.reg [q1 22 (.mv (.t 11)),q1 23 (.mv (.t 22)),
  ⟨some 24, .mv (.t 3), some (23, true)⟩,
  ⟨some 25, .mv (.t 13), some (23, true)⟩,
  ⟨some 26, .callf 24 [(false, (.t 25))], some (23, true)⟩,
  ⟨some 27, .mv (.t 3), some (23, true)⟩,
  ⟨some 28, .mv (.t 10), some (23, true)⟩,
  ⟨some 29, .callf 27 [(false, (.t 28))], some (23, true)⟩,
  ⟨some 30, .call 134 [(.t 26), (.t 29)], some (23, true)⟩,
  ⟨some 31, .mv (.t 13), some (23, true)⟩,
  ⟨some 32, .len false (.t 31), some (23, true)⟩,
  ⟨some 33, .mv (.t 10), some (23, true)⟩,
  ⟨some 34, .len false (.t 33), some (23, true)⟩,
  ⟨some 35, .call 134 [(.t 32), (.t 34)], some (23, true)⟩,
  ⟨some 36, .mv (.t 13), some (23, true)⟩,
  ⟨some 37, .mv (.t 10), some (23, true)⟩,
  ⟨some 38, .call 135 [(.t 36), (.t 37)], some (23, true)⟩,
  ⟨some 39, .bsl [(.t 30), (.t 35), (.t 38)] 1, some (23, true)⟩,
  ⟨some 40, .call 133 [(.t 39)], some (23, true)⟩,
  ⟨some 41, .bin .geq (.t 40) (.c (.int .i64 0)), some (23, true)⟩,q1 42 (.pick (.t 23) (.t 41) (.c (.bool false)))] [0, 1, 2, 3, 10, 11, 13, 16, 17, 42])
 (.cond (.t 42) (.exit 1) (.skip))))
 (.seq (.reg [q1 43 (.mv (.t 0)),q1 44 (.mv (.t 1)),q1 45 (.mv (.t 0)),q1 46 (.mv (.t 13)),q1 47 (.call 94 [(.t 45), (.t 46)]),q1 48 (.mv (.t 2)),q1 49 (.call 76 [(.t 43), (.t 44), (.t 47), (.t 48)]),q1 50 (.eqn true (.t 49))] [0, 1, 2, 3, 10, 11, 13, 16, 17, 50])
 (.cond (.t 50) (.reg [q1 51 (.mv (.t 13)),q1 10 (.asg (.t 51)),q1 11 (.asg (.c (.bool true)))] [0, 1, 2, 3, 10, 11, 16, 17]) (.skip))))))))
 (.reg [q1 52 (.bin .add (.t 17) (.c (.int .i64 1))),q1 17 (.mv (.t 52))] [0, 1, 2, 3, 10, 11, 16, 17]))))))))
 (.seq (.reg [q1 53 (.mv (.t 10)),q1 54 (.mv (.t 11)),q1 8 (.asg (.t 53)),q1 9 (.asg (.t 54))] [8, 9])
 (.ret)))))
theorem con_impl_leastCover_impl_cheapestChange_1 {v0 : (List XVariable)} {v1 : (List XEdit)} {v2 : (List Int)} {v3 : (List Int)} {r : ((List Int) × Bool)} (h : sh_impl_leastCover_impl_cheapestChange_1 v0 v1 v2 v3 = some r) : Con Try.prog 80 [cc4.enc v0, cc1.enc v1, cc11.enc v2, (cFn 140 (fun (v : (List Int)) => [.ptr false (cc11.enc v)]) true (fun _ => (im1 rfl im0))).enc v3] [] (rs_impl_leastCover_impl_cheapestChange_1 r) := by
 delta sh_impl_leastCover_impl_cheapestChange_1 at h
 refine top (out := none) (f := Try.f80) (m := m80_140) (rs := [.t 8, .t 9]) (by kernel_rfl) rfl (by kernel_rfl) (by kernel_rfl) (by kernel_rfl) (by kernel_rfl) (by kernel_rfl) ?_
 exact
  ini [q2 0 cc4 v0, q2 1 cc1 v1, q2 2 cc11 v2, q2 3 (cFn 140 (fun (v : (List Int)) => [.ptr false (cc11.enc v)]) true (fun _ => (im1 rfl im0))) v3] rfl <| wpC_seq <| reg_s <| x_asg (sc cc12 ([] : List Int) rfl) <| x_asg (sc cB false rfl) <| sq [q2 0 cc4 v0, q2 1 cc1 v1, q2 2 cc11 v2, q2 3 (cFn 140 (fun (v : (List Int)) => [.ptr false (cc11.enc v)]) true (fun _ => (im1 rfl im0))) v3] <|
  xn <| wpC_seq <| reg_s <| x_asg (sc cc12 ([] : List Int) rfl) <| sq [q2 0 cc4 v0, q2 1 cc1 v1, q2 2 cc11 v2, q2 3 (cFn 140 (fun (v : (List Int)) => [.ptr false (cc11.enc v)]) true (fun _ => (im1 rfl im0))) v3, q2 10 cc12 ([] : List Int)] <|
  xn <| wpC_seq <| reg_s <| x_asg (sc cB false rfl) <| sq [q2 0 cc4 v0, q2 1 cc1 v1, q2 2 cc11 v2, q2 3 (cFn 140 (fun (v : (List Int)) => [.ptr false (cc11.enc v)]) true (fun _ => (im1 rfl im0))) v3, q2 10 cc12 ([] : List Int), q2 11 cB false] <|
  xn <| wpC_seq <| wpC_kp <| wpC_seq <| reg_s <| st rfl <| mvd rfl rfl <| stw rfl <| lens rfl fun l382 => ck_k h fun i383 h => ckI_k h fun i384 h => st rfl <| b_shl (k := .i64) (k' := .i64) rfl rfl i383 rfl i384 <| st rfl <| mvc cI (0 : Int) rfl <| sq [q2 0 cc4 v0, q2 1 cc1 v1, q2 2 cc11 v2, q2 3 (cFn 140 (fun (v : (List Int)) => [.ptr false (cc11.enc v)]) true (fun _ => (im1 rfl im0))) v3, q2 10 cc12 ([] : List Int), q2 11 cB false, q2 16 cI ((1 : Int) * 2 ^ ((v0.length : Int)).toNat), q2 17 cI (0 : Int)] <|
  xn <| wpC_blk <| lpF (fun (s385 : ((List Int) × Bool × Int)) => [q2 0 cc4 v0, q2 1 cc1 v1, q2 2 cc11 v2, q2 3 (cFn 140 (fun (v : (List Int)) => [.ptr false (cc11.enc v)]) true (fun _ => (im1 rfl im0))) v3, q2 10 cc12 s385.1, q2 11 cB s385.2.1, q2 16 cI ((1 : Int) * 2 ^ ((v0.length : Int)).toNat), q2 17 cI s385.2.2]) (([] : List Int), false, (0 : Int)) rfl h
  fun G591 nx589 s385 hn590 h => wpC_seq <| reg_s <| st rfl <| b_lss (k := .i64) rfl rfl <| sq [q2 0 cc4 v0, q2 1 cc1 v1, q2 2 cc11 v2, q2 3 (cFn 140 (fun (v : (List Int)) => [.ptr false (cc11.enc v)]) true (fun _ => (im1 rfl im0))) v3, q2 10 cc12 s385.1, q2 11 cB s385.2.1, q2 16 cI ((1 : Int) * 2 ^ ((v0.length : Int)).toNat), q2 17 cI s385.2.2, q2 18 cB (decide (s385.2.2 < ((1 : Int) * 2 ^ ((v0.length : Int)).toNat)))] <|
  xn <| wpC_seq <| wpC_kp <| cnd rfl h (fun b593 h => wpC_skip <| kpN [q2 0 cc4 v0, q2 1 cc1 v1, q2 2 cc11 v2, q2 3 (cFn 140 (fun (v : (List Int)) => [.ptr false (cc11.enc v)]) true (fun _ => (im1 rfl im0))) v3, q2 10 cc12 s385.1, q2 11 cB s385.2.1, q2 16 cI ((1 : Int) * 2 ^ ((v0.length : Int)).toNat), q2 17 cI s385.2.2] (by kernel_rfl) <| xn <| wpC_seq <| wpC_kp <| wpC_blk <| wpC_seq <| reg_s <| st rfl <| mvd rfl rfl <| x_asg (ss rfl rfl) <| sq [q2 0 cc4 v0, q2 1 cc1 v1, q2 2 cc11 v2, q2 3 (cFn 140 (fun (v : (List Int)) => [.ptr false (cc11.enc v)]) true (fun _ => (im1 rfl im0))) v3, q2 10 cc12 s385.1, q2 11 cB s385.2.1, q2 12 cI s385.2.2, q2 16 cI ((1 : Int) * 2 ^ ((v0.length : Int)).toNat), q2 17 cI s385.2.2] <|
  xn <| wpC_seq <| reg_s <| st rfl <| mvd rfl rfl <| bnd h fun x676 e677 h => st rfl <| o_call (a1 (c := cI) tK rfl a0) (con_impl_membersOf e677) (.inl (so1 (sLo sK) so0)) <| x_asg (so rfl rfl) <| sq [q2 0 cc4 v0, q2 1 cc1 v1, q2 2 cc11 v2, q2 3 (cFn 140 (fun (v : (List Int)) => [.ptr false (cc11.enc v)]) true (fun _ => (im1 rfl im0))) v3, q2 10 cc12 s385.1, q2 11 cB s385.2.1, q2 13 cc12 x676, q2 16 cI ((1 : Int) * 2 ^ ((v0.length : Int)).toNat), q2 17 cI s385.2.2] <|
  xn <| sqj (fun (s709 : Unit) => [q2 0 cc4 v0, q2 1 cc1 v1, q2 2 cc11 v2, q2 3 (cFn 140 (fun (v : (List Int)) => [.ptr false (cc11.enc v)]) true (fun _ => (im1 rfl im0))) v3, q2 10 cc12 s385.1, q2 11 cB s385.2.1, q2 13 cc12 x676, q2 16 cI ((1 : Int) * 2 ^ ((v0.length : Int)).toNat), q2 17 cI s385.2.2]) h (fun s709 h => wpC_seq <| reg_s <| st rfl <| mvd rfl rfl <| st rfl <| mvd rfl rfl <| st rfl <| mvd rfl rfl <| st rfl <| mvo rfl rfl <| bnd h fun x717 e718 h => st rfl <| o_call (a1 (c := cc4) (tLs (tXVariable tS tK)) rfl (a1 (c := cc12) (tLo tK) rfl a0)) (con_impl_otherVars e718) (.inl (so1 (sLo sK) so0)) <| st rfl <| mvd rfl rfl <| bnd h fun x719 e720 h => st rfl <| o_call (a1 (c := cc4) (tLs (tXVariable tS tK)) rfl (a1 (c := cc1) (tLs (tXEdit (tLs tK))) rfl (a1 (c := cc12) (tLo tK) rfl (a1 (c := cc11) (tLs tK) rfl a0)))) (con_impl_completionOf e720) (.inl (so1 (sNo sK) so0)) <| ck_k h fun i721 h => st rfl <| eqN true rfl i721 <| sq [q2 0 cc4 v0, q2 1 cc1 v1, q2 2 cc11 v2, q2 3 (cFn 140 (fun (v : (List Int)) => [.ptr false (cc11.enc v)]) true (fun _ => (im1 rfl im0))) v3, q2 10 cc12 s385.1, q2 11 cB s385.2.1, q2 13 cc12 x676, q2 16 cI ((1 : Int) * 2 ^ ((v0.length : Int)).toNat), q2 17 cI s385.2.2, q2 50 cB (x719.isSome)] <|
  xn <| cnd rfl h (fun b722 h => reg_s <| st rfl <| mvo rfl rfl <| x_asg (sr rfl rfl) <| x_asg (sc cB true rfl) <| sq [q2 0 cc4 v0, q2 1 cc1 v1, q2 2 cc11 v2, q2 3 (cFn 140 (fun (v : (List Int)) => [.ptr false (cc11.enc v)]) true (fun _ => (im1 rfl im0))) v3, q2 10 cc12 x676, q2 11 cB true, q2 16 cI ((1 : Int) * 2 ^ ((v0.length : Int)).toNat), q2 17 cI s385.2.2] <|
  xbb <| kpN [q2 0 cc4 v0, q2 1 cc1 v1, q2 2 cc11 v2, q2 3 (cFn 140 (fun (v : (List Int)) => [.ptr false (cc11.enc v)]) true (fun _ => (im1 rfl im0))) v3, q2 10 cc12 x676, q2 11 cB true, q2 16 cI ((1 : Int) * 2 ^ ((v0.length : Int)).toNat), q2 17 cI s385.2.2] (by kernel_rfl) <| xn <| reg_s <| ckI_k h fun i723 h => st rfl <| b_add (k := .i64) rfl rfl i723 <| st rfl <| mvd rfl rfl <| sq [q2 0 cc4 v0, q2 1 cc1 v1, q2 2 cc11 v2, q2 3 (cFn 140 (fun (v : (List Int)) => [.ptr false (cc11.enc v)]) true (fun _ => (im1 rfl im0))) v3, q2 10 cc12 x676, q2 11 cB true, q2 16 cI ((1 : Int) * 2 ^ ((v0.length : Int)).toNat), q2 17 cI (s385.2.2 + (1 : Int))] <|
  xn <| hn590 (x676, true, (s385.2.2 + (1 : Int))) h)
  (fun b722 h => wpC_skip <| xbb <| kpN [q2 0 cc4 v0, q2 1 cc1 v1, q2 2 cc11 v2, q2 3 (cFn 140 (fun (v : (List Int)) => [.ptr false (cc11.enc v)]) true (fun _ => (im1 rfl im0))) v3, q2 10 cc12 s385.1, q2 11 cB s385.2.1, q2 16 cI ((1 : Int) * 2 ^ ((v0.length : Int)).toNat), q2 17 cI s385.2.2] (by kernel_rfl) <| xn <| reg_s <| ckI_k h fun i724 h => st rfl <| b_add (k := .i64) rfl rfl i724 <| st rfl <| mvd rfl rfl <| sq [q2 0 cc4 v0, q2 1 cc1 v1, q2 2 cc11 v2, q2 3 (cFn 140 (fun (v : (List Int)) => [.ptr false (cc11.enc v)]) true (fun _ => (im1 rfl im0))) v3, q2 10 cc12 s385.1, q2 11 cB s385.2.1, q2 16 cI ((1 : Int) * 2 ^ ((v0.length : Int)).toNat), q2 17 cI (s385.2.2 + (1 : Int))] <|
  xn <| hn590 (s385.1, s385.2.1, (s385.2.2 + (1 : Int))) h))
  fun m711 h => wpC_kp <| wpC_seq <| reg_s <| st rfl <| mvd rfl rfl <| st rfl <| mvd rfl rfl <| ite_k h (fun b740 h => gt' rfl b740 <| st rfl <| mvd rfl rfl <| gt' rfl b740 <| st rfl <| mvo rfl rfl <| gt' rfl b740 <| bnd h fun x741 e742 h => x_cf (cFn 140 (fun (v : (List Int)) => [.ptr false (cc11.enc v)]) true (fun _ => (im1 rfl im0))) v3 (fad rfl rfl) k0 (m2 (tLo tK) rfl m0) rfl (con_impl_cheapestChange_1 e742) (cls rfl cl0) (so1 sK so0) <| gt' rfl b740 <| st rfl <| mvd rfl rfl <| gt' rfl b740 <| st rfl <| mvo rfl rfl <| gt' rfl b740 <| bnd h fun x743 e744 h => x_cf (cFn 140 (fun (v : (List Int)) => [.ptr false (cc11.enc v)]) true (fun _ => (im1 rfl im0))) v3 (fad rfl rfl) k0 (m2 (tLo tK) rfl m0) rfl (con_impl_cheapestChange_1 e744) (cls rfl cl0) (so1 sK so0) <| gt' rfl b740 <| bnd h fun x745 e746 h => st rfl <| o_call (a1 (c := cI) tK rfl (a1 (c := cI) tK rfl a0)) (con_cmp_Compare_int e746) (.inl (so1 sK so0)) <| gt' rfl b740 <| st rfl <| mvo rfl rfl <| gt' rfl b740 <| stw rfl <| leno rfl fun l747 => gt' rfl b740 <| st rfl <| mvo rfl rfl <| gt' rfl b740 <| stw rfl <| leno rfl fun l748 => gt' rfl b740 <| bnd h fun x749 e750 h => st rfl <| o_call (a1 (c := cI) tK rfl (a1 (c := cI) tK rfl a0)) (con_cmp_Compare_int e750) (.inl (so1 sK so0)) <| gt' rfl b740 <| st rfl <| mvo rfl rfl <| gt' rfl b740 <| st rfl <| mvo rfl rfl <| gt' rfl b740 <| bnd h fun x751 e752 h => st rfl <| o_call (a1 (c := cc12) (tLo tK) rfl (a1 (c := cc12) (tLo tK) rfl a0)) (con_slices_Compare_int e752) (.inl (so1 sK so0)) <| gt' rfl b740 <| x_bsl cI [x745, x749, x751] (t1 (ss rfl rfl) rfl (t1 (ss rfl rfl) rfl (t1 (ss rfl rfl) rfl t0))) rfl rfl <| gt' rfl b740 <| bnd h fun x753 e754 h => st rfl <| o_call (a1 (c := cc12) (tLo tK) rfl a0) (con_cmp_Or_int e754) (.inl (so1 sK so0)) <| gt' rfl b740 <| st rfl <| b_geq (k := .i64) rfl rfl <| st rfl <| pick1 rfl b740 (cd := cB) (v := (decide ((0 : Int) ≤ x753))) rfl rfl <| sq [q2 0 cc4 v0, q2 1 cc1 v1, q2 2 cc11 v2, q2 3 (cFn 140 (fun (v : (List Int)) => [.ptr false (cc11.enc v)]) true (fun _ => (im1 rfl im0))) v3, q2 10 cc12 s385.1, q2 11 cB s385.2.1, q2 13 cc12 x676, q2 16 cI ((1 : Int) * 2 ^ ((v0.length : Int)).toNat), q2 17 cI s385.2.2, q2 42 cB (decide ((0 : Int) ≤ x753))] <|
  xn <| cnd rfl h (fun b755 h => wpC_exit <| xt <| xt <| xb <| kpN [q2 0 cc4 v0, q2 1 cc1 v1, q2 2 cc11 v2, q2 3 (cFn 140 (fun (v : (List Int)) => [.ptr false (cc11.enc v)]) true (fun _ => (im1 rfl im0))) v3, q2 10 cc12 s385.1, q2 11 cB s385.2.1, q2 16 cI ((1 : Int) * 2 ^ ((v0.length : Int)).toNat), q2 17 cI s385.2.2] (by kernel_rfl) <| xn <| reg_s <| ckI_k h fun i756 h => st rfl <| b_add (k := .i64) rfl rfl i756 <| st rfl <| mvd rfl rfl <| sq [q2 0 cc4 v0, q2 1 cc1 v1, q2 2 cc11 v2, q2 3 (cFn 140 (fun (v : (List Int)) => [.ptr false (cc11.enc v)]) true (fun _ => (im1 rfl im0))) v3, q2 10 cc12 s385.1, q2 11 cB s385.2.1, q2 16 cI ((1 : Int) * 2 ^ ((v0.length : Int)).toNat), q2 17 cI (s385.2.2 + (1 : Int))] <|
  xn <| hn590 (s385.1, s385.2.1, (s385.2.2 + (1 : Int))) h)
  (fun b755 h => wpC_skip <| kpN [q2 0 cc4 v0, q2 1 cc1 v1, q2 2 cc11 v2, q2 3 (cFn 140 (fun (v : (List Int)) => [.ptr false (cc11.enc v)]) true (fun _ => (im1 rfl im0))) v3, q2 10 cc12 s385.1, q2 11 cB s385.2.1, q2 13 cc12 x676, q2 16 cI ((1 : Int) * 2 ^ ((v0.length : Int)).toNat), q2 17 cI s385.2.2] (by kernel_rfl) <| m711 () h))
  (fun b740 h => gf rfl b740 <| gf rfl b740 <| gf rfl b740 <| gf rfl b740 <| gf rfl b740 <| gf rfl b740 <| gf rfl b740 <| gf rfl b740 <| gf rfl b740 <| gf rfl b740 <| gf rfl b740 <| gf rfl b740 <| gf rfl b740 <| gf rfl b740 <| gf rfl b740 <| gf rfl b740 <| gf rfl b740 <| gf rfl b740 <| st rfl <| pick0 rfl b740 (cd := cB) (v := false) rfl rfl <| sq [q2 0 cc4 v0, q2 1 cc1 v1, q2 2 cc11 v2, q2 3 (cFn 140 (fun (v : (List Int)) => [.ptr false (cc11.enc v)]) true (fun _ => (im1 rfl im0))) v3, q2 10 cc12 s385.1, q2 11 cB s385.2.1, q2 13 cc12 x676, q2 16 cI ((1 : Int) * 2 ^ ((v0.length : Int)).toNat), q2 17 cI s385.2.2, q2 42 cB false] <|
  xn <| cnd0 rfl rfl <| wpC_skip <| kpN [q2 0 cc4 v0, q2 1 cc1 v1, q2 2 cc11 v2, q2 3 (cFn 140 (fun (v : (List Int)) => [.ptr false (cc11.enc v)]) true (fun _ => (im1 rfl im0))) v3, q2 10 cc12 s385.1, q2 11 cB s385.2.1, q2 13 cc12 x676, q2 16 cI ((1 : Int) * 2 ^ ((v0.length : Int)).toNat), q2 17 cI s385.2.2] (by kernel_rfl) <| m711 () h))
  (fun b593 h => wpC_exit <| xt <| xt <| xt <| xb <| kpN [q2 10 cc12 s385.1, q2 11 cB s385.2.1] (by kernel_rfl) <| xn <| wpC_seq <| reg_s <| st rfl <| mvo rfl rfl <| st rfl <| mvd rfl rfl <| x_asg (sr rfl rfl) <| x_asg (ss rfl rfl) <| sq [q2 8 cc12 s385.1, q2 9 cB s385.2.1] <|
  xn <| wpC_ret <| re <| fin h (r1 (so rfl rfl) <| r1 (ss rfl rfl) <| r0) rfl)

def rs_impl_cheapestChange (r : ((List Int) × Bool)) : List D := [cc12.enc r.1, cB.enc r.2]
def m85 : MC := .seq (.reg [q1 6 (.box (.t 2)),q1 8 (.asg (.c (.slice true []))),q1 9 (.asg (.c (.bool false)))] [0, 1, 3, 6])
 (.fzb 6 (.seq (.reg [q1 10 (.mv (.t 0)),q1 11 (.mv (.t 1)),q1 12 (.mv (.t 3)),q1 13 (.mkf 140 [(false, 6)]),q1 14 (.call 80 [(.t 10), (.t 11), (.t 12), (.t 13)]),q1 15 (.ext 14 0),q1 16 (.ext 14 1),q1 8 (.asg (.t 15)),q1 9 (.asg (.t 16))] [8, 9])
 (.ret)))
theorem con_impl_cheapestChange {v0 : (List XVariable)} {v1 : (List XEdit)} {v2 : (List Int)} {v3 : (List Int)} {r : ((List Int) × Bool)} (h : sh_impl_cheapestChange v0 v1 v2 v3 = some r) : Con Try.prog 85 [cc4.enc v0, cc1.enc v1, cc11.enc v2, cc11.enc v3] [] (rs_impl_cheapestChange r) := by
 delta sh_impl_cheapestChange at h
 refine top (out := none) (f := Try.f85) (m := m85) (rs := [.t 8, .t 9]) (by kernel_rfl) rfl (by kernel_rfl) (by kernel_rfl) (by kernel_rfl) (by kernel_rfl) (by kernel_rfl) ?_
 exact
  ini [q2 0 cc4 v0, q2 1 cc1 v1, q2 2 cc11 v2, q2 3 cc11 v3] rfl <| wpC_seq <| reg_s <| x_box (ss rfl rfl) <| x_asg (sc cc12 ([] : List Int) rfl) <| x_asg (sc cB false rfl) <| sq [q2 0 cc4 v0, q2 1 cc1 v1, q2 3 cc11 v3, q3 6 cc11 v2] <|
  xn <| fzb_s (tLs tK) rfl <| wpC_seq <| reg_s <| st rfl <| mvd rfl rfl <| st rfl <| mvd rfl rfl <| st rfl <| mvd rfl rfl <| x_mkf (cFn 140 (fun (v : (List Int)) => [.ptr false (cc11.enc v)]) true (fun _ => (im1 rfl im0))) v2 (cpi rfl cp0) rfl rfl <| bnd h fun x3 e4 h => st rfl <| o_call (a1 (c := cc4) (tLs (tXVariable tS tK)) rfl (a1 (c := cc1) (tLs (tXEdit (tLs tK))) rfl (a1 (c := cc11) (tLs tK) rfl (a1 (c := (cFn 140 (fun (v : (List Int)) => [.ptr false (cc11.enc v)]) true (fun _ => (im1 rfl im0)))) (tFn (fun _ => (ti1 (tLs tK) ti0))) rfl a0)))) (con_impl_leastCover_impl_cheapestChange_1 e4) (.inl (so1 (sLo sK) (so1 sB so0))) <| x_ext rfl rfl <| x_ext rfl rfl <| x_asg (so rfl rfl) <| x_asg (ss rfl rfl) <| sq [q2 8 cc12 x3.1, q2 9 cB x3.2] <|
  xn <| wpC_ret <| re <| fin h (r1 (so rfl rfl) <| r1 (ss rfl rfl) <| r0) rfl

def rs_spec_iMend (r : ((List Int) × Bool)) : List D := [cc12.enc r.1, cB.enc r.2]
def m87 : MC := .seq (.reg [q1 8 (.asg (.c (.slice true []))),q1 9 (.asg (.c (.bool false)))] [0, 1, 2, 3])
 (.seq (.reg [q1 14 (.mv (.t 0)),q1 15 (.mv (.t 1)),q1 16 (.mv (.t 2)),q1 17 (.mv (.t 3)),q1 18 (.call 83 [(.t 14), (.t 15), (.t 16), (.t 17)]),q1 13 (.mvt 18),q1 19 (.ext 13 0),q1 20 (.ext 13 1),q1 21 (.ext 13 2),q1 10 (.asg (.t 19)),q1 11 (.asg (.t 20)),q1 12 (.asg (.t 21))] [0, 1, 3, 10, 12])
 (.seq (.kp [0, 1, 3, 10] (.seq (.reg [q1 22 (.mv (.t 12)),q1 23 (.nt (.t 22))] [0, 1, 3, 10, 23])
 (.cond (.t 23) (.seq (.reg [q1 8 (.asg (.c (.slice true []))),q1 9 (.asg (.c (.bool false)))] [8, 9])
 (.ret)) (.skip))))
 (.seq (.reg [q1 24 (.mv (.t 0)),q1 25 (.mv (.t 1)),q1 26 (.mv (.t 0)),q1 27 (.mv (.t 10)),q1 28 (.call 138 [(.t 26), (.t 27)]),q1 29 (.mv (.t 3)),q1 30 (.call 72 [(.t 24), (.t 25), (.t 28), (.t 29)]),q1 31 (.ext 30 0),q1 32 (.ext 30 1),q1 8 (.asg (.t 31)),q1 9 (.asg (.t 32))] [8, 9])
 (.ret))))
theorem con_spec_iMend {v0 : (List XVariable)} {v1 : (List XEdit)} {v2 : (List Int)} {v3 : (List Int)} {r : ((List Int) × Bool)} (h : sh_spec_iMend v0 v1 v2 v3 = some r) : Con Try.prog 87 [cc4.enc v0, cc1.enc v1, cc11.enc v2, cc11.enc v3] [] (rs_spec_iMend r) := by
 delta sh_spec_iMend at h
 refine top (out := none) (f := Try.f87) (m := m87) (rs := [.t 8, .t 9]) (by kernel_rfl) rfl (by kernel_rfl) (by kernel_rfl) (by kernel_rfl) (by kernel_rfl) (by kernel_rfl) ?_
 exact
  ini [q2 0 cc4 v0, q2 1 cc1 v1, q2 2 cc11 v2, q2 3 cc11 v3] rfl <| wpC_seq <| reg_s <| x_asg (sc cc12 ([] : List Int) rfl) <| x_asg (sc cB false rfl) <| sq [q2 0 cc4 v0, q2 1 cc1 v1, q2 2 cc11 v2, q2 3 cc11 v3] <|
  xn <| wpC_seq <| reg_s <| st rfl <| mvd rfl rfl <| st rfl <| mvd rfl rfl <| st rfl <| mvd rfl rfl <| st rfl <| mvd rfl rfl <| bnd h fun x3 e4 h => st rfl <| o_call (a1 (c := cc4) (tLs (tXVariable tS tK)) rfl (a1 (c := cc1) (tLs (tXEdit (tLs tK))) rfl (a1 (c := cc11) (tLs tK) rfl (a1 (c := cc11) (tLs tK) rfl a0)))) (con_spec_iCheapest e4) (.inl (so1 (sLo sK) (so1 sK (so1 sB so0)))) <| x_mvt rfl <| x_ext rfl rfl <| x_ext rfl rfl <| x_ext rfl rfl <| x_asg (so rfl rfl) <| x_asg (ss rfl rfl) <| x_asg (ss rfl rfl) <| sq [q2 0 cc4 v0, q2 1 cc1 v1, q2 3 cc11 v3, q2 10 cc12 x3.1, q2 12 cB x3.2.2] <|
  xn <| wpC_seq <| wpC_kp <| wpC_seq <| reg_s <| st rfl <| mvd rfl rfl <| st rfl <| o_nt rfl <| sq [q2 0 cc4 v0, q2 1 cc1 v1, q2 3 cc11 v3, q2 10 cc12 x3.1, q2 23 cB (!x3.2.2)] <|
  xn <| cnd rfl h (fun b6 h => wpC_seq <| reg_s <| x_asg (sc cc12 ([] : List Int) rfl) <| x_asg (sc cB false rfl) <| sq [q2 8 cc12 ([] : List Int), q2 9 cB false] <|
  xn <| wpC_ret <| rt <| rt <| re <| fin h (r1 (so rfl rfl) <| r1 (ss rfl rfl) <| r0) rfl)
  (fun b6 h => wpC_skip <| kpN [q2 0 cc4 v0, q2 1 cc1 v1, q2 3 cc11 v3, q2 10 cc12 x3.1] (by kernel_rfl) <| xn <| wpC_seq <| reg_s <| st rfl <| mvd rfl rfl <| st rfl <| mvd rfl rfl <| st rfl <| mvd rfl rfl <| st rfl <| mvo rfl rfl <| bnd h fun x11 e12 h => st rfl <| o_call (a1 (c := cc4) (tLs (tXVariable tS tK)) rfl (a1 (c := cc12) (tLo tK) rfl a0)) (con_spec_iOthers e12) (.inl (so1 (sLo sK) so0)) <| st rfl <| mvd rfl rfl <| bnd h fun x13 e14 h => st rfl <| o_call (a1 (c := cc4) (tLs (tXVariable tS tK)) rfl (a1 (c := cc1) (tLs (tXEdit (tLs tK))) rfl (a1 (c := cc12) (tLo tK) rfl (a1 (c := cc11) (tLs tK) rfl a0)))) (con_spec_eComplete e14) (.inl (so1 (sLo sK) (so1 sB so0))) <| x_ext rfl rfl <| x_ext rfl rfl <| x_asg (so rfl rfl) <| x_asg (ss rfl rfl) <| sq [q2 8 cc12 x13.1, q2 9 cB x13.2] <|
  xn <| wpC_ret <| re <| fin h (r1 (so rfl rfl) <| r1 (ss rfl rfl) <| r0) rfl)

def rs_laws_szRecord (r : Int) : List D := [cI.enc r]
def m95 : MC := .seq (.reg [q1 2 (.box (.t 0)),q1 4 (.asg (.c (.int .i64 0)))] [1, 2])
 (.seq (.reg [q1 5 (.fa 2 2 2),q1 6 (.ld 5 1 false),q1 7 (.mv (.t 1)),q1 8 (.call 109 [(.t 6), (.t 7)]),q1 1 (.asg (.t 8))] [1])
 (.seq (.kp [1] (.seq (.reg [q1 9 (.mv (.t 1)),q1 10 (.bin .lss (.t 9) (.c (.int .i64 0)))] [1, 10])
 (.cond (.t 10) (.seq (.reg [q1 4 (.asg (.c (.int .i64 (-1))))] [4])
 (.ret)) (.skip))))
 (.seq (.reg [q1 11 (.mv (.t 1)),q1 4 (.asg (.t 11))] [4])
 (.ret))))
theorem con_laws_szRecord {v0 : XRecord} {v1 : Int} {r : Int} (h : sh_laws_szRecord v0 v1 = some r) : Con Try.prog 95 [cc3.enc v0, cI.enc v1] [] (rs_laws_szRecord r) := by
 delta sh_laws_szRecord at h
 refine top (out := none) (f := Try.f95) (m := m95) (rs := [.t 4]) (by kernel_rfl) rfl (by kernel_rfl) (by kernel_rfl) (by kernel_rfl) (by kernel_rfl) (by kernel_rfl) ?_
 exact
  ini [q2 0 cc3 v0, q2 1 cI v1] rfl <| wpC_seq <| reg_s <| x_box (ss rfl rfl) <| x_asg (sc cI (0 : Int) rfl) <| sq [q2 1 cI v1, q3 2 cc3 v0] <|
  xn <| wpC_seq <| reg_s <| st rfl <| fab rfl rfl rfl rfl <| st rfl <| lda rfl rfl rfl rfl rfl rfl <| st rfl <| mvd rfl rfl <| bnd h fun x3 e4 h => st rfl <| o_call (a1 (c := cc11) (tLs tK) rfl (a1 (c := cI) tK rfl a0)) (con_laws_szIntS e4) (.inl (so1 sK so0)) <| x_asg (ss rfl rfl) <| sq [q2 1 cI x3] <|
  xn <| wpC_seq <| wpC_kp <| wpC_seq <| reg_s <| st rfl <| mvd rfl rfl <| st rfl <| b_lss (k := .i64) rfl rfl <| sq [q2 1 cI x3, q2 10 cB (decide (x3 < (0 : Int)))] <|
  xn <| cnd rfl h (fun b6 h => wpC_seq <| reg_s <| x_asg (sc cI (-1 : Int) rfl) <| sq [q2 4 cI (-1 : Int)] <|
  xn <| wpC_ret <| rt <| rt <| re <| fin h (r1 (ss rfl rfl) <| r0) rfl)
  (fun b6 h => wpC_skip <| kpN [q2 1 cI x3] (by kernel_rfl) <| xn <| wpC_seq <| reg_s <| st rfl <| mvd rfl rfl <| x_asg (ss rfl rfl) <| sq [q2 4 cI x3] <|
  xn <| wpC_ret <| re <| fin h (r1 (ss rfl rfl) <| r0) rfl)

def rs_laws_szRecordS (r : Int) : List D := [cI.enc r]
def m39 : MC := .seq (.reg [q1 4 (.asg (.c (.int .i64 0)))] [0, 1])
 (.seq (.reg [q1 6 (.mv (.t 1)),q1 7 (.mv (.t 0)),q1 8 (.len false (.t 7)),q1 9 (.bin .sub (.t 6) (.t 8)),q1 1 (.asg (.t 9))] [0, 1])
 (.seq (.kp [0, 1] (.seq (.reg [q1 10 (.mv (.t 1)),q1 11 (.bin .lss (.t 10) (.c (.int .i64 0)))] [0, 1, 11])
 (.cond (.t 11) (.seq (.reg [q1 4 (.asg (.c (.int .i64 (-1))))] [4])
 (.ret)) (.skip))))
 (.seq (.kp [1] (.seq (.reg [q1 5 (.asg (.c (.int .i64 0)))] [0, 1, 5])
 (.blk 0 (.loop (.seq (.kp [0, 1, 5] (.seq (.reg [q1 12 (.mv (.t 5)),q1 13 (.mv (.t 0)),q1 14 (.len false (.t 13)),q1 15 (.bin .lss (.t 12) (.t 14))] [0, 1, 5, 15])
 (.cond (.t 15) (.skip) (.exit 0))))
 (.seq (.kp [0, 1, 5] (.blk 1 (.seq (.reg [q1 18 (.mv (.t 0)),q1 19 (.mv (.t 5)),q1 20 (.ia 18 (.t 19) 3),q1 21 (.ld 20 3 true),q1 22 (.mv (.t 1)),q1 23 (.call 95 [(.t 21), (.t 22)]),q1 1 (.asg (.t 23))] [0, 1, 5])
 (.seq (.reg [q1 24 (.mv (.t 1)),q1 25 (.bin .lss (.t 24) (.c (.int .i64 0)))] [0, 1, 5, 25])
 (.cond (.t 25) (.seq (.reg [q1 4 (.asg (.c (.int .i64 (-1))))] [4])
 (.ret)) (.skip))))))
 (.reg [q1 16 (.mv (.t 5)),q1 17 (.bin .add (.t 16) (.c (.int .i64 1))),q1 5 (.asg (.t 17))] [0, 1, 5])))))))
 (.seq (.reg [q1 26 (.mv (.t 1)),q1 4 (.asg (.t 26))] [4])
 (.ret)))))
theorem con_laws_szRecordS {v0 : (List XRecord)} {v1 : Int} {r : Int} (h : sh_laws_szRecordS v0 v1 = some r) : Con Try.prog 39 [cc0.enc v0, cI.enc v1] [] (rs_laws_szRecordS r) := by
 delta sh_laws_szRecordS at h
 refine top (out := none) (f := Try.f39) (m := m39) (rs := [.t 4]) (by kernel_rfl) rfl (by kernel_rfl) (by kernel_rfl) (by kernel_rfl) (by kernel_rfl) (by kernel_rfl) ?_
 exact
  ini [q2 0 cc0 v0, q2 1 cI v1] rfl <| wpC_seq <| reg_s <| x_asg (sc cI (0 : Int) rfl) <| sq [q2 0 cc0 v0, q2 1 cI v1] <|
  xn <| wpC_seq <| reg_s <| st rfl <| mvd rfl rfl <| st rfl <| mvd rfl rfl <| stw rfl <| lens rfl fun l3 => ckI_k h fun i4 h => st rfl <| b_sub (k := .i64) rfl rfl i4 <| x_asg (ss rfl rfl) <| sq [q2 0 cc0 v0, q2 1 cI (v1 - (v0.length : Int))] <|
  xn <| wpC_seq <| wpC_kp <| wpC_seq <| reg_s <| st rfl <| mvd rfl rfl <| st rfl <| b_lss (k := .i64) rfl rfl <| sq [q2 0 cc0 v0, q2 1 cI (v1 - (v0.length : Int)), q2 11 cB (decide ((v1 - (v0.length : Int)) < (0 : Int)))] <|
  xn <| cnd rfl h (fun b6 h => wpC_seq <| reg_s <| x_asg (sc cI (-1 : Int) rfl) <| sq [q2 4 cI (-1 : Int)] <|
  xn <| wpC_ret <| rt <| rt <| re <| fin h (r1 (ss rfl rfl) <| r0) rfl)
  (fun b6 h => wpC_skip <| kpN [q2 0 cc0 v0, q2 1 cI (v1 - (v0.length : Int))] (by kernel_rfl) <| xn <| wpC_seq <| wpC_kp <| wpC_seq <| reg_s <| x_asg (sc cI (0 : Int) rfl) <| sq [q2 0 cc0 v0, q2 1 cI (v1 - (v0.length : Int)), q2 5 cI (0 : Int)] <|
  xn <| wpC_blk <| lpF (fun (s102 : (Int × Int)) => [q2 0 cc0 v0, q2 1 cI s102.1, q2 5 cI s102.2]) ((v1 - (v0.length : Int)), (0 : Int)) rfl h
  fun G167 nx165 s102 hn166 h => wpC_seq <| wpC_kp <| wpC_seq <| reg_s <| st rfl <| mvd rfl rfl <| st rfl <| mvd rfl rfl <| stw rfl <| lens rfl fun l172 => st rfl <| b_lss (k := .i64) rfl rfl <| sq [q2 0 cc0 v0, q2 1 cI s102.1, q2 5 cI s102.2, q2 15 cB (decide (s102.2 < (v0.length : Int)))] <|
  xn <| cnd rfl h (fun b173 h => wpC_skip <| kpN [q2 0 cc0 v0, q2 1 cI s102.1, q2 5 cI s102.2] (by kernel_rfl) <| xn <| wpC_seq <| wpC_kp <| wpC_blk <| wpC_seq <| reg_s <| st rfl <| mvd rfl rfl <| st rfl <| mvd rfl rfl <| getO_k h fun x190 i191 g192 h => st rfl <| ias rfl rfl i191 g192 rfl <| st rfl <| ldi rfl rfl rfl rfl <| st rfl <| mvd rfl rfl <| bnd h fun x193 e194 h => st rfl <| o_call (a1 (c := cc3) (tXRecord tK tK (tLs tK)) rfl (a1 (c := cI) tK rfl a0)) (con_laws_szRecord e194) (.inl (so1 sK so0)) <| x_asg (ss rfl rfl) <| sq [q2 0 cc0 v0, q2 1 cI x193, q2 5 cI s102.2] <|
  xn <| wpC_seq <| reg_s <| st rfl <| mvd rfl rfl <| st rfl <| b_lss (k := .i64) rfl rfl <| sq [q2 0 cc0 v0, q2 1 cI x193, q2 5 cI s102.2, q2 25 cB (decide (x193 < (0 : Int)))] <|
  xn <| cnd rfl h (fun b195 h => wpC_seq <| reg_s <| x_asg (sc cI (-1 : Int) rfl) <| sq [q2 4 cI (-1 : Int)] <|
  xn <| wpC_ret <| rb <| rt <| rt <| rt <| rb <| rt <| rt <| re <| fin h (r1 (ss rfl rfl) <| r0) rfl)
  (fun b195 h => wpC_skip <| xbb <| kpN [q2 0 cc0 v0, q2 1 cI x193, q2 5 cI s102.2] (by kernel_rfl) <| xn <| reg_s <| st rfl <| mvd rfl rfl <| ckI_k h fun i196 h => st rfl <| b_add (k := .i64) rfl rfl i196 <| x_asg (ss rfl rfl) <| sq [q2 0 cc0 v0, q2 1 cI x193, q2 5 cI (s102.2 + (1 : Int))] <|
  xn <| hn166 (x193, (s102.2 + (1 : Int))) h))
  (fun b173 h => wpC_exit <| xt <| xt <| xt <| xb <| kpN [q2 1 cI s102.1] (by kernel_rfl) <| xn <| wpC_seq <| reg_s <| st rfl <| mvd rfl rfl <| x_asg (ss rfl rfl) <| sq [q2 4 cI s102.1] <|
  xn <| wpC_ret <| re <| fin h (r1 (ss rfl rfl) <| r0) rfl))

def rs_laws_toRecord (r : XRecord) : List D := [cc5.enc r]
def m101 : MC := .seq (.reg [q1 1 (.box (.t 0)),q1 2 (.alloc (.agg [.int .i64 0, .int .i64 0, .slice true []]))] [1, 2])
 (.seq (.reg [q1 3 (.alloc (.agg [.int .i64 0, .int .i64 0, .slice true []]))] [1, 2, 3])
 (.seq (.reg [q1 4 (.fa 1 0 0),q1 5 (.ld 4 1 false),q1 6 (.fa 3 0 0),q0 (.st 6 (.t 5) 1)] [1, 2, 3])
 (.seq (.reg [q1 7 (.fa 1 1 1),q1 8 (.ld 7 1 false),q1 9 (.fa 3 1 1),q0 (.st 9 (.t 8) 1)] [1, 2, 3])
 (.seq (.reg [q1 10 (.fa 1 2 2),q1 11 (.ld 10 1 false),q1 12 (.call 27 [(.t 11)]),q1 13 (.fa 3 2 2),q0 (.st 13 (.t 12) 1)] [2, 3])
 (.seq (.reg [q1 14 (.ld 3 3 true),q0 (.st 2 (.t 14) 3)] [2])
 (.ret))))))
theorem con_laws_toRecord {v0 : XRecord} {r : XRecord} (h : sh_laws_toRecord v0 = some r) : Con Try.prog 101 [cc3.enc v0] [] (rs_laws_toRecord r) := by
 delta sh_laws_toRecord at h
 refine top (out := none) (f := Try.f101) (m := m101) (rs := [.c 2 3 true]) (by kernel_rfl) rfl (by kernel_rfl) (by kernel_rfl) (by kernel_rfl) (by kernel_rfl) (by kernel_rfl) ?_
 exact
  ini [q2 0 cc3 v0] rfl <| wpC_seq <| reg_s <| x_box (ss rfl rfl) <| x_all cc5 (⟨(0 : Int), (0 : Int), ([] : List Int)⟩ : XRecord) rfl <| sq [q3 1 cc3 v0, q3 2 cc5 (⟨(0 : Int), (0 : Int), ([] : List Int)⟩ : XRecord)] <|
  xn <| wpC_seq <| reg_s <| x_all cc5 (⟨(0 : Int), (0 : Int), ([] : List Int)⟩ : XRecord) rfl <| sq [q3 1 cc3 v0, q3 2 cc5 (⟨(0 : Int), (0 : Int), ([] : List Int)⟩ : XRecord), q3 3 cc5 (⟨(0 : Int), (0 : Int), ([] : List Int)⟩ : XRecord)] <|
  xn <| wpC_seq <| reg_s <| st rfl <| fab rfl rfl rfl rfl <| st rfl <| lda rfl rfl rfl rfl rfl rfl <| st rfl <| fab rfl rfl rfl rfl <| x_sta (cc5.enc (⟨v0.Area, (0 : Int), ([] : List Int)⟩ : XRecord)) (ss rfl rfl) rfl rfl (Ln.fld rfl rfl Ln.nil rfl) (Cd.h_sz cI _) rfl <| sq [q3 1 cc3 v0, q3 2 cc5 (⟨(0 : Int), (0 : Int), ([] : List Int)⟩ : XRecord), q3 3 cc5 (⟨v0.Area, (0 : Int), ([] : List Int)⟩ : XRecord)] <|
  xn <| wpC_seq <| reg_s <| st rfl <| fab rfl rfl rfl rfl <| st rfl <| lda rfl rfl rfl rfl rfl rfl <| st rfl <| fab rfl rfl rfl rfl <| x_sta (cc5.enc (⟨v0.Area, v0.House, ([] : List Int)⟩ : XRecord)) (ss rfl rfl) rfl rfl (Ln.fld rfl rfl Ln.nil rfl) (Cd.h_sz cI _) rfl <| sq [q3 1 cc3 v0, q3 2 cc5 (⟨(0 : Int), (0 : Int), ([] : List Int)⟩ : XRecord), q3 3 cc5 (⟨v0.Area, v0.House, ([] : List Int)⟩ : XRecord)] <|
  xn <| wpC_seq <| reg_s <| st rfl <| fab rfl rfl rfl rfl <| st rfl <| lda rfl rfl rfl rfl rfl rfl <| bnd h fun x3 e4 h => st rfl <| o_call (a1 (c := cc11) (tLs tK) rfl a0) (con_laws_toIntS e4) (.inl (so1 (sLo sK) so0)) <| st rfl <| fab rfl rfl rfl rfl <| x_sta (cc5.enc (⟨v0.Area, v0.House, x3⟩ : XRecord)) (so rfl rfl) rfl rfl (Ln.fld rfl rfl Ln.nil rfl) (Cd.h_sz cc12 _) rfl <| sq [q3 2 cc5 (⟨(0 : Int), (0 : Int), ([] : List Int)⟩ : XRecord), q3 3 cc5 (⟨v0.Area, v0.House, x3⟩ : XRecord)] <|
  xn <| wpC_seq <| reg_s <| st rfl <| ldbo rfl rfl rfl rfl <| x_stb (sb rfl rfl) rfl (Cd.h_sz _ _) rfl <| sq [q3 2 cc5 (⟨v0.Area, v0.House, x3⟩ : XRecord)] <|
  xn <| wpC_ret <| re <| fin h (r2 rfl rfl rfl <| r0) rfl

def rs_laws_toRecordS (r : (List XRecord)) : List D := [cc2.enc r]
def m41 : MC := .seq (.reg [q1 2 (.asg (.c (.slice true [])))] [0])
 (.seq (.reg [q1 5 (.mv (.t 0)),q1 6 (.len false (.t 5)),q1 7 (.mk (.agg [.int .i64 0, .int .i64 0, .slice true []]) (.t 6)),q1 3 (.asg (.t 7))] [0, 3])
 (.seq (.kp [3] (.seq (.reg [q1 4 (.asg (.c (.int .i64 0)))] [0, 3, 4])
 (.blk 0 (.loop (.seq (.kp [0, 3, 4] (.seq (.reg [q1 8 (.mv (.t 4)),q1 9 (.mv (.t 0)),q1 10 (.len false (.t 9)),q1 11 (.bin .lss (.t 8) (.t 10))] [0, 3, 4, 11])
 (.cond (.t 11) (.skip) (.exit 0))))
 (.seq (.kp [0, 3, 4] (.blk 1 (.reg [q1 14 (.mv (.t 3)),q1 15 (.mv (.t 4)),q1 16 (.mv (.t 0)),q1 17 (.mv (.t 4)),q1 18 (.ia 16 (.t 17) 3),q1 19 (.ld 18 3 true),q1 20 (.call 101 [(.t 19)]),q1 21 (.ia 14 (.t 15) 3),q0 (.st 21 (.t 20) 3)] [0, 3, 4])))
 (.reg [q1 12 (.mv (.t 4)),q1 13 (.bin .add (.t 12) (.c (.int .i64 1))),q1 4 (.asg (.t 13))] [0, 3, 4])))))))
 (.seq (.reg [q1 22 (.mv (.t 3)),q1 2 (.asg (.t 22))] [2])
 (.ret))))
theorem con_laws_toRecordS {v0 : (List XRecord)} {r : (List XRecord)} (h : sh_laws_toRecordS v0 = some r) : Con Try.prog 41 [cc0.enc v0] [] (rs_laws_toRecordS r) := by
 delta sh_laws_toRecordS at h
 refine top (out := none) (f := Try.f41) (m := m41) (rs := [.t 2]) (by kernel_rfl) rfl (by kernel_rfl) (by kernel_rfl) (by kernel_rfl) (by kernel_rfl) (by kernel_rfl) ?_
 exact
  ini [q2 0 cc0 v0] rfl <| wpC_seq <| reg_s <| x_asg (sc cc2 ([] : List XRecord) rfl) <| sq [q2 0 cc0 v0] <|
  xn <| wpC_seq <| reg_s <| st rfl <| mvd rfl rfl <| stw rfl <| lens rfl fun l4 => mkO_k h fun i5 l6 h => st rfl <| o_mk (c := cc5) (a0 := (⟨(0 : Int), (0 : Int), ([] : List Int)⟩ : XRecord)) rfl (k := .i64) rfl i5 l6 <| x_asg (so rfl rfl) <| sq [q2 0 cc0 v0, q2 3 cc2 (List.replicate ((v0.length : Int)).toNat (⟨(0 : Int), (0 : Int), ([] : List Int)⟩ : XRecord))] <|
  xn <| wpC_seq <| wpC_kp <| wpC_seq <| reg_s <| x_asg (sc cI (0 : Int) rfl) <| sq [q2 0 cc0 v0, q2 3 cc2 (List.replicate ((v0.length : Int)).toNat (⟨(0 : Int), (0 : Int), ([] : List Int)⟩ : XRecord)), q2 4 cI (0 : Int)] <|
  xn <| wpC_blk <| lpF (fun (s84 : ((List XRecord) × Int)) => [q2 0 cc0 v0, q2 3 cc2 s84.1, q2 4 cI s84.2]) ((List.replicate ((v0.length : Int)).toNat (⟨(0 : Int), (0 : Int), ([] : List Int)⟩ : XRecord)), (0 : Int)) rfl h
  fun G137 nx135 s84 hn136 h => wpC_seq <| wpC_kp <| wpC_seq <| reg_s <| st rfl <| mvd rfl rfl <| st rfl <| mvd rfl rfl <| stw rfl <| lens rfl fun l142 => st rfl <| b_lss (k := .i64) rfl rfl <| sq [q2 0 cc0 v0, q2 3 cc2 s84.1, q2 4 cI s84.2, q2 11 cB (decide (s84.2 < (v0.length : Int)))] <|
  xn <| cnd rfl h (fun b143 h => wpC_skip <| kpN [q2 0 cc0 v0, q2 3 cc2 s84.1, q2 4 cI s84.2] (by kernel_rfl) <| xn <| wpC_seq <| wpC_kp <| wpC_blk <| reg_s <| st rfl <| mvo rfl rfl <| st rfl <| mvd rfl rfl <| st rfl <| mvd rfl rfl <| st rfl <| mvd rfl rfl <| getO_k h fun x152 i153 g154 h => st rfl <| ias rfl rfl i153 g154 rfl <| st rfl <| ldi rfl rfl rfl rfl <| bnd h fun x155 e156 h => st rfl <| o_call (a1 (c := cc3) (tXRecord tK tK (tLs tK)) rfl a0) (con_laws_toRecord e156) (.inl (so1 (sXRecord sK sK (sLo sK)) so0)) <| getO_k h fun x157 i158 g159 h => st rfl <| iar rfl rfl rfl rfl i158 g159 rfl <| x_sta (cc2.enc (s84.1.set (s84.2).toNat x155)) (so rfl rfl) rfl rfl (Ln.idx g159 Ln.nil) (Cd.h_sz cc5 _) rfl <| sq [q2 0 cc0 v0, q2 3 cc2 (s84.1.set (s84.2).toNat x155), q2 4 cI s84.2] <|
  xbb <| kpN [q2 0 cc0 v0, q2 3 cc2 (s84.1.set (s84.2).toNat x155), q2 4 cI s84.2] (by kernel_rfl) <| xn <| reg_s <| st rfl <| mvd rfl rfl <| ckI_k h fun i160 h => st rfl <| b_add (k := .i64) rfl rfl i160 <| x_asg (ss rfl rfl) <| sq [q2 0 cc0 v0, q2 3 cc2 (s84.1.set (s84.2).toNat x155), q2 4 cI (s84.2 + (1 : Int))] <|
  xn <| hn136 ((s84.1.set (s84.2).toNat x155), (s84.2 + (1 : Int))) h)
  (fun b143 h => wpC_exit <| xt <| xt <| xt <| xb <| kpN [q2 3 cc2 s84.1] (by kernel_rfl) <| xn <| wpC_seq <| reg_s <| st rfl <| mvo rfl rfl <| x_asg (sr rfl rfl) <| sq [q2 2 cc2 s84.1] <|
  xn <| wpC_ret <| re <| fin h (r1 (so rfl rfl) <| r0) rfl)

def rs_spec_rGood (r : Bool) : List D := [cB.enc r]
def m145 : MC := .seq (.reg [q1 3 (.box (.t 1)),q1 4 (.asg (.c (.bool false)))] [0, 3])
 (.seq (.reg [q1 5 (.fa 3 0 0),q1 6 (.ld 5 1 false),q1 7 (.call 111 [(.t 6), (.c (.int .i64 0)), (.c (.int .i64 29))]),q1 8 (.mv (.t 7)),
  ⟨some 9, .fa 3 1 1, some (8, true)⟩,
  ⟨some 10, .ld 9 1 false, some (8, true)⟩,
  ⟨some 11, .call 111 [(.t 10), (.c (.int .i64 0)), (.c (.int .i64 999))], some (8, true)⟩,q1 12 (.pick (.t 8) (.t 11) (.c (.bool false))),q1 13 (.mv (.t 12)),
  ⟨some 14, .mv (.t 0), some (13, true)⟩,
  ⟨some 15, .fa 3 2 2, some (13, true)⟩,
  ⟨some 16, .ld 15 1 false, some (13, true)⟩,
  ⟨some 17, .call 89 [(.t 14), (.t 16)], some (13, true)⟩,q1 18 (.pick (.t 13) (.t 17) (.c (.bool false))),q1 4 (.asg (.t 18))] [4])
 (.ret))
theorem con_spec_rGood {v0 : (List XVariable)} {v1 : XRecord} {r : Bool} (h : sh_spec_rGood v0 v1 = some r) : Con Try.prog 145 [cc4.enc v0, cc3.enc v1] [] (rs_spec_rGood r) := by
 delta sh_spec_rGood at h
 refine top (out := none) (f := Try.f145) (m := m145) (rs := [.t 4]) (by kernel_rfl) rfl (by kernel_rfl) (by kernel_rfl) (by kernel_rfl) (by kernel_rfl) (by kernel_rfl) ?_
 exact
  ini [q2 0 cc4 v0, q2 1 cc3 v1] rfl <| wpC_seq <| reg_s <| x_box (ss rfl rfl) <| x_asg (sc cB false rfl) <| sq [q2 0 cc4 v0, q3 3 cc3 v1] <|
  xn <| wpC_seq <| reg_s <| st rfl <| fab rfl rfl rfl rfl <| st rfl <| lda rfl rfl rfl rfl rfl rfl <| bnd h fun x9 e10 h => st rfl <| o_call (a1 (c := cI) tK rfl (a1 (c := cI) tK rfl (a1 (c := cI) tK rfl a0))) (con_spec_l1In e10) (.inl (so1 sB so0)) <| st rfl <| mvd rfl rfl <| ite_k h (fun b11 h => gt' rfl b11 <| st rfl <| fab rfl rfl rfl rfl <| gt' rfl b11 <| st rfl <| lda rfl rfl rfl rfl rfl rfl <| gt' rfl b11 <| bnd h fun x12 e13 h => st rfl <| o_call (a1 (c := cI) tK rfl (a1 (c := cI) tK rfl (a1 (c := cI) tK rfl a0))) (con_spec_l1In e13) (.inl (so1 sB so0)) <| st rfl <| pick1 rfl b11 (cd := cB) (v := x12) rfl rfl <| st rfl <| mvd rfl rfl <| ite_k h (fun b14 h => gt' rfl b14 <| st rfl <| mvd rfl rfl <| gt' rfl b14 <| st rfl <| fab rfl rfl rfl rfl <| gt' rfl b14 <| st rfl <| lda rfl rfl rfl rfl rfl rfl <| gt' rfl b14 <| bnd h fun x15 e16 h => st rfl <| o_call (a1 (c := cc4) (tLs (tXVariable tS tK)) rfl (a1 (c := cc11) (tLs tK) rfl a0)) (con_spec_sFits e16) (.inl (so1 sB so0)) <| st rfl <| pick1 rfl b14 (cd := cB) (v := x15) rfl rfl <| x_asg (ss rfl rfl) <| sq [q2 4 cB x15] <|
  xn <| wpC_ret <| re <| fin h (r1 (ss rfl rfl) <| r0) rfl)
  (fun b14 h => gf rfl b14 <| gf rfl b14 <| gf rfl b14 <| gf rfl b14 <| st rfl <| pick0 rfl b14 (cd := cB) (v := false) rfl rfl <| x_asg (ss rfl rfl) <| sq [q2 4 cB false] <|
  xn <| wpC_ret <| re <| fin h (r1 (ss rfl rfl) <| r0) rfl))
  (fun b11 h => gf rfl b11 <| gf rfl b11 <| gf rfl b11 <| st rfl <| pick0 rfl b11 (cd := cB) (v := false) rfl rfl <| st rfl <| mvd rfl rfl <| gf rfl rfl <| gf rfl rfl <| gf rfl rfl <| gf rfl rfl <| st rfl <| pick0 rfl rfl (cd := cB) (v := false) rfl rfl <| x_asg (ss rfl rfl) <| sq [q2 4 cB false] <|
  xn <| wpC_ret <| re <| fin h (r1 (ss rfl rfl) <| r0) rfl)

end AS.W
