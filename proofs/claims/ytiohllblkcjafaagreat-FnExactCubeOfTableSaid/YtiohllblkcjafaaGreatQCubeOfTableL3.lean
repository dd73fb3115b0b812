/- The program computes the plain functions. No condition. -/
import Derived.Test.YtiohllblkcjafaaGreatQCubeOfTableS
import Derived.Test.YtiohllblkcjafaaGreatProg
import Derived.Test.YtiohllblkcjafaaGreatQCubeOfTableL2
set_option maxRecDepth 100000
set_option linter.unusedVariables false
set_option linter.unusedSimpArgs false
namespace AS.W
open Go Go.Proofs
def rs_impl_IsSchema (r : Bool) : List D := [cB.enc r]
def m70 : MC := .seq (.reg [q1 2 (.asg (.c (.bool false)))] [0])
 (.seq (.kp [0] (.seq (.reg [q1 7 (.mv (.t 0)),q1 8 (.len false (.t 7)),q1 9 (.bin .lss (.t 8) (.c (.int .i64 1))),q1 10 (.mv (.t 9)),
  ⟨some 11, .mv (.t 0), some (10, false)⟩,
  ⟨some 12, .len false (.t 11), some (10, false)⟩,
  ⟨some 13, .bin .gtr (.t 12) (.c (.int .i64 6)), some (10, false)⟩,q1 14 (.pick (.t 10) (.c (.bool true)) (.t 13))] [0, 14])
 (.cond (.t 14) (.seq (.reg [q1 2 (.asg (.c (.bool false)))] [2])
 (.ret)) (.skip))))
 (.seq (.kp [] (.seq (.reg [q1 15 (.mv (.t 0)),q1 16 (.len false (.t 15)),q1 17 (.mv (.c (.int .i64 0)))] [0, 15, 16, 17])
 (.blk 0 (.loop (.seq (.reg [q1 18 (.bin .lss (.t 17) (.t 16))] [0, 15, 16, 17, 18])
 (.seq (.kp [0, 15, 16, 17] (.cond (.t 18) (.skip) (.exit 0)))
 (.seq (.kp [0, 15, 16, 17] (.blk 1 (.seq (.reg [q1 19 (.mv (.t 17)),q1 20 (.ia 15 (.t 17) 2),q1 21 (.ld 20 2 true),q1 4 (.alloc (.agg [.str [], .int .i64 0])),q1 3 (.asg (.t 19)),q0 (.st 4 (.t 21) 2)] [0, 3, 4, 15, 16, 17])
 (.seq (.kp [0, 3, 4, 15, 16, 17] (.seq (.reg [q1 22 (.fa 4 0 0),q1 23 (.ld 22 1 false),q1 24 (.call 93 [(.t 23)]),q1 25 (.nt (.t 24)),q1 26 (.mv (.t 25)),
  ⟨some 27, .fa 4 1 1, some (26, false)⟩,
  ⟨some 28, .ld 27 1 false, some (26, false)⟩,
  ⟨some 29, .bin .lss (.t 28) (.c (.int .i64 2)), some (26, false)⟩,q1 30 (.pick (.t 26) (.c (.bool true)) (.t 29)),q1 31 (.mv (.t 30)),
  ⟨some 32, .fa 4 1 1, some (31, false)⟩,
  ⟨some 33, .ld 32 1 false, some (31, false)⟩,
  ⟨some 34, .bin .gtr (.t 33) (.c (.int .i64 8)), some (31, false)⟩,q1 35 (.pick (.t 31) (.c (.bool true)) (.t 34))] [0, 3, 4, 15, 16, 17, 35])
 (.cond (.t 35) (.seq (.reg [q1 2 (.asg (.c (.bool false)))] [2])
 (.ret)) (.skip))))
 (.seq (.reg [q1 36 (.mv (.t 0)),q1 37 (.mv (.t 3)),q1 38 (.sl (.t 36) none (some (.t 37)) 2),q1 39 (.len false (.t 38)),q1 40 (.mv (.c (.int .i64 0)))] [0, 4, 15, 16, 17, 38, 39, 40])
 (.blk 2 (.loop (.seq (.reg [q1 41 (.bin .lss (.t 40) (.t 39))] [0, 4, 15, 16, 17, 38, 39, 40, 41])
 (.seq (.kp [0, 4, 15, 16, 17, 38, 39, 40] (.cond (.t 41) (.skip) (.exit 2)))
 (.seq (.kp [0, 4, 15, 16, 17, 38, 39, 40] (.blk 3 (.seq (.reg [q1 42 (.ia 38 (.t 40) 2),q1 43 (.ld 42 2 true),q1 6 (.alloc (.agg [.str [], .int .i64 0])),q0 (.st 6 (.t 43) 2)] [0, 4, 6, 15, 16, 17, 38, 39, 40])
 (.seq (.reg [q1 44 (.fa 6 0 0),q1 45 (.ld 44 1 false),q1 46 (.fa 4 0 0),q1 47 (.ld 46 1 false),q1 48 (.bin .eql (.t 45) (.t 47))] [0, 4, 15, 16, 17, 38, 39, 40, 48])
 (.cond (.t 48) (.seq (.reg [q1 2 (.asg (.c (.bool false)))] [2])
 (.ret)) (.skip))))))
 (.reg [q1 49 (.bin .add (.t 40) (.c (.int .i64 1))),q1 40 (.mv (.t 49))] [0, 4, 15, 16, 17, 38, 39, 40])))))))))))
 (.reg [q1 50 (.bin .add (.t 17) (.c (.int .i64 1))),q1 17 (.mv (.t 50))] [0, 15, 16, 17]))))))))
 (.seq (.reg [q1 2 (.asg (.c (.bool true)))] [2])
 (.ret))))
theorem con_impl_IsSchema {v0 : (List XVariable)} {r : Bool} (h : sh_impl_IsSchema v0 = some r) : Con Tryz.prog 70 [cc6.enc v0] [] (rs_impl_IsSchema r) := by
 delta sh_impl_IsSchema at h
 refine top (out := none) (f := Tryz.f70) (m := m70) (rs := [.t 2]) (by kernel_rfl) rfl (by kernel_rfl) (by kernel_rfl) (by kernel_rfl) (by kernel_rfl) (by kernel_rfl) ?_
 exact
  ini [q2 0 cc6 v0] rfl <| wpC_seq <| reg_s <| x_asg (sc cB false rfl) <| sq [q2 0 cc6 v0] <|
  xn <| wpC_seq <| wpC_kp <| wpC_seq <| reg_s <| st rfl <| mvd rfl rfl <| stw rfl <| lens rfl fun l11 => st rfl <| b_lss (k := .i64) rfl rfl <| st rfl <| mvd rfl rfl <| ite_k h (fun b12 h => gf rfl b12 <| gf rfl b12 <| gf rfl b12 <| st rfl <| pick1 rfl b12 (cd := cB) (v := true) rfl rfl <| sq [q2 0 cc6 v0, q2 14 cB true] <|
  xn <| cnd1 rfl rfl <| wpC_seq <| reg_s <| x_asg (sc cB false rfl) <| sq [q2 2 cB false] <|
  xn <| wpC_ret <| rt <| rt <| re <| fin h (r1 (ss rfl rfl) <| r0) rfl)
  (fun b12 h => gt' rfl b12 <| st rfl <| mvd rfl rfl <| gt' rfl b12 <| stw rfl <| lens rfl fun l13 => gt' rfl b12 <| st rfl <| b_gtr (k := .i64) rfl rfl <| st rfl <| pick0 rfl b12 (cd := cB) (v := (decide ((6 : Int) < (v0.length : Int)))) rfl rfl <| sq [q2 0 cc6 v0, q2 14 cB (decide ((6 : Int) < (v0.length : Int)))] <|
  xn <| cnd rfl h (fun b14 h => wpC_seq <| reg_s <| x_asg (sc cB false rfl) <| sq [q2 2 cB false] <|
  xn <| wpC_ret <| rt <| rt <| re <| fin h (r1 (ss rfl rfl) <| r0) rfl)
  (fun b14 h => wpC_skip <| kpN [q2 0 cc6 v0] (by kernel_rfl) <| xn <| wpC_seq <| wpC_kp <| wpC_seq <| reg_s <| st rfl <| mvd rfl rfl <| stw rfl <| lens rfl fun l162 => st rfl <| mvc cI (0 : Int) rfl <| sq [q2 0 cc6 v0, q2 15 cc6 v0, q2 16 cI (v0.length : Int), q2 17 cI (0 : Int)] <|
  xn <| wpC_blk <| lpR (fun (k164 : Nat) (s163 : Unit) => [q2 0 cc6 v0, q2 15 cc6 v0, q2 16 cI (v0.length : Int), q2 17 cI (k164 : Int)]) () rfl h
  (fun G238 s163 h => wpC_seq <| reg_s <| st rfl <| b_lss (k := .i64) rfl rfl <| sq [q2 0 cc6 v0, q2 15 cc6 v0, q2 16 cI (v0.length : Int), q2 17 cI (v0.length : Int), q2 18 cB (decide ((v0.length : Int) < (v0.length : Int)))] <|
  xn <| wpC_seq <| wpC_kp <| cnd0 rfl (dlf _) <| wpC_exit <| xt <| xt <| xt <| xb <| kpN [] (by kernel_rfl) <| xn <| wpC_seq <| reg_s <| x_asg (sc cB true rfl) <| sq [q2 2 cB true] <|
  xn <| wpC_ret <| re <| fin h (r1 (ss rfl rfl) <| r0) rfl)
  (fun G238 nx236 k164 s163 x165 hk166 hx167 hn237 h => wpC_seq <| reg_s <| st rfl <| b_lss (k := .i64) rfl rfl <| sq [q2 0 cc6 v0, q2 15 cc6 v0, q2 16 cI (v0.length : Int), q2 17 cI (k164 : Int), q2 18 cB (decide ((k164 : Int) < (v0.length : Int)))] <|
  xn <| wpC_seq <| wpC_kp <| cnd1 rfl (dlt hk166) <| wpC_skip <| kpN [q2 0 cc6 v0, q2 15 cc6 v0, q2 16 cI (v0.length : Int), q2 17 cI (k164 : Int)] (by kernel_rfl) <| xn <| wpC_seq <| wpC_kp <| wpC_blk <| wpC_seq <| reg_s <| st rfl <| mvd rfl rfl <| st rfl <| ias rfl rfl (Int.natCast_nonneg _) hx167 rfl <| st rfl <| ldi rfl rfl rfl rfl <| x_all cc11 (⟨([] : List UInt8), (0 : Int)⟩ : XVariable) rfl <| x_asg (ss rfl rfl) <| x_stb (ss rfl rfl) rfl (Cd.h_sz _ _) rfl <| sq [q2 0 cc6 v0, q2 3 cI (k164 : Int), q3 4 cc11 x165, q2 15 cc6 v0, q2 16 cI (v0.length : Int), q2 17 cI (k164 : Int)] <|
  xn <| wpC_seq <| wpC_kp <| wpC_seq <| reg_s <| st rfl <| fab rfl rfl rfl rfl <| st rfl <| lda rfl rfl rfl rfl rfl rfl <| bnd h fun x286 e287 h => st rfl <| o_call (a1 (c := cS) tS rfl a0) (con_impl_isWord e287) (.inl (so1 sB so0)) <| st rfl <| o_nt rfl <| st rfl <| mvd rfl rfl <| ite_k h (fun b288 h => gf rfl b288 <| gf rfl b288 <| gf rfl b288 <| st rfl <| pick1 rfl b288 (cd := cB) (v := true) rfl rfl <| st rfl <| mvd rfl rfl <| gf rfl rfl <| gf rfl rfl <| gf rfl rfl <| st rfl <| pick1 rfl rfl (cd := cB) (v := true) rfl rfl <| sq [q2 0 cc6 v0, q2 3 cI (k164 : Int), q3 4 cc11 x165, q2 15 cc6 v0, q2 16 cI (v0.length : Int), q2 17 cI (k164 : Int), q2 35 cB true] <|
  xn <| cnd1 rfl rfl <| wpC_seq <| reg_s <| x_asg (sc cB false rfl) <| sq [q2 2 cB false] <|
  xn <| wpC_ret <| rt <| rt <| rb <| rt <| rt <| rt <| rb <| rt <| rt <| re <| fin h (r1 (ss rfl rfl) <| r0) rfl)
  (fun b288 h => gt' rfl b288 <| st rfl <| fab rfl rfl rfl rfl <| gt' rfl b288 <| st rfl <| lda rfl rfl rfl rfl rfl rfl <| gt' rfl b288 <| st rfl <| b_lss (k := .i64) rfl rfl <| st rfl <| pick0 rfl b288 (cd := cB) (v := (decide (x165.Levels < (2 : Int)))) rfl rfl <| st rfl <| mvd rfl rfl <| ite_k h (fun b289 h => gf rfl b289 <| gf rfl b289 <| gf rfl b289 <| st rfl <| pick1 rfl b289 (cd := cB) (v := true) rfl rfl <| sq [q2 0 cc6 v0, q2 3 cI (k164 : Int), q3 4 cc11 x165, q2 15 cc6 v0, q2 16 cI (v0.length : Int), q2 17 cI (k164 : Int), q2 35 cB true] <|
  xn <| cnd1 rfl rfl <| wpC_seq <| reg_s <| x_asg (sc cB false rfl) <| sq [q2 2 cB false] <|
  xn <| wpC_ret <| rt <| rt <| rb <| rt <| rt <| rt <| rb <| rt <| rt <| re <| fin h (r1 (ss rfl rfl) <| r0) rfl)
  (fun b289 h => gt' rfl b289 <| st rfl <| fab rfl rfl rfl rfl <| gt' rfl b289 <| st rfl <| lda rfl rfl rfl rfl rfl rfl <| gt' rfl b289 <| st rfl <| b_gtr (k := .i64) rfl rfl <| st rfl <| pick0 rfl b289 (cd := cB) (v := (decide ((8 : Int) < x165.Levels))) rfl rfl <| sq [q2 0 cc6 v0, q2 3 cI (k164 : Int), q3 4 cc11 x165, q2 15 cc6 v0, q2 16 cI (v0.length : Int), q2 17 cI (k164 : Int), q2 35 cB (decide ((8 : Int) < x165.Levels))] <|
  xn <| cnd rfl h (fun b290 h => wpC_seq <| reg_s <| x_asg (sc cB false rfl) <| sq [q2 2 cB false] <|
  xn <| wpC_ret <| rt <| rt <| rb <| rt <| rt <| rt <| rb <| rt <| rt <| re <| fin h (r1 (ss rfl rfl) <| r0) rfl)
  (fun b290 h => wpC_skip <| kpN [q2 0 cc6 v0, q2 3 cI (k164 : Int), q3 4 cc11 x165, q2 15 cc6 v0, q2 16 cI (v0.length : Int), q2 17 cI (k164 : Int)] (by kernel_rfl) <| xn <| wpC_seq <| reg_s <| st rfl <| mvd rfl rfl <| st rfl <| mvd rfl rfl <| ck_k h fun i293 h => st rfl <| o_sl rfl rfl lo0 (hi1 (k := .i64) rfl i293.1) i293.2 <| stw rfl <| lens rfl fun l294 => st rfl <| mvc cI (0 : Int) rfl <| sq [q2 0 cc6 v0, q3 4 cc11 x165, q2 15 cc6 v0, q2 16 cI (v0.length : Int), q2 17 cI (k164 : Int), q2 38 cc6 ((v0.take ((k164 : Int)).toNat).drop 0), q2 39 cI (((v0.take ((k164 : Int)).toNat).drop 0).length : Int), q2 40 cI (0 : Int)] <|
  xn <| wpC_blk <| lpR (fun (k296 : Nat) (s295 : Unit) => [q2 0 cc6 v0, q3 4 cc11 x165, q2 15 cc6 v0, q2 16 cI (v0.length : Int), q2 17 cI (k164 : Int), q2 38 cc6 ((v0.take ((k164 : Int)).toNat).drop 0), q2 39 cI (((v0.take ((k164 : Int)).toNat).drop 0).length : Int), q2 40 cI (k296 : Int)]) () rfl h
  (fun G304 s295 h => wpC_seq <| reg_s <| st rfl <| b_lss (k := .i64) rfl rfl <| sq [q2 0 cc6 v0, q3 4 cc11 x165, q2 15 cc6 v0, q2 16 cI (v0.length : Int), q2 17 cI (k164 : Int), q2 38 cc6 ((v0.take ((k164 : Int)).toNat).drop 0), q2 39 cI (((v0.take ((k164 : Int)).toNat).drop 0).length : Int), q2 40 cI (((v0.take ((k164 : Int)).toNat).drop 0).length : Int), q2 41 cB (decide ((((v0.take ((k164 : Int)).toNat).drop 0).length : Int) < (((v0.take ((k164 : Int)).toNat).drop 0).length : Int)))] <|
  xn <| wpC_seq <| wpC_kp <| cnd0 rfl (dlf _) <| wpC_exit <| xt <| xt <| xt <| xb <| xbb <| kpN [q2 0 cc6 v0, q2 15 cc6 v0, q2 16 cI (v0.length : Int), q2 17 cI (k164 : Int)] (by kernel_rfl) <| xn <| reg_s <| st rfl <| b_inc rfl rfl l162 hk166 <| st rfl <| mvd rfl rfl <| sq [q2 0 cc6 v0, q2 15 cc6 v0, q2 16 cI (v0.length : Int), q2 17 cI ((k164 + 1 : Nat) : Int)] <|
  xn <| hn237 () h)
  (fun G304 nx302 k296 s295 x297 hk298 hx299 hn303 h => wpC_seq <| reg_s <| st rfl <| b_lss (k := .i64) rfl rfl <| sq [q2 0 cc6 v0, q3 4 cc11 x165, q2 15 cc6 v0, q2 16 cI (v0.length : Int), q2 17 cI (k164 : Int), q2 38 cc6 ((v0.take ((k164 : Int)).toNat).drop 0), q2 39 cI (((v0.take ((k164 : Int)).toNat).drop 0).length : Int), q2 40 cI (k296 : Int), q2 41 cB (decide ((k296 : Int) < (((v0.take ((k164 : Int)).toNat).drop 0).length : Int)))] <|
  xn <| wpC_seq <| wpC_kp <| cnd1 rfl (dlt hk298) <| wpC_skip <| kpN [q2 0 cc6 v0, q3 4 cc11 x165, q2 15 cc6 v0, q2 16 cI (v0.length : Int), q2 17 cI (k164 : Int), q2 38 cc6 ((v0.take ((k164 : Int)).toNat).drop 0), q2 39 cI (((v0.take ((k164 : Int)).toNat).drop 0).length : Int), q2 40 cI (k296 : Int)] (by kernel_rfl) <| xn <| wpC_seq <| wpC_kp <| wpC_blk <| wpC_seq <| reg_s <| st rfl <| ias rfl rfl (Int.natCast_nonneg _) hx299 rfl <| st rfl <| ldi rfl rfl rfl rfl <| x_all cc11 (⟨([] : List UInt8), (0 : Int)⟩ : XVariable) rfl <| x_stb (ss rfl rfl) rfl (Cd.h_sz _ _) rfl <| sq [q2 0 cc6 v0, q3 4 cc11 x165, q3 6 cc11 x297, q2 15 cc6 v0, q2 16 cI (v0.length : Int), q2 17 cI (k164 : Int), q2 38 cc6 ((v0.take ((k164 : Int)).toNat).drop 0), q2 39 cI (((v0.take ((k164 : Int)).toNat).drop 0).length : Int), q2 40 cI (k296 : Int)] <|
  xn <| wpC_seq <| reg_s <| st rfl <| fab rfl rfl rfl rfl <| st rfl <| lda rfl rfl rfl rfl rfl rfl <| st rfl <| fab rfl rfl rfl rfl <| st rfl <| lda rfl rfl rfl rfl rfl rfl <| st rfl <| b_seq rfl rfl <| sq [q2 0 cc6 v0, q3 4 cc11 x165, q2 15 cc6 v0, q2 16 cI (v0.length : Int), q2 17 cI (k164 : Int), q2 38 cc6 ((v0.take ((k164 : Int)).toNat).drop 0), q2 39 cI (((v0.take ((k164 : Int)).toNat).drop 0).length : Int), q2 40 cI (k296 : Int), q2 48 cB (decide (x297.Name = x165.Name))] <|
  xn <| cnd rfl h (fun b306 h => wpC_seq <| reg_s <| x_asg (sc cB false rfl) <| sq [q2 2 cB false] <|
  xn <| wpC_ret <| rb <| rt <| rt <| rt <| rb <| rb <| rt <| rt <| rt <| rb <| rt <| rt <| re <| fin h (r1 (ss rfl rfl) <| r0) rfl)
  (fun b306 h => wpC_skip <| xbb <| kpN [q2 0 cc6 v0, q3 4 cc11 x165, q2 15 cc6 v0, q2 16 cI (v0.length : Int), q2 17 cI (k164 : Int), q2 38 cc6 ((v0.take ((k164 : Int)).toNat).drop 0), q2 39 cI (((v0.take ((k164 : Int)).toNat).drop 0).length : Int), q2 40 cI (k296 : Int)] (by kernel_rfl) <| xn <| reg_s <| st rfl <| b_inc rfl rfl l294 hk298 <| st rfl <| mvd rfl rfl <| sq [q2 0 cc6 v0, q3 4 cc11 x165, q2 15 cc6 v0, q2 16 cI (v0.length : Int), q2 17 cI (k164 : Int), q2 38 cc6 ((v0.take ((k164 : Int)).toNat).drop 0), q2 39 cI (((v0.take ((k164 : Int)).toNat).drop 0).length : Int), q2 40 cI ((k296 + 1 : Nat) : Int)] <|
  xn <| hn303 () h))))))))

def rs_impl_areVars (r : Bool) : List D := [cB.enc r]
def m94 : MC := .seq (.reg [q1 4 (.asg (.c (.bool false)))] [0, 1])
 (.seq (.reg [q1 5 (.asg (.c (.int .i64 (-1))))] [0, 1, 5])
 (.seq (.kp [] (.seq (.reg [q1 8 (.mv (.t 1)),q1 9 (.len false (.t 8)),q1 10 (.mv (.c (.int .i64 0)))] [0, 1, 5, 8, 9, 10])
 (.blk 0 (.loop (.seq (.reg [q1 11 (.bin .lss (.t 10) (.t 9))] [0, 1, 5, 8, 9, 10, 11])
 (.seq (.kp [0, 1, 5, 8, 9, 10] (.cond (.t 11) (.skip) (.exit 0)))
 (.seq (.kp [0, 1, 5, 8, 9, 10] (.blk 1 (.seq (.reg [q1 12 (.ia 8 (.t 10) 1),q1 13 (.ld 12 1 false),q1 7 (.asg (.t 13))] [0, 1, 5, 7, 8, 9, 10])
 (.seq (.kp [0, 1, 7, 8, 9, 10] (.seq (.reg [q1 14 (.mv (.t 7)),q1 15 (.mv (.t 5)),q1 16 (.bin .leq (.t 14) (.t 15)),q1 17 (.mv (.t 16)),
  ⟨some 18, .mv (.t 7), some (17, false)⟩,
  ⟨some 19, .mv (.t 0), some (17, false)⟩,
  ⟨some 20, .len false (.t 19), some (17, false)⟩,
  ⟨some 21, .bin .geq (.t 18) (.t 20), some (17, false)⟩,q1 22 (.pick (.t 17) (.c (.bool true)) (.t 21))] [0, 1, 7, 8, 9, 10, 22])
 (.cond (.t 22) (.seq (.reg [q1 4 (.asg (.c (.bool false)))] [4])
 (.ret)) (.skip))))
 (.reg [q1 23 (.mv (.t 7)),q1 5 (.asg (.t 23))] [0, 1, 5, 8, 9, 10])))))
 (.reg [q1 24 (.bin .add (.t 10) (.c (.int .i64 1))),q1 10 (.mv (.t 24))] [0, 1, 5, 8, 9, 10]))))))))
 (.seq (.reg [q1 4 (.asg (.c (.bool true)))] [4])
 (.ret))))
theorem con_impl_areVars {v0 : (List XVariable)} {v1 : (List Int)} {r : Bool} (h : sh_impl_areVars v0 v1 = some r) : Con Tryz.prog 94 [cc6.enc v0, cc13.enc v1] [] (rs_impl_areVars r) := by
 delta sh_impl_areVars at h
 refine top (out := none) (f := Tryz.f94) (m := m94) (rs := [.t 4]) (by kernel_rfl) rfl (by kernel_rfl) (by kernel_rfl) (by kernel_rfl) (by kernel_rfl) (by kernel_rfl) ?_
 exact
  ini [q2 0 cc6 v0, q2 1 cc13 v1] rfl <| wpC_seq <| reg_s <| x_asg (sc cB false rfl) <| sq [q2 0 cc6 v0, q2 1 cc13 v1] <|
  xn <| wpC_seq <| reg_s <| x_asg (sc cI (-1 : Int) rfl) <| sq [q2 0 cc6 v0, q2 1 cc13 v1, q2 5 cI (-1 : Int)] <|
  xn <| wpC_seq <| wpC_kp <| wpC_seq <| reg_s <| st rfl <| mvd rfl rfl <| stw rfl <| lens rfl fun l72 => st rfl <| mvc cI (0 : Int) rfl <| sq [q2 0 cc6 v0, q2 1 cc13 v1, q2 5 cI (-1 : Int), q2 8 cc13 v1, q2 9 cI (v1.length : Int), q2 10 cI (0 : Int)] <|
  xn <| wpC_blk <| lpR (fun (k74 : Nat) (s73 : Int) => [q2 0 cc6 v0, q2 1 cc13 v1, q2 5 cI s73, q2 8 cc13 v1, q2 9 cI (v1.length : Int), q2 10 cI (k74 : Int)]) (-1 : Int) rfl h
  (fun G120 s73 h => wpC_seq <| reg_s <| st rfl <| b_lss (k := .i64) rfl rfl <| sq [q2 0 cc6 v0, q2 1 cc13 v1, q2 5 cI s73, q2 8 cc13 v1, q2 9 cI (v1.length : Int), q2 10 cI (v1.length : Int), q2 11 cB (decide ((v1.length : Int) < (v1.length : Int)))] <|
  xn <| wpC_seq <| wpC_kp <| cnd0 rfl (dlf _) <| wpC_exit <| xt <| xt <| xt <| xb <| kpN [] (by kernel_rfl) <| xn <| wpC_seq <| reg_s <| x_asg (sc cB true rfl) <| sq [q2 4 cB true] <|
  xn <| wpC_ret <| re <| fin h (r1 (ss rfl rfl) <| r0) rfl)
  (fun G120 nx118 k74 s73 x75 hk76 hx77 hn119 h => wpC_seq <| reg_s <| st rfl <| b_lss (k := .i64) rfl rfl <| sq [q2 0 cc6 v0, q2 1 cc13 v1, q2 5 cI s73, q2 8 cc13 v1, q2 9 cI (v1.length : Int), q2 10 cI (k74 : Int), q2 11 cB (decide ((k74 : Int) < (v1.length : Int)))] <|
  xn <| wpC_seq <| wpC_kp <| cnd1 rfl (dlt hk76) <| wpC_skip <| kpN [q2 0 cc6 v0, q2 1 cc13 v1, q2 5 cI s73, q2 8 cc13 v1, q2 9 cI (v1.length : Int), q2 10 cI (k74 : Int)] (by kernel_rfl) <| xn <| wpC_seq <| wpC_kp <| wpC_blk <| wpC_seq <| reg_s <| st rfl <| ias rfl rfl (Int.natCast_nonneg _) hx77 rfl <| st rfl <| ldi rfl rfl rfl rfl <| x_asg (ss rfl rfl) <| sq [q2 0 cc6 v0, q2 1 cc13 v1, q2 5 cI s73, q2 7 cI x75, q2 8 cc13 v1, q2 9 cI (v1.length : Int), q2 10 cI (k74 : Int)] <|
  xn <| wpC_seq <| wpC_kp <| wpC_seq <| reg_s <| st rfl <| mvd rfl rfl <| st rfl <| mvd rfl rfl <| st rfl <| b_leq (k := .i64) rfl rfl <| st rfl <| mvd rfl rfl <| ite_k h (fun b138 h => gf rfl b138 <| gf rfl b138 <| gf rfl b138 <| gf rfl b138 <| st rfl <| pick1 rfl b138 (cd := cB) (v := true) rfl rfl <| sq [q2 0 cc6 v0, q2 1 cc13 v1, q2 7 cI x75, q2 8 cc13 v1, q2 9 cI (v1.length : Int), q2 10 cI (k74 : Int), q2 22 cB true] <|
  xn <| cnd1 rfl rfl <| wpC_seq <| reg_s <| x_asg (sc cB false rfl) <| sq [q2 4 cB false] <|
  xn <| wpC_ret <| rt <| rt <| rb <| rt <| rt <| rt <| rb <| rt <| rt <| re <| fin h (r1 (ss rfl rfl) <| r0) rfl)
  (fun b138 h => gt' rfl b138 <| st rfl <| mvd rfl rfl <| gt' rfl b138 <| st rfl <| mvd rfl rfl <| gt' rfl b138 <| stw rfl <| lens rfl fun l139 => gt' rfl b138 <| st rfl <| b_geq (k := .i64) rfl rfl <| st rfl <| pick0 rfl b138 (cd := cB) (v := (decide ((v0.length : Int) ≤ x75))) rfl rfl <| sq [q2 0 cc6 v0, q2 1 cc13 v1, q2 7 cI x75, q2 8 cc13 v1, q2 9 cI (v1.length : Int), q2 10 cI (k74 : Int), q2 22 cB (decide ((v0.length : Int) ≤ x75))] <|
  xn <| cnd rfl h (fun b140 h => wpC_seq <| reg_s <| x_asg (sc cB false rfl) <| sq [q2 4 cB false] <|
  xn <| wpC_ret <| rt <| rt <| rb <| rt <| rt <| rt <| rb <| rt <| rt <| re <| fin h (r1 (ss rfl rfl) <| r0) rfl)
  (fun b140 h => wpC_skip <| kpN [q2 0 cc6 v0, q2 1 cc13 v1, q2 7 cI x75, q2 8 cc13 v1, q2 9 cI (v1.length : Int), q2 10 cI (k74 : Int)] (by kernel_rfl) <| xn <| reg_s <| st rfl <| mvd rfl rfl <| x_asg (ss rfl rfl) <| sq [q2 0 cc6 v0, q2 1 cc13 v1, q2 5 cI x75, q2 8 cc13 v1, q2 9 cI (v1.length : Int), q2 10 cI (k74 : Int)] <|
  xbb <| kpN [q2 0 cc6 v0, q2 1 cc13 v1, q2 5 cI x75, q2 8 cc13 v1, q2 9 cI (v1.length : Int), q2 10 cI (k74 : Int)] (by kernel_rfl) <| xn <| reg_s <| st rfl <| b_inc rfl rfl l72 hk76 <| st rfl <| mvd rfl rfl <| sq [q2 0 cc6 v0, q2 1 cc13 v1, q2 5 cI x75, q2 8 cc13 v1, q2 9 cI (v1.length : Int), q2 10 cI ((k74 + 1 : Nat) : Int)] <|
  xn <| hn119 x75 h)))

def rs_impl_fullSet (r : Int) : List D := [cI.enc r]
def m109 : MC := .seq (.reg [q1 1 (.box (.t 0)),q1 2 (.asg (.c (.int .i64 0)))] [1])
 (.seq (.reg [q1 3 (.fa 1 1 1),q1 4 (.ld 3 1 false),q1 5 (.bin .shl (.c (.int .i64 1)) (.t 4)),q1 6 (.bin .sub (.t 5) (.c (.int .i64 1))),q1 2 (.asg (.t 6))] [2])
 (.ret))
theorem con_impl_fullSet {v0 : XVariable} {r : Int} (h : sh_impl_fullSet v0 = some r) : Con Tryz.prog 109 [cc11.enc v0] [] (rs_impl_fullSet r) := by
 delta sh_impl_fullSet at h
 refine top (out := none) (f := Tryz.f109) (m := m109) (rs := [.t 2]) (by kernel_rfl) rfl (by kernel_rfl) (by kernel_rfl) (by kernel_rfl) (by kernel_rfl) (by kernel_rfl) ?_
 exact
  ini [q2 0 cc11 v0] rfl <| wpC_seq <| reg_s <| x_box (ss rfl rfl) <| x_asg (sc cI (0 : Int) rfl) <| sq [q3 1 cc11 v0] <|
  xn <| wpC_seq <| reg_s <| st rfl <| fab rfl rfl rfl rfl <| st rfl <| lda rfl rfl rfl rfl rfl rfl <| ck_k h fun i4 h => ckI_k h fun i5 h => st rfl <| b_shl (k := .i64) (k' := .i64) rfl rfl i4 rfl i5 <| ckI_k h fun i6 h => st rfl <| b_sub (k := .i64) rfl rfl i6 <| x_asg (ss rfl rfl) <| sq [q2 2 cI (((1 : Int) * 2 ^ (v0.Levels).toNat) - (1 : Int))] <|
  xn <| wpC_ret <| re <| fin h (r1 (ss rfl rfl) <| r0) rfl

def rs_impl_isWhere (r : Bool) : List D := [cB.enc r]
def m95 : MC := .seq (.reg [q1 4 (.asg (.c (.bool false)))] [0, 1])
 (.seq (.kp [0, 1] (.seq (.reg [q1 7 (.mv (.t 1)),q1 8 (.len false (.t 7)),q1 9 (.mv (.t 0)),q1 10 (.len false (.t 9)),q1 11 (.bin .neq (.t 8) (.t 10))] [0, 1, 11])
 (.cond (.t 11) (.seq (.reg [q1 4 (.asg (.c (.bool false)))] [4])
 (.ret)) (.skip))))
 (.seq (.kp [] (.seq (.reg [q1 12 (.mv (.t 1)),q1 13 (.len false (.t 12)),q1 14 (.mv (.c (.int .i64 0)))] [0, 1, 12, 13, 14])
 (.blk 0 (.loop (.seq (.reg [q1 15 (.bin .lss (.t 14) (.t 13))] [0, 1, 12, 13, 14, 15])
 (.seq (.kp [0, 1, 12, 13, 14] (.cond (.t 15) (.skip) (.exit 0)))
 (.seq (.kp [0, 1, 12, 13, 14] (.blk 1 (.seq (.reg [q1 16 (.mv (.t 14)),q1 17 (.ia 12 (.t 14) 1),q1 18 (.ld 17 1 false),q1 5 (.asg (.t 16)),q1 6 (.asg (.t 18))] [0, 1, 5, 6, 12, 13, 14])
 (.seq (.reg [q1 19 (.mv (.t 6)),q1 20 (.bin .lss (.t 19) (.c (.int .i64 0))),q1 21 (.mv (.t 20)),
  ⟨some 22, .mv (.t 6), some (21, false)⟩,
  ⟨some 23, .mv (.t 0), some (21, false)⟩,
  ⟨some 24, .mv (.t 5), some (21, false)⟩,
  ⟨some 25, .ia 23 (.t 24) 2, some (21, false)⟩,
  ⟨some 26, .ld 25 2 true, some (21, false)⟩,
  ⟨some 27, .call 109 [(.t 26)], some (21, false)⟩,
  ⟨some 28, .bin .gtr (.t 22) (.t 27), some (21, false)⟩,q1 29 (.pick (.t 21) (.c (.bool true)) (.t 28))] [0, 1, 12, 13, 14, 29])
 (.cond (.t 29) (.seq (.reg [q1 4 (.asg (.c (.bool false)))] [4])
 (.ret)) (.skip))))))
 (.reg [q1 30 (.bin .add (.t 14) (.c (.int .i64 1))),q1 14 (.mv (.t 30))] [0, 1, 12, 13, 14]))))))))
 (.seq (.reg [q1 4 (.asg (.c (.bool true)))] [4])
 (.ret))))
theorem con_impl_isWhere {v0 : (List XVariable)} {v1 : (List Int)} {r : Bool} (h : sh_impl_isWhere v0 v1 = some r) : Con Tryz.prog 95 [cc6.enc v0, cc13.enc v1] [] (rs_impl_isWhere r) := by
 delta sh_impl_isWhere at h
 refine top (out := none) (f := Tryz.f95) (m := m95) (rs := [.t 4]) (by kernel_rfl) rfl (by kernel_rfl) (by kernel_rfl) (by kernel_rfl) (by kernel_rfl) (by kernel_rfl) ?_
 exact
  ini [q2 0 cc6 v0, q2 1 cc13 v1] rfl <| wpC_seq <| reg_s <| x_asg (sc cB false rfl) <| sq [q2 0 cc6 v0, q2 1 cc13 v1] <|
  xn <| wpC_seq <| wpC_kp <| wpC_seq <| reg_s <| st rfl <| mvd rfl rfl <| stw rfl <| lens rfl fun l8 => st rfl <| mvd rfl rfl <| stw rfl <| lens rfl fun l9 => st rfl <| b_neq (k := .i64) rfl rfl <| sq [q2 0 cc6 v0, q2 1 cc13 v1, q2 11 cB (decide ((v1.length : Int) ≠ (v0.length : Int)))] <|
  xn <| cnd rfl h (fun b10 h => wpC_seq <| reg_s <| x_asg (sc cB false rfl) <| sq [q2 4 cB false] <|
  xn <| wpC_ret <| rt <| rt <| re <| fin h (r1 (ss rfl rfl) <| r0) rfl)
  (fun b10 h => wpC_skip <| kpN [q2 0 cc6 v0, q2 1 cc13 v1] (by kernel_rfl) <| xn <| wpC_seq <| wpC_kp <| wpC_seq <| reg_s <| st rfl <| mvd rfl rfl <| stw rfl <| lens rfl fun l74 => st rfl <| mvc cI (0 : Int) rfl <| sq [q2 0 cc6 v0, q2 1 cc13 v1, q2 12 cc13 v1, q2 13 cI (v1.length : Int), q2 14 cI (0 : Int)] <|
  xn <| wpC_blk <| lpR (fun (k76 : Nat) (s75 : Unit) => [q2 0 cc6 v0, q2 1 cc13 v1, q2 12 cc13 v1, q2 13 cI (v1.length : Int), q2 14 cI (k76 : Int)]) () rfl h
  (fun G108 s75 h => wpC_seq <| reg_s <| st rfl <| b_lss (k := .i64) rfl rfl <| sq [q2 0 cc6 v0, q2 1 cc13 v1, q2 12 cc13 v1, q2 13 cI (v1.length : Int), q2 14 cI (v1.length : Int), q2 15 cB (decide ((v1.length : Int) < (v1.length : Int)))] <|
  xn <| wpC_seq <| wpC_kp <| cnd0 rfl (dlf _) <| wpC_exit <| xt <| xt <| xt <| xb <| kpN [] (by kernel_rfl) <| xn <| wpC_seq <| reg_s <| x_asg (sc cB true rfl) <| sq [q2 4 cB true] <|
  xn <| wpC_ret <| re <| fin h (r1 (ss rfl rfl) <| r0) rfl)
  (fun G108 nx106 k76 s75 x77 hk78 hx79 hn107 h => wpC_seq <| reg_s <| st rfl <| b_lss (k := .i64) rfl rfl <| sq [q2 0 cc6 v0, q2 1 cc13 v1, q2 12 cc13 v1, q2 13 cI (v1.length : Int), q2 14 cI (k76 : Int), q2 15 cB (decide ((k76 : Int) < (v1.length : Int)))] <|
  xn <| wpC_seq <| wpC_kp <| cnd1 rfl (dlt hk78) <| wpC_skip <| kpN [q2 0 cc6 v0, q2 1 cc13 v1, q2 12 cc13 v1, q2 13 cI (v1.length : Int), q2 14 cI (k76 : Int)] (by kernel_rfl) <| xn <| wpC_seq <| wpC_kp <| wpC_blk <| wpC_seq <| reg_s <| st rfl <| mvd rfl rfl <| st rfl <| ias rfl rfl (Int.natCast_nonneg _) hx79 rfl <| st rfl <| ldi rfl rfl rfl rfl <| x_asg (ss rfl rfl) <| x_asg (ss rfl rfl) <| sq [q2 0 cc6 v0, q2 1 cc13 v1, q2 5 cI (k76 : Int), q2 6 cI x77, q2 12 cc13 v1, q2 13 cI (v1.length : Int), q2 14 cI (k76 : Int)] <|
  xn <| wpC_seq <| reg_s <| st rfl <| mvd rfl rfl <| st rfl <| b_lss (k := .i64) rfl rfl <| st rfl <| mvd rfl rfl <| ite_k h (fun b128 h => gf rfl b128 <| gf rfl b128 <| gf rfl b128 <| gf rfl b128 <| gf rfl b128 <| gf rfl b128 <| gf rfl b128 <| st rfl <| pick1 rfl b128 (cd := cB) (v := true) rfl rfl <| sq [q2 0 cc6 v0, q2 1 cc13 v1, q2 12 cc13 v1, q2 13 cI (v1.length : Int), q2 14 cI (k76 : Int), q2 29 cB true] <|
  xn <| cnd1 rfl rfl <| wpC_seq <| reg_s <| x_asg (sc cB false rfl) <| sq [q2 4 cB false] <|
  xn <| wpC_ret <| rb <| rt <| rt <| rt <| rb <| rt <| rt <| re <| fin h (r1 (ss rfl rfl) <| r0) rfl)
  (fun b128 h => gt' rfl b128 <| st rfl <| mvd rfl rfl <| gt' rfl b128 <| st rfl <| mvd rfl rfl <| gt' rfl b128 <| st rfl <| mvd rfl rfl <| gt' rfl b128 <| getO_k h fun x129 i130 g131 h => st rfl <| ias rfl rfl i130 g131 rfl <| gt' rfl b128 <| st rfl <| ldi rfl rfl rfl rfl <| gt' rfl b128 <| bnd h fun x132 e133 h => st rfl <| o_call (a1 (c := cc11) (tXVariable tS tK) rfl a0) (con_impl_fullSet e133) (.inl (so1 sK so0)) <| gt' rfl b128 <| st rfl <| b_gtr (k := .i64) rfl rfl <| st rfl <| pick0 rfl b128 (cd := cB) (v := (decide (x132 < x77))) rfl rfl <| sq [q2 0 cc6 v0, q2 1 cc13 v1, q2 12 cc13 v1, q2 13 cI (v1.length : Int), q2 14 cI (k76 : Int), q2 29 cB (decide (x132 < x77))] <|
  xn <| cnd rfl h (fun b134 h => wpC_seq <| reg_s <| x_asg (sc cB false rfl) <| sq [q2 4 cB false] <|
  xn <| wpC_ret <| rb <| rt <| rt <| rt <| rb <| rt <| rt <| re <| fin h (r1 (ss rfl rfl) <| r0) rfl)
  (fun b134 h => wpC_skip <| xbb <| kpN [q2 0 cc6 v0, q2 1 cc13 v1, q2 12 cc13 v1, q2 13 cI (v1.length : Int), q2 14 cI (k76 : Int)] (by kernel_rfl) <| xn <| reg_s <| st rfl <| b_inc rfl rfl l74 hk78 <| st rfl <| mvd rfl rfl <| sq [q2 0 cc6 v0, q2 1 cc13 v1, q2 12 cc13 v1, q2 13 cI (v1.length : Int), q2 14 cI ((k76 + 1 : Nat) : Int)] <|
  xn <| hn107 () h))))

def rs_impl_depthOf (r : Int) : List D := [cI.enc r]
def m75 : MC := .seq (.reg [q1 2 (.box (.t 0)),q1 4 (.asg (.c (.int .i64 0)))] [1, 2])
 (.seq (.reg [q1 5 (.asg (.c (.int .i64 0)))] [1, 2, 5])
 (.seq (.kp [5] (.blk 0 (.loop (.kp [1, 2, 5] (.seq (.kp [1, 2, 5] (.seq (.reg [q1 6 (.mv (.t 1)),q1 7 (.bin .gtr (.t 6) (.c (.int .i64 0)))] [1, 2, 5, 7])
 (.cond (.t 7) (.skip) (.exit 0))))
 (.blk 1 (.seq (.reg [q1 8 (.fa 2 0 0),q1 9 (.ld 8 1 false),q1 10 (.mv (.t 1)),q1 11 (.ia 9 (.t 10) 1),q1 12 (.ld 11 1 false),q1 1 (.asg (.t 12))] [1, 2, 5])
 (.reg [q1 13 (.mv (.t 5)),q1 14 (.bin .add (.t 13) (.c (.int .i64 1))),q1 5 (.asg (.t 14))] [1, 2, 5]))))))))
 (.seq (.reg [q1 15 (.mv (.t 5)),q1 4 (.asg (.t 15))] [4])
 (.ret))))
theorem con_impl_depthOf {v0 : XGeo} {v1 : Int} {r : Int} (h : sh_impl_depthOf v0 v1 = some r) : Con Tryz.prog 75 [cc10.enc v0, cI.enc v1] [] (rs_impl_depthOf r) := by
 delta sh_impl_depthOf at h
 refine top (out := none) (f := Tryz.f75) (m := m75) (rs := [.t 4]) (by kernel_rfl) rfl (by kernel_rfl) (by kernel_rfl) (by kernel_rfl) (by kernel_rfl) (by kernel_rfl) ?_
 exact
  ini [q2 0 cc10 v0, q2 1 cI v1] rfl <| wpC_seq <| reg_s <| x_box (ss rfl rfl) <| x_asg (sc cI (0 : Int) rfl) <| sq [q2 1 cI v1, q3 2 cc10 v0] <|
  xn <| wpC_seq <| reg_s <| x_asg (sc cI (0 : Int) rfl) <| sq [q2 1 cI v1, q3 2 cc10 v0, q2 5 cI (0 : Int)] <|
  xn <| wpC_seq <| wpC_kp <| wpC_blk <| lpF (fun (s36 : (Int × Int)) => [q2 1 cI s36.1, q3 2 cc10 v0, q2 5 cI s36.2]) (v1, (0 : Int)) rfl h
  fun G61 nx59 s36 hn60 h => wpC_kp <| wpC_seq <| wpC_kp <| wpC_seq <| reg_s <| st rfl <| mvd rfl rfl <| st rfl <| b_gtr (k := .i64) rfl rfl <| sq [q2 1 cI s36.1, q3 2 cc10 v0, q2 5 cI s36.2, q2 7 cB (decide ((0 : Int) < s36.1))] <|
  xn <| cnd rfl h (fun b63 h => wpC_skip <| kpN [q2 1 cI s36.1, q3 2 cc10 v0, q2 5 cI s36.2] (by kernel_rfl) <| xn <| wpC_blk <| wpC_seq <| reg_s <| st rfl <| fab rfl rfl rfl rfl <| st rfl <| lda rfl rfl rfl rfl rfl rfl <| st rfl <| mvd rfl rfl <| getO_k h fun x67 i68 g69 h => st rfl <| ias rfl rfl i68 g69 rfl <| st rfl <| ldi rfl rfl rfl rfl <| x_asg (ss rfl rfl) <| sq [q2 1 cI x67, q3 2 cc10 v0, q2 5 cI s36.2] <|
  xn <| reg_s <| st rfl <| mvd rfl rfl <| ckI_k h fun i70 h => st rfl <| b_add (k := .i64) rfl rfl i70 <| x_asg (ss rfl rfl) <| sq [q2 1 cI x67, q3 2 cc10 v0, q2 5 cI (s36.2 + (1 : Int))] <|
  xbb <| kpN [q2 1 cI x67, q3 2 cc10 v0, q2 5 cI (s36.2 + (1 : Int))] (by kernel_rfl) <| xn <| hn60 (x67, (s36.2 + (1 : Int))) h)
  (fun b63 h => wpC_exit <| xt <| xt <| xt <| xt <| xb <| kpN [q2 5 cI s36.2] (by kernel_rfl) <| xn <| wpC_seq <| reg_s <| st rfl <| mvd rfl rfl <| x_asg (ss rfl rfl) <| sq [q2 4 cI s36.2] <|
  xn <| wpC_ret <| re <| fin h (r1 (ss rfl rfl) <| r0) rfl)

def rs_impl_areasAt (r : (List Int)) : List D := [cc14.enc r]
def m40 : MC := .seq (.reg [q1 2 (.box (.t 0)),q1 4 (.asg (.c (.slice true [])))] [1, 2])
 (.seq (.reg [q1 5 (.asg (.c (.slice true [])))] [1, 2, 5])
 (.seq (.kp [5] (.seq (.reg [q1 7 (.fa 2 0 0),q1 8 (.ld 7 1 false),q1 9 (.len false (.t 8)),q1 10 (.mv (.c (.int .i64 0)))] [1, 2, 5, 9, 10])
 (.blk 0 (.loop (.seq (.reg [q1 11 (.bin .lss (.t 10) (.t 9))] [1, 2, 5, 9, 10, 11])
 (.seq (.kp [1, 2, 5, 9, 10] (.cond (.t 11) (.skip) (.exit 0)))
 (.seq (.kp [1, 2, 5, 9, 10] (.blk 1 (.seq (.reg [q1 12 (.mv (.t 10)),q1 6 (.asg (.t 12))] [1, 2, 5, 6, 9, 10])
 (.seq (.reg [q1 13 (.ld 2 1 true),q1 14 (.mv (.t 6)),q1 15 (.call 75 [(.t 13), (.t 14)]),q1 16 (.mv (.t 1)),q1 17 (.bin .eql (.t 15) (.t 16))] [1, 2, 5, 6, 9, 10, 17])
 (.cond (.t 17) (.reg [q1 18 (.mv (.t 5)),q1 19 (.mv (.t 6)),q1 20 (.bsl [(.t 19)] 1),q1 21 (.app (.t 18) (.t 20) 1),q1 5 (.asg (.t 21))] [1, 2, 5, 9, 10]) (.skip))))))
 (.reg [q1 22 (.bin .add (.t 10) (.c (.int .i64 1))),q1 10 (.mv (.t 22))] [1, 2, 5, 9, 10]))))))))
 (.seq (.reg [q1 23 (.mv (.t 5)),q1 4 (.asg (.t 23))] [4])
 (.ret))))
theorem con_impl_areasAt {v0 : XGeo} {v1 : Int} {r : (List Int)} (h : sh_impl_areasAt v0 v1 = some r) : Con Tryz.prog 40 [cc10.enc v0, cI.enc v1] [] (rs_impl_areasAt r) := by
 delta sh_impl_areasAt at h
 refine top (out := none) (f := Tryz.f40) (m := m40) (rs := [.t 4]) (by kernel_rfl) rfl (by kernel_rfl) (by kernel_rfl) (by kernel_rfl) (by kernel_rfl) (by kernel_rfl) ?_
 exact
  ini [q2 0 cc10 v0, q2 1 cI v1] rfl <| wpC_seq <| reg_s <| x_box (ss rfl rfl) <| x_asg (sc cc14 ([] : List Int) rfl) <| sq [q2 1 cI v1, q3 2 cc10 v0] <|
  xn <| wpC_seq <| reg_s <| x_asg (sc cc14 ([] : List Int) rfl) <| sq [q2 1 cI v1, q3 2 cc10 v0, q2 5 cc14 ([] : List Int)] <|
  xn <| wpC_seq <| wpC_kp <| wpC_seq <| reg_s <| st rfl <| fab rfl rfl rfl rfl <| st rfl <| lda rfl rfl rfl rfl rfl rfl <| stw rfl <| lens rfl fun l48 => st rfl <| mvc cI (0 : Int) rfl <| sq [q2 1 cI v1, q3 2 cc10 v0, q2 5 cc14 ([] : List Int), q2 9 cI (v0.Parents.length : Int), q2 10 cI (0 : Int)] <|
  xn <| wpC_blk <| lpR (fun (k50 : Nat) (s49 : (List Int)) => [q2 1 cI v1, q3 2 cc10 v0, q2 5 cc14 s49, q2 9 cI (v0.Parents.length : Int), q2 10 cI (k50 : Int)]) ([] : List Int) rfl h
  (fun G80 s49 h => wpC_seq <| reg_s <| st rfl <| b_lss (k := .i64) rfl rfl <| sq [q2 1 cI v1, q3 2 cc10 v0, q2 5 cc14 s49, q2 9 cI (v0.Parents.length : Int), q2 10 cI (v0.Parents.length : Int), q2 11 cB (decide ((v0.Parents.length : Int) < (v0.Parents.length : Int)))] <|
  xn <| wpC_seq <| wpC_kp <| cnd0 rfl (dlf _) <| wpC_exit <| xt <| xt <| xt <| xb <| kpN [q2 5 cc14 s49] (by kernel_rfl) <| xn <| wpC_seq <| reg_s <| st rfl <| mvo rfl rfl <| x_asg (sr rfl rfl) <| sq [q2 4 cc14 s49] <|
  xn <| wpC_ret <| re <| fin h (r1 (so rfl rfl) <| r0) rfl)
  (fun G80 nx78 k50 s49 x51 hk52 hx53 hn79 h => wpC_seq <| reg_s <| st rfl <| b_lss (k := .i64) rfl rfl <| sq [q2 1 cI v1, q3 2 cc10 v0, q2 5 cc14 s49, q2 9 cI (v0.Parents.length : Int), q2 10 cI (k50 : Int), q2 11 cB (decide ((k50 : Int) < (v0.Parents.length : Int)))] <|
  xn <| wpC_seq <| wpC_kp <| cnd1 rfl (dlt hk52) <| wpC_skip <| kpN [q2 1 cI v1, q3 2 cc10 v0, q2 5 cc14 s49, q2 9 cI (v0.Parents.length : Int), q2 10 cI (k50 : Int)] (by kernel_rfl) <| xn <| wpC_seq <| wpC_kp <| wpC_blk <| wpC_seq <| reg_s <| st rfl <| mvd rfl rfl <| x_asg (ss rfl rfl) <| sq [q2 1 cI v1, q3 2 cc10 v0, q2 5 cc14 s49, q2 6 cI (k50 : Int), q2 9 cI (v0.Parents.length : Int), q2 10 cI (k50 : Int)] <|
  xn <| wpC_seq <| reg_s <| st rfl <| ldb rfl rfl rfl rfl <| st rfl <| mvd rfl rfl <| bnd h fun x89 e90 h => st rfl <| o_call (a1 (c := cc10) (tXGeo (tLs tK)) rfl (a1 (c := cI) tK rfl a0)) (con_impl_depthOf e90) (.inl (so1 sK so0)) <| st rfl <| mvd rfl rfl <| st rfl <| b_eql (k := .i64) rfl rfl <| sq [q2 1 cI v1, q3 2 cc10 v0, q2 5 cc14 s49, q2 6 cI (k50 : Int), q2 9 cI (v0.Parents.length : Int), q2 10 cI (k50 : Int), q2 17 cB (decide (x89 = v1))] <|
  xn <| cnd rfl h (fun b91 h => reg_s <| st rfl <| mvo rfl rfl <| st rfl <| mvd rfl rfl <| x_bsl cI [(k50 : Int)] (t1 (ss rfl rfl) rfl t0) rfl rfl <| lnO_k h fun l92 h => x_app (sr rfl rfl) (to rfl rfl) l92 rfl <| x_asg (so rfl rfl) <| sq [q2 1 cI v1, q3 2 cc10 v0, q2 5 cc14 (s49 ++ [(k50 : Int)]), q2 9 cI (v0.Parents.length : Int), q2 10 cI (k50 : Int)] <|
  xbb <| kpN [q2 1 cI v1, q3 2 cc10 v0, q2 5 cc14 (s49 ++ [(k50 : Int)]), q2 9 cI (v0.Parents.length : Int), q2 10 cI (k50 : Int)] (by kernel_rfl) <| xn <| reg_s <| st rfl <| b_inc rfl rfl l48 hk52 <| st rfl <| mvd rfl rfl <| sq [q2 1 cI v1, q3 2 cc10 v0, q2 5 cc14 (s49 ++ [(k50 : Int)]), q2 9 cI (v0.Parents.length : Int), q2 10 cI ((k50 + 1 : Nat) : Int)] <|
  xn <| hn79 (s49 ++ [(k50 : Int)]) h)
  (fun b91 h => wpC_skip <| xbb <| kpN [q2 1 cI v1, q3 2 cc10 v0, q2 5 cc14 s49, q2 9 cI (v0.Parents.length : Int), q2 10 cI (k50 : Int)] (by kernel_rfl) <| xn <| reg_s <| st rfl <| b_inc rfl rfl l48 hk52 <| st rfl <| mvd rfl rfl <| sq [q2 1 cI v1, q3 2 cc10 v0, q2 5 cc14 s49, q2 9 cI (v0.Parents.length : Int), q2 10 cI ((k50 + 1 : Nat) : Int)] <|
  xn <| hn79 s49 h))

def rs_impl_crossed (r : (List XVariable)) : List D := [cc9.enc r]
def m41 : MC := .seq (.reg [q1 3 (.box (.t 1)),q1 4 (.asg (.c (.slice true [])))] [0, 3])
 (.seq (.reg [q1 8 (.fa 3 1 1),q1 9 (.ld 8 1 false),q1 10 (.len false (.t 9)),q1 11 (.mk (.agg [.str [], .int .i64 0]) (.t 10)),q1 5 (.asg (.t 11))] [0, 3, 5])
 (.seq (.kp [5] (.seq (.reg [q1 12 (.fa 3 1 1),q1 13 (.ld 12 1 false),q1 14 (.len false (.t 13)),q1 15 (.mv (.c (.int .i64 0)))] [0, 3, 5, 12, 13, 14, 15])
 (.blk 0 (.loop (.seq (.reg [q1 16 (.bin .lss (.t 15) (.t 14))] [0, 3, 5, 12, 13, 14, 15, 16])
 (.seq (.kp [0, 3, 5, 12, 13, 14, 15] (.cond (.t 16) (.skip) (.exit 0)))
 (.seq (.kp [0, 3, 5, 12, 13, 14, 15] (.blk 1 (.seq (.reg [q1 17 (.mv (.t 15)),q1 18 (.ia 13 (.t 15) 1),q1 19 (.ld 18 1 false),q1 6 (.asg (.t 17)),q1 7 (.asg (.t 19))] [0, 3, 5, 6, 7, 12, 13, 14, 15])
 (.reg [q1 20 (.mv (.t 5)),q1 21 (.mv (.t 6)),q1 22 (.mv (.t 0)),q1 23 (.mv (.t 7)),q1 24 (.ia 22 (.t 23) 2),q1 25 (.ld 24 2 true),q1 26 (.ia 20 (.t 21) 2),q0 (.st 26 (.t 25) 2)] [0, 3, 5, 12, 13, 14, 15]))))
 (.reg [q1 27 (.bin .add (.t 15) (.c (.int .i64 1))),q1 15 (.mv (.t 27))] [0, 3, 5, 12, 13, 14, 15]))))))))
 (.seq (.reg [q1 28 (.mv (.t 5)),q1 4 (.asg (.t 28))] [4])
 (.ret))))
theorem con_impl_crossed {v0 : (List XVariable)} {v1 : XTable} {r : (List XVariable)} (h : sh_impl_crossed v0 v1 = some r) : Con Tryz.prog 41 [cc6.enc v0, cc0.enc v1] [] (rs_impl_crossed r) := by
 delta sh_impl_crossed at h
 refine top (out := none) (f := Tryz.f41) (m := m41) (rs := [.t 4]) (by kernel_rfl) rfl (by kernel_rfl) (by kernel_rfl) (by kernel_rfl) (by kernel_rfl) (by kernel_rfl) ?_
 exact
  ini [q2 0 cc6 v0, q2 1 cc0 v1] rfl <| wpC_seq <| reg_s <| x_box (ss rfl rfl) <| x_asg (sc cc9 ([] : List XVariable) rfl) <| sq [q2 0 cc6 v0, q3 3 cc0 v1] <|
  xn <| wpC_seq <| reg_s <| st rfl <| fab rfl rfl rfl rfl <| st rfl <| lda rfl rfl rfl rfl rfl rfl <| stw rfl <| lens rfl fun l4 => mkO_k h fun i5 l6 h => st rfl <| o_mk (c := cc11) (a0 := (⟨([] : List UInt8), (0 : Int)⟩ : XVariable)) rfl (k := .i64) rfl i5 l6 <| x_asg (so rfl rfl) <| sq [q2 0 cc6 v0, q3 3 cc0 v1, q2 5 cc9 (List.replicate ((v1.Vars.length : Int)).toNat (⟨([] : List UInt8), (0 : Int)⟩ : XVariable))] <|
  xn <| wpC_seq <| wpC_kp <| wpC_seq <| reg_s <| st rfl <| fab rfl rfl rfl rfl <| st rfl <| lda rfl rfl rfl rfl rfl rfl <| stw rfl <| lens rfl fun l54 => st rfl <| mvc cI (0 : Int) rfl <| sq [q2 0 cc6 v0, q3 3 cc0 v1, q2 5 cc9 (List.replicate ((v1.Vars.length : Int)).toNat (⟨([] : List UInt8), (0 : Int)⟩ : XVariable)), (12, .adr 3 [.fld 1]), q2 13 cc13 v1.Vars, q2 14 cI (v1.Vars.length : Int), q2 15 cI (0 : Int)] <|
  xn <| wpC_blk <| lpR (fun (k56 : Nat) (s55 : (List XVariable)) => [q2 0 cc6 v0, q3 3 cc0 v1, q2 5 cc9 s55, (12, .adr 3 [.fld 1]), q2 13 cc13 v1.Vars, q2 14 cI (v1.Vars.length : Int), q2 15 cI (k56 : Int)]) (List.replicate ((v1.Vars.length : Int)).toNat (⟨([] : List UInt8), (0 : Int)⟩ : XVariable)) rfl h
  (fun G86 s55 h => wpC_seq <| reg_s <| st rfl <| b_lss (k := .i64) rfl rfl <| sq [q2 0 cc6 v0, q3 3 cc0 v1, q2 5 cc9 s55, (12, .adr 3 [.fld 1]), q2 13 cc13 v1.Vars, q2 14 cI (v1.Vars.length : Int), q2 15 cI (v1.Vars.length : Int), q2 16 cB (decide ((v1.Vars.length : Int) < (v1.Vars.length : Int)))] <|
  xn <| wpC_seq <| wpC_kp <| cnd0 rfl (dlf _) <| wpC_exit <| xt <| xt <| xt <| xb <| kpN [q2 5 cc9 s55] (by kernel_rfl) <| xn <| wpC_seq <| reg_s <| st rfl <| mvo rfl rfl <| x_asg (sr rfl rfl) <| sq [q2 4 cc9 s55] <|
  xn <| wpC_ret <| re <| fin h (r1 (so rfl rfl) <| r0) rfl)
  (fun G86 nx84 k56 s55 x57 hk58 hx59 hn85 h => wpC_seq <| reg_s <| st rfl <| b_lss (k := .i64) rfl rfl <| sq [q2 0 cc6 v0, q3 3 cc0 v1, q2 5 cc9 s55, (12, .adr 3 [.fld 1]), q2 13 cc13 v1.Vars, q2 14 cI (v1.Vars.length : Int), q2 15 cI (k56 : Int), q2 16 cB (decide ((k56 : Int) < (v1.Vars.length : Int)))] <|
  xn <| wpC_seq <| wpC_kp <| cnd1 rfl (dlt hk58) <| wpC_skip <| kpN [q2 0 cc6 v0, q3 3 cc0 v1, q2 5 cc9 s55, (12, .adr 3 [.fld 1]), q2 13 cc13 v1.Vars, q2 14 cI (v1.Vars.length : Int), q2 15 cI (k56 : Int)] (by kernel_rfl) <| xn <| wpC_seq <| wpC_kp <| wpC_blk <| wpC_seq <| reg_s <| st rfl <| mvd rfl rfl <| st rfl <| ias rfl rfl (Int.natCast_nonneg _) hx59 rfl <| st rfl <| ldi rfl rfl rfl rfl <| x_asg (ss rfl rfl) <| x_asg (ss rfl rfl) <| sq [q2 0 cc6 v0, q3 3 cc0 v1, q2 5 cc9 s55, q2 6 cI (k56 : Int), q2 7 cI x57, (12, .adr 3 [.fld 1]), q2 13 cc13 v1.Vars, q2 14 cI (v1.Vars.length : Int), q2 15 cI (k56 : Int)] <|
  xn <| reg_s <| st rfl <| mvo rfl rfl <| st rfl <| mvd rfl rfl <| st rfl <| mvd rfl rfl <| st rfl <| mvd rfl rfl <| getO_k h fun x93 i94 g95 h => st rfl <| ias rfl rfl i94 g95 rfl <| st rfl <| ldi rfl rfl rfl rfl <| getO_k h fun x96 i97 g98 h => st rfl <| iar rfl rfl rfl rfl i97 g98 rfl <| x_sta (cc9.enc (s55.set ((k56 : Int)).toNat x93)) (ss rfl rfl) rfl rfl (Ln.idx g98 Ln.nil) (Cd.h_sz cc11 _) rfl <| sq [q2 0 cc6 v0, q3 3 cc0 v1, q2 5 cc9 (s55.set ((k56 : Int)).toNat x93), (12, .adr 3 [.fld 1]), q2 13 cc13 v1.Vars, q2 14 cI (v1.Vars.length : Int), q2 15 cI (k56 : Int)] <|
  xbb <| kpN [q2 0 cc6 v0, q3 3 cc0 v1, q2 5 cc9 (s55.set ((k56 : Int)).toNat x93), (12, .adr 3 [.fld 1]), q2 13 cc13 v1.Vars, q2 14 cI (v1.Vars.length : Int), q2 15 cI (k56 : Int)] (by kernel_rfl) <| xn <| reg_s <| st rfl <| b_inc rfl rfl l54 hk58 <| st rfl <| mvd rfl rfl <| sq [q2 0 cc6 v0, q3 3 cc0 v1, q2 5 cc9 (s55.set ((k56 : Int)).toNat x93), (12, .adr 3 [.fld 1]), q2 13 cc13 v1.Vars, q2 14 cI (v1.Vars.length : Int), q2 15 cI ((k56 + 1 : Nat) : Int)] <|
  xn <| hn85 (s55.set ((k56 : Int)).toNat x93) h)

def rs_impl_combinations (r : Int) : List D := [cI.enc r]
def m103 : MC := .seq (.reg [q1 2 (.asg (.c (.int .i64 0)))] [0])
 (.seq (.reg [q1 3 (.asg (.c (.int .i64 1)))] [0, 3])
 (.seq (.kp [3] (.seq (.reg [q1 6 (.mv (.t 0)),q1 7 (.len false (.t 6)),q1 8 (.mv (.c (.int .i64 0)))] [0, 3, 6, 7, 8])
 (.blk 0 (.loop (.seq (.reg [q1 9 (.bin .lss (.t 8) (.t 7))] [0, 3, 6, 7, 8, 9])
 (.seq (.kp [0, 3, 6, 7, 8] (.cond (.t 9) (.skip) (.exit 0)))
 (.seq (.kp [0, 3, 6, 7, 8] (.blk 1 (.seq (.reg [q1 10 (.ia 6 (.t 8) 2),q1 11 (.ld 10 2 true),q1 5 (.alloc (.agg [.str [], .int .i64 0])),q0 (.st 5 (.t 11) 2)] [0, 3, 5, 6, 7, 8])
 (.reg [q1 12 (.mv (.t 3)),q1 13 (.fa 5 1 1),q1 14 (.ld 13 1 false),q1 15 (.bin .mul (.t 12) (.t 14)),q1 3 (.asg (.t 15))] [0, 3, 6, 7, 8]))))
 (.reg [q1 16 (.bin .add (.t 8) (.c (.int .i64 1))),q1 8 (.mv (.t 16))] [0, 3, 6, 7, 8]))))))))
 (.seq (.reg [q1 17 (.mv (.t 3)),q1 2 (.asg (.t 17))] [2])
 (.ret))))
theorem con_impl_combinations {v0 : (List XVariable)} {r : Int} (h : sh_impl_combinations v0 = some r) : Con Tryz.prog 103 [cc6.enc v0] [] (rs_impl_combinations r) := by
 delta sh_impl_combinations at h
 refine top (out := none) (f := Tryz.f103) (m := m103) (rs := [.t 2]) (by kernel_rfl) rfl (by kernel_rfl) (by kernel_rfl) (by kernel_rfl) (by kernel_rfl) (by kernel_rfl) ?_
 exact
  ini [q2 0 cc6 v0] rfl <| wpC_seq <| reg_s <| x_asg (sc cI (0 : Int) rfl) <| sq [q2 0 cc6 v0] <|
  xn <| wpC_seq <| reg_s <| x_asg (sc cI (1 : Int) rfl) <| sq [q2 0 cc6 v0, q2 3 cI (1 : Int)] <|
  xn <| wpC_seq <| wpC_kp <| wpC_seq <| reg_s <| st rfl <| mvd rfl rfl <| stw rfl <| lens rfl fun l18 => st rfl <| mvc cI (0 : Int) rfl <| sq [q2 0 cc6 v0, q2 3 cI (1 : Int), q2 6 cc6 v0, q2 7 cI (v0.length : Int), q2 8 cI (0 : Int)] <|
  xn <| wpC_blk <| lpR (fun (k20 : Nat) (s19 : Int) => [q2 0 cc6 v0, q2 3 cI s19, q2 6 cc6 v0, q2 7 cI (v0.length : Int), q2 8 cI (k20 : Int)]) (1 : Int) rfl h
  (fun G30 s19 h => wpC_seq <| reg_s <| st rfl <| b_lss (k := .i64) rfl rfl <| sq [q2 0 cc6 v0, q2 3 cI s19, q2 6 cc6 v0, q2 7 cI (v0.length : Int), q2 8 cI (v0.length : Int), q2 9 cB (decide ((v0.length : Int) < (v0.length : Int)))] <|
  xn <| wpC_seq <| wpC_kp <| cnd0 rfl (dlf _) <| wpC_exit <| xt <| xt <| xt <| xb <| kpN [q2 3 cI s19] (by kernel_rfl) <| xn <| wpC_seq <| reg_s <| st rfl <| mvd rfl rfl <| x_asg (ss rfl rfl) <| sq [q2 2 cI s19] <|
  xn <| wpC_ret <| re <| fin h (r1 (ss rfl rfl) <| r0) rfl)
  (fun G30 nx28 k20 s19 x21 hk22 hx23 hn29 h => wpC_seq <| reg_s <| st rfl <| b_lss (k := .i64) rfl rfl <| sq [q2 0 cc6 v0, q2 3 cI s19, q2 6 cc6 v0, q2 7 cI (v0.length : Int), q2 8 cI (k20 : Int), q2 9 cB (decide ((k20 : Int) < (v0.length : Int)))] <|
  xn <| wpC_seq <| wpC_kp <| cnd1 rfl (dlt hk22) <| wpC_skip <| kpN [q2 0 cc6 v0, q2 3 cI s19, q2 6 cc6 v0, q2 7 cI (v0.length : Int), q2 8 cI (k20 : Int)] (by kernel_rfl) <| xn <| wpC_seq <| wpC_kp <| wpC_blk <| wpC_seq <| reg_s <| st rfl <| ias rfl rfl (Int.natCast_nonneg _) hx23 rfl <| st rfl <| ldi rfl rfl rfl rfl <| x_all cc11 (⟨([] : List UInt8), (0 : Int)⟩ : XVariable) rfl <| x_stb (ss rfl rfl) rfl (Cd.h_sz _ _) rfl <| sq [q2 0 cc6 v0, q2 3 cI s19, q3 5 cc11 x21, q2 6 cc6 v0, q2 7 cI (v0.length : Int), q2 8 cI (k20 : Int)] <|
  xn <| reg_s <| st rfl <| mvd rfl rfl <| st rfl <| fab rfl rfl rfl rfl <| st rfl <| lda rfl rfl rfl rfl rfl rfl <| ckI_k h fun i32 h => st rfl <| b_mul (k := .i64) rfl rfl i32 <| x_asg (ss rfl rfl) <| sq [q2 0 cc6 v0, q2 3 cI (s19 * x21.Levels), q2 6 cc6 v0, q2 7 cI (v0.length : Int), q2 8 cI (k20 : Int)] <|
  xbb <| kpN [q2 0 cc6 v0, q2 3 cI (s19 * x21.Levels), q2 6 cc6 v0, q2 7 cI (v0.length : Int), q2 8 cI (k20 : Int)] (by kernel_rfl) <| xn <| reg_s <| st rfl <| b_inc rfl rfl l18 hk22 <| st rfl <| mvd rfl rfl <| sq [q2 0 cc6 v0, q2 3 cI (s19 * x21.Levels), q2 6 cc6 v0, q2 7 cI (v0.length : Int), q2 8 cI ((k20 + 1 : Nat) : Int)] <|
  xn <| hn29 (s19 * x21.Levels) h)

def rs_impl_cellCount (r : Int) : List D := [cI.enc r]
def m78 : MC := .seq (.reg [q1 3 (.box (.t 0)),q1 5 (.box (.t 2)),q1 6 (.asg (.c (.int .i64 0)))] [1, 3, 5])
 (.seq (.drw [⟨0, q1 7 (.ld 3 1 true), [8, 9, 10, 11, 12, 13, 14, 15, 16]⟩,
  ⟨1, q1 8 (.fa 5 0 0), [7, 9, 10, 11, 12, 13, 14, 15, 16]⟩,
  ⟨2, q1 9 (.ld 8 1 false), [7, 10, 11, 12, 13, 14, 15, 16]⟩,
  ⟨3, q1 10 (.call 40 [(.t 7), (.t 9)]), [11, 12, 13, 14, 15, 16]⟩,
  ⟨4, q1 11 (.len false (.t 10)), [12, 13, 14, 15, 16]⟩,
  ⟨5, q1 12 (.mv (.t 1)), [7, 8, 9, 10, 11, 13, 14, 15, 16]⟩,
  ⟨6, q1 13 (.ld 5 4 true), [7, 8, 9, 10, 11, 12, 14, 15, 16]⟩,
  ⟨7, q1 14 (.call 41 [(.t 12), (.t 13)]), [11, 15, 16]⟩,
  ⟨8, q1 15 (.call 103 [(.t 14)]), [11, 16]⟩,
  ⟨9, q1 16 (.bin .mul (.t 11) (.t 15)), []⟩]
  [(10, q1 6 (.asg (.t 16)))] [6])
 (.ret))
theorem con_impl_cellCount {v0 : XGeo} {v1 : (List XVariable)} {v2 : XTable} {r : Int} (h : sh_impl_cellCount v0 v1 v2 = some r) : Con Tryz.prog 78 [cc10.enc v0, cc6.enc v1, cc0.enc v2] [] (rs_impl_cellCount r) := by
 delta sh_impl_cellCount at h
 refine top (out := none) (f := Tryz.f78) (m := m78) (rs := [.t 6]) (by kernel_rfl) rfl (by kernel_rfl) (by kernel_rfl) (by kernel_rfl) (by kernel_rfl) (by kernel_rfl) ?_
 exact
  ini [q2 0 cc10 v0, q2 1 cc6 v1, q2 2 cc0 v2] rfl <| wpC_seq <| reg_s <| x_box (ss rfl rfl) <| x_box (ss rfl rfl) <| x_asg (sc cI (0 : Int) rfl) <| sq [q2 1 cc6 v1, q3 3 cc10 v0, q3 5 cc0 v2] <|
  xn <| wpC_seq <| drw_s <| pst rfl <| ldb rfl rfl rfl rfl ⟨rfl, pst rfl <| fab rfl rfl rfl rfl ⟨rfl, pst rfl <| lda rfl rfl rfl rfl rfl rfl ⟨rfl, bndp h fun x9 e10 h => pst rfl <| o_call (a1 (c := cc10) (tXGeo (tLs tK)) rfl (a1 (c := cI) tK rfl a0)) (con_impl_areasAt e10) (.inl (so1 (sLo sK) so0)) ⟨rfl, lmO_kp h fun l11 h => pst rfl <| plno rfl l11 ⟨rfl, pst rfl <| mvd rfl rfl ⟨rfl, pst rfl <| ldb rfl rfl rfl rfl ⟨rfl, bndp h fun x12 e13 h => pst rfl <| o_call (a1 (c := cc6) (tLs (tXVariable tS tK)) rfl (a1 (c := cc0) (tXTable tK (tLs tK) (tLs tK) tK) rfl a0)) (con_impl_crossed e13) (.inl (so1 (sLo (sXVariable sS sK)) so0)) ⟨rfl, bndp h fun x14 e15 h => pst rfl <| o_call (a1 (c := cc9) (tLo (tXVariable tS tK)) rfl a0) (con_impl_combinations e15) (.inl (so1 sK so0)) ⟨rfl, ckI_kp h fun i16 h => pst rfl <| b_mul (k := .i64) rfl rfl i16 ⟨rfl, preN <| x_asg (ss rfl rfl) <| sq [q2 6 cI ((x9.length : Int) * x14)] <|
  xn <| wpC_ret <| re <| fin h (r1 (ss rfl rfl) <| r0) rfl⟩⟩⟩⟩⟩⟩⟩⟩⟩⟩

def rs_impl_isTable (r : Bool) : List D := [cB.enc r]
def m71 : MC := .seq (.reg [q1 3 (.box (.t 0)),q1 5 (.box (.t 2)),q1 6 (.asg (.c (.bool false)))] [1, 3, 5])
 (.seq (.kp [1, 3, 5] (.seq (.reg [q1 8 (.mv (.t 1)),q1 9 (.fa 5 1 1),q1 10 (.ld 9 1 false),q1 11 (.call 94 [(.t 8), (.t 10)]),q1 12 (.nt (.t 11)),q1 13 (.mv (.t 12)),
  ⟨some 14, .mv (.t 1), some (13, false)⟩,
  ⟨some 15, .fa 5 2 2, some (13, false)⟩,
  ⟨some 16, .ld 15 1 false, some (13, false)⟩,
  ⟨some 17, .call 95 [(.t 14), (.t 16)], some (13, false)⟩,
  ⟨some 18, .nt (.t 17), some (13, false)⟩,q1 19 (.pick (.t 13) (.c (.bool true)) (.t 18)),q1 20 (.mv (.t 19)),
  ⟨some 21, .fa 5 3 3, some (20, false)⟩,
  ⟨some 22, .ld 21 1 false, some (20, false)⟩,
  ⟨some 23, .bin .lss (.t 22) (.c (.int .i64 (-1))), some (20, false)⟩,q1 24 (.pick (.t 20) (.c (.bool true)) (.t 23)),q1 25 (.mv (.t 24)),
  ⟨some 26, .fa 5 3 3, some (25, false)⟩,
  ⟨some 27, .ld 26 1 false, some (25, false)⟩,
  ⟨some 28, .mv (.t 1), some (25, false)⟩,
  ⟨some 29, .len false (.t 28), some (25, false)⟩,
  ⟨some 30, .bin .geq (.t 27) (.t 29), some (25, false)⟩,q1 31 (.pick (.t 25) (.c (.bool true)) (.t 30))] [1, 3, 5, 31])
 (.cond (.t 31) (.seq (.reg [q1 6 (.asg (.c (.bool false)))] [6])
 (.ret)) (.skip))))
 (.seq (.reg [q1 32 (.ld 3 1 true),q1 33 (.mv (.t 1)),q1 34 (.ld 5 4 true),q1 35 (.call 78 [(.t 32), (.t 33), (.t 34)]),q1 7 (.asg (.t 35))] [7])
 (.seq (.reg [q1 36 (.mv (.t 7)),q1 37 (.bin .gtr (.t 36) (.c (.int .i64 0))),q1 38 (.mv (.t 37)),
  ⟨some 39, .mv (.t 7), some (38, true)⟩,
  ⟨some 40, .bin .leq (.t 39) (.c (.int .i64 600)), some (38, true)⟩,q1 41 (.pick (.t 38) (.t 40) (.c (.bool false))),q1 6 (.asg (.t 41))] [6])
 (.ret))))
theorem con_impl_isTable {v0 : XGeo} {v1 : (List XVariable)} {v2 : XTable} {r : Bool} (h : sh_impl_isTable v0 v1 v2 = some r) : Con Tryz.prog 71 [cc10.enc v0, cc6.enc v1, cc0.enc v2] [] (rs_impl_isTable r) := by
 delta sh_impl_isTable at h
 refine top (out := none) (f := Tryz.f71) (m := m71) (rs := [.t 6]) (by kernel_rfl) rfl (by kernel_rfl) (by kernel_rfl) (by kernel_rfl) (by kernel_rfl) (by kernel_rfl) ?_
 exact
  ini [q2 0 cc10 v0, q2 1 cc6 v1, q2 2 cc0 v2] rfl <| wpC_seq <| reg_s <| x_box (ss rfl rfl) <| x_box (ss rfl rfl) <| x_asg (sc cB false rfl) <| sq [q2 1 cc6 v1, q3 3 cc10 v0, q3 5 cc0 v2] <|
  xn <| wpC_seq <| wpC_kp <| wpC_seq <| jw (fun (s28 : Bool) => [q2 1 cc6 v1, q3 3 cc10 v0, q3 5 cc0 v2, q2 31 cB s28]) h (fun s28 h => xn <| cnd rfl h (fun b30 h => wpC_seq <| reg_s <| x_asg (sc cB false rfl) <| sq [q2 6 cB false] <|
  xn <| wpC_ret <| rt <| rt <| re <| fin h (r1 (ss rfl rfl) <| r0) rfl)
  (fun b30 h => wpC_skip <| kpN [q2 1 cc6 v1, q3 3 cc10 v0, q3 5 cc0 v2] (by kernel_rfl) <| xn <| wpC_seq <| reg_s <| st rfl <| ldb rfl rfl rfl rfl <| st rfl <| mvd rfl rfl <| st rfl <| ldb rfl rfl rfl rfl <| bnd h fun x33 e34 h => st rfl <| o_call (a1 (c := cc10) (tXGeo (tLs tK)) rfl (a1 (c := cc6) (tLs (tXVariable tS tK)) rfl (a1 (c := cc0) (tXTable tK (tLs tK) (tLs tK) tK) rfl a0))) (con_impl_cellCount e34) (.inl (so1 sK so0)) <| x_asg (ss rfl rfl) <| sq [q2 7 cI x33] <|
  xn <| wpC_seq <| reg_s <| st rfl <| mvd rfl rfl <| st rfl <| b_gtr (k := .i64) rfl rfl <| st rfl <| mvd rfl rfl <| ite_k h (fun b36 h => gt' rfl b36 <| st rfl <| mvd rfl rfl <| gt' rfl b36 <| st rfl <| b_leq (k := .i64) rfl rfl <| st rfl <| pick1 rfl b36 (cd := cB) (v := (decide (x33 ≤ (600 : Int)))) rfl rfl <| x_asg (ss rfl rfl) <| sq [q2 6 cB (decide (x33 ≤ (600 : Int)))] <|
  xn <| wpC_ret <| re <| fin h (r1 (ss rfl rfl) <| r0) rfl)
  (fun b36 h => gf rfl b36 <| gf rfl b36 <| st rfl <| pick0 rfl b36 (cd := cB) (v := false) rfl rfl <| x_asg (ss rfl rfl) <| sq [q2 6 cB false] <|
  xn <| wpC_ret <| re <| fin h (r1 (ss rfl rfl) <| r0) rfl)))
  fun s28' q29 h => reg_s <| st rfl <| mvd rfl rfl <| st rfl <| fab rfl rfl rfl rfl <| st rfl <| lda rfl rfl rfl rfl rfl rfl <| bnd h fun x37 e38 h => st rfl <| o_call (a1 (c := cc6) (tLs (tXVariable tS tK)) rfl (a1 (c := cc13) (tLs tK) rfl a0)) (con_impl_areVars e38) (.inl (so1 sB so0)) <| st rfl <| o_nt rfl <| st rfl <| mvd rfl rfl <| ite_k h (fun b39 h => gf rfl b39 <| gf rfl b39 <| gf rfl b39 <| gf rfl b39 <| gf rfl b39 <| st rfl <| pick1 rfl b39 (cd := cB) (v := true) rfl rfl <| st rfl <| mvd rfl rfl <| gf rfl rfl <| gf rfl rfl <| gf rfl rfl <| st rfl <| pick1 rfl rfl (cd := cB) (v := true) rfl rfl <| st rfl <| mvd rfl rfl <| gf rfl rfl <| gf rfl rfl <| gf rfl rfl <| gf rfl rfl <| gf rfl rfl <| st rfl <| pick1 rfl rfl (cd := cB) (v := true) rfl rfl <| sq [q2 1 cc6 v1, q3 3 cc10 v0, q3 5 cc0 v2, q2 31 cB true] <|
  lfn (S := (fun (s28 : Bool) => [q2 1 cc6 v1, q3 3 cc10 v0, q3 5 cc0 v2, q2 31 cB s28])) h q29 rfl)
  (fun b39 h => gt' rfl b39 <| st rfl <| mvd rfl rfl <| gt' rfl b39 <| st rfl <| fab rfl rfl rfl rfl <| gt' rfl b39 <| st rfl <| lda rfl rfl rfl rfl rfl rfl <| gt' rfl b39 <| bnd h fun x40 e41 h => st rfl <| o_call (a1 (c := cc6) (tLs (tXVariable tS tK)) rfl (a1 (c := cc13) (tLs tK) rfl a0)) (con_impl_isWhere e41) (.inl (so1 sB so0)) <| gt' rfl b39 <| st rfl <| o_nt rfl <| st rfl <| pick0 rfl b39 (cd := cB) (v := (!x40)) rfl rfl <| st rfl <| mvd rfl rfl <| ite_k h (fun b42 h => gf rfl b42 <| gf rfl b42 <| gf rfl b42 <| st rfl <| pick1 rfl b42 (cd := cB) (v := true) rfl rfl <| st rfl <| mvd rfl rfl <| gf rfl rfl <| gf rfl rfl <| gf rfl rfl <| gf rfl rfl <| gf rfl rfl <| st rfl <| pick1 rfl rfl (cd := cB) (v := true) rfl rfl <| sq [q2 1 cc6 v1, q3 3 cc10 v0, q3 5 cc0 v2, q2 31 cB true] <|
  lfn (S := (fun (s28 : Bool) => [q2 1 cc6 v1, q3 3 cc10 v0, q3 5 cc0 v2, q2 31 cB s28])) h q29 rfl)
  (fun b42 h => gt' rfl b42 <| st rfl <| fab rfl rfl rfl rfl <| gt' rfl b42 <| st rfl <| lda rfl rfl rfl rfl rfl rfl <| gt' rfl b42 <| st rfl <| b_lss (k := .i64) rfl rfl <| st rfl <| pick0 rfl b42 (cd := cB) (v := (decide (v2.Sum < (-1 : Int)))) rfl rfl <| st rfl <| mvd rfl rfl <| ite_k h (fun b43 h => gf rfl b43 <| gf rfl b43 <| gf rfl b43 <| gf rfl b43 <| gf rfl b43 <| st rfl <| pick1 rfl b43 (cd := cB) (v := true) rfl rfl <| sq [q2 1 cc6 v1, q3 3 cc10 v0, q3 5 cc0 v2, q2 31 cB true] <|
  lfn (S := (fun (s28 : Bool) => [q2 1 cc6 v1, q3 3 cc10 v0, q3 5 cc0 v2, q2 31 cB s28])) h q29 rfl)
  (fun b43 h => gt' rfl b43 <| st rfl <| fab rfl rfl rfl rfl <| gt' rfl b43 <| st rfl <| lda rfl rfl rfl rfl rfl rfl <| gt' rfl b43 <| st rfl <| mvd rfl rfl <| gt' rfl b43 <| stw rfl <| lens rfl fun l44 => gt' rfl b43 <| st rfl <| b_geq (k := .i64) rfl rfl <| st rfl <| pick0 rfl b43 (cd := cB) (v := (decide ((v1.length : Int) ≤ v2.Sum))) rfl rfl <| sq [q2 1 cc6 v1, q3 3 cc10 v0, q3 5 cc0 v2, q2 31 cB (decide ((v1.length : Int) ≤ v2.Sum))] <|
  lfn (S := (fun (s28 : Bool) => [q2 1 cc6 v1, q3 3 cc10 v0, q3 5 cc0 v2, q2 31 cB s28])) h q29 rfl)))

def rs_impl_areTabled (r : Bool) : List D := [cB.enc r]
def m38 : MC := .seq (.reg [q1 3 (.box (.t 0)),q1 5 (.box (.t 2)),q1 6 (.asg (.c (.bool false)))] [1, 3, 5])
 (.seq (.reg [q1 7 (.ld 3 1 true),q1 8 (.call 69 [(.t 7)]),q1 9 (.mv (.t 8)),
  ⟨some 10, .mv (.t 1), some (9, true)⟩,
  ⟨some 11, .call 70 [(.t 10)], some (9, true)⟩,q1 12 (.pick (.t 9) (.t 11) (.c (.bool false))),q1 13 (.mv (.t 12)),
  ⟨some 14, .ld 3 1 true, some (13, true)⟩,
  ⟨some 15, .mv (.t 1), some (13, true)⟩,
  ⟨some 16, .ld 5 4 true, some (13, true)⟩,
  ⟨some 17, .call 71 [(.t 14), (.t 15), (.t 16)], some (13, true)⟩,q1 18 (.pick (.t 13) (.t 17) (.c (.bool false))),q1 6 (.asg (.t 18))] [6])
 (.ret))
theorem con_impl_areTabled {v0 : XGeo} {v1 : (List XVariable)} {v2 : XTable} {r : Bool} (h : sh_impl_areTabled v0 v1 v2 = some r) : Con Tryz.prog 38 [cc10.enc v0, cc6.enc v1, cc0.enc v2] [] (rs_impl_areTabled r) := by
 delta sh_impl_areTabled at h
 refine top (out := none) (f := Tryz.f38) (m := m38) (rs := [.t 6]) (by kernel_rfl) rfl (by kernel_rfl) (by kernel_rfl) (by kernel_rfl) (by kernel_rfl) (by kernel_rfl) ?_
 exact
  ini [q2 0 cc10 v0, q2 1 cc6 v1, q2 2 cc0 v2] rfl <| wpC_seq <| reg_s <| x_box (ss rfl rfl) <| x_box (ss rfl rfl) <| x_asg (sc cB false rfl) <| sq [q2 1 cc6 v1, q3 3 cc10 v0, q3 5 cc0 v2] <|
  xn <| wpC_seq <| reg_s <| st rfl <| ldb rfl rfl rfl rfl <| bnd h fun x9 e10 h => st rfl <| o_call (a1 (c := cc10) (tXGeo (tLs tK)) rfl a0) (con_impl_IsGeo e10) (.inl (so1 sB so0)) <| st rfl <| mvd rfl rfl <| ite_k h (fun b11 h => gt' rfl b11 <| st rfl <| mvd rfl rfl <| gt' rfl b11 <| bnd h fun x12 e13 h => st rfl <| o_call (a1 (c := cc6) (tLs (tXVariable tS tK)) rfl a0) (con_impl_IsSchema e13) (.inl (so1 sB so0)) <| st rfl <| pick1 rfl b11 (cd := cB) (v := x12) rfl rfl <| st rfl <| mvd rfl rfl <| ite_k h (fun b14 h => gt' rfl b14 <| st rfl <| ldb rfl rfl rfl rfl <| gt' rfl b14 <| st rfl <| mvd rfl rfl <| gt' rfl b14 <| st rfl <| ldb rfl rfl rfl rfl <| gt' rfl b14 <| bnd h fun x15 e16 h => st rfl <| o_call (a1 (c := cc10) (tXGeo (tLs tK)) rfl (a1 (c := cc6) (tLs (tXVariable tS tK)) rfl (a1 (c := cc0) (tXTable tK (tLs tK) (tLs tK) tK) rfl a0))) (con_impl_isTable e16) (.inl (so1 sB so0)) <| st rfl <| pick1 rfl b14 (cd := cB) (v := x15) rfl rfl <| x_asg (ss rfl rfl) <| sq [q2 6 cB x15] <|
  xn <| wpC_ret <| re <| fin h (r1 (ss rfl rfl) <| r0) rfl)
  (fun b14 h => gf rfl b14 <| gf rfl b14 <| gf rfl b14 <| gf rfl b14 <| st rfl <| pick0 rfl b14 (cd := cB) (v := false) rfl rfl <| x_asg (ss rfl rfl) <| sq [q2 6 cB false] <|
  xn <| wpC_ret <| re <| fin h (r1 (ss rfl rfl) <| r0) rfl))
  (fun b11 h => gf rfl b11 <| gf rfl b11 <| st rfl <| pick0 rfl b11 (cd := cB) (v := false) rfl rfl <| st rfl <| mvd rfl rfl <| gf rfl rfl <| gf rfl rfl <| gf rfl rfl <| gf rfl rfl <| st rfl <| pick0 rfl rfl (cd := cB) (v := false) rfl rfl <| x_asg (ss rfl rfl) <| sq [q2 6 cB false] <|
  xn <| wpC_ret <| re <| fin h (r1 (ss rfl rfl) <| r0) rfl)

def rs_impl_areValues (r : Bool) : List D := [cB.enc r]
def m110 : MC := .seq (.reg [q1 4 (.asg (.c (.bool false)))] [0, 1])
 (.seq (.kp [0, 1] (.seq (.reg [q1 7 (.mv (.t 1)),q1 8 (.len false (.t 7)),q1 9 (.mv (.t 0)),q1 10 (.len false (.t 9)),q1 11 (.bin .neq (.t 8) (.t 10))] [0, 1, 11])
 (.cond (.t 11) (.seq (.reg [q1 4 (.asg (.c (.bool false)))] [4])
 (.ret)) (.skip))))
 (.seq (.kp [] (.seq (.reg [q1 12 (.mv (.t 1)),q1 13 (.len false (.t 12)),q1 14 (.mv (.c (.int .i64 0)))] [0, 1, 12, 13, 14])
 (.blk 0 (.loop (.seq (.reg [q1 15 (.bin .lss (.t 14) (.t 13))] [0, 1, 12, 13, 14, 15])
 (.seq (.kp [0, 1, 12, 13, 14] (.cond (.t 15) (.skip) (.exit 0)))
 (.seq (.kp [0, 1, 12, 13, 14] (.blk 1 (.seq (.reg [q1 16 (.mv (.t 14)),q1 17 (.ia 12 (.t 14) 1),q1 18 (.ld 17 1 false),q1 5 (.asg (.t 16)),q1 6 (.asg (.t 18))] [0, 1, 5, 6, 12, 13, 14])
 (.seq (.reg [q1 19 (.mv (.t 6)),q1 20 (.bin .lss (.t 19) (.c (.int .i64 0))),q1 21 (.mv (.t 20)),
  ⟨some 22, .mv (.t 6), some (21, false)⟩,
  ⟨some 23, .mv (.t 0), some (21, false)⟩,
  ⟨some 24, .mv (.t 5), some (21, false)⟩,
  ⟨some 25, .ia 23 (.t 24) 2, some (21, false)⟩,
  ⟨some 26, .fa 25 1 1, some (21, false)⟩,
  ⟨some 27, .ld 26 1 false, some (21, false)⟩,
  ⟨some 28, .bin .geq (.t 22) (.t 27), some (21, false)⟩,q1 29 (.pick (.t 21) (.c (.bool true)) (.t 28))] [0, 1, 12, 13, 14, 29])
 (.cond (.t 29) (.seq (.reg [q1 4 (.asg (.c (.bool false)))] [4])
 (.ret)) (.skip))))))
 (.reg [q1 30 (.bin .add (.t 14) (.c (.int .i64 1))),q1 14 (.mv (.t 30))] [0, 1, 12, 13, 14]))))))))
 (.seq (.reg [q1 4 (.asg (.c (.bool true)))] [4])
 (.ret))))
theorem con_impl_areValues {v0 : (List XVariable)} {v1 : (List Int)} {r : Bool} (h : sh_impl_areValues v0 v1 = some r) : Con Tryz.prog 110 [cc6.enc v0, cc13.enc v1] [] (rs_impl_areValues r) := by
 delta sh_impl_areValues at h
 refine top (out := none) (f := Tryz.f110) (m := m110) (rs := [.t 4]) (by kernel_rfl) rfl (by kernel_rfl) (by kernel_rfl) (by kernel_rfl) (by kernel_rfl) (by kernel_rfl) ?_
 exact
  ini [q2 0 cc6 v0, q2 1 cc13 v1] rfl <| wpC_seq <| reg_s <| x_asg (sc cB false rfl) <| sq [q2 0 cc6 v0, q2 1 cc13 v1] <|
  xn <| wpC_seq <| wpC_kp <| wpC_seq <| reg_s <| st rfl <| mvd rfl rfl <| stw rfl <| lens rfl fun l8 => st rfl <| mvd rfl rfl <| stw rfl <| lens rfl fun l9 => st rfl <| b_neq (k := .i64) rfl rfl <| sq [q2 0 cc6 v0, q2 1 cc13 v1, q2 11 cB (decide ((v1.length : Int) ≠ (v0.length : Int)))] <|
  xn <| cnd rfl h (fun b10 h => wpC_seq <| reg_s <| x_asg (sc cB false rfl) <| sq [q2 4 cB false] <|
  xn <| wpC_ret <| rt <| rt <| re <| fin h (r1 (ss rfl rfl) <| r0) rfl)
  (fun b10 h => wpC_skip <| kpN [q2 0 cc6 v0, q2 1 cc13 v1] (by kernel_rfl) <| xn <| wpC_seq <| wpC_kp <| wpC_seq <| reg_s <| st rfl <| mvd rfl rfl <| stw rfl <| lens rfl fun l58 => st rfl <| mvc cI (0 : Int) rfl <| sq [q2 0 cc6 v0, q2 1 cc13 v1, q2 12 cc13 v1, q2 13 cI (v1.length : Int), q2 14 cI (0 : Int)] <|
  xn <| wpC_blk <| lpR (fun (k60 : Nat) (s59 : Unit) => [q2 0 cc6 v0, q2 1 cc13 v1, q2 12 cc13 v1, q2 13 cI (v1.length : Int), q2 14 cI (k60 : Int)]) () rfl h
  (fun G84 s59 h => wpC_seq <| reg_s <| st rfl <| b_lss (k := .i64) rfl rfl <| sq [q2 0 cc6 v0, q2 1 cc13 v1, q2 12 cc13 v1, q2 13 cI (v1.length : Int), q2 14 cI (v1.length : Int), q2 15 cB (decide ((v1.length : Int) < (v1.length : Int)))] <|
  xn <| wpC_seq <| wpC_kp <| cnd0 rfl (dlf _) <| wpC_exit <| xt <| xt <| xt <| xb <| kpN [] (by kernel_rfl) <| xn <| wpC_seq <| reg_s <| x_asg (sc cB true rfl) <| sq [q2 4 cB true] <|
  xn <| wpC_ret <| re <| fin h (r1 (ss rfl rfl) <| r0) rfl)
  (fun G84 nx82 k60 s59 x61 hk62 hx63 hn83 h => wpC_seq <| reg_s <| st rfl <| b_lss (k := .i64) rfl rfl <| sq [q2 0 cc6 v0, q2 1 cc13 v1, q2 12 cc13 v1, q2 13 cI (v1.length : Int), q2 14 cI (k60 : Int), q2 15 cB (decide ((k60 : Int) < (v1.length : Int)))] <|
  xn <| wpC_seq <| wpC_kp <| cnd1 rfl (dlt hk62) <| wpC_skip <| kpN [q2 0 cc6 v0, q2 1 cc13 v1, q2 12 cc13 v1, q2 13 cI (v1.length : Int), q2 14 cI (k60 : Int)] (by kernel_rfl) <| xn <| wpC_seq <| wpC_kp <| wpC_blk <| wpC_seq <| reg_s <| st rfl <| mvd rfl rfl <| st rfl <| ias rfl rfl (Int.natCast_nonneg _) hx63 rfl <| st rfl <| ldi rfl rfl rfl rfl <| x_asg (ss rfl rfl) <| x_asg (ss rfl rfl) <| sq [q2 0 cc6 v0, q2 1 cc13 v1, q2 5 cI (k60 : Int), q2 6 cI x61, q2 12 cc13 v1, q2 13 cI (v1.length : Int), q2 14 cI (k60 : Int)] <|
  xn <| wpC_seq <| reg_s <| st rfl <| mvd rfl rfl <| st rfl <| b_lss (k := .i64) rfl rfl <| st rfl <| mvd rfl rfl <| ite_k h (fun b98 h => gf rfl b98 <| gf rfl b98 <| gf rfl b98 <| gf rfl b98 <| gf rfl b98 <| gf rfl b98 <| gf rfl b98 <| st rfl <| pick1 rfl b98 (cd := cB) (v := true) rfl rfl <| sq [q2 0 cc6 v0, q2 1 cc13 v1, q2 12 cc13 v1, q2 13 cI (v1.length : Int), q2 14 cI (k60 : Int), q2 29 cB true] <|
  xn <| cnd1 rfl rfl <| wpC_seq <| reg_s <| x_asg (sc cB false rfl) <| sq [q2 4 cB false] <|
  xn <| wpC_ret <| rb <| rt <| rt <| rt <| rb <| rt <| rt <| re <| fin h (r1 (ss rfl rfl) <| r0) rfl)
  (fun b98 h => gt' rfl b98 <| st rfl <| mvd rfl rfl <| gt' rfl b98 <| st rfl <| mvd rfl rfl <| gt' rfl b98 <| st rfl <| mvd rfl rfl <| gt' rfl b98 <| getO_k h fun x99 i100 g101 h => st rfl <| ias rfl rfl i100 g101 rfl <| gt' rfl b98 <| st rfl <| fai rfl rfl rfl rfl <| gt' rfl b98 <| st rfl <| ldi rfl rfl rfl rfl <| gt' rfl b98 <| st rfl <| b_geq (k := .i64) rfl rfl <| st rfl <| pick0 rfl b98 (cd := cB) (v := (decide (x99.Levels ≤ x61))) rfl rfl <| sq [q2 0 cc6 v0, q2 1 cc13 v1, q2 12 cc13 v1, q2 13 cI (v1.length : Int), q2 14 cI (k60 : Int), q2 29 cB (decide (x99.Levels ≤ x61))] <|
  xn <| cnd rfl h (fun b102 h => wpC_seq <| reg_s <| x_asg (sc cB false rfl) <| sq [q2 4 cB false] <|
  xn <| wpC_ret <| rb <| rt <| rt <| rt <| rb <| rt <| rt <| re <| fin h (r1 (ss rfl rfl) <| r0) rfl)
  (fun b102 h => wpC_skip <| xbb <| kpN [q2 0 cc6 v0, q2 1 cc13 v1, q2 12 cc13 v1, q2 13 cI (v1.length : Int), q2 14 cI (k60 : Int)] (by kernel_rfl) <| xn <| reg_s <| st rfl <| b_inc rfl rfl l58 hk62 <| st rfl <| mvd rfl rfl <| sq [q2 0 cc6 v0, q2 1 cc13 v1, q2 12 cc13 v1, q2 13 cI (v1.length : Int), q2 14 cI ((k60 + 1 : Nat) : Int)] <|
  xn <| hn83 () h))))

def rs_impl_isRecord (r : Bool) : List D := [cB.enc r]
def m96 : MC := .seq (.reg [q1 3 (.box (.t 1)),q1 4 (.asg (.c (.bool false)))] [0, 3])
 (.seq (.reg [q1 5 (.fa 3 0 0),q1 6 (.ld 5 1 false),q1 7 (.bin .geq (.t 6) (.c (.int .i64 0))),q1 8 (.mv (.t 7)),
  ⟨some 9, .fa 3 0 0, some (8, true)⟩,
  ⟨some 10, .ld 9 1 false, some (8, true)⟩,
  ⟨some 11, .bin .leq (.t 10) (.c (.int .i64 29)), some (8, true)⟩,q1 12 (.pick (.t 8) (.t 11) (.c (.bool false))),q1 13 (.mv (.t 12)),
  ⟨some 14, .fa 3 1 1, some (13, true)⟩,
  ⟨some 15, .ld 14 1 false, some (13, true)⟩,
  ⟨some 16, .bin .geq (.t 15) (.c (.int .i64 0)), some (13, true)⟩,q1 17 (.pick (.t 13) (.t 16) (.c (.bool false))),q1 18 (.mv (.t 17)),
  ⟨some 19, .fa 3 1 1, some (18, true)⟩,
  ⟨some 20, .ld 19 1 false, some (18, true)⟩,
  ⟨some 21, .bin .leq (.t 20) (.c (.int .i64 999)), some (18, true)⟩,q1 22 (.pick (.t 18) (.t 21) (.c (.bool false))),q1 23 (.mv (.t 22)),
  ⟨some 24, .mv (.t 0), some (23, true)⟩,
  ⟨some 25, .fa 3 2 2, some (23, true)⟩,
  ⟨some 26, .ld 25 1 false, some (23, true)⟩,
  ⟨some 27, .call 110 [(.t 24), (.t 26)], some (23, true)⟩,q1 28 (.pick (.t 23) (.t 27) (.c (.bool false))),q1 4 (.asg (.t 28))] [4])
 (.ret))
theorem con_impl_isRecord {v0 : (List XVariable)} {v1 : XRecord} {r : Bool} (h : sh_impl_isRecord v0 v1 = some r) : Con Tryz.prog 96 [cc6.enc v0, cc5.enc v1] [] (rs_impl_isRecord r) := by
 delta sh_impl_isRecord at h
 refine top (out := none) (f := Tryz.f96) (m := m96) (rs := [.t 4]) (by kernel_rfl) rfl (by kernel_rfl) (by kernel_rfl) (by kernel_rfl) (by kernel_rfl) (by kernel_rfl) ?_
 exact
  ini [q2 0 cc6 v0, q2 1 cc5 v1] rfl <| wpC_seq <| reg_s <| x_box (ss rfl rfl) <| x_asg (sc cB false rfl) <| sq [q2 0 cc6 v0, q3 3 cc5 v1] <|
  xn <| wpC_seq <| jw (fun (s7 : Bool) => [q2 4 cB s7]) h (fun s7 h => xn <| wpC_ret <| re <| fin h (r1 (ss rfl rfl) <| r0) rfl)
  fun s7' q8 h => reg_s <| st rfl <| fab rfl rfl rfl rfl <| st rfl <| lda rfl rfl rfl rfl rfl rfl <| st rfl <| b_geq (k := .i64) rfl rfl <| st rfl <| mvd rfl rfl <| ite_k h (fun b9 h => gt' rfl b9 <| st rfl <| fab rfl rfl rfl rfl <| gt' rfl b9 <| st rfl <| lda rfl rfl rfl rfl rfl rfl <| gt' rfl b9 <| st rfl <| b_leq (k := .i64) rfl rfl <| st rfl <| pick1 rfl b9 (cd := cB) (v := (decide (v1.Area ≤ (29 : Int)))) rfl rfl <| st rfl <| mvd rfl rfl <| ite_k h (fun b10 h => gt' rfl b10 <| st rfl <| fab rfl rfl rfl rfl <| gt' rfl b10 <| st rfl <| lda rfl rfl rfl rfl rfl rfl <| gt' rfl b10 <| st rfl <| b_geq (k := .i64) rfl rfl <| st rfl <| pick1 rfl b10 (cd := cB) (v := (decide ((0 : Int) ≤ v1.House))) rfl rfl <| st rfl <| mvd rfl rfl <| ite_k h (fun b11 h => gt' rfl b11 <| st rfl <| fab rfl rfl rfl rfl <| gt' rfl b11 <| st rfl <| lda rfl rfl rfl rfl rfl rfl <| gt' rfl b11 <| st rfl <| b_leq (k := .i64) rfl rfl <| st rfl <| pick1 rfl b11 (cd := cB) (v := (decide (v1.House ≤ (999 : Int)))) rfl rfl <| st rfl <| mvd rfl rfl <| ite_k h (fun b12 h => gt' rfl b12 <| st rfl <| mvd rfl rfl <| gt' rfl b12 <| st rfl <| fab rfl rfl rfl rfl <| gt' rfl b12 <| st rfl <| lda rfl rfl rfl rfl rfl rfl <| gt' rfl b12 <| bnd h fun x13 e14 h => st rfl <| o_call (a1 (c := cc6) (tLs (tXVariable tS tK)) rfl (a1 (c := cc13) (tLs tK) rfl a0)) (con_impl_areValues e14) (.inl (so1 sB so0)) <| st rfl <| pick1 rfl b12 (cd := cB) (v := x13) rfl rfl <| x_asg (ss rfl rfl) <| sq [q2 4 cB x13] <|
  lfn (S := (fun (s7 : Bool) => [q2 4 cB s7])) h q8 rfl)
  (fun b12 h => gf rfl b12 <| gf rfl b12 <| gf rfl b12 <| gf rfl b12 <| st rfl <| pick0 rfl b12 (cd := cB) (v := false) rfl rfl <| x_asg (ss rfl rfl) <| sq [q2 4 cB false] <|
  lfn (S := (fun (s7 : Bool) => [q2 4 cB s7])) h q8 rfl))
  (fun b11 h => gf rfl b11 <| gf rfl b11 <| gf rfl b11 <| st rfl <| pick0 rfl b11 (cd := cB) (v := false) rfl rfl <| st rfl <| mvd rfl rfl <| gf rfl rfl <| gf rfl rfl <| gf rfl rfl <| gf rfl rfl <| st rfl <| pick0 rfl rfl (cd := cB) (v := false) rfl rfl <| x_asg (ss rfl rfl) <| sq [q2 4 cB false] <|
  lfn (S := (fun (s7 : Bool) => [q2 4 cB s7])) h q8 rfl))
  (fun b10 h => gf rfl b10 <| gf rfl b10 <| gf rfl b10 <| st rfl <| pick0 rfl b10 (cd := cB) (v := false) rfl rfl <| st rfl <| mvd rfl rfl <| gf rfl rfl <| gf rfl rfl <| gf rfl rfl <| st rfl <| pick0 rfl rfl (cd := cB) (v := false) rfl rfl <| st rfl <| mvd rfl rfl <| gf rfl rfl <| gf rfl rfl <| gf rfl rfl <| gf rfl rfl <| st rfl <| pick0 rfl rfl (cd := cB) (v := false) rfl rfl <| x_asg (ss rfl rfl) <| sq [q2 4 cB false] <|
  lfn (S := (fun (s7 : Bool) => [q2 4 cB s7])) h q8 rfl))
  (fun b9 h => gf rfl b9 <| gf rfl b9 <| gf rfl b9 <| st rfl <| pick0 rfl b9 (cd := cB) (v := false) rfl rfl <| st rfl <| mvd rfl rfl <| gf rfl rfl <| gf rfl rfl <| gf rfl rfl <| st rfl <| pick0 rfl rfl (cd := cB) (v := false) rfl rfl <| st rfl <| mvd rfl rfl <| gf rfl rfl <| gf rfl rfl <| gf rfl rfl <| st rfl <| pick0 rfl rfl (cd := cB) (v := false) rfl rfl <| st rfl <| mvd rfl rfl <| gf rfl rfl <| gf rfl rfl <| gf rfl rfl <| gf rfl rfl <| st rfl <| pick0 rfl rfl (cd := cB) (v := false) rfl rfl <| x_asg (ss rfl rfl) <| sq [q2 4 cB false] <|
  lfn (S := (fun (s7 : Bool) => [q2 4 cB s7])) h q8 rfl)

def rs_impl_isData (r : Bool) : List D := [cB.enc r]
def m72 : MC := .seq (.reg [q1 4 (.asg (.c (.bool false)))] [0, 1])
 (.seq (.kp [0, 1] (.seq (.reg [q1 7 (.mv (.t 1)),q1 8 (.len false (.t 7)),q1 9 (.bin .gtr (.t 8) (.c (.int .i64 40)))] [0, 1, 9])
 (.cond (.t 9) (.seq (.reg [q1 4 (.asg (.c (.bool false)))] [4])
 (.ret)) (.skip))))
 (.seq (.kp [] (.seq (.reg [q1 10 (.mv (.t 1)),q1 11 (.len false (.t 10)),q1 12 (.mv (.c (.int .i64 0)))] [0, 1, 10, 11, 12])
 (.blk 0 (.loop (.seq (.reg [q1 13 (.bin .lss (.t 12) (.t 11))] [0, 1, 10, 11, 12, 13])
 (.seq (.kp [0, 1, 10, 11, 12] (.cond (.t 13) (.skip) (.exit 0)))
 (.seq (.kp [0, 1, 10, 11, 12] (.blk 1 (.seq (.reg [q1 14 (.ia 10 (.t 12) 3),q1 15 (.ld 14 3 true),q1 6 (.alloc (.agg [.int .i64 0, .int .i64 0, .slice true []])),q0 (.st 6 (.t 15) 3)] [0, 1, 6, 10, 11, 12])
 (.seq (.reg [q1 16 (.mv (.t 0)),q1 17 (.ld 6 3 true),q1 18 (.call 96 [(.t 16), (.t 17)]),q1 19 (.nt (.t 18))] [0, 1, 10, 11, 12, 19])
 (.cond (.t 19) (.seq (.reg [q1 4 (.asg (.c (.bool false)))] [4])
 (.ret)) (.skip))))))
 (.reg [q1 20 (.bin .add (.t 12) (.c (.int .i64 1))),q1 12 (.mv (.t 20))] [0, 1, 10, 11, 12]))))))))
 (.seq (.reg [q1 4 (.asg (.c (.bool true)))] [4])
 (.ret))))
theorem con_impl_isData {v0 : (List XVariable)} {v1 : (List XRecord)} {r : Bool} (h : sh_impl_isData v0 v1 = some r) : Con Tryz.prog 72 [cc6.enc v0, cc1.enc v1] [] (rs_impl_isData r) := by
 delta sh_impl_isData at h
 refine top (out := none) (f := Tryz.f72) (m := m72) (rs := [.t 4]) (by kernel_rfl) rfl (by kernel_rfl) (by kernel_rfl) (by kernel_rfl) (by kernel_rfl) (by kernel_rfl) ?_
 exact
  ini [q2 0 cc6 v0, q2 1 cc1 v1] rfl <| wpC_seq <| reg_s <| x_asg (sc cB false rfl) <| sq [q2 0 cc6 v0, q2 1 cc1 v1] <|
  xn <| wpC_seq <| wpC_kp <| wpC_seq <| reg_s <| st rfl <| mvd rfl rfl <| stw rfl <| lens rfl fun l5 => st rfl <| b_gtr (k := .i64) rfl rfl <| sq [q2 0 cc6 v0, q2 1 cc1 v1, q2 9 cB (decide ((40 : Int) < (v1.length : Int)))] <|
  xn <| cnd rfl h (fun b6 h => wpC_seq <| reg_s <| x_asg (sc cB false rfl) <| sq [q2 4 cB false] <|
  xn <| wpC_ret <| rt <| rt <| re <| fin h (r1 (ss rfl rfl) <| r0) rfl)
  (fun b6 h => wpC_skip <| kpN [q2 0 cc6 v0, q2 1 cc1 v1] (by kernel_rfl) <| xn <| wpC_seq <| wpC_kp <| wpC_seq <| reg_s <| st rfl <| mvd rfl rfl <| stw rfl <| lens rfl fun l38 => st rfl <| mvc cI (0 : Int) rfl <| sq [q2 0 cc6 v0, q2 1 cc1 v1, q2 10 cc1 v1, q2 11 cI (v1.length : Int), q2 12 cI (0 : Int)] <|
  xn <| wpC_blk <| lpR (fun (k40 : Nat) (s39 : Unit) => [q2 0 cc6 v0, q2 1 cc1 v1, q2 10 cc1 v1, q2 11 cI (v1.length : Int), q2 12 cI (k40 : Int)]) () rfl h
  (fun G56 s39 h => wpC_seq <| reg_s <| st rfl <| b_lss (k := .i64) rfl rfl <| sq [q2 0 cc6 v0, q2 1 cc1 v1, q2 10 cc1 v1, q2 11 cI (v1.length : Int), q2 12 cI (v1.length : Int), q2 13 cB (decide ((v1.length : Int) < (v1.length : Int)))] <|
  xn <| wpC_seq <| wpC_kp <| cnd0 rfl (dlf _) <| wpC_exit <| xt <| xt <| xt <| xb <| kpN [] (by kernel_rfl) <| xn <| wpC_seq <| reg_s <| x_asg (sc cB true rfl) <| sq [q2 4 cB true] <|
  xn <| wpC_ret <| re <| fin h (r1 (ss rfl rfl) <| r0) rfl)
  (fun G56 nx54 k40 s39 x41 hk42 hx43 hn55 h => wpC_seq <| reg_s <| st rfl <| b_lss (k := .i64) rfl rfl <| sq [q2 0 cc6 v0, q2 1 cc1 v1, q2 10 cc1 v1, q2 11 cI (v1.length : Int), q2 12 cI (k40 : Int), q2 13 cB (decide ((k40 : Int) < (v1.length : Int)))] <|
  xn <| wpC_seq <| wpC_kp <| cnd1 rfl (dlt hk42) <| wpC_skip <| kpN [q2 0 cc6 v0, q2 1 cc1 v1, q2 10 cc1 v1, q2 11 cI (v1.length : Int), q2 12 cI (k40 : Int)] (by kernel_rfl) <| xn <| wpC_seq <| wpC_kp <| wpC_blk <| wpC_seq <| reg_s <| st rfl <| ias rfl rfl (Int.natCast_nonneg _) hx43 rfl <| st rfl <| ldi rfl rfl rfl rfl <| x_all cc8 (⟨(0 : Int), (0 : Int), ([] : List Int)⟩ : XRecord) rfl <| x_stb (ss rfl rfl) rfl (Cd.h_sz _ _) rfl <| sq [q2 0 cc6 v0, q2 1 cc1 v1, q3 6 cc5 x41, q2 10 cc1 v1, q2 11 cI (v1.length : Int), q2 12 cI (k40 : Int)] <|
  xn <| wpC_seq <| reg_s <| st rfl <| mvd rfl rfl <| st rfl <| ldb rfl rfl rfl rfl <| bnd h fun x64 e65 h => st rfl <| o_call (a1 (c := cc6) (tLs (tXVariable tS tK)) rfl (a1 (c := cc5) (tXRecord tK tK (tLs tK)) rfl a0)) (con_impl_isRecord e65) (.inl (so1 sB so0)) <| st rfl <| o_nt rfl <| sq [q2 0 cc6 v0, q2 1 cc1 v1, q2 10 cc1 v1, q2 11 cI (v1.length : Int), q2 12 cI (k40 : Int), q2 19 cB (!x64)] <|
  xn <| cnd rfl h (fun b66 h => wpC_seq <| reg_s <| x_asg (sc cB false rfl) <| sq [q2 4 cB false] <|
  xn <| wpC_ret <| rb <| rt <| rt <| rt <| rb <| rt <| rt <| re <| fin h (r1 (ss rfl rfl) <| r0) rfl)
  (fun b66 h => wpC_skip <| xbb <| kpN [q2 0 cc6 v0, q2 1 cc1 v1, q2 10 cc1 v1, q2 11 cI (v1.length : Int), q2 12 cI (k40 : Int)] (by kernel_rfl) <| xn <| reg_s <| st rfl <| b_inc rfl rfl l38 hk42 <| st rfl <| mvd rfl rfl <| sq [q2 0 cc6 v0, q2 1 cc1 v1, q2 10 cc1 v1, q2 11 cI (v1.length : Int), q2 12 cI ((k40 + 1 : Nat) : Int)] <|
  xn <| hn55 () h)))

def rs_impl_isArea (r : Bool) : List D := [cB.enc r]
def m73 : MC := .seq (.reg [q1 2 (.box (.t 0)),q1 4 (.asg (.c (.bool false)))] [1, 2])
 (.seq (.reg [q1 5 (.mv (.t 1)),q1 6 (.bin .geq (.t 5) (.c (.int .i64 0))),q1 7 (.mv (.t 6)),
  ⟨some 8, .mv (.t 1), some (7, true)⟩,
  ⟨some 9, .fa 2 0 0, some (7, true)⟩,
  ⟨some 10, .ld 9 1 false, some (7, true)⟩,
  ⟨some 11, .len false (.t 10), some (7, true)⟩,
  ⟨some 12, .bin .lss (.t 8) (.t 11), some (7, true)⟩,q1 13 (.pick (.t 7) (.t 12) (.c (.bool false))),q1 4 (.asg (.t 13))] [4])
 (.ret))
theorem con_impl_isArea {v0 : XGeo} {v1 : Int} {r : Bool} (h : sh_impl_isArea v0 v1 = some r) : Con Tryz.prog 73 [cc10.enc v0, cI.enc v1] [] (rs_impl_isArea r) := by
 delta sh_impl_isArea at h
 refine top (out := none) (f := Tryz.f73) (m := m73) (rs := [.t 4]) (by kernel_rfl) rfl (by kernel_rfl) (by kernel_rfl) (by kernel_rfl) (by kernel_rfl) (by kernel_rfl) ?_
 exact
  ini [q2 0 cc10 v0, q2 1 cI v1] rfl <| wpC_seq <| reg_s <| x_box (ss rfl rfl) <| x_asg (sc cB false rfl) <| sq [q2 1 cI v1, q3 2 cc10 v0] <|
  xn <| wpC_seq <| reg_s <| st rfl <| mvd rfl rfl <| st rfl <| b_geq (k := .i64) rfl rfl <| st rfl <| mvd rfl rfl <| ite_k h (fun b3 h => gt' rfl b3 <| st rfl <| mvd rfl rfl <| gt' rfl b3 <| st rfl <| fab rfl rfl rfl rfl <| gt' rfl b3 <| st rfl <| lda rfl rfl rfl rfl rfl rfl <| gt' rfl b3 <| stw rfl <| lens rfl fun l4 => gt' rfl b3 <| st rfl <| b_lss (k := .i64) rfl rfl <| st rfl <| pick1 rfl b3 (cd := cB) (v := (decide (v1 < (v0.Parents.length : Int)))) rfl rfl <| x_asg (ss rfl rfl) <| sq [q2 4 cB (decide (v1 < (v0.Parents.length : Int)))] <|
  xn <| wpC_ret <| re <| fin h (r1 (ss rfl rfl) <| r0) rfl)
  (fun b3 h => gf rfl b3 <| gf rfl b3 <| gf rfl b3 <| gf rfl b3 <| gf rfl b3 <| st rfl <| pick0 rfl b3 (cd := cB) (v := false) rfl rfl <| x_asg (ss rfl rfl) <| sq [q2 4 cB false] <|
  xn <| wpC_ret <| re <| fin h (r1 (ss rfl rfl) <| r0) rfl)

def rs_slices_Index_int (r : Int) : List D := [cI.enc r]
def m111 : MC := .seq (.reg [q1 4 (.asg (.c (.int .i64 0)))] [0, 1])
 (.seq (.kp [] (.seq (.reg [q1 6 (.mv (.t 0)),q1 7 (.len false (.t 6)),q1 8 (.mv (.c (.int .i64 0)))] [0, 1, 7, 8])
 (.blk 0 (.loop (.seq (.reg [q1 9 (.bin .lss (.t 8) (.t 7))] [0, 1, 7, 8, 9])
 (.seq (.kp [0, 1, 7, 8] (.cond (.t 9) (.skip) (.exit 0)))
 (.seq (.kp [0, 1, 7, 8] (.blk 1 (.seq (.reg [q1 10 (.mv (.t 8)),q1 5 (.asg (.t 10))] [0, 1, 5, 7, 8])
 (.seq (.reg [q1 11 (.mv (.t 1)),q1 12 (.mv (.t 0)),q1 13 (.mv (.t 5)),q1 14 (.ia 12 (.t 13) 1),q1 15 (.ld 14 1 false),q1 16 (.bin .eql (.t 11) (.t 15))] [0, 1, 5, 7, 8, 16])
 (.cond (.t 16) (.seq (.reg [q1 17 (.mv (.t 5)),q1 4 (.asg (.t 17))] [4])
 (.ret)) (.skip))))))
 (.reg [q1 18 (.bin .add (.t 8) (.c (.int .i64 1))),q1 8 (.mv (.t 18))] [0, 1, 7, 8]))))))))
 (.seq (.reg [q1 4 (.asg (.c (.int .i64 (-1))))] [4])
 (.ret)))
theorem con_slices_Index_int {v0 : (List Int)} {v1 : Int} {r : Int} (h : sh_slices_Index_int v0 v1 = some r) : Con Tryz.prog 111 [cc13.enc v0, cI.enc v1] [] (rs_slices_Index_int r) := by
 delta sh_slices_Index_int at h
 refine top (out := none) (f := Tryz.f111) (m := m111) (rs := [.t 4]) (by kernel_rfl) rfl (by kernel_rfl) (by kernel_rfl) (by kernel_rfl) (by kernel_rfl) (by kernel_rfl) ?_
 exact
  ini [q2 0 cc13 v0, q2 1 cI v1] rfl <| wpC_seq <| reg_s <| x_asg (sc cI (0 : Int) rfl) <| sq [q2 0 cc13 v0, q2 1 cI v1] <|
  xn <| wpC_seq <| wpC_kp <| wpC_seq <| reg_s <| st rfl <| mvd rfl rfl <| stw rfl <| lens rfl fun l16 => st rfl <| mvc cI (0 : Int) rfl <| sq [q2 0 cc13 v0, q2 1 cI v1, q2 7 cI (v0.length : Int), q2 8 cI (0 : Int)] <|
  xn <| wpC_blk <| lpR (fun (k18 : Nat) (s17 : Unit) => [q2 0 cc13 v0, q2 1 cI v1, q2 7 cI (v0.length : Int), q2 8 cI (k18 : Int)]) () rfl h
  (fun G26 s17 h => wpC_seq <| reg_s <| st rfl <| b_lss (k := .i64) rfl rfl <| sq [q2 0 cc13 v0, q2 1 cI v1, q2 7 cI (v0.length : Int), q2 8 cI (v0.length : Int), q2 9 cB (decide ((v0.length : Int) < (v0.length : Int)))] <|
  xn <| wpC_seq <| wpC_kp <| cnd0 rfl (dlf _) <| wpC_exit <| xt <| xt <| xt <| xb <| kpN [] (by kernel_rfl) <| xn <| wpC_seq <| reg_s <| x_asg (sc cI (-1 : Int) rfl) <| sq [q2 4 cI (-1 : Int)] <|
  xn <| wpC_ret <| re <| fin h (r1 (ss rfl rfl) <| r0) rfl)
  (fun G26 nx24 k18 s17 x19 hk20 hx21 hn25 h => wpC_seq <| reg_s <| st rfl <| b_lss (k := .i64) rfl rfl <| sq [q2 0 cc13 v0, q2 1 cI v1, q2 7 cI (v0.length : Int), q2 8 cI (k18 : Int), q2 9 cB (decide ((k18 : Int) < (v0.length : Int)))] <|
  xn <| wpC_seq <| wpC_kp <| cnd1 rfl (dlt hk20) <| wpC_skip <| kpN [q2 0 cc13 v0, q2 1 cI v1, q2 7 cI (v0.length : Int), q2 8 cI (k18 : Int)] (by kernel_rfl) <| xn <| wpC_seq <| wpC_kp <| wpC_blk <| wpC_seq <| reg_s <| st rfl <| mvd rfl rfl <| x_asg (ss rfl rfl) <| sq [q2 0 cc13 v0, q2 1 cI v1, q2 5 cI (k18 : Int), q2 7 cI (v0.length : Int), q2 8 cI (k18 : Int)] <|
  xn <| wpC_seq <| reg_s <| st rfl <| mvd rfl rfl <| st rfl <| mvd rfl rfl <| st rfl <| mvd rfl rfl <| st rfl <| ias rfl rfl (Int.natCast_nonneg _) hx21 rfl <| st rfl <| ldi rfl rfl rfl rfl <| st rfl <| b_eql (k := .i64) rfl rfl <| sq [q2 0 cc13 v0, q2 1 cI v1, q2 5 cI (k18 : Int), q2 7 cI (v0.length : Int), q2 8 cI (k18 : Int), q2 16 cB (decide (v1 = x19))] <|
  xn <| cnd rfl h (fun b28 h => wpC_seq <| reg_s <| st rfl <| mvd rfl rfl <| x_asg (ss rfl rfl) <| sq [q2 4 cI (k18 : Int)] <|
  xn <| wpC_ret <| rb <| rt <| rt <| rt <| rb <| rt <| rt <| re <| fin h (r1 (ss rfl rfl) <| r0) rfl)
  (fun b28 h => wpC_skip <| xbb <| kpN [q2 0 cc13 v0, q2 1 cI v1, q2 7 cI (v0.length : Int), q2 8 cI (k18 : Int)] (by kernel_rfl) <| xn <| reg_s <| st rfl <| b_inc rfl rfl l16 hk20 <| st rfl <| mvd rfl rfl <| sq [q2 0 cc13 v0, q2 1 cI v1, q2 7 cI (v0.length : Int), q2 8 cI ((k18 + 1 : Nat) : Int)] <|
  xn <| hn25 () h))

def rs_slices_Contains_int (r : Bool) : List D := [cB.enc r]
def m97 : MC := .seq (.reg [q1 4 (.asg (.c (.bool false)))] [0, 1])
 (.seq (.reg [q1 5 (.mv (.t 0)),q1 6 (.mv (.t 1)),q1 7 (.call 111 [(.t 5), (.t 6)]),q1 8 (.bin .geq (.t 7) (.c (.int .i64 0))),q1 4 (.asg (.t 8))] [4])
 (.ret))
theorem con_slices_Contains_int {v0 : (List Int)} {v1 : Int} {r : Bool} (h : sh_slices_Contains_int v0 v1 = some r) : Con Tryz.prog 97 [cc13.enc v0, cI.enc v1] [] (rs_slices_Contains_int r) := by
 delta sh_slices_Contains_int at h
 refine top (out := none) (f := Tryz.f97) (m := m97) (rs := [.t 4]) (by kernel_rfl) rfl (by kernel_rfl) (by kernel_rfl) (by kernel_rfl) (by kernel_rfl) (by kernel_rfl) ?_
 exact
  ini [q2 0 cc13 v0, q2 1 cI v1] rfl <| wpC_seq <| reg_s <| x_asg (sc cB false rfl) <| sq [q2 0 cc13 v0, q2 1 cI v1] <|
  xn <| wpC_seq <| reg_s <| st rfl <| mvd rfl rfl <| st rfl <| mvd rfl rfl <| bnd h fun x3 e4 h => st rfl <| o_call (a1 (c := cc13) (tLs tK) rfl (a1 (c := cI) tK rfl a0)) (con_slices_Index_int e4) (.inl (so1 sK so0)) <| st rfl <| b_geq (k := .i64) rfl rfl <| x_asg (ss rfl rfl) <| sq [q2 4 cB (decide ((0 : Int) ≤ x3))] <|
  xn <| wpC_ret <| re <| fin h (r1 (ss rfl rfl) <| r0) rfl

def rs_impl_isLeaf (r : Bool) : List D := [cB.enc r]
def m74 : MC := .seq (.reg [q1 2 (.box (.t 0)),q1 4 (.asg (.c (.bool false)))] [1, 2])
 (.seq (.reg [q1 5 (.fa 2 0 0),q1 6 (.ld 5 1 false),q1 7 (.mv (.t 1)),q1 8 (.call 97 [(.t 6), (.t 7)]),q1 9 (.nt (.t 8)),q1 4 (.asg (.t 9))] [4])
 (.ret))
theorem con_impl_isLeaf {v0 : XGeo} {v1 : Int} {r : Bool} (h : sh_impl_isLeaf v0 v1 = some r) : Con Tryz.prog 74 [cc10.enc v0, cI.enc v1] [] (rs_impl_isLeaf r) := by
 delta sh_impl_isLeaf at h
 refine top (out := none) (f := Tryz.f74) (m := m74) (rs := [.t 4]) (by kernel_rfl) rfl (by kernel_rfl) (by kernel_rfl) (by kernel_rfl) (by kernel_rfl) (by kernel_rfl) ?_
 exact
  ini [q2 0 cc10 v0, q2 1 cI v1] rfl <| wpC_seq <| reg_s <| x_box (ss rfl rfl) <| x_asg (sc cB false rfl) <| sq [q2 1 cI v1, q3 2 cc10 v0] <|
  xn <| wpC_seq <| reg_s <| st rfl <| fab rfl rfl rfl rfl <| st rfl <| lda rfl rfl rfl rfl rfl rfl <| st rfl <| mvd rfl rfl <| bnd h fun x3 e4 h => st rfl <| o_call (a1 (c := cc13) (tLs tK) rfl (a1 (c := cI) tK rfl a0)) (con_slices_Contains_int e4) (.inl (so1 sB so0)) <| st rfl <| o_nt rfl <| x_asg (ss rfl rfl) <| sq [q2 4 cB (!x3)] <|
  xn <| wpC_ret <| re <| fin h (r1 (ss rfl rfl) <| r0) rfl

def rs_impl_isSurvey (r : Bool) : List D := [cB.enc r]
def m39 : MC := .seq (.reg [q1 3 (.box (.t 0)),q1 6 (.asg (.c (.bool false)))] [1, 2, 3])
 (.seq (.kp [2, 3] (.seq (.reg [q1 9 (.mv (.t 1)),q1 10 (.mv (.t 2)),q1 11 (.call 72 [(.t 9), (.t 10)]),q1 12 (.nt (.t 11))] [2, 3, 12])
 (.cond (.t 12) (.seq (.reg [q1 6 (.asg (.c (.bool false)))] [6])
 (.ret)) (.skip))))
 (.seq (.kp [] (.seq (.reg [q1 13 (.mv (.t 2)),q1 14 (.len false (.t 13)),q1 15 (.mv (.c (.int .i64 0)))] [2, 3, 13, 14, 15])
 (.blk 0 (.loop (.seq (.reg [q1 16 (.bin .lss (.t 15) (.t 14))] [2, 3, 13, 14, 15, 16])
 (.seq (.kp [2, 3, 13, 14, 15] (.cond (.t 16) (.skip) (.exit 0)))
 (.seq (.kp [2, 3, 13, 14, 15] (.blk 1 (.seq (.reg [q1 17 (.ia 13 (.t 15) 3),q1 18 (.ld 17 3 true),q1 8 (.alloc (.agg [.int .i64 0, .int .i64 0, .slice true []])),q0 (.st 8 (.t 18) 3)] [2, 3, 8, 13, 14, 15])
 (.seq (.reg [q1 19 (.ld 3 1 true),q1 20 (.fa 8 0 0),q1 21 (.ld 20 1 false),q1 22 (.call 73 [(.t 19), (.t 21)]),q1 23 (.nt (.t 22)),q1 24 (.mv (.t 23)),
  ⟨some 25, .ld 3 1 true, some (24, false)⟩,
  ⟨some 26, .fa 8 0 0, some (24, false)⟩,
  ⟨some 27, .ld 26 1 false, some (24, false)⟩,
  ⟨some 28, .call 74 [(.t 25), (.t 27)], some (24, false)⟩,
  ⟨some 29, .nt (.t 28), some (24, false)⟩,q1 30 (.pick (.t 24) (.c (.bool true)) (.t 29))] [2, 3, 13, 14, 15, 30])
 (.cond (.t 30) (.seq (.reg [q1 6 (.asg (.c (.bool false)))] [6])
 (.ret)) (.skip))))))
 (.reg [q1 31 (.bin .add (.t 15) (.c (.int .i64 1))),q1 15 (.mv (.t 31))] [2, 3, 13, 14, 15]))))))))
 (.seq (.reg [q1 6 (.asg (.c (.bool true)))] [6])
 (.ret))))
theorem con_impl_isSurvey {v0 : XGeo} {v1 : (List XVariable)} {v2 : (List XRecord)} {r : Bool} (h : sh_impl_isSurvey v0 v1 v2 = some r) : Con Tryz.prog 39 [cc10.enc v0, cc6.enc v1, cc1.enc v2] [] (rs_impl_isSurvey r) := by
 delta sh_impl_isSurvey at h
 refine top (out := none) (f := Tryz.f39) (m := m39) (rs := [.t 6]) (by kernel_rfl) rfl (by kernel_rfl) (by kernel_rfl) (by kernel_rfl) (by kernel_rfl) (by kernel_rfl) ?_
 exact
  ini [q2 0 cc10 v0, q2 1 cc6 v1, q2 2 cc1 v2] rfl <| wpC_seq <| reg_s <| x_box (ss rfl rfl) <| x_asg (sc cB false rfl) <| sq [q2 1 cc6 v1, q2 2 cc1 v2, q3 3 cc10 v0] <|
  xn <| wpC_seq <| wpC_kp <| wpC_seq <| reg_s <| st rfl <| mvd rfl rfl <| st rfl <| mvd rfl rfl <| bnd h fun x8 e9 h => st rfl <| o_call (a1 (c := cc6) (tLs (tXVariable tS tK)) rfl (a1 (c := cc1) (tLs (tXRecord tK tK (tLs tK))) rfl a0)) (con_impl_isData e9) (.inl (so1 sB so0)) <| st rfl <| o_nt rfl <| sq [q2 2 cc1 v2, q3 3 cc10 v0, q2 12 cB (!x8)] <|
  xn <| cnd rfl h (fun b10 h => wpC_seq <| reg_s <| x_asg (sc cB false rfl) <| sq [q2 6 cB false] <|
  xn <| wpC_ret <| rt <| rt <| re <| fin h (r1 (ss rfl rfl) <| r0) rfl)
  (fun b10 h => wpC_skip <| kpN [q2 2 cc1 v2, q3 3 cc10 v0] (by kernel_rfl) <| xn <| wpC_seq <| wpC_kp <| wpC_seq <| reg_s <| st rfl <| mvd rfl rfl <| stw rfl <| lens rfl fun l66 => st rfl <| mvc cI (0 : Int) rfl <| sq [q2 2 cc1 v2, q3 3 cc10 v0, q2 13 cc1 v2, q2 14 cI (v2.length : Int), q2 15 cI (0 : Int)] <|
  xn <| wpC_blk <| lpR (fun (k68 : Nat) (s67 : Unit) => [q2 2 cc1 v2, q3 3 cc10 v0, q2 13 cc1 v2, q2 14 cI (v2.length : Int), q2 15 cI (k68 : Int)]) () rfl h
  (fun G96 s67 h => wpC_seq <| reg_s <| st rfl <| b_lss (k := .i64) rfl rfl <| sq [q2 2 cc1 v2, q3 3 cc10 v0, q2 13 cc1 v2, q2 14 cI (v2.length : Int), q2 15 cI (v2.length : Int), q2 16 cB (decide ((v2.length : Int) < (v2.length : Int)))] <|
  xn <| wpC_seq <| wpC_kp <| cnd0 rfl (dlf _) <| wpC_exit <| xt <| xt <| xt <| xb <| kpN [] (by kernel_rfl) <| xn <| wpC_seq <| reg_s <| x_asg (sc cB true rfl) <| sq [q2 6 cB true] <|
  xn <| wpC_ret <| re <| fin h (r1 (ss rfl rfl) <| r0) rfl)
  (fun G96 nx94 k68 s67 x69 hk70 hx71 hn95 h => wpC_seq <| reg_s <| st rfl <| b_lss (k := .i64) rfl rfl <| sq [q2 2 cc1 v2, q3 3 cc10 v0, q2 13 cc1 v2, q2 14 cI (v2.length : Int), q2 15 cI (k68 : Int), q2 16 cB (decide ((k68 : Int) < (v2.length : Int)))] <|
  xn <| wpC_seq <| wpC_kp <| cnd1 rfl (dlt hk70) <| wpC_skip <| kpN [q2 2 cc1 v2, q3 3 cc10 v0, q2 13 cc1 v2, q2 14 cI (v2.length : Int), q2 15 cI (k68 : Int)] (by kernel_rfl) <| xn <| wpC_seq <| wpC_kp <| wpC_blk <| wpC_seq <| reg_s <| st rfl <| ias rfl rfl (Int.natCast_nonneg _) hx71 rfl <| st rfl <| ldi rfl rfl rfl rfl <| x_all cc8 (⟨(0 : Int), (0 : Int), ([] : List Int)⟩ : XRecord) rfl <| x_stb (ss rfl rfl) rfl (Cd.h_sz _ _) rfl <| sq [q2 2 cc1 v2, q3 3 cc10 v0, q3 8 cc5 x69, q2 13 cc1 v2, q2 14 cI (v2.length : Int), q2 15 cI (k68 : Int)] <|
  xn <| wpC_seq <| reg_s <| st rfl <| ldb rfl rfl rfl rfl <| st rfl <| fab rfl rfl rfl rfl <| st rfl <| lda rfl rfl rfl rfl rfl rfl <| bnd h fun x113 e114 h => st rfl <| o_call (a1 (c := cc10) (tXGeo (tLs tK)) rfl (a1 (c := cI) tK rfl a0)) (con_impl_isArea e114) (.inl (so1 sB so0)) <| st rfl <| o_nt rfl <| st rfl <| mvd rfl rfl <| ite_k h (fun b115 h => gf rfl b115 <| gf rfl b115 <| gf rfl b115 <| gf rfl b115 <| gf rfl b115 <| st rfl <| pick1 rfl b115 (cd := cB) (v := true) rfl rfl <| sq [q2 2 cc1 v2, q3 3 cc10 v0, q2 13 cc1 v2, q2 14 cI (v2.length : Int), q2 15 cI (k68 : Int), q2 30 cB true] <|
  xn <| cnd1 rfl rfl <| wpC_seq <| reg_s <| x_asg (sc cB false rfl) <| sq [q2 6 cB false] <|
  xn <| wpC_ret <| rb <| rt <| rt <| rt <| rb <| rt <| rt <| re <| fin h (r1 (ss rfl rfl) <| r0) rfl)
  (fun b115 h => gt' rfl b115 <| st rfl <| ldb rfl rfl rfl rfl <| gt' rfl b115 <| st rfl <| fab rfl rfl rfl rfl <| gt' rfl b115 <| st rfl <| lda rfl rfl rfl rfl rfl rfl <| gt' rfl b115 <| bnd h fun x116 e117 h => st rfl <| o_call (a1 (c := cc10) (tXGeo (tLs tK)) rfl (a1 (c := cI) tK rfl a0)) (con_impl_isLeaf e117) (.inl (so1 sB so0)) <| gt' rfl b115 <| st rfl <| o_nt rfl <| st rfl <| pick0 rfl b115 (cd := cB) (v := (!x116)) rfl rfl <| sq [q2 2 cc1 v2, q3 3 cc10 v0, q2 13 cc1 v2, q2 14 cI (v2.length : Int), q2 15 cI (k68 : Int), q2 30 cB (!x116)] <|
  xn <| cnd rfl h (fun b118 h => wpC_seq <| reg_s <| x_asg (sc cB false rfl) <| sq [q2 6 cB false] <|
  xn <| wpC_ret <| rb <| rt <| rt <| rt <| rb <| rt <| rt <| re <| fin h (r1 (ss rfl rfl) <| r0) rfl)
  (fun b118 h => wpC_skip <| xbb <| kpN [q2 2 cc1 v2, q3 3 cc10 v0, q2 13 cc1 v2, q2 14 cI (v2.length : Int), q2 15 cI (k68 : Int)] (by kernel_rfl) <| xn <| reg_s <| st rfl <| b_inc rfl rfl l66 hk70 <| st rfl <| mvd rfl rfl <| sq [q2 2 cc1 v2, q3 3 cc10 v0, q2 13 cc1 v2, q2 14 cI (v2.length : Int), q2 15 cI ((k68 + 1 : Nat) : Int)] <|
  xn <| hn95 () h))))

def rs_impl_ancestorAt (r : Int) : List D := [cI.enc r]
def m104 : MC := .seq (.reg [q1 3 (.box (.t 0)),q1 6 (.asg (.c (.int .i64 0)))] [1, 2, 3])
 (.seq (.reg [q1 8 (.ld 3 1 true),q1 9 (.mv (.t 1)),q1 10 (.call 75 [(.t 8), (.t 9)]),q1 7 (.asg (.t 10))] [1, 2, 3, 7])
 (.seq (.kp [1, 2, 3, 7] (.seq (.reg [q1 11 (.mv (.t 2)),q1 12 (.bin .lss (.t 11) (.c (.int .i64 0))),q1 13 (.mv (.t 12)),
  ⟨some 14, .mv (.t 7), some (13, false)⟩,
  ⟨some 15, .mv (.t 2), some (13, false)⟩,
  ⟨some 16, .bin .lss (.t 14) (.t 15), some (13, false)⟩,q1 17 (.pick (.t 13) (.c (.bool true)) (.t 16))] [1, 2, 3, 7, 17])
 (.cond (.t 17) (.seq (.reg [q1 6 (.asg (.c (.int .i64 (-1))))] [6])
 (.ret)) (.skip))))
 (.seq (.kp [1] (.blk 0 (.loop (.seq (.kp [1, 2, 3, 7] (.seq (.reg [q1 18 (.mv (.t 7)),q1 19 (.mv (.t 2)),q1 20 (.bin .gtr (.t 18) (.t 19))] [1, 2, 3, 7, 20])
 (.cond (.t 20) (.skip) (.exit 0))))
 (.seq (.kp [1, 2, 3, 7] (.blk 1 (.reg [q1 23 (.fa 3 0 0),q1 24 (.ld 23 1 false),q1 25 (.mv (.t 1)),q1 26 (.ia 24 (.t 25) 1),q1 27 (.ld 26 1 false),q1 1 (.asg (.t 27))] [1, 2, 3, 7])))
 (.reg [q1 21 (.mv (.t 7)),q1 22 (.bin .sub (.t 21) (.c (.int .i64 1))),q1 7 (.asg (.t 22))] [1, 2, 3, 7]))))))
 (.seq (.reg [q1 28 (.mv (.t 1)),q1 6 (.asg (.t 28))] [6])
 (.ret)))))
theorem con_impl_ancestorAt {v0 : XGeo} {v1 : Int} {v2 : Int} {r : Int} (h : sh_impl_ancestorAt v0 v1 v2 = some r) : Con Tryz.prog 104 [cc10.enc v0, cI.enc v1, cI.enc v2] [] (rs_impl_ancestorAt r) := by
 delta sh_impl_ancestorAt at h
 refine top (out := none) (f := Tryz.f104) (m := m104) (rs := [.t 6]) (by kernel_rfl) rfl (by kernel_rfl) (by kernel_rfl) (by kernel_rfl) (by kernel_rfl) (by kernel_rfl) ?_
 exact
  ini [q2 0 cc10 v0, q2 1 cI v1, q2 2 cI v2] rfl <| wpC_seq <| reg_s <| x_box (ss rfl rfl) <| x_asg (sc cI (0 : Int) rfl) <| sq [q2 1 cI v1, q2 2 cI v2, q3 3 cc10 v0] <|
  xn <| wpC_seq <| reg_s <| st rfl <| ldb rfl rfl rfl rfl <| st rfl <| mvd rfl rfl <| bnd h fun x3 e4 h => st rfl <| o_call (a1 (c := cc10) (tXGeo (tLs tK)) rfl (a1 (c := cI) tK rfl a0)) (con_impl_depthOf e4) (.inl (so1 sK so0)) <| x_asg (ss rfl rfl) <| sq [q2 1 cI v1, q2 2 cI v2, q3 3 cc10 v0, q2 7 cI x3] <|
  xn <| wpC_seq <| wpC_kp <| wpC_seq <| reg_s <| st rfl <| mvd rfl rfl <| st rfl <| b_lss (k := .i64) rfl rfl <| st rfl <| mvd rfl rfl <| ite_k h (fun b9 h => gf rfl b9 <| gf rfl b9 <| gf rfl b9 <| st rfl <| pick1 rfl b9 (cd := cB) (v := true) rfl rfl <| sq [q2 1 cI v1, q2 2 cI v2, q3 3 cc10 v0, q2 7 cI x3, q2 17 cB true] <|
  xn <| cnd1 rfl rfl <| wpC_seq <| reg_s <| x_asg (sc cI (-1 : Int) rfl) <| sq [q2 6 cI (-1 : Int)] <|
  xn <| wpC_ret <| rt <| rt <| re <| fin h (r1 (ss rfl rfl) <| r0) rfl)
  (fun b9 h => gt' rfl b9 <| st rfl <| mvd rfl rfl <| gt' rfl b9 <| st rfl <| mvd rfl rfl <| gt' rfl b9 <| st rfl <| b_lss (k := .i64) rfl rfl <| st rfl <| pick0 rfl b9 (cd := cB) (v := (decide (x3 < v2))) rfl rfl <| sq [q2 1 cI v1, q2 2 cI v2, q3 3 cc10 v0, q2 7 cI x3, q2 17 cB (decide (x3 < v2))] <|
  xn <| cnd rfl h (fun b10 h => wpC_seq <| reg_s <| x_asg (sc cI (-1 : Int) rfl) <| sq [q2 6 cI (-1 : Int)] <|
  xn <| wpC_ret <| rt <| rt <| re <| fin h (r1 (ss rfl rfl) <| r0) rfl)
  (fun b10 h => wpC_skip <| kpN [q2 1 cI v1, q2 2 cI v2, q3 3 cc10 v0, q2 7 cI x3] (by kernel_rfl) <| xn <| wpC_seq <| wpC_kp <| wpC_blk <| lpF (fun (s46 : (Int × Int)) => [q2 1 cI s46.1, q2 2 cI v2, q3 3 cc10 v0, q2 7 cI s46.2]) (v1, x3) rfl h
  fun G71 nx69 s46 hn70 h => wpC_seq <| wpC_kp <| wpC_seq <| reg_s <| st rfl <| mvd rfl rfl <| st rfl <| mvd rfl rfl <| st rfl <| b_gtr (k := .i64) rfl rfl <| sq [q2 1 cI s46.1, q2 2 cI v2, q3 3 cc10 v0, q2 7 cI s46.2, q2 20 cB (decide (v2 < s46.2))] <|
  xn <| cnd rfl h (fun b73 h => wpC_skip <| kpN [q2 1 cI s46.1, q2 2 cI v2, q3 3 cc10 v0, q2 7 cI s46.2] (by kernel_rfl) <| xn <| wpC_seq <| wpC_kp <| wpC_blk <| reg_s <| st rfl <| fab rfl rfl rfl rfl <| st rfl <| lda rfl rfl rfl rfl rfl rfl <| st rfl <| mvd rfl rfl <| getO_k h fun x77 i78 g79 h => st rfl <| ias rfl rfl i78 g79 rfl <| st rfl <| ldi rfl rfl rfl rfl <| x_asg (ss rfl rfl) <| sq [q2 1 cI x77, q2 2 cI v2, q3 3 cc10 v0, q2 7 cI s46.2] <|
  xbb <| kpN [q2 1 cI x77, q2 2 cI v2, q3 3 cc10 v0, q2 7 cI s46.2] (by kernel_rfl) <| xn <| reg_s <| st rfl <| mvd rfl rfl <| ckI_k h fun i80 h => st rfl <| b_sub (k := .i64) rfl rfl i80 <| x_asg (ss rfl rfl) <| sq [q2 1 cI x77, q2 2 cI v2, q3 3 cc10 v0, q2 7 cI (s46.2 - (1 : Int))] <|
  xn <| hn70 (x77, (s46.2 - (1 : Int))) h)
  (fun b73 h => wpC_exit <| xt <| xt <| xt <| xb <| kpN [q2 1 cI s46.1] (by kernel_rfl) <| xn <| wpC_seq <| reg_s <| st rfl <| mvd rfl rfl <| x_asg (ss rfl rfl) <| sq [q2 6 cI s46.1] <|
  xn <| wpC_ret <| re <| fin h (r1 (ss rfl rfl) <| r0) rfl)))
def rs_impl_meetsWhere (r : Bool) : List D := [cB.enc r]
def m105 : MC := .seq (.reg [q1 2 (.box (.t 0)),q1 3 (.box (.t 1)),q1 4 (.asg (.c (.bool false)))] [2, 3])
 (.seq (.kp [] (.seq (.reg [q1 7 (.fa 2 2 2),q1 8 (.ld 7 1 false),q1 9 (.len false (.t 8)),q1 10 (.mv (.c (.int .i64 0)))] [2, 3, 7, 8, 9, 10])
 (.blk 0 (.loop (.seq (.reg [q1 11 (.bin .lss (.t 10) (.t 9))] [2, 3, 7, 8, 9, 10, 11])
 (.seq (.kp [2, 3, 7, 8, 9, 10] (.cond (.t 11) (.skip) (.exit 0)))
 (.seq (.kp [2, 3, 7, 8, 9, 10] (.blk 1 (.seq (.reg [q1 12 (.mv (.t 10)),q1 13 (.ia 8 (.t 10) 1),q1 14 (.ld 13 1 false),q1 5 (.asg (.t 12)),q1 6 (.asg (.t 14))] [2, 3, 5, 6, 7, 8, 9, 10])
 (.seq (.reg [q1 15 (.mv (.t 6)),q1 16 (.bin .neq (.t 15) (.c (.int .i64 0))),q1 17 (.mv (.t 16)),
  ⟨some 18, .mv (.t 6), some (17, true)⟩,
  ⟨some 19, .fa 3 2 2, some (17, true)⟩,
  ⟨some 20, .ld 19 1 false, some (17, true)⟩,
  ⟨some 21, .mv (.t 5), some (17, true)⟩,
  ⟨some 22, .ia 20 (.t 21) 1, some (17, true)⟩,
  ⟨some 23, .ld 22 1 false, some (17, true)⟩,
  ⟨some 24, .bin .shr (.t 18) (.t 23), some (17, true)⟩,
  ⟨some 25, .bin .and (.t 24) (.c (.int .i64 1)), some (17, true)⟩,
  ⟨some 26, .bin .eql (.t 25) (.c (.int .i64 0)), some (17, true)⟩,q1 27 (.pick (.t 17) (.t 26) (.c (.bool false)))] [2, 3, 7, 8, 9, 10, 27])
 (.cond (.t 27) (.seq (.reg [q1 4 (.asg (.c (.bool false)))] [4])
 (.ret)) (.skip))))))
 (.reg [q1 28 (.bin .add (.t 10) (.c (.int .i64 1))),q1 10 (.mv (.t 28))] [2, 3, 7, 8, 9, 10]))))))))
 (.seq (.reg [q1 4 (.asg (.c (.bool true)))] [4])
 (.ret)))
theorem con_impl_meetsWhere {v0 : XTable} {v1 : XRecord} {r : Bool} (h : sh_impl_meetsWhere v0 v1 = some r) : Con Tryz.prog 105 [cc0.enc v0, cc5.enc v1] [] (rs_impl_meetsWhere r) := by
 delta sh_impl_meetsWhere at h
 refine top (out := none) (f := Tryz.f105) (m := m105) (rs := [.t 4]) (by kernel_rfl) rfl (by kernel_rfl) (by kernel_rfl) (by kernel_rfl) (by kernel_rfl) (by kernel_rfl) ?_
 exact
  ini [q2 0 cc0 v0, q2 1 cc5 v1] rfl <| wpC_seq <| reg_s <| x_box (ss rfl rfl) <| x_box (ss rfl rfl) <| x_asg (sc cB false rfl) <| sq [q3 2 cc0 v0, q3 3 cc5 v1] <|
  xn <| wpC_seq <| wpC_kp <| wpC_seq <| reg_s <| st rfl <| fab rfl rfl rfl rfl <| st rfl <| lda rfl rfl rfl rfl rfl rfl <| stw rfl <| lens rfl fun l88 => st rfl <| mvc cI (0 : Int) rfl <| sq [q3 2 cc0 v0, q3 3 cc5 v1, (7, .adr 2 [.fld 2]), q2 8 cc13 v0.Where, q2 9 cI (v0.Where.length : Int), q2 10 cI (0 : Int)] <|
  xn <| wpC_blk <| lpR (fun (k90 : Nat) (s89 : Unit) => [q3 2 cc0 v0, q3 3 cc5 v1, (7, .adr 2 [.fld 2]), q2 8 cc13 v0.Where, q2 9 cI (v0.Where.length : Int), q2 10 cI (k90 : Int)]) () rfl h
  (fun G134 s89 h => wpC_seq <| reg_s <| st rfl <| b_lss (k := .i64) rfl rfl <| sq [q3 2 cc0 v0, q3 3 cc5 v1, (7, .adr 2 [.fld 2]), q2 8 cc13 v0.Where, q2 9 cI (v0.Where.length : Int), q2 10 cI (v0.Where.length : Int), q2 11 cB (decide ((v0.Where.length : Int) < (v0.Where.length : Int)))] <|
  xn <| wpC_seq <| wpC_kp <| cnd0 rfl (dlf _) <| wpC_exit <| xt <| xt <| xt <| xb <| kpN [] (by kernel_rfl) <| xn <| wpC_seq <| reg_s <| x_asg (sc cB true rfl) <| sq [q2 4 cB true] <|
  xn <| wpC_ret <| re <| fin h (r1 (ss rfl rfl) <| r0) rfl)
  (fun G134 nx132 k90 s89 x91 hk92 hx93 hn133 h => wpC_seq <| reg_s <| st rfl <| b_lss (k := .i64) rfl rfl <| sq [q3 2 cc0 v0, q3 3 cc5 v1, (7, .adr 2 [.fld 2]), q2 8 cc13 v0.Where, q2 9 cI (v0.Where.length : Int), q2 10 cI (k90 : Int), q2 11 cB (decide ((k90 : Int) < (v0.Where.length : Int)))] <|
  xn <| wpC_seq <| wpC_kp <| cnd1 rfl (dlt hk92) <| wpC_skip <| kpN [q3 2 cc0 v0, q3 3 cc5 v1, (7, .adr 2 [.fld 2]), q2 8 cc13 v0.Where, q2 9 cI (v0.Where.length : Int), q2 10 cI (k90 : Int)] (by kernel_rfl) <| xn <| wpC_seq <| wpC_kp <| wpC_blk <| wpC_seq <| reg_s <| st rfl <| mvd rfl rfl <| st rfl <| ias rfl rfl (Int.natCast_nonneg _) hx93 rfl <| st rfl <| ldi rfl rfl rfl rfl <| x_asg (ss rfl rfl) <| x_asg (ss rfl rfl) <| sq [q3 2 cc0 v0, q3 3 cc5 v1, q2 5 cI (k90 : Int), q2 6 cI x91, (7, .adr 2 [.fld 2]), q2 8 cc13 v0.Where, q2 9 cI (v0.Where.length : Int), q2 10 cI (k90 : Int)] <|
  xn <| wpC_seq <| reg_s <| st rfl <| mvd rfl rfl <| st rfl <| b_neq (k := .i64) rfl rfl <| st rfl <| mvd rfl rfl <| ite_k h (fun b163 h => gt' rfl b163 <| st rfl <| mvd rfl rfl <| gt' rfl b163 <| st rfl <| fab rfl rfl rfl rfl <| gt' rfl b163 <| st rfl <| lda rfl rfl rfl rfl rfl rfl <| gt' rfl b163 <| st rfl <| mvd rfl rfl <| gt' rfl b163 <| getO_k h fun x164 i165 g166 h => st rfl <| ias rfl rfl i165 g166 rfl <| gt' rfl b163 <| st rfl <| ldi rfl rfl rfl rfl <| gt' rfl b163 <| ck_k h fun i167 h => st rfl <| b_shr (k := .i64) (k' := .i64) rfl rfl i167 rfl <| gt' rfl b163 <| ck_k h fun i168 h => ckK_k h fun i169 h => ck_k h fun i170 h => ckK_k h fun i171 h => st rfl <| b_and (k := .i64) rfl rfl ⟨i168, i169⟩ ⟨i170, i171⟩ <| gt' rfl b163 <| st rfl <| b_eql (k := .i64) rfl rfl <| st rfl <| pick1 rfl b163 (cd := cB) (v := (decide ((((x91 / 2 ^ (x164).toNat).toNat &&& (1 : Int).toNat : Nat) : Int) = (0 : Int)))) rfl rfl <| sq [q3 2 cc0 v0, q3 3 cc5 v1, (7, .adr 2 [.fld 2]), q2 8 cc13 v0.Where, q2 9 cI (v0.Where.length : Int), q2 10 cI (k90 : Int), q2 27 cB (decide ((((x91 / 2 ^ (x164).toNat).toNat &&& (1 : Int).toNat : Nat) : Int) = (0 : Int)))] <|
  xn <| cnd rfl h (fun b172 h => wpC_seq <| reg_s <| x_asg (sc cB false rfl) <| sq [q2 4 cB false] <|
  xn <| wpC_ret <| rb <| rt <| rt <| rt <| rb <| rt <| rt <| re <| fin h (r1 (ss rfl rfl) <| r0) rfl)
  (fun b172 h => wpC_skip <| xbb <| kpN [q3 2 cc0 v0, q3 3 cc5 v1, (7, .adr 2 [.fld 2]), q2 8 cc13 v0.Where, q2 9 cI (v0.Where.length : Int), q2 10 cI (k90 : Int)] (by kernel_rfl) <| xn <| reg_s <| st rfl <| b_inc rfl rfl l88 hk92 <| st rfl <| mvd rfl rfl <| sq [q3 2 cc0 v0, q3 3 cc5 v1, (7, .adr 2 [.fld 2]), q2 8 cc13 v0.Where, q2 9 cI (v0.Where.length : Int), q2 10 cI ((k90 + 1 : Nat) : Int)] <|
  xn <| hn133 () h))
  (fun b163 h => gf rfl b163 <| gf rfl b163 <| gf rfl b163 <| gf rfl b163 <| gf rfl b163 <| gf rfl b163 <| gf rfl b163 <| gf rfl b163 <| gf rfl b163 <| st rfl <| pick0 rfl b163 (cd := cB) (v := false) rfl rfl <| sq [q3 2 cc0 v0, q3 3 cc5 v1, (7, .adr 2 [.fld 2]), q2 8 cc13 v0.Where, q2 9 cI (v0.Where.length : Int), q2 10 cI (k90 : Int), q2 27 cB false] <|
  xn <| cnd0 rfl rfl <| wpC_skip <| xbb <| kpN [q3 2 cc0 v0, q3 3 cc5 v1, (7, .adr 2 [.fld 2]), q2 8 cc13 v0.Where, q2 9 cI (v0.Where.length : Int), q2 10 cI (k90 : Int)] (by kernel_rfl) <| xn <| reg_s <| st rfl <| b_inc rfl rfl l88 hk92 <| st rfl <| mvd rfl rfl <| sq [q3 2 cc0 v0, q3 3 cc5 v1, (7, .adr 2 [.fld 2]), q2 8 cc13 v0.Where, q2 9 cI (v0.Where.length : Int), q2 10 cI ((k90 + 1 : Nat) : Int)] <|
  xn <| hn133 () h))

def rs_cmp_isNaN_int (r : Bool) : List D := [cB.enc r]
def m118 : MC := .seq (.reg [q1 2 (.asg (.c (.bool false)))] [0])
 (.seq (.reg [q1 3 (.mv (.t 0)),q1 4 (.mv (.t 0)),q1 5 (.bin .neq (.t 3) (.t 4)),q1 2 (.asg (.t 5))] [2])
 (.ret))
theorem con_cmp_isNaN_int {v0 : Int} {r : Bool} (h : sh_cmp_isNaN_int v0 = some r) : Con Tryz.prog 118 [cI.enc v0] [] (rs_cmp_isNaN_int r) := by
 delta sh_cmp_isNaN_int at h
 refine top (out := none) (f := Tryz.f118) (m := m118) (rs := [.t 2]) (by kernel_rfl) rfl (by kernel_rfl) (by kernel_rfl) (by kernel_rfl) (by kernel_rfl) (by kernel_rfl) ?_
 exact
  ini [q2 0 cI v0] rfl <| wpC_seq <| reg_s <| x_asg (sc cB false rfl) <| sq [q2 0 cI v0] <|
  xn <| wpC_seq <| reg_s <| st rfl <| mvd rfl rfl <| st rfl <| mvd rfl rfl <| st rfl <| b_neq (k := .i64) rfl rfl <| x_asg (ss rfl rfl) <| sq [q2 2 cB (decide (v0 ≠ v0))] <|
  xn <| wpC_ret <| re <| fin h (r1 (ss rfl rfl) <| r0) rfl

def rs_cmp_Less_int (r : Bool) : List D := [cB.enc r]
def m116 : MC := .seq (.reg [q1 4 (.asg (.c (.bool false)))] [0, 1])
 (.seq (.reg [q1 5 (.mv (.t 0)),q1 6 (.call 118 [(.t 5)]),q1 7 (.mv (.t 6)),
  ⟨some 8, .mv (.t 1), some (7, true)⟩,
  ⟨some 9, .call 118 [(.t 8)], some (7, true)⟩,
  ⟨some 10, .nt (.t 9), some (7, true)⟩,q1 11 (.pick (.t 7) (.t 10) (.c (.bool false))),q1 12 (.mv (.t 11)),
  ⟨some 13, .mv (.t 0), some (12, false)⟩,
  ⟨some 14, .mv (.t 1), some (12, false)⟩,
  ⟨some 15, .bin .lss (.t 13) (.t 14), some (12, false)⟩,q1 16 (.pick (.t 12) (.c (.bool true)) (.t 15)),q1 4 (.asg (.t 16))] [4])
 (.ret))
theorem con_cmp_Less_int {v0 : Int} {v1 : Int} {r : Bool} (h : sh_cmp_Less_int v0 v1 = some r) : Con Tryz.prog 116 [cI.enc v0, cI.enc v1] [] (rs_cmp_Less_int r) := by
 delta sh_cmp_Less_int at h
 refine top (out := none) (f := Tryz.f116) (m := m116) (rs := [.t 4]) (by kernel_rfl) rfl (by kernel_rfl) (by kernel_rfl) (by kernel_rfl) (by kernel_rfl) (by kernel_rfl) ?_
 exact
  ini [q2 0 cI v0, q2 1 cI v1] rfl <| wpC_seq <| reg_s <| x_asg (sc cB false rfl) <| sq [q2 0 cI v0, q2 1 cI v1] <|
  xn <| wpC_seq <| reg_s <| st rfl <| mvd rfl rfl <| bnd h fun x7 e8 h => st rfl <| o_call (a1 (c := cI) tK rfl a0) (con_cmp_isNaN_int e8) (.inl (so1 sB so0)) <| st rfl <| mvd rfl rfl <| ite_k h (fun b9 h => gt' rfl b9 <| st rfl <| mvd rfl rfl <| gt' rfl b9 <| bnd h fun x10 e11 h => st rfl <| o_call (a1 (c := cI) tK rfl a0) (con_cmp_isNaN_int e11) (.inl (so1 sB so0)) <| gt' rfl b9 <| st rfl <| o_nt rfl <| st rfl <| pick1 rfl b9 (cd := cB) (v := (!x10)) rfl rfl <| st rfl <| mvd rfl rfl <| ite_k h (fun b12 h => gf rfl b12 <| gf rfl b12 <| gf rfl b12 <| st rfl <| pick1 rfl b12 (cd := cB) (v := true) rfl rfl <| x_asg (ss rfl rfl) <| sq [q2 4 cB true] <|
  xn <| wpC_ret <| re <| fin h (r1 (ss rfl rfl) <| r0) rfl)
  (fun b12 h => gt' rfl b12 <| st rfl <| mvd rfl rfl <| gt' rfl b12 <| st rfl <| mvd rfl rfl <| gt' rfl b12 <| st rfl <| b_lss (k := .i64) rfl rfl <| st rfl <| pick0 rfl b12 (cd := cB) (v := (decide (v0 < v1))) rfl rfl <| x_asg (ss rfl rfl) <| sq [q2 4 cB (decide (v0 < v1))] <|
  xn <| wpC_ret <| re <| fin h (r1 (ss rfl rfl) <| r0) rfl))
  (fun b9 h => gf rfl b9 <| gf rfl b9 <| gf rfl b9 <| st rfl <| pick0 rfl b9 (cd := cB) (v := false) rfl rfl <| st rfl <| mvd rfl rfl <| gt' rfl rfl <| st rfl <| mvd rfl rfl <| gt' rfl rfl <| st rfl <| mvd rfl rfl <| gt' rfl rfl <| st rfl <| b_lss (k := .i64) rfl rfl <| st rfl <| pick0 rfl rfl (cd := cB) (v := (decide (v0 < v1))) rfl rfl <| x_asg (ss rfl rfl) <| sq [q2 4 cB (decide (v0 < v1))] <|
  xn <| wpC_ret <| re <| fin h (r1 (ss rfl rfl) <| r0) rfl)

def rs_slices_isNaN_int (r : Bool) : List D := [cB.enc r]
def m117 : MC := .seq (.reg [q1 2 (.asg (.c (.bool false)))] [0])
 (.seq (.reg [q1 3 (.mv (.t 0)),q1 4 (.mv (.t 0)),q1 5 (.bin .neq (.t 3) (.t 4)),q1 2 (.asg (.t 5))] [2])
 (.ret))
theorem con_slices_isNaN_int {v0 : Int} {r : Bool} (h : sh_slices_isNaN_int v0 = some r) : Con Tryz.prog 117 [cI.enc v0] [] (rs_slices_isNaN_int r) := by
 delta sh_slices_isNaN_int at h
 refine top (out := none) (f := Tryz.f117) (m := m117) (rs := [.t 2]) (by kernel_rfl) rfl (by kernel_rfl) (by kernel_rfl) (by kernel_rfl) (by kernel_rfl) (by kernel_rfl) ?_
 exact
  ini [q2 0 cI v0] rfl <| wpC_seq <| reg_s <| x_asg (sc cB false rfl) <| sq [q2 0 cI v0] <|
  xn <| wpC_seq <| reg_s <| st rfl <| mvd rfl rfl <| st rfl <| mvd rfl rfl <| st rfl <| b_neq (k := .i64) rfl rfl <| x_asg (ss rfl rfl) <| sq [q2 2 cB (decide (v0 ≠ v0))] <|
  xn <| wpC_ret <| re <| fin h (r1 (ss rfl rfl) <| r0) rfl

def rs_slices_BinarySearch_int (r : (Int × Bool)) : List D := [cI.enc r.1, cB.enc r.2]
def m112 : MC := .seq (.reg [q1 4 (.asg (.c (.int .i64 0))),q1 5 (.asg (.c (.bool false)))] [0, 1])
 (.seq (.reg [q1 10 (.mv (.t 0)),q1 11 (.len false (.t 10)),q1 6 (.asg (.t 11))] [0, 1, 6])
 (.seq (.reg [q1 12 (.mv (.t 6)),q1 7 (.asg (.c (.int .i64 0))),q1 8 (.asg (.t 12))] [0, 1, 6, 7, 8])
 (.seq (.kp [0, 1, 6, 7] (.blk 0 (.loop (.kp [0, 1, 6, 7, 8] (.seq (.kp [0, 1, 6, 7, 8] (.seq (.reg [q1 13 (.mv (.t 7)),q1 14 (.mv (.t 8)),q1 15 (.bin .lss (.t 13) (.t 14))] [0, 1, 6, 7, 8, 15])
 (.cond (.t 15) (.skip) (.exit 0))))
 (.blk 1 (.seq (.reg [q1 16 (.mv (.t 7)),q1 17 (.mv (.t 8)),q1 18 (.bin .add (.t 16) (.t 17)),q1 19 (.cvi .u64 (.t 18)),q1 20 (.bin .shr (.t 19) (.c (.int .u64 1))),q1 21 (.cvi .i64 (.t 20)),q1 9 (.asg (.t 21))] [0, 1, 6, 7, 8, 9])
 (.seq (.reg [q1 22 (.mv (.t 0)),q1 23 (.mv (.t 9)),q1 24 (.ia 22 (.t 23) 1),q1 25 (.ld 24 1 false),q1 26 (.mv (.t 1)),q1 27 (.call 116 [(.t 25), (.t 26)])] [0, 1, 6, 7, 8, 9, 27])
 (.cond (.t 27) (.reg [q1 28 (.mv (.t 9)),q1 29 (.bin .add (.t 28) (.c (.int .i64 1))),q1 7 (.asg (.t 29))] [0, 1, 6, 7, 8]) (.reg [q1 30 (.mv (.t 9)),q1 8 (.asg (.t 30))] [0, 1, 6, 7, 8]))))))))))
 (.seq (.reg [q1 31 (.mv (.t 7)),q1 32 (.mv (.t 7)),q1 33 (.mv (.t 6)),q1 34 (.bin .lss (.t 32) (.t 33)),q1 35 (.mv (.t 34)),
  ⟨some 36, .mv (.t 0), some (35, true)⟩,
  ⟨some 37, .mv (.t 7), some (35, true)⟩,
  ⟨some 38, .ia 36 (.t 37) 1, some (35, true)⟩,
  ⟨some 39, .ld 38 1 false, some (35, true)⟩,
  ⟨some 40, .mv (.t 1), some (35, true)⟩,
  ⟨some 41, .bin .eql (.t 39) (.t 40), some (35, true)⟩,
  ⟨some 42, .mv (.t 41), some (35, true)⟩,
  ⟨some 43, .mv (.t 0), some (42, false)⟩,
  ⟨some 44, .mv (.t 7), some (42, false)⟩,
  ⟨some 45, .ia 43 (.t 44) 1, some (42, false)⟩,
  ⟨some 46, .ld 45 1 false, some (42, false)⟩,
  ⟨some 47, .call 117 [(.t 46)], some (42, false)⟩,
  ⟨some 48, .mv (.t 47), some (42, false)⟩,
  ⟨some 49, .mv (.t 1), some (48, true)⟩,
  ⟨some 50, .call 117 [(.t 49)], some (48, true)⟩,
  ⟨some 51, .pick (.t 48) (.t 50) (.c (.bool false)), some (42, false)⟩,
  ⟨some 52, .pick (.t 42) (.c (.bool true)) (.t 51), some (35, true)⟩,q1 53 (.pick (.t 35) (.t 52) (.c (.bool false))),q1 4 (.asg (.t 31)),q1 5 (.asg (.t 53))] [4, 5])
 (.ret)))))
theorem con_slices_BinarySearch_int {v0 : (List Int)} {v1 : Int} {r : (Int × Bool)} (h : sh_slices_BinarySearch_int v0 v1 = some r) : Con Tryz.prog 112 [cc13.enc v0, cI.enc v1] [] (rs_slices_BinarySearch_int r) := by
 delta sh_slices_BinarySearch_int at h
 refine top (out := none) (f := Tryz.f112) (m := m112) (rs := [.t 4, .t 5]) (by kernel_rfl) rfl (by kernel_rfl) (by kernel_rfl) (by kernel_rfl) (by kernel_rfl) (by kernel_rfl) ?_
 exact
  ini [q2 0 cc13 v0, q2 1 cI v1] rfl <| wpC_seq <| reg_s <| x_asg (sc cI (0 : Int) rfl) <| x_asg (sc cB false rfl) <| sq [q2 0 cc13 v0, q2 1 cI v1] <|
  xn <| wpC_seq <| reg_s <| st rfl <| mvd rfl rfl <| stw rfl <| lens rfl fun l2 => x_asg (ss rfl rfl) <| sq [q2 0 cc13 v0, q2 1 cI v1, q2 6 cI (v0.length : Int)] <|
  xn <| wpC_seq <| reg_s <| st rfl <| mvd rfl rfl <| x_asg (sc cI (0 : Int) rfl) <| x_asg (ss rfl rfl) <| sq [q2 0 cc13 v0, q2 1 cI v1, q2 6 cI (v0.length : Int), q2 7 cI (0 : Int), q2 8 cI (v0.length : Int)] <|
  xn <| wpC_seq <| wpC_kp <| wpC_blk <| lpF (fun (s77 : (Int × Int)) => [q2 0 cc13 v0, q2 1 cI v1, q2 6 cI (v0.length : Int), q2 7 cI s77.1, q2 8 cI s77.2]) ((0 : Int), (v0.length : Int)) rfl h
  fun G128 nx126 s77 hn127 h => wpC_kp <| wpC_seq <| wpC_kp <| wpC_seq <| reg_s <| st rfl <| mvd rfl rfl <| st rfl <| mvd rfl rfl <| st rfl <| b_lss (k := .i64) rfl rfl <| sq [q2 0 cc13 v0, q2 1 cI v1, q2 6 cI (v0.length : Int), q2 7 cI s77.1, q2 8 cI s77.2, q2 15 cB (decide (s77.1 < s77.2))] <|
  xn <| cnd rfl h (fun b130 h => wpC_skip <| kpN [q2 0 cc13 v0, q2 1 cI v1, q2 6 cI (v0.length : Int), q2 7 cI s77.1, q2 8 cI s77.2] (by kernel_rfl) <| xn <| wpC_blk <| wpC_seq <| reg_s <| st rfl <| mvd rfl rfl <| st rfl <| mvd rfl rfl <| ckI_k h fun i135 h => st rfl <| b_add (k := .i64) rfl rfl i135 <| ckK_k h fun i136 h => st rfl <| o_cvi (k := .i64) (k' := .u64) rfl i136 <| ck_k h fun i137 h => st rfl <| b_shr (k := .u64) (k' := .u64) rfl rfl i137 rfl <| ckI_k h fun i138 h => st rfl <| o_cvi (k := .u64) (k' := .i64) rfl i138 <| x_asg (ss rfl rfl) <| sq [q2 0 cc13 v0, q2 1 cI v1, q2 6 cI (v0.length : Int), q2 7 cI s77.1, q2 8 cI s77.2, q2 9 cI ((s77.1 + s77.2) / 2 ^ ((1 : Int)).toNat)] <|
  xn <| wpC_seq <| reg_s <| st rfl <| mvd rfl rfl <| st rfl <| mvd rfl rfl <| getO_k h fun x144 i145 g146 h => st rfl <| ias rfl rfl i145 g146 rfl <| st rfl <| ldi rfl rfl rfl rfl <| st rfl <| mvd rfl rfl <| bnd h fun x147 e148 h => st rfl <| o_call (a1 (c := cI) tK rfl (a1 (c := cI) tK rfl a0)) (con_cmp_Less_int e148) (.inl (so1 sB so0)) <| sq [q2 0 cc13 v0, q2 1 cI v1, q2 6 cI (v0.length : Int), q2 7 cI s77.1, q2 8 cI s77.2, q2 9 cI ((s77.1 + s77.2) / 2 ^ ((1 : Int)).toNat), q2 27 cB x147] <|
  xn <| cnd rfl h (fun b149 h => reg_s <| st rfl <| mvd rfl rfl <| ckI_k h fun i150 h => st rfl <| b_add (k := .i64) rfl rfl i150 <| x_asg (ss rfl rfl) <| sq [q2 0 cc13 v0, q2 1 cI v1, q2 6 cI (v0.length : Int), q2 7 cI (((s77.1 + s77.2) / 2 ^ ((1 : Int)).toNat) + (1 : Int)), q2 8 cI s77.2] <|
  xbb <| kpN [q2 0 cc13 v0, q2 1 cI v1, q2 6 cI (v0.length : Int), q2 7 cI (((s77.1 + s77.2) / 2 ^ ((1 : Int)).toNat) + (1 : Int)), q2 8 cI s77.2] (by kernel_rfl) <| xn <| hn127 ((((s77.1 + s77.2) / 2 ^ ((1 : Int)).toNat) + (1 : Int)), s77.2) h)
  (fun b149 h => reg_s <| st rfl <| mvd rfl rfl <| x_asg (ss rfl rfl) <| sq [q2 0 cc13 v0, q2 1 cI v1, q2 6 cI (v0.length : Int), q2 7 cI s77.1, q2 8 cI ((s77.1 + s77.2) / 2 ^ ((1 : Int)).toNat)] <|
  xbb <| kpN [q2 0 cc13 v0, q2 1 cI v1, q2 6 cI (v0.length : Int), q2 7 cI s77.1, q2 8 cI ((s77.1 + s77.2) / 2 ^ ((1 : Int)).toNat)] (by kernel_rfl) <| xn <| hn127 (s77.1, ((s77.1 + s77.2) / 2 ^ ((1 : Int)).toNat)) h))
  (fun b130 h => wpC_exit <| xt <| xt <| xt <| xt <| xb <| kpN [q2 0 cc13 v0, q2 1 cI v1, q2 6 cI (v0.length : Int), q2 7 cI s77.1] (by kernel_rfl) <| xn <| wpC_seq <| jw (fun (s161 : Bool) => [q2 4 cI s77.1, q2 5 cB s161]) h (fun s161 h => xn <| wpC_ret <| re <| fin h (r1 (ss rfl rfl) <| r1 (ss rfl rfl) <| r0) rfl)
  fun s161' q162 h => reg_s <| st rfl <| mvd rfl rfl <| st rfl <| mvd rfl rfl <| st rfl <| mvd rfl rfl <| st rfl <| b_lss (k := .i64) rfl rfl <| st rfl <| mvd rfl rfl <| ite_k h (fun b163 h => gt' rfl b163 <| st rfl <| mvd rfl rfl <| gt' rfl b163 <| st rfl <| mvd rfl rfl <| gt' rfl b163 <| getO_k h fun x164 i165 g166 h => st rfl <| ias rfl rfl i165 g166 rfl <| gt' rfl b163 <| st rfl <| ldi rfl rfl rfl rfl <| gt' rfl b163 <| st rfl <| mvd rfl rfl <| gt' rfl b163 <| st rfl <| b_eql (k := .i64) rfl rfl <| gt' rfl b163 <| st rfl <| mvd rfl rfl <| ite_k h (fun b167 h => gf rfl b167 <| gf rfl b167 <| gf rfl b167 <| gf rfl b167 <| gf rfl b167 <| gf rfl b167 <| gu rfl <| gu rfl <| gf rfl b167 <| gt' rfl b163 <| st rfl <| pick1 rfl b167 (cd := cB) (v := true) rfl rfl <| st rfl <| pick1 rfl b163 (cd := cB) (v := true) rfl rfl <| x_asg (ss rfl rfl) <| x_asg (ss rfl rfl) <| sq [q2 4 cI s77.1, q2 5 cB true] <|
  lfn (S := (fun (s161 : Bool) => [q2 4 cI s77.1, q2 5 cB s161])) h q162 rfl)
  (fun b167 h => gt' rfl b167 <| st rfl <| mvd rfl rfl <| gt' rfl b167 <| st rfl <| mvd rfl rfl <| gt' rfl b167 <| st rfl <| ias rfl rfl i165 g166 rfl <| gt' rfl b167 <| st rfl <| ldi rfl rfl rfl rfl <| gt' rfl b167 <| bnd h fun x168 e169 h => st rfl <| o_call (a1 (c := cI) tK rfl a0) (con_slices_isNaN_int e169) (.inl (so1 sB so0)) <| gt' rfl b167 <| st rfl <| mvd rfl rfl <| ite_k h (fun b170 h => gt' rfl b170 <| st rfl <| mvd rfl rfl <| gt' rfl b170 <| bnd h fun x171 e172 h => st rfl <| o_call (a1 (c := cI) tK rfl a0) (con_slices_isNaN_int e172) (.inl (so1 sB so0)) <| gt' rfl b167 <| st rfl <| pick1 rfl b170 (cd := cB) (v := x171) rfl rfl <| gt' rfl b163 <| st rfl <| pick0 rfl b167 (cd := cB) (v := x171) rfl rfl <| st rfl <| pick1 rfl b163 (cd := cB) (v := x171) rfl rfl <| x_asg (ss rfl rfl) <| x_asg (ss rfl rfl) <| sq [q2 4 cI s77.1, q2 5 cB x171] <|
  lfn (S := (fun (s161 : Bool) => [q2 4 cI s77.1, q2 5 cB s161])) h q162 rfl)
  (fun b170 h => gf rfl b170 <| gf rfl b170 <| gt' rfl b167 <| st rfl <| pick0 rfl b170 (cd := cB) (v := false) rfl rfl <| gt' rfl b163 <| st rfl <| pick0 rfl b167 (cd := cB) (v := false) rfl rfl <| st rfl <| pick1 rfl b163 (cd := cB) (v := false) rfl rfl <| x_asg (ss rfl rfl) <| x_asg (ss rfl rfl) <| sq [q2 4 cI s77.1, q2 5 cB false] <|
  lfn (S := (fun (s161 : Bool) => [q2 4 cI s77.1, q2 5 cB s161])) h q162 rfl)))
  (fun b163 h => gf rfl b163 <| gf rfl b163 <| gf rfl b163 <| gf rfl b163 <| gf rfl b163 <| gf rfl b163 <| gf rfl b163 <| gu rfl <| gu rfl <| gu rfl <| gu rfl <| gu rfl <| gu rfl <| gu rfl <| gu rfl <| gu rfl <| gf rfl b163 <| st rfl <| pick0 rfl b163 (cd := cB) (v := false) rfl rfl <| x_asg (ss rfl rfl) <| x_asg (ss rfl rfl) <| sq [q2 4 cI s77.1, q2 5 cB false] <|
  lfn (S := (fun (s161 : Bool) => [q2 4 cI s77.1, q2 5 cB s161])) h q162 rfl))

def rs_impl_indexOfValues (r : Int) : List D := [cI.enc r]
def m113 : MC := .seq (.reg [q1 4 (.asg (.c (.int .i64 0)))] [0, 1])
 (.seq (.reg [q1 5 (.asg (.c (.int .i64 0)))] [0, 1, 5])
 (.seq (.kp [5] (.seq (.reg [q1 8 (.mv (.t 1)),q1 9 (.len false (.t 8)),q1 10 (.mv (.c (.int .i64 0)))] [0, 1, 5, 8, 9, 10])
 (.blk 0 (.loop (.seq (.reg [q1 11 (.bin .lss (.t 10) (.t 9))] [0, 1, 5, 8, 9, 10, 11])
 (.seq (.kp [0, 1, 5, 8, 9, 10] (.cond (.t 11) (.skip) (.exit 0)))
 (.seq (.kp [0, 1, 5, 8, 9, 10] (.blk 1 (.seq (.reg [q1 12 (.mv (.t 10)),q1 13 (.ia 8 (.t 10) 1),q1 14 (.ld 13 1 false),q1 6 (.asg (.t 12)),q1 7 (.asg (.t 14))] [0, 1, 5, 6, 7, 8, 9, 10])
 (.reg [q1 15 (.mv (.t 5)),q1 16 (.mv (.t 0)),q1 17 (.mv (.t 6)),q1 18 (.ia 16 (.t 17) 2),q1 19 (.fa 18 1 1),q1 20 (.ld 19 1 false),q1 21 (.bin .mul (.t 15) (.t 20)),q1 22 (.mv (.t 7)),q1 23 (.bin .add (.t 21) (.t 22)),q1 5 (.asg (.t 23))] [0, 1, 5, 8, 9, 10]))))
 (.reg [q1 24 (.bin .add (.t 10) (.c (.int .i64 1))),q1 10 (.mv (.t 24))] [0, 1, 5, 8, 9, 10]))))))))
 (.seq (.reg [q1 25 (.mv (.t 5)),q1 4 (.asg (.t 25))] [4])
 (.ret))))
theorem con_impl_indexOfValues {v0 : (List XVariable)} {v1 : (List Int)} {r : Int} (h : sh_impl_indexOfValues v0 v1 = some r) : Con Tryz.prog 113 [cc6.enc v0, cc13.enc v1] [] (rs_impl_indexOfValues r) := by
 delta sh_impl_indexOfValues at h
 refine top (out := none) (f := Tryz.f113) (m := m113) (rs := [.t 4]) (by kernel_rfl) rfl (by kernel_rfl) (by kernel_rfl) (by kernel_rfl) (by kernel_rfl) (by kernel_rfl) ?_
 exact
  ini [q2 0 cc6 v0, q2 1 cc13 v1] rfl <| wpC_seq <| reg_s <| x_asg (sc cI (0 : Int) rfl) <| sq [q2 0 cc6 v0, q2 1 cc13 v1] <|
  xn <| wpC_seq <| reg_s <| x_asg (sc cI (0 : Int) rfl) <| sq [q2 0 cc6 v0, q2 1 cc13 v1, q2 5 cI (0 : Int)] <|
  xn <| wpC_seq <| wpC_kp <| wpC_seq <| reg_s <| st rfl <| mvd rfl rfl <| stw rfl <| lens rfl fun l42 => st rfl <| mvc cI (0 : Int) rfl <| sq [q2 0 cc6 v0, q2 1 cc13 v1, q2 5 cI (0 : Int), q2 8 cc13 v1, q2 9 cI (v1.length : Int), q2 10 cI (0 : Int)] <|
  xn <| wpC_blk <| lpR (fun (k44 : Nat) (s43 : Int) => [q2 0 cc6 v0, q2 1 cc13 v1, q2 5 cI s43, q2 8 cc13 v1, q2 9 cI (v1.length : Int), q2 10 cI (k44 : Int)]) (0 : Int) rfl h
  (fun G70 s43 h => wpC_seq <| reg_s <| st rfl <| b_lss (k := .i64) rfl rfl <| sq [q2 0 cc6 v0, q2 1 cc13 v1, q2 5 cI s43, q2 8 cc13 v1, q2 9 cI (v1.length : Int), q2 10 cI (v1.length : Int), q2 11 cB (decide ((v1.length : Int) < (v1.length : Int)))] <|
  xn <| wpC_seq <| wpC_kp <| cnd0 rfl (dlf _) <| wpC_exit <| xt <| xt <| xt <| xb <| kpN [q2 5 cI s43] (by kernel_rfl) <| xn <| wpC_seq <| reg_s <| st rfl <| mvd rfl rfl <| x_asg (ss rfl rfl) <| sq [q2 4 cI s43] <|
  xn <| wpC_ret <| re <| fin h (r1 (ss rfl rfl) <| r0) rfl)
  (fun G70 nx68 k44 s43 x45 hk46 hx47 hn69 h => wpC_seq <| reg_s <| st rfl <| b_lss (k := .i64) rfl rfl <| sq [q2 0 cc6 v0, q2 1 cc13 v1, q2 5 cI s43, q2 8 cc13 v1, q2 9 cI (v1.length : Int), q2 10 cI (k44 : Int), q2 11 cB (decide ((k44 : Int) < (v1.length : Int)))] <|
  xn <| wpC_seq <| wpC_kp <| cnd1 rfl (dlt hk46) <| wpC_skip <| kpN [q2 0 cc6 v0, q2 1 cc13 v1, q2 5 cI s43, q2 8 cc13 v1, q2 9 cI (v1.length : Int), q2 10 cI (k44 : Int)] (by kernel_rfl) <| xn <| wpC_seq <| wpC_kp <| wpC_blk <| wpC_seq <| reg_s <| st rfl <| mvd rfl rfl <| st rfl <| ias rfl rfl (Int.natCast_nonneg _) hx47 rfl <| st rfl <| ldi rfl rfl rfl rfl <| x_asg (ss rfl rfl) <| x_asg (ss rfl rfl) <| sq [q2 0 cc6 v0, q2 1 cc13 v1, q2 5 cI s43, q2 6 cI (k44 : Int), q2 7 cI x45, q2 8 cc13 v1, q2 9 cI (v1.length : Int), q2 10 cI (k44 : Int)] <|
  xn <| reg_s <| st rfl <| mvd rfl rfl <| st rfl <| mvd rfl rfl <| st rfl <| mvd rfl rfl <| getO_k h fun x76 i77 g78 h => st rfl <| ias rfl rfl i77 g78 rfl <| st rfl <| fai rfl rfl rfl rfl <| st rfl <| ldi rfl rfl rfl rfl <| ckI_k h fun i79 h => st rfl <| b_mul (k := .i64) rfl rfl i79 <| st rfl <| mvd rfl rfl <| ckI_k h fun i80 h => st rfl <| b_add (k := .i64) rfl rfl i80 <| x_asg (ss rfl rfl) <| sq [q2 0 cc6 v0, q2 1 cc13 v1, q2 5 cI ((s43 * x76.Levels) + x45), q2 8 cc13 v1, q2 9 cI (v1.length : Int), q2 10 cI (k44 : Int)] <|
  xbb <| kpN [q2 0 cc6 v0, q2 1 cc13 v1, q2 5 cI ((s43 * x76.Levels) + x45), q2 8 cc13 v1, q2 9 cI (v1.length : Int), q2 10 cI (k44 : Int)] (by kernel_rfl) <| xn <| reg_s <| st rfl <| b_inc rfl rfl l42 hk46 <| st rfl <| mvd rfl rfl <| sq [q2 0 cc6 v0, q2 1 cc13 v1, q2 5 cI ((s43 * x76.Levels) + x45), q2 8 cc13 v1, q2 9 cI (v1.length : Int), q2 10 cI ((k44 + 1 : Nat) : Int)] <|
  xn <| hn69 ((s43 * x76.Levels) + x45) h)

end AS.W
