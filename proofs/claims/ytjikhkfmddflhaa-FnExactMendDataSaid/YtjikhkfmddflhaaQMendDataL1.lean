/- The program computes the plain functions. No condition. -/
import Derived.Test.YtjikhkfmddflhaaQMendDataS
import Derived.Test.YtjikhkfmddflhaaProg
import Derived.Test.YtjikhkfmddflhaaQMendDataL0
set_option maxRecDepth 100000
set_option linter.unusedVariables false
set_option linter.unusedSimpArgs false
namespace AS.W
open Go Go.Proofs
def rs_impl_fullSet (r : Int) : List D := [cI.enc r]
def m162 : MC := .seq (.reg [q1 1 (.box (.t 0)),q1 2 (.asg (.c (.int .i64 0)))] [1])
 (.seq (.reg [q1 3 (.fa 1 1 1),q1 4 (.ld 3 1 false),q1 5 (.bin .shl (.c (.int .i64 1)) (.t 4)),q1 6 (.bin .sub (.t 5) (.c (.int .i64 1))),q1 2 (.asg (.t 6))] [2])
 (.ret))
theorem con_impl_fullSet {v0 : XVariable} {r : Int} (h : sh_impl_fullSet v0 = some r) : Con Try.prog 162 [cc9.enc v0] [] (rs_impl_fullSet r) := by
 delta sh_impl_fullSet at h
 refine top (out := none) (f := Try.f162) (m := m162) (rs := [.t 2]) (by kernel_rfl) rfl (by kernel_rfl) (by kernel_rfl) (by kernel_rfl) (by kernel_rfl) (by kernel_rfl) ?_
 exact
  ini [q2 0 cc9 v0] rfl <| wpC_seq <| reg_s <| x_box (ss rfl rfl) <| x_asg (sc cI (0 : Int) rfl) <| sq [q3 1 cc9 v0] <|
  xn <| wpC_seq <| reg_s <| st rfl <| fab rfl rfl rfl rfl <| st rfl <| lda rfl rfl rfl rfl rfl rfl <| ck_k h fun i4 h => ckI_k h fun i5 h => st rfl <| b_shl (k := .i64) (k' := .i64) rfl rfl i4 rfl i5 <| ckI_k h fun i6 h => st rfl <| b_sub (k := .i64) rfl rfl i6 <| x_asg (ss rfl rfl) <| sq [q2 2 cI (((1 : Int) * 2 ^ (v0.Levels).toNat) - (1 : Int))] <|
  xn <| wpC_ret <| re <| fin h (r1 (ss rfl rfl) <| r0) rfl

def rs_impl_isEdit (r : Bool) : List D := [cB.enc r]
def m127 : MC := .seq (.reg [q1 3 (.box (.t 1)),q1 4 (.asg (.c (.bool false)))] [0, 3])
 (.seq (.kp [0, 3] (.seq (.reg [q1 7 (.fa 3 0 0),q1 8 (.ld 7 1 false),q1 9 (.len false (.t 8)),q1 10 (.mv (.t 0)),q1 11 (.len false (.t 10)),q1 12 (.bin .neq (.t 9) (.t 11))] [0, 3, 12])
 (.cond (.t 12) (.seq (.reg [q1 4 (.asg (.c (.bool false)))] [4])
 (.ret)) (.skip))))
 (.seq (.kp [] (.seq (.reg [q1 13 (.fa 3 0 0),q1 14 (.ld 13 1 false),q1 15 (.len false (.t 14)),q1 16 (.mv (.c (.int .i64 0)))] [0, 3, 13, 14, 15, 16])
 (.blk 0 (.loop (.seq (.reg [q1 17 (.bin .lss (.t 16) (.t 15))] [0, 3, 13, 14, 15, 16, 17])
 (.seq (.kp [0, 3, 13, 14, 15, 16] (.cond (.t 17) (.skip) (.exit 0)))
 (.seq (.kp [0, 3, 13, 14, 15, 16] (.blk 1 (.seq (.reg [q1 18 (.mv (.t 16)),q1 19 (.ia 14 (.t 16) 1),q1 20 (.ld 19 1 false),q1 5 (.asg (.t 18)),q1 6 (.asg (.t 20))] [0, 3, 5, 6, 13, 14, 15, 16])
 (.seq (.reg [q1 21 (.mv (.t 6)),q1 22 (.bin .lss (.t 21) (.c (.int .i64 1))),q1 23 (.mv (.t 22)),
  ⟨some 24, .mv (.t 6), some (23, false)⟩,
  ⟨some 25, .mv (.t 0), some (23, false)⟩,
  ⟨some 26, .mv (.t 5), some (23, false)⟩,
  ⟨some 27, .ia 25 (.t 26) 2, some (23, false)⟩,
  ⟨some 28, .ld 27 2 true, some (23, false)⟩,
  ⟨some 29, .call 162 [(.t 28)], some (23, false)⟩,
  ⟨some 30, .bin .gtr (.t 24) (.t 29), some (23, false)⟩,q1 31 (.pick (.t 23) (.c (.bool true)) (.t 30))] [0, 3, 13, 14, 15, 16, 31])
 (.cond (.t 31) (.seq (.reg [q1 4 (.asg (.c (.bool false)))] [4])
 (.ret)) (.skip))))))
 (.reg [q1 32 (.bin .add (.t 16) (.c (.int .i64 1))),q1 16 (.mv (.t 32))] [0, 3, 13, 14, 15, 16]))))))))
 (.seq (.reg [q1 4 (.asg (.c (.bool true)))] [4])
 (.ret))))
theorem con_impl_isEdit {v0 : (List XVariable)} {v1 : XEdit} {r : Bool} (h : sh_impl_isEdit v0 v1 = some r) : Con Try.prog 127 [cc4.enc v0, cc8.enc v1] [] (rs_impl_isEdit r) := by
 delta sh_impl_isEdit at h
 refine top (out := none) (f := Try.f127) (m := m127) (rs := [.t 4]) (by kernel_rfl) rfl (by kernel_rfl) (by kernel_rfl) (by kernel_rfl) (by kernel_rfl) (by kernel_rfl) ?_
 exact
  ini [q2 0 cc4 v0, q2 1 cc8 v1] rfl <| wpC_seq <| reg_s <| x_box (ss rfl rfl) <| x_asg (sc cB false rfl) <| sq [q2 0 cc4 v0, q3 3 cc8 v1] <|
  xn <| wpC_seq <| wpC_kp <| wpC_seq <| reg_s <| st rfl <| fab rfl rfl rfl rfl <| st rfl <| lda rfl rfl rfl rfl rfl rfl <| stw rfl <| lens rfl fun l8 => st rfl <| mvd rfl rfl <| stw rfl <| lens rfl fun l9 => st rfl <| b_neq (k := .i64) rfl rfl <| sq [q2 0 cc4 v0, q3 3 cc8 v1, q2 12 cB (decide ((v1.Sets.length : Int) ≠ (v0.length : Int)))] <|
  xn <| cnd rfl h (fun b10 h => wpC_seq <| reg_s <| x_asg (sc cB false rfl) <| sq [q2 4 cB false] <|
  xn <| wpC_ret <| rt <| rt <| re <| fin h (r1 (ss rfl rfl) <| r0) rfl)
  (fun b10 h => wpC_skip <| kpN [q2 0 cc4 v0, q3 3 cc8 v1] (by kernel_rfl) <| xn <| wpC_seq <| wpC_kp <| wpC_seq <| reg_s <| st rfl <| fab rfl rfl rfl rfl <| st rfl <| lda rfl rfl rfl rfl rfl rfl <| stw rfl <| lens rfl fun l74 => st rfl <| mvc cI (0 : Int) rfl <| sq [q2 0 cc4 v0, q3 3 cc8 v1, (13, .adr 3 [.fld 0]), q2 14 cc11 v1.Sets, q2 15 cI (v1.Sets.length : Int), q2 16 cI (0 : Int)] <|
  xn <| wpC_blk <| lpR (fun (k76 : Nat) (s75 : Unit) => [q2 0 cc4 v0, q3 3 cc8 v1, (13, .adr 3 [.fld 0]), q2 14 cc11 v1.Sets, q2 15 cI (v1.Sets.length : Int), q2 16 cI (k76 : Int)]) () rfl h
  (fun G108 s75 h => wpC_seq <| reg_s <| st rfl <| b_lss (k := .i64) rfl rfl <| sq [q2 0 cc4 v0, q3 3 cc8 v1, (13, .adr 3 [.fld 0]), q2 14 cc11 v1.Sets, q2 15 cI (v1.Sets.length : Int), q2 16 cI (v1.Sets.length : Int), q2 17 cB (decide ((v1.Sets.length : Int) < (v1.Sets.length : Int)))] <|
  xn <| wpC_seq <| wpC_kp <| cnd0 rfl (dlf _) <| wpC_exit <| xt <| xt <| xt <| xb <| kpN [] (by kernel_rfl) <| xn <| wpC_seq <| reg_s <| x_asg (sc cB true rfl) <| sq [q2 4 cB true] <|
  xn <| wpC_ret <| re <| fin h (r1 (ss rfl rfl) <| r0) rfl)
  (fun G108 nx106 k76 s75 x77 hk78 hx79 hn107 h => wpC_seq <| reg_s <| st rfl <| b_lss (k := .i64) rfl rfl <| sq [q2 0 cc4 v0, q3 3 cc8 v1, (13, .adr 3 [.fld 0]), q2 14 cc11 v1.Sets, q2 15 cI (v1.Sets.length : Int), q2 16 cI (k76 : Int), q2 17 cB (decide ((k76 : Int) < (v1.Sets.length : Int)))] <|
  xn <| wpC_seq <| wpC_kp <| cnd1 rfl (dlt hk78) <| wpC_skip <| kpN [q2 0 cc4 v0, q3 3 cc8 v1, (13, .adr 3 [.fld 0]), q2 14 cc11 v1.Sets, q2 15 cI (v1.Sets.length : Int), q2 16 cI (k76 : Int)] (by kernel_rfl) <| xn <| wpC_seq <| wpC_kp <| wpC_blk <| wpC_seq <| reg_s <| st rfl <| mvd rfl rfl <| st rfl <| ias rfl rfl (Int.natCast_nonneg _) hx79 rfl <| st rfl <| ldi rfl rfl rfl rfl <| x_asg (ss rfl rfl) <| x_asg (ss rfl rfl) <| sq [q2 0 cc4 v0, q3 3 cc8 v1, q2 5 cI (k76 : Int), q2 6 cI x77, (13, .adr 3 [.fld 0]), q2 14 cc11 v1.Sets, q2 15 cI (v1.Sets.length : Int), q2 16 cI (k76 : Int)] <|
  xn <| wpC_seq <| reg_s <| st rfl <| mvd rfl rfl <| st rfl <| b_lss (k := .i64) rfl rfl <| st rfl <| mvd rfl rfl <| ite_k h (fun b128 h => gf rfl b128 <| gf rfl b128 <| gf rfl b128 <| gf rfl b128 <| gf rfl b128 <| gf rfl b128 <| gf rfl b128 <| st rfl <| pick1 rfl b128 (cd := cB) (v := true) rfl rfl <| sq [q2 0 cc4 v0, q3 3 cc8 v1, (13, .adr 3 [.fld 0]), q2 14 cc11 v1.Sets, q2 15 cI (v1.Sets.length : Int), q2 16 cI (k76 : Int), q2 31 cB true] <|
  xn <| cnd1 rfl rfl <| wpC_seq <| reg_s <| x_asg (sc cB false rfl) <| sq [q2 4 cB false] <|
  xn <| wpC_ret <| rb <| rt <| rt <| rt <| rb <| rt <| rt <| re <| fin h (r1 (ss rfl rfl) <| r0) rfl)
  (fun b128 h => gt' rfl b128 <| st rfl <| mvd rfl rfl <| gt' rfl b128 <| st rfl <| mvd rfl rfl <| gt' rfl b128 <| st rfl <| mvd rfl rfl <| gt' rfl b128 <| getO_k h fun x129 i130 g131 h => st rfl <| ias rfl rfl i130 g131 rfl <| gt' rfl b128 <| st rfl <| ldi rfl rfl rfl rfl <| gt' rfl b128 <| bnd h fun x132 e133 h => st rfl <| o_call (a1 (c := cc9) (tXVariable tS tK) rfl a0) (con_impl_fullSet e133) (.inl (so1 sK so0)) <| gt' rfl b128 <| st rfl <| b_gtr (k := .i64) rfl rfl <| st rfl <| pick0 rfl b128 (cd := cB) (v := (decide (x132 < x77))) rfl rfl <| sq [q2 0 cc4 v0, q3 3 cc8 v1, (13, .adr 3 [.fld 0]), q2 14 cc11 v1.Sets, q2 15 cI (v1.Sets.length : Int), q2 16 cI (k76 : Int), q2 31 cB (decide (x132 < x77))] <|
  xn <| cnd rfl h (fun b134 h => wpC_seq <| reg_s <| x_asg (sc cB false rfl) <| sq [q2 4 cB false] <|
  xn <| wpC_ret <| rb <| rt <| rt <| rt <| rb <| rt <| rt <| re <| fin h (r1 (ss rfl rfl) <| r0) rfl)
  (fun b134 h => wpC_skip <| xbb <| kpN [q2 0 cc4 v0, q3 3 cc8 v1, (13, .adr 3 [.fld 0]), q2 14 cc11 v1.Sets, q2 15 cI (v1.Sets.length : Int), q2 16 cI (k76 : Int)] (by kernel_rfl) <| xn <| reg_s <| st rfl <| b_inc rfl rfl l74 hk78 <| st rfl <| mvd rfl rfl <| sq [q2 0 cc4 v0, q3 3 cc8 v1, (13, .adr 3 [.fld 0]), q2 14 cc11 v1.Sets, q2 15 cI (v1.Sets.length : Int), q2 16 cI ((k76 + 1 : Nat) : Int)] <|
  xn <| hn107 () h))))
def rs_impl_areEdits (r : Bool) : List D := [cB.enc r]
def m64 : MC := .seq (.reg [q1 4 (.asg (.c (.bool false)))] [0, 1])
 (.seq (.kp [0, 1] (.seq (.reg [q1 7 (.mv (.t 1)),q1 8 (.len false (.t 7)),q1 9 (.bin .gtr (.t 8) (.c (.int .i64 40)))] [0, 1, 9])
 (.cond (.t 9) (.seq (.reg [q1 4 (.asg (.c (.bool false)))] [4])
 (.ret)) (.skip))))
 (.seq (.kp [] (.seq (.reg [q1 10 (.mv (.t 1)),q1 11 (.len false (.t 10)),q1 12 (.mv (.c (.int .i64 0)))] [0, 1, 10, 11, 12])
 (.blk 0 (.loop (.seq (.reg [q1 13 (.bin .lss (.t 12) (.t 11))] [0, 1, 10, 11, 12, 13])
 (.seq (.kp [0, 1, 10, 11, 12] (.cond (.t 13) (.skip) (.exit 0)))
 (.seq (.kp [0, 1, 10, 11, 12] (.blk 1 (.seq (.reg [q1 14 (.ia 10 (.t 12) 1),q1 15 (.ld 14 1 true),q1 6 (.alloc (.agg [.slice true []])),q0 (.st 6 (.t 15) 1)] [0, 1, 6, 10, 11, 12])
 (.seq (.reg [q1 16 (.mv (.t 0)),q1 17 (.ld 6 1 true),q1 18 (.call 127 [(.t 16), (.t 17)]),q1 19 (.nt (.t 18))] [0, 1, 10, 11, 12, 19])
 (.cond (.t 19) (.seq (.reg [q1 4 (.asg (.c (.bool false)))] [4])
 (.ret)) (.skip))))))
 (.reg [q1 20 (.bin .add (.t 12) (.c (.int .i64 1))),q1 12 (.mv (.t 20))] [0, 1, 10, 11, 12]))))))))
 (.seq (.reg [q1 4 (.asg (.c (.bool true)))] [4])
 (.ret))))
theorem con_impl_areEdits {v0 : (List XVariable)} {v1 : (List XEdit)} {r : Bool} (h : sh_impl_areEdits v0 v1 = some r) : Con Try.prog 64 [cc4.enc v0, cc1.enc v1] [] (rs_impl_areEdits r) := by
 delta sh_impl_areEdits at h
 refine top (out := none) (f := Try.f64) (m := m64) (rs := [.t 4]) (by kernel_rfl) rfl (by kernel_rfl) (by kernel_rfl) (by kernel_rfl) (by kernel_rfl) (by kernel_rfl) ?_
 exact
  ini [q2 0 cc4 v0, q2 1 cc1 v1] rfl <| wpC_seq <| reg_s <| x_asg (sc cB false rfl) <| sq [q2 0 cc4 v0, q2 1 cc1 v1] <|
  xn <| wpC_seq <| wpC_kp <| wpC_seq <| reg_s <| st rfl <| mvd rfl rfl <| stw rfl <| lens rfl fun l5 => st rfl <| b_gtr (k := .i64) rfl rfl <| sq [q2 0 cc4 v0, q2 1 cc1 v1, q2 9 cB (decide ((40 : Int) < (v1.length : Int)))] <|
  xn <| cnd rfl h (fun b6 h => wpC_seq <| reg_s <| x_asg (sc cB false rfl) <| sq [q2 4 cB false] <|
  xn <| wpC_ret <| rt <| rt <| re <| fin h (r1 (ss rfl rfl) <| r0) rfl)
  (fun b6 h => wpC_skip <| kpN [q2 0 cc4 v0, q2 1 cc1 v1] (by kernel_rfl) <| xn <| wpC_seq <| wpC_kp <| wpC_seq <| reg_s <| st rfl <| mvd rfl rfl <| stw rfl <| lens rfl fun l38 => st rfl <| mvc cI (0 : Int) rfl <| sq [q2 0 cc4 v0, q2 1 cc1 v1, q2 10 cc1 v1, q2 11 cI (v1.length : Int), q2 12 cI (0 : Int)] <|
  xn <| wpC_blk <| lpR (fun (k40 : Nat) (s39 : Unit) => [q2 0 cc4 v0, q2 1 cc1 v1, q2 10 cc1 v1, q2 11 cI (v1.length : Int), q2 12 cI (k40 : Int)]) () rfl h
  (fun G56 s39 h => wpC_seq <| reg_s <| st rfl <| b_lss (k := .i64) rfl rfl <| sq [q2 0 cc4 v0, q2 1 cc1 v1, q2 10 cc1 v1, q2 11 cI (v1.length : Int), q2 12 cI (v1.length : Int), q2 13 cB (decide ((v1.length : Int) < (v1.length : Int)))] <|
  xn <| wpC_seq <| wpC_kp <| cnd0 rfl (dlf _) <| wpC_exit <| xt <| xt <| xt <| xb <| kpN [] (by kernel_rfl) <| xn <| wpC_seq <| reg_s <| x_asg (sc cB true rfl) <| sq [q2 4 cB true] <|
  xn <| wpC_ret <| re <| fin h (r1 (ss rfl rfl) <| r0) rfl)
  (fun G56 nx54 k40 s39 x41 hk42 hx43 hn55 h => wpC_seq <| reg_s <| st rfl <| b_lss (k := .i64) rfl rfl <| sq [q2 0 cc4 v0, q2 1 cc1 v1, q2 10 cc1 v1, q2 11 cI (v1.length : Int), q2 12 cI (k40 : Int), q2 13 cB (decide ((k40 : Int) < (v1.length : Int)))] <|
  xn <| wpC_seq <| wpC_kp <| cnd1 rfl (dlt hk42) <| wpC_skip <| kpN [q2 0 cc4 v0, q2 1 cc1 v1, q2 10 cc1 v1, q2 11 cI (v1.length : Int), q2 12 cI (k40 : Int)] (by kernel_rfl) <| xn <| wpC_seq <| wpC_kp <| wpC_blk <| wpC_seq <| reg_s <| st rfl <| ias rfl rfl (Int.natCast_nonneg _) hx43 rfl <| st rfl <| ldi rfl rfl rfl rfl <| x_all cc10 (⟨([] : List Int)⟩ : XEdit) rfl <| x_stb (ss rfl rfl) rfl (Cd.h_sz _ _) rfl <| sq [q2 0 cc4 v0, q2 1 cc1 v1, q3 6 cc8 x41, q2 10 cc1 v1, q2 11 cI (v1.length : Int), q2 12 cI (k40 : Int)] <|
  xn <| wpC_seq <| reg_s <| st rfl <| mvd rfl rfl <| st rfl <| ldb rfl rfl rfl rfl <| bnd h fun x64 e65 h => st rfl <| o_call (a1 (c := cc4) (tLs (tXVariable tS tK)) rfl (a1 (c := cc8) (tXEdit (tLs tK)) rfl a0)) (con_impl_isEdit e65) (.inl (so1 sB so0)) <| st rfl <| o_nt rfl <| sq [q2 0 cc4 v0, q2 1 cc1 v1, q2 10 cc1 v1, q2 11 cI (v1.length : Int), q2 12 cI (k40 : Int), q2 19 cB (!x64)] <|
  xn <| cnd rfl h (fun b66 h => wpC_seq <| reg_s <| x_asg (sc cB false rfl) <| sq [q2 4 cB false] <|
  xn <| wpC_ret <| rb <| rt <| rt <| rt <| rb <| rt <| rt <| re <| fin h (r1 (ss rfl rfl) <| r0) rfl)
  (fun b66 h => wpC_skip <| xbb <| kpN [q2 0 cc4 v0, q2 1 cc1 v1, q2 10 cc1 v1, q2 11 cI (v1.length : Int), q2 12 cI (k40 : Int)] (by kernel_rfl) <| xn <| reg_s <| st rfl <| b_inc rfl rfl l38 hk42 <| st rfl <| mvd rfl rfl <| sq [q2 0 cc4 v0, q2 1 cc1 v1, q2 10 cc1 v1, q2 11 cI (v1.length : Int), q2 12 cI ((k40 + 1 : Nat) : Int)] <|
  xn <| hn55 () h)))

def rs_impl_combinations (r : Int) : List D := [cI.enc r]
def m65 : MC := .seq (.reg [q1 2 (.asg (.c (.int .i64 0)))] [0])
 (.seq (.reg [q1 3 (.asg (.c (.int .i64 1)))] [0, 3])
 (.seq (.kp [3] (.seq (.reg [q1 6 (.mv (.t 0)),q1 7 (.len false (.t 6)),q1 8 (.mv (.c (.int .i64 0)))] [0, 3, 6, 7, 8])
 (.blk 0 (.loop (.seq (.reg [q1 9 (.bin .lss (.t 8) (.t 7))] [0, 3, 6, 7, 8, 9])
 (.seq (.kp [0, 3, 6, 7, 8] (.cond (.t 9) (.skip) (.exit 0)))
 (.seq (.kp [0, 3, 6, 7, 8] (.blk 1 (.seq (.reg [q1 10 (.ia 6 (.t 8) 2),q1 11 (.ld 10 2 true),q1 5 (.alloc (.agg [.str [], .int .i64 0])),q0 (.st 5 (.t 11) 2)] [0, 3, 5, 6, 7, 8])
 (.reg [q1 12 (.mv (.t 3)),q1 13 (.fa 5 1 1),q1 14 (.ld 13 1 false),q1 15 (.bin .mul (.t 12) (.t 14)),q1 3 (.asg (.t 15))] [0, 3, 6, 7, 8]))))
 (.reg [q1 16 (.bin .add (.t 8) (.c (.int .i64 1))),q1 8 (.mv (.t 16))] [0, 3, 6, 7, 8]))))))))
 (.seq (.reg [q1 17 (.mv (.t 3)),q1 2 (.asg (.t 17))] [2])
 (.ret))))
theorem con_impl_combinations {v0 : (List XVariable)} {r : Int} (h : sh_impl_combinations v0 = some r) : Con Try.prog 65 [cc4.enc v0] [] (rs_impl_combinations r) := by
 delta sh_impl_combinations at h
 refine top (out := none) (f := Try.f65) (m := m65) (rs := [.t 2]) (by kernel_rfl) rfl (by kernel_rfl) (by kernel_rfl) (by kernel_rfl) (by kernel_rfl) (by kernel_rfl) ?_
 exact
  ini [q2 0 cc4 v0] rfl <| wpC_seq <| reg_s <| x_asg (sc cI (0 : Int) rfl) <| sq [q2 0 cc4 v0] <|
  xn <| wpC_seq <| reg_s <| x_asg (sc cI (1 : Int) rfl) <| sq [q2 0 cc4 v0, q2 3 cI (1 : Int)] <|
  xn <| wpC_seq <| wpC_kp <| wpC_seq <| reg_s <| st rfl <| mvd rfl rfl <| stw rfl <| lens rfl fun l18 => st rfl <| mvc cI (0 : Int) rfl <| sq [q2 0 cc4 v0, q2 3 cI (1 : Int), q2 6 cc4 v0, q2 7 cI (v0.length : Int), q2 8 cI (0 : Int)] <|
  xn <| wpC_blk <| lpR (fun (k20 : Nat) (s19 : Int) => [q2 0 cc4 v0, q2 3 cI s19, q2 6 cc4 v0, q2 7 cI (v0.length : Int), q2 8 cI (k20 : Int)]) (1 : Int) rfl h
  (fun G30 s19 h => wpC_seq <| reg_s <| st rfl <| b_lss (k := .i64) rfl rfl <| sq [q2 0 cc4 v0, q2 3 cI s19, q2 6 cc4 v0, q2 7 cI (v0.length : Int), q2 8 cI (v0.length : Int), q2 9 cB (decide ((v0.length : Int) < (v0.length : Int)))] <|
  xn <| wpC_seq <| wpC_kp <| cnd0 rfl (dlf _) <| wpC_exit <| xt <| xt <| xt <| xb <| kpN [q2 3 cI s19] (by kernel_rfl) <| xn <| wpC_seq <| reg_s <| st rfl <| mvd rfl rfl <| x_asg (ss rfl rfl) <| sq [q2 2 cI s19] <|
  xn <| wpC_ret <| re <| fin h (r1 (ss rfl rfl) <| r0) rfl)
  (fun G30 nx28 k20 s19 x21 hk22 hx23 hn29 h => wpC_seq <| reg_s <| st rfl <| b_lss (k := .i64) rfl rfl <| sq [q2 0 cc4 v0, q2 3 cI s19, q2 6 cc4 v0, q2 7 cI (v0.length : Int), q2 8 cI (k20 : Int), q2 9 cB (decide ((k20 : Int) < (v0.length : Int)))] <|
  xn <| wpC_seq <| wpC_kp <| cnd1 rfl (dlt hk22) <| wpC_skip <| kpN [q2 0 cc4 v0, q2 3 cI s19, q2 6 cc4 v0, q2 7 cI (v0.length : Int), q2 8 cI (k20 : Int)] (by kernel_rfl) <| xn <| wpC_seq <| wpC_kp <| wpC_blk <| wpC_seq <| reg_s <| st rfl <| ias rfl rfl (Int.natCast_nonneg _) hx23 rfl <| st rfl <| ldi rfl rfl rfl rfl <| x_all cc9 (⟨([] : List UInt8), (0 : Int)⟩ : XVariable) rfl <| x_stb (ss rfl rfl) rfl (Cd.h_sz _ _) rfl <| sq [q2 0 cc4 v0, q2 3 cI s19, q3 5 cc9 x21, q2 6 cc4 v0, q2 7 cI (v0.length : Int), q2 8 cI (k20 : Int)] <|
  xn <| reg_s <| st rfl <| mvd rfl rfl <| st rfl <| fab rfl rfl rfl rfl <| st rfl <| lda rfl rfl rfl rfl rfl rfl <| ckI_k h fun i32 h => st rfl <| b_mul (k := .i64) rfl rfl i32 <| x_asg (ss rfl rfl) <| sq [q2 0 cc4 v0, q2 3 cI (s19 * x21.Levels), q2 6 cc4 v0, q2 7 cI (v0.length : Int), q2 8 cI (k20 : Int)] <|
  xbb <| kpN [q2 0 cc4 v0, q2 3 cI (s19 * x21.Levels), q2 6 cc4 v0, q2 7 cI (v0.length : Int), q2 8 cI (k20 : Int)] (by kernel_rfl) <| xn <| reg_s <| st rfl <| b_inc rfl rfl l18 hk22 <| st rfl <| mvd rfl rfl <| sq [q2 0 cc4 v0, q2 3 cI (s19 * x21.Levels), q2 6 cc4 v0, q2 7 cI (v0.length : Int), q2 8 cI ((k20 + 1 : Nat) : Int)] <|
  xn <| hn29 (s19 * x21.Levels) h)

def rs_impl_valuesAt (r : (List Int)) : List D := [cc12.enc r]
def m128 : MC := .seq (.reg [q1 4 (.asg (.c (.slice true [])))] [0, 1])
 (.seq (.reg [q1 7 (.mv (.t 0)),q1 8 (.len false (.t 7)),q1 9 (.mk (.int .i64 0) (.t 8)),q1 5 (.asg (.t 9))] [0, 1, 5])
 (.seq (.kp [5] (.seq (.reg [q1 10 (.mv (.t 0)),q1 11 (.len false (.t 10)),q1 12 (.bin .sub (.t 11) (.c (.int .i64 1))),q1 6 (.asg (.t 12))] [0, 1, 5, 6])
 (.blk 0 (.loop (.seq (.kp [0, 1, 5, 6] (.seq (.reg [q1 13 (.mv (.t 6)),q1 14 (.bin .geq (.t 13) (.c (.int .i64 0)))] [0, 1, 5, 6, 14])
 (.cond (.t 14) (.skip) (.exit 0))))
 (.seq (.kp [0, 1, 5, 6] (.blk 1 (.seq (.reg [q1 17 (.mv (.t 5)),q1 18 (.mv (.t 6)),q1 19 (.mv (.t 1)),q1 20 (.mv (.t 0)),q1 21 (.mv (.t 6)),q1 22 (.ia 20 (.t 21) 2),q1 23 (.fa 22 1 1),q1 24 (.ld 23 1 false),q1 25 (.bin .rem (.t 19) (.t 24)),q1 26 (.ia 17 (.t 18) 1),q0 (.st 26 (.t 25) 1)] [0, 1, 5, 6])
 (.reg [q1 27 (.mv (.t 1)),q1 28 (.mv (.t 0)),q1 29 (.mv (.t 6)),q1 30 (.ia 28 (.t 29) 2),q1 31 (.fa 30 1 1),q1 32 (.ld 31 1 false),q1 33 (.bin .quo (.t 27) (.t 32)),q1 1 (.asg (.t 33))] [0, 1, 5, 6]))))
 (.reg [q1 15 (.mv (.t 6)),q1 16 (.bin .sub (.t 15) (.c (.int .i64 1))),q1 6 (.asg (.t 16))] [0, 1, 5, 6])))))))
 (.seq (.reg [q1 34 (.mv (.t 5)),q1 4 (.asg (.t 34))] [4])
 (.ret))))
theorem con_impl_valuesAt {v0 : (List XVariable)} {v1 : Int} {r : (List Int)} (h : sh_impl_valuesAt v0 v1 = some r) : Con Try.prog 128 [cc4.enc v0, cI.enc v1] [] (rs_impl_valuesAt r) := by
 delta sh_impl_valuesAt at h
 refine top (out := none) (f := Try.f128) (m := m128) (rs := [.t 4]) (by kernel_rfl) rfl (by kernel_rfl) (by kernel_rfl) (by kernel_rfl) (by kernel_rfl) (by kernel_rfl) ?_
 exact
  ini [q2 0 cc4 v0, q2 1 cI v1] rfl <| wpC_seq <| reg_s <| x_asg (sc cc12 ([] : List Int) rfl) <| sq [q2 0 cc4 v0, q2 1 cI v1] <|
  xn <| wpC_seq <| reg_s <| st rfl <| mvd rfl rfl <| stw rfl <| lens rfl fun l4 => mkO_k h fun i5 l6 h => st rfl <| o_mk (c := cI) (a0 := (0 : Int)) rfl (k := .i64) rfl i5 l6 <| x_asg (so rfl rfl) <| sq [q2 0 cc4 v0, q2 1 cI v1, q2 5 cc12 (List.replicate ((v0.length : Int)).toNat (0 : Int))] <|
  xn <| wpC_seq <| wpC_kp <| wpC_seq <| reg_s <| st rfl <| mvd rfl rfl <| stw rfl <| lens rfl fun l126 => ckI_k h fun i127 h => st rfl <| b_sub (k := .i64) rfl rfl i127 <| x_asg (ss rfl rfl) <| sq [q2 0 cc4 v0, q2 1 cI v1, q2 5 cc12 (List.replicate ((v0.length : Int)).toNat (0 : Int)), q2 6 cI ((v0.length : Int) - (1 : Int))] <|
  xn <| wpC_blk <| lpF (fun (s128 : (Int × (List Int) × Int)) => [q2 0 cc4 v0, q2 1 cI s128.1, q2 5 cc12 s128.2.1, q2 6 cI s128.2.2]) (v1, (List.replicate ((v0.length : Int)).toNat (0 : Int)), ((v0.length : Int) - (1 : Int))) rfl h
  fun G205 nx203 s128 hn204 h => wpC_seq <| wpC_kp <| wpC_seq <| reg_s <| st rfl <| mvd rfl rfl <| st rfl <| b_geq (k := .i64) rfl rfl <| sq [q2 0 cc4 v0, q2 1 cI s128.1, q2 5 cc12 s128.2.1, q2 6 cI s128.2.2, q2 14 cB (decide ((0 : Int) ≤ s128.2.2))] <|
  xn <| cnd rfl h (fun b207 h => wpC_skip <| kpN [q2 0 cc4 v0, q2 1 cI s128.1, q2 5 cc12 s128.2.1, q2 6 cI s128.2.2] (by kernel_rfl) <| xn <| wpC_seq <| wpC_kp <| wpC_blk <| wpC_seq <| reg_s <| st rfl <| mvo rfl rfl <| st rfl <| mvd rfl rfl <| st rfl <| mvd rfl rfl <| st rfl <| mvd rfl rfl <| st rfl <| mvd rfl rfl <| getO_k h fun x231 i232 g233 h => st rfl <| ias rfl rfl i232 g233 rfl <| st rfl <| fai rfl rfl rfl rfl <| st rfl <| ldi rfl rfl rfl rfl <| ck_k h fun i234 h => st rfl <| b_rem (k := .i64) rfl rfl i234 <| getO_k h fun x235 i236 g237 h => st rfl <| iar rfl rfl rfl rfl i236 g237 rfl <| x_sta (cc12.enc (s128.2.1.set (s128.2.2).toNat (s128.1.tmod x231.Levels))) (ss rfl rfl) rfl rfl (Ln.idx g237 Ln.nil) (Cd.h_sz cI _) rfl <| sq [q2 0 cc4 v0, q2 1 cI s128.1, q2 5 cc12 (s128.2.1.set (s128.2.2).toNat (s128.1.tmod x231.Levels)), q2 6 cI s128.2.2] <|
  xn <| reg_s <| st rfl <| mvd rfl rfl <| st rfl <| mvd rfl rfl <| st rfl <| mvd rfl rfl <| st rfl <| ias rfl rfl i232 g233 rfl <| st rfl <| fai rfl rfl rfl rfl <| st rfl <| ldi rfl rfl rfl rfl <| ck_k h fun i238 h => ckI_k h fun i239 h => st rfl <| b_quo (k := .i64) rfl rfl i238 i239 <| x_asg (ss rfl rfl) <| sq [q2 0 cc4 v0, q2 1 cI (s128.1.tdiv x231.Levels), q2 5 cc12 (s128.2.1.set (s128.2.2).toNat (s128.1.tmod x231.Levels)), q2 6 cI s128.2.2] <|
  xbb <| kpN [q2 0 cc4 v0, q2 1 cI (s128.1.tdiv x231.Levels), q2 5 cc12 (s128.2.1.set (s128.2.2).toNat (s128.1.tmod x231.Levels)), q2 6 cI s128.2.2] (by kernel_rfl) <| xn <| reg_s <| st rfl <| mvd rfl rfl <| ckI_k h fun i240 h => st rfl <| b_sub (k := .i64) rfl rfl i240 <| x_asg (ss rfl rfl) <| sq [q2 0 cc4 v0, q2 1 cI (s128.1.tdiv x231.Levels), q2 5 cc12 (s128.2.1.set (s128.2.2).toNat (s128.1.tmod x231.Levels)), q2 6 cI (s128.2.2 - (1 : Int))] <|
  xn <| hn204 ((s128.1.tdiv x231.Levels), (s128.2.1.set (s128.2.2).toNat (s128.1.tmod x231.Levels)), (s128.2.2 - (1 : Int))) h)
  (fun b207 h => wpC_exit <| xt <| xt <| xt <| xb <| kpN [q2 5 cc12 s128.2.1] (by kernel_rfl) <| xn <| wpC_seq <| reg_s <| st rfl <| mvo rfl rfl <| x_asg (sr rfl rfl) <| sq [q2 4 cc12 s128.2.1] <|
  xn <| wpC_ret <| re <| fin h (r1 (so rfl rfl) <| r0) rfl)

def rs_impl_fails (r : Bool) : List D := [cB.enc r]
def m142 : MC := .seq (.reg [q1 2 (.box (.t 0)),q1 4 (.asg (.c (.bool false)))] [1, 2])
 (.seq (.kp [] (.seq (.reg [q1 7 (.mv (.t 1)),q1 8 (.len false (.t 7)),q1 9 (.mv (.c (.int .i64 0)))] [1, 2, 7, 8, 9])
 (.blk 0 (.loop (.seq (.reg [q1 10 (.bin .lss (.t 9) (.t 8))] [1, 2, 7, 8, 9, 10])
 (.seq (.kp [1, 2, 7, 8, 9] (.cond (.t 10) (.skip) (.exit 0)))
 (.seq (.kp [1, 2, 7, 8, 9] (.blk 1 (.seq (.reg [q1 11 (.mv (.t 9)),q1 12 (.ia 7 (.t 9) 1),q1 13 (.ld 12 1 false),q1 5 (.asg (.t 11)),q1 6 (.asg (.t 13))] [1, 2, 5, 6, 7, 8, 9])
 (.seq (.reg [q1 14 (.fa 2 0 0),q1 15 (.ld 14 1 false),q1 16 (.mv (.t 5)),q1 17 (.ia 15 (.t 16) 1),q1 18 (.ld 17 1 false),q1 19 (.mv (.t 6)),q1 20 (.bin .shr (.t 18) (.t 19)),q1 21 (.bin .and (.t 20) (.c (.int .i64 1))),q1 22 (.bin .eql (.t 21) (.c (.int .i64 0)))] [1, 2, 7, 8, 9, 22])
 (.cond (.t 22) (.seq (.reg [q1 4 (.asg (.c (.bool false)))] [4])
 (.ret)) (.skip))))))
 (.reg [q1 23 (.bin .add (.t 9) (.c (.int .i64 1))),q1 9 (.mv (.t 23))] [1, 2, 7, 8, 9]))))))))
 (.seq (.reg [q1 4 (.asg (.c (.bool true)))] [4])
 (.ret)))
theorem con_impl_fails {v0 : XEdit} {v1 : (List Int)} {r : Bool} (h : sh_impl_fails v0 v1 = some r) : Con Try.prog 142 [cc8.enc v0, cc11.enc v1] [] (rs_impl_fails r) := by
 delta sh_impl_fails at h
 refine top (out := none) (f := Try.f142) (m := m142) (rs := [.t 4]) (by kernel_rfl) rfl (by kernel_rfl) (by kernel_rfl) (by kernel_rfl) (by kernel_rfl) (by kernel_rfl) ?_
 exact
  ini [q2 0 cc8 v0, q2 1 cc11 v1] rfl <| wpC_seq <| reg_s <| x_box (ss rfl rfl) <| x_asg (sc cB false rfl) <| sq [q2 1 cc11 v1, q3 2 cc8 v0] <|
  xn <| wpC_seq <| wpC_kp <| wpC_seq <| reg_s <| st rfl <| mvd rfl rfl <| stw rfl <| lens rfl fun l80 => st rfl <| mvc cI (0 : Int) rfl <| sq [q2 1 cc11 v1, q3 2 cc8 v0, q2 7 cc11 v1, q2 8 cI (v1.length : Int), q2 9 cI (0 : Int)] <|
  xn <| wpC_blk <| lpR (fun (k82 : Nat) (s81 : Unit) => [q2 1 cc11 v1, q3 2 cc8 v0, q2 7 cc11 v1, q2 8 cI (v1.length : Int), q2 9 cI (k82 : Int)]) () rfl h
  (fun G122 s81 h => wpC_seq <| reg_s <| st rfl <| b_lss (k := .i64) rfl rfl <| sq [q2 1 cc11 v1, q3 2 cc8 v0, q2 7 cc11 v1, q2 8 cI (v1.length : Int), q2 9 cI (v1.length : Int), q2 10 cB (decide ((v1.length : Int) < (v1.length : Int)))] <|
  xn <| wpC_seq <| wpC_kp <| cnd0 rfl (dlf _) <| wpC_exit <| xt <| xt <| xt <| xb <| kpN [] (by kernel_rfl) <| xn <| wpC_seq <| reg_s <| x_asg (sc cB true rfl) <| sq [q2 4 cB true] <|
  xn <| wpC_ret <| re <| fin h (r1 (ss rfl rfl) <| r0) rfl)
  (fun G122 nx120 k82 s81 x83 hk84 hx85 hn121 h => wpC_seq <| reg_s <| st rfl <| b_lss (k := .i64) rfl rfl <| sq [q2 1 cc11 v1, q3 2 cc8 v0, q2 7 cc11 v1, q2 8 cI (v1.length : Int), q2 9 cI (k82 : Int), q2 10 cB (decide ((k82 : Int) < (v1.length : Int)))] <|
  xn <| wpC_seq <| wpC_kp <| cnd1 rfl (dlt hk84) <| wpC_skip <| kpN [q2 1 cc11 v1, q3 2 cc8 v0, q2 7 cc11 v1, q2 8 cI (v1.length : Int), q2 9 cI (k82 : Int)] (by kernel_rfl) <| xn <| wpC_seq <| wpC_kp <| wpC_blk <| wpC_seq <| reg_s <| st rfl <| mvd rfl rfl <| st rfl <| ias rfl rfl (Int.natCast_nonneg _) hx85 rfl <| st rfl <| ldi rfl rfl rfl rfl <| x_asg (ss rfl rfl) <| x_asg (ss rfl rfl) <| sq [q2 1 cc11 v1, q3 2 cc8 v0, q2 5 cI (k82 : Int), q2 6 cI x83, q2 7 cc11 v1, q2 8 cI (v1.length : Int), q2 9 cI (k82 : Int)] <|
  xn <| wpC_seq <| reg_s <| st rfl <| fab rfl rfl rfl rfl <| st rfl <| lda rfl rfl rfl rfl rfl rfl <| st rfl <| mvd rfl rfl <| getO_k h fun x148 i149 g150 h => st rfl <| ias rfl rfl i149 g150 rfl <| st rfl <| ldi rfl rfl rfl rfl <| st rfl <| mvd rfl rfl <| ck_k h fun i151 h => st rfl <| b_shr (k := .i64) (k' := .i64) rfl rfl i151 rfl <| ck_k h fun i152 h => ckK_k h fun i153 h => ck_k h fun i154 h => ckK_k h fun i155 h => st rfl <| b_and (k := .i64) rfl rfl ⟨i152, i153⟩ ⟨i154, i155⟩ <| st rfl <| b_eql (k := .i64) rfl rfl <| sq [q2 1 cc11 v1, q3 2 cc8 v0, q2 7 cc11 v1, q2 8 cI (v1.length : Int), q2 9 cI (k82 : Int), q2 22 cB (decide ((((x148 / 2 ^ (x83).toNat).toNat &&& (1 : Int).toNat : Nat) : Int) = (0 : Int)))] <|
  xn <| cnd rfl h (fun b156 h => wpC_seq <| reg_s <| x_asg (sc cB false rfl) <| sq [q2 4 cB false] <|
  xn <| wpC_ret <| rb <| rt <| rt <| rt <| rb <| rt <| rt <| re <| fin h (r1 (ss rfl rfl) <| r0) rfl)
  (fun b156 h => wpC_skip <| xbb <| kpN [q2 1 cc11 v1, q3 2 cc8 v0, q2 7 cc11 v1, q2 8 cI (v1.length : Int), q2 9 cI (k82 : Int)] (by kernel_rfl) <| xn <| reg_s <| st rfl <| b_inc rfl rfl l80 hk84 <| st rfl <| mvd rfl rfl <| sq [q2 1 cc11 v1, q3 2 cc8 v0, q2 7 cc11 v1, q2 8 cI (v1.length : Int), q2 9 cI ((k82 + 1 : Nat) : Int)] <|
  xn <| hn121 () h))

def rs_impl_failsOne (r : Bool) : List D := [cB.enc r]
def m93 : MC := .seq (.reg [q1 4 (.asg (.c (.bool false)))] [0, 1])
 (.seq (.kp [] (.seq (.reg [q1 7 (.mv (.t 0)),q1 8 (.len false (.t 7)),q1 9 (.mv (.c (.int .i64 0)))] [0, 1, 7, 8, 9])
 (.blk 0 (.loop (.seq (.reg [q1 10 (.bin .lss (.t 9) (.t 8))] [0, 1, 7, 8, 9, 10])
 (.seq (.kp [0, 1, 7, 8, 9] (.cond (.t 10) (.skip) (.exit 0)))
 (.seq (.kp [0, 1, 7, 8, 9] (.blk 1 (.seq (.reg [q1 11 (.ia 7 (.t 9) 1),q1 12 (.ld 11 1 true),q1 6 (.alloc (.agg [.slice true []])),q0 (.st 6 (.t 12) 1)] [0, 1, 6, 7, 8, 9])
 (.seq (.reg [q1 13 (.ld 6 1 true),q1 14 (.mv (.t 1)),q1 15 (.call 142 [(.t 13), (.t 14)])] [0, 1, 7, 8, 9, 15])
 (.cond (.t 15) (.seq (.reg [q1 4 (.asg (.c (.bool true)))] [4])
 (.ret)) (.skip))))))
 (.reg [q1 16 (.bin .add (.t 9) (.c (.int .i64 1))),q1 9 (.mv (.t 16))] [0, 1, 7, 8, 9]))))))))
 (.seq (.reg [q1 4 (.asg (.c (.bool false)))] [4])
 (.ret)))
theorem con_impl_failsOne {v0 : (List XEdit)} {v1 : (List Int)} {r : Bool} (h : sh_impl_failsOne v0 v1 = some r) : Con Try.prog 93 [cc1.enc v0, cc11.enc v1] [] (rs_impl_failsOne r) := by
 delta sh_impl_failsOne at h
 refine top (out := none) (f := Try.f93) (m := m93) (rs := [.t 4]) (by kernel_rfl) rfl (by kernel_rfl) (by kernel_rfl) (by kernel_rfl) (by kernel_rfl) (by kernel_rfl) ?_
 exact
  ini [q2 0 cc1 v0, q2 1 cc11 v1] rfl <| wpC_seq <| reg_s <| x_asg (sc cB false rfl) <| sq [q2 0 cc1 v0, q2 1 cc11 v1] <|
  xn <| wpC_seq <| wpC_kp <| wpC_seq <| reg_s <| st rfl <| mvd rfl rfl <| stw rfl <| lens rfl fun l32 => st rfl <| mvc cI (0 : Int) rfl <| sq [q2 0 cc1 v0, q2 1 cc11 v1, q2 7 cc1 v0, q2 8 cI (v0.length : Int), q2 9 cI (0 : Int)] <|
  xn <| wpC_blk <| lpR (fun (k34 : Nat) (s33 : Unit) => [q2 0 cc1 v0, q2 1 cc11 v1, q2 7 cc1 v0, q2 8 cI (v0.length : Int), q2 9 cI (k34 : Int)]) () rfl h
  (fun G50 s33 h => wpC_seq <| reg_s <| st rfl <| b_lss (k := .i64) rfl rfl <| sq [q2 0 cc1 v0, q2 1 cc11 v1, q2 7 cc1 v0, q2 8 cI (v0.length : Int), q2 9 cI (v0.length : Int), q2 10 cB (decide ((v0.length : Int) < (v0.length : Int)))] <|
  xn <| wpC_seq <| wpC_kp <| cnd0 rfl (dlf _) <| wpC_exit <| xt <| xt <| xt <| xb <| kpN [] (by kernel_rfl) <| xn <| wpC_seq <| reg_s <| x_asg (sc cB false rfl) <| sq [q2 4 cB false] <|
  xn <| wpC_ret <| re <| fin h (r1 (ss rfl rfl) <| r0) rfl)
  (fun G50 nx48 k34 s33 x35 hk36 hx37 hn49 h => wpC_seq <| reg_s <| st rfl <| b_lss (k := .i64) rfl rfl <| sq [q2 0 cc1 v0, q2 1 cc11 v1, q2 7 cc1 v0, q2 8 cI (v0.length : Int), q2 9 cI (k34 : Int), q2 10 cB (decide ((k34 : Int) < (v0.length : Int)))] <|
  xn <| wpC_seq <| wpC_kp <| cnd1 rfl (dlt hk36) <| wpC_skip <| kpN [q2 0 cc1 v0, q2 1 cc11 v1, q2 7 cc1 v0, q2 8 cI (v0.length : Int), q2 9 cI (k34 : Int)] (by kernel_rfl) <| xn <| wpC_seq <| wpC_kp <| wpC_blk <| wpC_seq <| reg_s <| st rfl <| ias rfl rfl (Int.natCast_nonneg _) hx37 rfl <| st rfl <| ldi rfl rfl rfl rfl <| x_all cc10 (⟨([] : List Int)⟩ : XEdit) rfl <| x_stb (ss rfl rfl) rfl (Cd.h_sz _ _) rfl <| sq [q2 0 cc1 v0, q2 1 cc11 v1, q3 6 cc8 x35, q2 7 cc1 v0, q2 8 cI (v0.length : Int), q2 9 cI (k34 : Int)] <|
  xn <| wpC_seq <| reg_s <| st rfl <| ldb rfl rfl rfl rfl <| st rfl <| mvd rfl rfl <| bnd h fun x58 e59 h => st rfl <| o_call (a1 (c := cc8) (tXEdit (tLs tK)) rfl (a1 (c := cc11) (tLs tK) rfl a0)) (con_impl_fails e59) (.inl (so1 sB so0)) <| sq [q2 0 cc1 v0, q2 1 cc11 v1, q2 7 cc1 v0, q2 8 cI (v0.length : Int), q2 9 cI (k34 : Int), q2 15 cB x58] <|
  xn <| cnd rfl h (fun b60 h => wpC_seq <| reg_s <| x_asg (sc cB true rfl) <| sq [q2 4 cB true] <|
  xn <| wpC_ret <| rb <| rt <| rt <| rt <| rb <| rt <| rt <| re <| fin h (r1 (ss rfl rfl) <| r0) rfl)
  (fun b60 h => wpC_skip <| xbb <| kpN [q2 0 cc1 v0, q2 1 cc11 v1, q2 7 cc1 v0, q2 8 cI (v0.length : Int), q2 9 cI (k34 : Int)] (by kernel_rfl) <| xn <| reg_s <| st rfl <| b_inc rfl rfl l32 hk36 <| st rfl <| mvd rfl rfl <| sq [q2 0 cc1 v0, q2 1 cc11 v1, q2 7 cc1 v0, q2 8 cI (v0.length : Int), q2 9 cI ((k34 + 1 : Nat) : Int)] <|
  xn <| hn49 () h))

def rs_laws_eqVariable (r : Bool) : List D := [cB.enc r]
def m68 : MC := .seq (.reg [q1 2 (.box (.t 0)),q1 3 (.box (.t 1)),q1 4 (.asg (.c (.bool false)))] [2, 3])
 (.seq (.kp [2, 3] (.seq (.reg [q1 5 (.fa 2 0 0),q1 6 (.ld 5 1 false),q1 7 (.fa 3 0 0),q1 8 (.ld 7 1 false),q1 9 (.bin .neq (.t 6) (.t 8))] [2, 3, 9])
 (.cond (.t 9) (.seq (.reg [q1 4 (.asg (.c (.bool false)))] [4])
 (.ret)) (.skip))))
 (.seq (.kp [] (.seq (.reg [q1 10 (.fa 2 1 1),q1 11 (.ld 10 1 false),q1 12 (.fa 3 1 1),q1 13 (.ld 12 1 false),q1 14 (.bin .neq (.t 11) (.t 13))] [14])
 (.cond (.t 14) (.seq (.reg [q1 4 (.asg (.c (.bool false)))] [4])
 (.ret)) (.skip))))
 (.seq (.reg [q1 4 (.asg (.c (.bool true)))] [4])
 (.ret))))
theorem con_laws_eqVariable {v0 : XVariable} {v1 : XVariable} {r : Bool} (h : sh_laws_eqVariable v0 v1 = some r) : Con Try.prog 68 [cc9.enc v0, cc9.enc v1] [] (rs_laws_eqVariable r) := by
 delta sh_laws_eqVariable at h
 refine top (out := none) (f := Try.f68) (m := m68) (rs := [.t 4]) (by kernel_rfl) rfl (by kernel_rfl) (by kernel_rfl) (by kernel_rfl) (by kernel_rfl) (by kernel_rfl) ?_
 exact
  ini [q2 0 cc9 v0, q2 1 cc9 v1] rfl <| wpC_seq <| reg_s <| x_box (ss rfl rfl) <| x_box (ss rfl rfl) <| x_asg (sc cB false rfl) <| sq [q3 2 cc9 v0, q3 3 cc9 v1] <|
  xn <| wpC_seq <| wpC_kp <| wpC_seq <| reg_s <| st rfl <| fab rfl rfl rfl rfl <| st rfl <| lda rfl rfl rfl rfl rfl rfl <| st rfl <| fab rfl rfl rfl rfl <| st rfl <| lda rfl rfl rfl rfl rfl rfl <| st rfl <| b_sne rfl rfl <| sq [q3 2 cc9 v0, q3 3 cc9 v1, q2 9 cB (decide (v0.Name ≠ v1.Name))] <|
  xn <| cnd rfl h (fun b2 h => wpC_seq <| reg_s <| x_asg (sc cB false rfl) <| sq [q2 4 cB false] <|
  xn <| wpC_ret <| rt <| rt <| re <| fin h (r1 (ss rfl rfl) <| r0) rfl)
  (fun b2 h => wpC_skip <| kpN [q3 2 cc9 v0, q3 3 cc9 v1] (by kernel_rfl) <| xn <| wpC_seq <| wpC_kp <| wpC_seq <| reg_s <| st rfl <| fab rfl rfl rfl rfl <| st rfl <| lda rfl rfl rfl rfl rfl rfl <| st rfl <| fab rfl rfl rfl rfl <| st rfl <| lda rfl rfl rfl rfl rfl rfl <| st rfl <| b_neq (k := .i64) rfl rfl <| sq [q2 14 cB (decide (v0.Levels ≠ v1.Levels))] <|
  xn <| cnd rfl h (fun b4 h => wpC_seq <| reg_s <| x_asg (sc cB false rfl) <| sq [q2 4 cB false] <|
  xn <| wpC_ret <| rt <| rt <| re <| fin h (r1 (ss rfl rfl) <| r0) rfl)
  (fun b4 h => wpC_skip <| kpN [] (by kernel_rfl) <| xn <| wpC_seq <| reg_s <| x_asg (sc cB true rfl) <| sq [q2 4 cB true] <|
  xn <| wpC_ret <| re <| fin h (r1 (ss rfl rfl) <| r0) rfl))

def rs_laws_eqVariableS (r : Bool) : List D := [cB.enc r]
def m20 : MC := .seq (.reg [q1 4 (.asg (.c (.bool false)))] [0, 1])
 (.seq (.kp [0, 1] (.seq (.reg [q1 6 (.mv (.t 0)),q1 7 (.len false (.t 6)),q1 8 (.mv (.t 1)),q1 9 (.len false (.t 8)),q1 10 (.bin .neq (.t 7) (.t 9))] [0, 1, 10])
 (.cond (.t 10) (.seq (.reg [q1 4 (.asg (.c (.bool false)))] [4])
 (.ret)) (.skip))))
 (.seq (.kp [] (.seq (.reg [q1 5 (.asg (.c (.int .i64 0)))] [0, 1, 5])
 (.blk 0 (.loop (.seq (.kp [0, 1, 5] (.seq (.reg [q1 11 (.mv (.t 5)),q1 12 (.mv (.t 0)),q1 13 (.len false (.t 12)),q1 14 (.bin .lss (.t 11) (.t 13))] [0, 1, 5, 14])
 (.cond (.t 14) (.skip) (.exit 0))))
 (.seq (.kp [0, 1, 5] (.blk 1 (.seq (.drw [⟨0, q1 17 (.mv (.t 0)), [18, 19, 20, 21, 22, 23, 24, 25, 26]⟩,
  ⟨1, q1 18 (.mv (.t 5)), [17, 19, 20, 21, 22, 23, 24, 25, 26]⟩,
  ⟨2, q1 19 (.ia 17 (.t 18) 2), [20, 21, 22, 23, 24, 25, 26]⟩,
  ⟨3, q1 20 (.ld 19 2 true), [21, 22, 23, 24, 25, 26]⟩,
  ⟨4, q1 21 (.mv (.t 1)), [17, 18, 19, 20, 22, 23, 24, 25, 26]⟩,
  ⟨5, q1 22 (.mv (.t 5)), [17, 18, 19, 20, 21, 23, 24, 25, 26]⟩,
  ⟨6, q1 23 (.ia 21 (.t 22) 2), [17, 18, 19, 20, 24, 25, 26]⟩,
  ⟨7, q1 24 (.ld 23 2 true), [17, 18, 19, 20, 25, 26]⟩,
  ⟨8, q1 25 (.call 68 [(.t 20), (.t 24)]), [26]⟩,
  ⟨9, q1 26 (.nt (.t 25)), []⟩]
  [] [0, 1, 5, 26])
 (.cond (.t 26) (.seq (.reg [q1 4 (.asg (.c (.bool false)))] [4])
 (.ret)) (.skip)))))
 (.reg [q1 15 (.mv (.t 5)),q1 16 (.bin .add (.t 15) (.c (.int .i64 1))),q1 5 (.asg (.t 16))] [0, 1, 5])))))))
 (.seq (.reg [q1 4 (.asg (.c (.bool true)))] [4])
 (.ret))))
theorem con_laws_eqVariableS {v0 : (List XVariable)} {v1 : (List XVariable)} {r : Bool} (h : sh_laws_eqVariableS v0 v1 = some r) : Con Try.prog 20 [cc4.enc v0, cc4.enc v1] [] (rs_laws_eqVariableS r) := by
 delta sh_laws_eqVariableS at h
 refine top (out := none) (f := Try.f20) (m := m20) (rs := [.t 4]) (by kernel_rfl) rfl (by kernel_rfl) (by kernel_rfl) (by kernel_rfl) (by kernel_rfl) (by kernel_rfl) ?_
 exact
  ini [q2 0 cc4 v0, q2 1 cc4 v1] rfl <| wpC_seq <| reg_s <| x_asg (sc cB false rfl) <| sq [q2 0 cc4 v0, q2 1 cc4 v1] <|
  xn <| wpC_seq <| wpC_kp <| wpC_seq <| reg_s <| st rfl <| mvd rfl rfl <| stw rfl <| lens rfl fun l8 => st rfl <| mvd rfl rfl <| stw rfl <| lens rfl fun l9 => st rfl <| b_neq (k := .i64) rfl rfl <| sq [q2 0 cc4 v0, q2 1 cc4 v1, q2 10 cB (decide ((v0.length : Int) ≠ (v1.length : Int)))] <|
  xn <| cnd rfl h (fun b10 h => wpC_seq <| reg_s <| x_asg (sc cB false rfl) <| sq [q2 4 cB false] <|
  xn <| wpC_ret <| rt <| rt <| re <| fin h (r1 (ss rfl rfl) <| r0) rfl)
  (fun b10 h => wpC_skip <| kpN [q2 0 cc4 v0, q2 1 cc4 v1] (by kernel_rfl) <| xn <| wpC_seq <| wpC_kp <| wpC_seq <| reg_s <| x_asg (sc cI (0 : Int) rfl) <| sq [q2 0 cc4 v0, q2 1 cc4 v1, q2 5 cI (0 : Int)] <|
  xn <| wpC_blk <| lpF (fun (s142 : Int) => [q2 0 cc4 v0, q2 1 cc4 v1, q2 5 cI s142]) (0 : Int) rfl h
  fun G231 nx229 s142 hn230 h => wpC_seq <| wpC_kp <| wpC_seq <| reg_s <| st rfl <| mvd rfl rfl <| st rfl <| mvd rfl rfl <| stw rfl <| lens rfl fun l236 => st rfl <| b_lss (k := .i64) rfl rfl <| sq [q2 0 cc4 v0, q2 1 cc4 v1, q2 5 cI s142, q2 14 cB (decide (s142 < (v0.length : Int)))] <|
  xn <| cnd rfl h (fun b237 h => wpC_skip <| kpN [q2 0 cc4 v0, q2 1 cc4 v1, q2 5 cI s142] (by kernel_rfl) <| xn <| wpC_seq <| wpC_kp <| wpC_blk <| wpC_seq <| drw_s <| pst rfl <| mvd rfl rfl ⟨rfl, pst rfl <| mvd rfl rfl ⟨rfl, getO_kp h fun x263 i264 g265 h => pst rfl <| ias rfl rfl i264 g265 rfl ⟨rfl, pst rfl <| ldi rfl rfl rfl rfl ⟨rfl, pst rfl <| mvd rfl rfl ⟨rfl, pst rfl <| mvd rfl rfl ⟨rfl, getO_kp h fun x266 i267 g268 h => pst rfl <| ias rfl rfl i267 g268 rfl ⟨rfl, pst rfl <| ldi rfl rfl rfl rfl ⟨rfl, bndp h fun x269 e270 h => pst rfl <| o_call (a1 (c := cc9) (tXVariable tS tK) rfl (a1 (c := cc9) (tXVariable tS tK) rfl a0)) (con_laws_eqVariable e270) (.inl (so1 sB so0)) ⟨rfl, pst rfl <| o_nt rfl ⟨rfl, preN <| sq [q2 0 cc4 v0, q2 1 cc4 v1, q2 5 cI s142, q2 26 cB (!x269)] <|
  xn <| cnd rfl h (fun b271 h => wpC_seq <| reg_s <| x_asg (sc cB false rfl) <| sq [q2 4 cB false] <|
  xn <| wpC_ret <| rb <| rt <| rt <| rt <| rb <| rt <| rt <| re <| fin h (r1 (ss rfl rfl) <| r0) rfl)
  (fun b271 h => wpC_skip <| xbb <| kpN [q2 0 cc4 v0, q2 1 cc4 v1, q2 5 cI s142] (by kernel_rfl) <| xn <| reg_s <| st rfl <| mvd rfl rfl <| ckI_k h fun i272 h => st rfl <| b_add (k := .i64) rfl rfl i272 <| x_asg (ss rfl rfl) <| sq [q2 0 cc4 v0, q2 1 cc4 v1, q2 5 cI (s142 + (1 : Int))] <|
  xn <| hn230 (s142 + (1 : Int)) h)⟩⟩⟩⟩⟩⟩⟩⟩⟩⟩)
  (fun b237 h => wpC_exit <| xt <| xt <| xt <| xb <| kpN [] (by kernel_rfl) <| xn <| wpC_seq <| reg_s <| x_asg (sc cB true rfl) <| sq [q2 4 cB true] <|
  xn <| wpC_ret <| re <| fin h (r1 (ss rfl rfl) <| r0) rfl))

def rs_laws_eqEdit (r : Bool) : List D := [cB.enc r]
def m69 : MC := .seq (.reg [q1 2 (.box (.t 0)),q1 3 (.box (.t 1)),q1 4 (.asg (.c (.bool false)))] [2, 3])
 (.seq (.kp [] (.seq (.reg [q1 5 (.fa 2 0 0),q1 6 (.ld 5 1 false),q1 7 (.fa 3 0 0),q1 8 (.ld 7 1 false),q1 9 (.call 19 [(.t 6), (.t 8)]),q1 10 (.nt (.t 9))] [10])
 (.cond (.t 10) (.seq (.reg [q1 4 (.asg (.c (.bool false)))] [4])
 (.ret)) (.skip))))
 (.seq (.reg [q1 4 (.asg (.c (.bool true)))] [4])
 (.ret)))
theorem con_laws_eqEdit {v0 : XEdit} {v1 : XEdit} {r : Bool} (h : sh_laws_eqEdit v0 v1 = some r) : Con Try.prog 69 [cc8.enc v0, cc8.enc v1] [] (rs_laws_eqEdit r) := by
 delta sh_laws_eqEdit at h
 refine top (out := none) (f := Try.f69) (m := m69) (rs := [.t 4]) (by kernel_rfl) rfl (by kernel_rfl) (by kernel_rfl) (by kernel_rfl) (by kernel_rfl) (by kernel_rfl) ?_
 exact
  ini [q2 0 cc8 v0, q2 1 cc8 v1] rfl <| wpC_seq <| reg_s <| x_box (ss rfl rfl) <| x_box (ss rfl rfl) <| x_asg (sc cB false rfl) <| sq [q3 2 cc8 v0, q3 3 cc8 v1] <|
  xn <| wpC_seq <| wpC_kp <| wpC_seq <| reg_s <| st rfl <| fab rfl rfl rfl rfl <| st rfl <| lda rfl rfl rfl rfl rfl rfl <| st rfl <| fab rfl rfl rfl rfl <| st rfl <| lda rfl rfl rfl rfl rfl rfl <| bnd h fun x8 e9 h => st rfl <| o_call (a1 (c := cc11) (tLs tK) rfl (a1 (c := cc11) (tLs tK) rfl a0)) (con_laws_eqIntS e9) (.inl (so1 sB so0)) <| st rfl <| o_nt rfl <| sq [q2 10 cB (!x8)] <|
  xn <| cnd rfl h (fun b10 h => wpC_seq <| reg_s <| x_asg (sc cB false rfl) <| sq [q2 4 cB false] <|
  xn <| wpC_ret <| rt <| rt <| re <| fin h (r1 (ss rfl rfl) <| r0) rfl)
  (fun b10 h => wpC_skip <| kpN [] (by kernel_rfl) <| xn <| wpC_seq <| reg_s <| x_asg (sc cB true rfl) <| sq [q2 4 cB true] <|
  xn <| wpC_ret <| re <| fin h (r1 (ss rfl rfl) <| r0) rfl)

def rs_laws_eqEditS (r : Bool) : List D := [cB.enc r]
def m21 : MC := .seq (.reg [q1 4 (.asg (.c (.bool false)))] [0, 1])
 (.seq (.kp [0, 1] (.seq (.reg [q1 6 (.mv (.t 0)),q1 7 (.len false (.t 6)),q1 8 (.mv (.t 1)),q1 9 (.len false (.t 8)),q1 10 (.bin .neq (.t 7) (.t 9))] [0, 1, 10])
 (.cond (.t 10) (.seq (.reg [q1 4 (.asg (.c (.bool false)))] [4])
 (.ret)) (.skip))))
 (.seq (.kp [] (.seq (.reg [q1 5 (.asg (.c (.int .i64 0)))] [0, 1, 5])
 (.blk 0 (.loop (.seq (.kp [0, 1, 5] (.seq (.reg [q1 11 (.mv (.t 5)),q1 12 (.mv (.t 0)),q1 13 (.len false (.t 12)),q1 14 (.bin .lss (.t 11) (.t 13))] [0, 1, 5, 14])
 (.cond (.t 14) (.skip) (.exit 0))))
 (.seq (.kp [0, 1, 5] (.blk 1 (.seq (.drw [⟨0, q1 17 (.mv (.t 0)), [18, 19, 20, 21, 22, 23, 24, 25, 26]⟩,
  ⟨1, q1 18 (.mv (.t 5)), [17, 19, 20, 21, 22, 23, 24, 25, 26]⟩,
  ⟨2, q1 19 (.ia 17 (.t 18) 1), [20, 21, 22, 23, 24, 25, 26]⟩,
  ⟨3, q1 20 (.ld 19 1 true), [21, 22, 23, 24, 25, 26]⟩,
  ⟨4, q1 21 (.mv (.t 1)), [17, 18, 19, 20, 22, 23, 24, 25, 26]⟩,
  ⟨5, q1 22 (.mv (.t 5)), [17, 18, 19, 20, 21, 23, 24, 25, 26]⟩,
  ⟨6, q1 23 (.ia 21 (.t 22) 1), [17, 18, 19, 20, 24, 25, 26]⟩,
  ⟨7, q1 24 (.ld 23 1 true), [17, 18, 19, 20, 25, 26]⟩,
  ⟨8, q1 25 (.call 69 [(.t 20), (.t 24)]), [26]⟩,
  ⟨9, q1 26 (.nt (.t 25)), []⟩]
  [] [0, 1, 5, 26])
 (.cond (.t 26) (.seq (.reg [q1 4 (.asg (.c (.bool false)))] [4])
 (.ret)) (.skip)))))
 (.reg [q1 15 (.mv (.t 5)),q1 16 (.bin .add (.t 15) (.c (.int .i64 1))),q1 5 (.asg (.t 16))] [0, 1, 5])))))))
 (.seq (.reg [q1 4 (.asg (.c (.bool true)))] [4])
 (.ret))))
theorem con_laws_eqEditS {v0 : (List XEdit)} {v1 : (List XEdit)} {r : Bool} (h : sh_laws_eqEditS v0 v1 = some r) : Con Try.prog 21 [cc1.enc v0, cc1.enc v1] [] (rs_laws_eqEditS r) := by
 delta sh_laws_eqEditS at h
 refine top (out := none) (f := Try.f21) (m := m21) (rs := [.t 4]) (by kernel_rfl) rfl (by kernel_rfl) (by kernel_rfl) (by kernel_rfl) (by kernel_rfl) (by kernel_rfl) ?_
 exact
  ini [q2 0 cc1 v0, q2 1 cc1 v1] rfl <| wpC_seq <| reg_s <| x_asg (sc cB false rfl) <| sq [q2 0 cc1 v0, q2 1 cc1 v1] <|
  xn <| wpC_seq <| wpC_kp <| wpC_seq <| reg_s <| st rfl <| mvd rfl rfl <| stw rfl <| lens rfl fun l8 => st rfl <| mvd rfl rfl <| stw rfl <| lens rfl fun l9 => st rfl <| b_neq (k := .i64) rfl rfl <| sq [q2 0 cc1 v0, q2 1 cc1 v1, q2 10 cB (decide ((v0.length : Int) ≠ (v1.length : Int)))] <|
  xn <| cnd rfl h (fun b10 h => wpC_seq <| reg_s <| x_asg (sc cB false rfl) <| sq [q2 4 cB false] <|
  xn <| wpC_ret <| rt <| rt <| re <| fin h (r1 (ss rfl rfl) <| r0) rfl)
  (fun b10 h => wpC_skip <| kpN [q2 0 cc1 v0, q2 1 cc1 v1] (by kernel_rfl) <| xn <| wpC_seq <| wpC_kp <| wpC_seq <| reg_s <| x_asg (sc cI (0 : Int) rfl) <| sq [q2 0 cc1 v0, q2 1 cc1 v1, q2 5 cI (0 : Int)] <|
  xn <| wpC_blk <| lpF (fun (s142 : Int) => [q2 0 cc1 v0, q2 1 cc1 v1, q2 5 cI s142]) (0 : Int) rfl h
  fun G231 nx229 s142 hn230 h => wpC_seq <| wpC_kp <| wpC_seq <| reg_s <| st rfl <| mvd rfl rfl <| st rfl <| mvd rfl rfl <| stw rfl <| lens rfl fun l236 => st rfl <| b_lss (k := .i64) rfl rfl <| sq [q2 0 cc1 v0, q2 1 cc1 v1, q2 5 cI s142, q2 14 cB (decide (s142 < (v0.length : Int)))] <|
  xn <| cnd rfl h (fun b237 h => wpC_skip <| kpN [q2 0 cc1 v0, q2 1 cc1 v1, q2 5 cI s142] (by kernel_rfl) <| xn <| wpC_seq <| wpC_kp <| wpC_blk <| wpC_seq <| drw_s <| pst rfl <| mvd rfl rfl ⟨rfl, pst rfl <| mvd rfl rfl ⟨rfl, getO_kp h fun x263 i264 g265 h => pst rfl <| ias rfl rfl i264 g265 rfl ⟨rfl, pst rfl <| ldi rfl rfl rfl rfl ⟨rfl, pst rfl <| mvd rfl rfl ⟨rfl, pst rfl <| mvd rfl rfl ⟨rfl, getO_kp h fun x266 i267 g268 h => pst rfl <| ias rfl rfl i267 g268 rfl ⟨rfl, pst rfl <| ldi rfl rfl rfl rfl ⟨rfl, bndp h fun x269 e270 h => pst rfl <| o_call (a1 (c := cc8) (tXEdit (tLs tK)) rfl (a1 (c := cc8) (tXEdit (tLs tK)) rfl a0)) (con_laws_eqEdit e270) (.inl (so1 sB so0)) ⟨rfl, pst rfl <| o_nt rfl ⟨rfl, preN <| sq [q2 0 cc1 v0, q2 1 cc1 v1, q2 5 cI s142, q2 26 cB (!x269)] <|
  xn <| cnd rfl h (fun b271 h => wpC_seq <| reg_s <| x_asg (sc cB false rfl) <| sq [q2 4 cB false] <|
  xn <| wpC_ret <| rb <| rt <| rt <| rt <| rb <| rt <| rt <| re <| fin h (r1 (ss rfl rfl) <| r0) rfl)
  (fun b271 h => wpC_skip <| xbb <| kpN [q2 0 cc1 v0, q2 1 cc1 v1, q2 5 cI s142] (by kernel_rfl) <| xn <| reg_s <| st rfl <| mvd rfl rfl <| ckI_k h fun i272 h => st rfl <| b_add (k := .i64) rfl rfl i272 <| x_asg (ss rfl rfl) <| sq [q2 0 cc1 v0, q2 1 cc1 v1, q2 5 cI (s142 + (1 : Int))] <|
  xn <| hn230 (s142 + (1 : Int)) h)⟩⟩⟩⟩⟩⟩⟩⟩⟩⟩)
  (fun b237 h => wpC_exit <| xt <| xt <| xt <| xb <| kpN [] (by kernel_rfl) <| xn <| wpC_seq <| reg_s <| x_asg (sc cB true rfl) <| sq [q2 4 cB true] <|
  xn <| wpC_ret <| re <| fin h (r1 (ss rfl rfl) <| r0) rfl))

def rs_laws_markText (r : (List UInt8)) : List D := [cS.enc r]
def m70 : MC := .seq (.reg [q1 2 (.asg (.c (.str [])))] [0])
 (.seq (.kp [0] (.seq (.reg [q1 4 (.mv (.t 0)),q1 5 (.bin .leq (.t 4) (.c (.int .i64 0)))] [0, 5])
 (.cond (.t 5) (.seq (.reg [q1 2 (.asg (.c (.str [109, 48])))] [2])
 (.ret)) (.skip))))
 (.seq (.reg [q1 3 (.asg (.c (.str [])))] [0, 3])
 (.seq (.kp [3] (.blk 0 (.loop (.kp [0, 3] (.seq (.kp [0, 3] (.seq (.reg [q1 6 (.mv (.t 0)),q1 7 (.bin .gtr (.t 6) (.c (.int .i64 0)))] [0, 3, 7])
 (.cond (.t 7) (.skip) (.exit 0))))
 (.blk 1 (.seq (.reg [q1 8 (.mv (.t 0)),q1 9 (.bin .rem (.t 8) (.c (.int .i64 10))),q1 10 (.bin .add (.c (.int .i64 48)) (.t 9)),q1 11 (.cvi .u8 (.t 10)),q1 12 (.bsl [(.t 11)] 1),q1 13 (.b2s (.t 12)),q1 14 (.mv (.t 3)),q1 15 (.bin .add (.t 13) (.t 14)),q1 3 (.asg (.t 15))] [0, 3])
 (.reg [q1 16 (.mv (.t 0)),q1 17 (.bin .quo (.t 16) (.c (.int .i64 10))),q1 0 (.asg (.t 17))] [0, 3]))))))))
 (.seq (.reg [q1 18 (.mv (.t 3)),q1 19 (.bin .add (.c (.str [109])) (.t 18)),q1 2 (.asg (.t 19))] [2])
 (.ret)))))
theorem con_laws_markText {v0 : Int} {r : (List UInt8)} (h : sh_laws_markText v0 = some r) : Con Try.prog 70 [cI.enc v0] [] (rs_laws_markText r) := by
 delta sh_laws_markText at h
 refine top (out := none) (f := Try.f70) (m := m70) (rs := [.t 2]) (by kernel_rfl) rfl (by kernel_rfl) (by kernel_rfl) (by kernel_rfl) (by kernel_rfl) (by kernel_rfl) ?_
 exact
  ini [q2 0 cI v0] rfl <| wpC_seq <| reg_s <| x_asg (sc cS ([] : List UInt8) rfl) <| sq [q2 0 cI v0] <|
  xn <| wpC_seq <| wpC_kp <| wpC_seq <| reg_s <| st rfl <| mvd rfl rfl <| st rfl <| b_leq (k := .i64) rfl rfl <| sq [q2 0 cI v0, q2 5 cB (decide (v0 ≤ (0 : Int)))] <|
  xn <| cnd rfl h (fun b2 h => wpC_seq <| reg_s <| x_asg (sc cS ([109, 48] : List UInt8) rfl) <| sq [q2 2 cS ([109, 48] : List UInt8)] <|
  xn <| wpC_ret <| rt <| rt <| re <| fin h (r1 (ss rfl rfl) <| r0) rfl)
  (fun b2 h => wpC_skip <| kpN [q2 0 cI v0] (by kernel_rfl) <| xn <| wpC_seq <| reg_s <| x_asg (sc cS ([] : List UInt8) rfl) <| sq [q2 0 cI v0, q2 3 cS ([] : List UInt8)] <|
  xn <| wpC_seq <| wpC_kp <| wpC_blk <| lpF (fun (s59 : (Int × (List UInt8))) => [q2 0 cI s59.1, q2 3 cS s59.2]) (v0, ([] : List UInt8)) rfl h
  fun G98 nx96 s59 hn97 h => wpC_kp <| wpC_seq <| wpC_kp <| wpC_seq <| reg_s <| st rfl <| mvd rfl rfl <| st rfl <| b_gtr (k := .i64) rfl rfl <| sq [q2 0 cI s59.1, q2 3 cS s59.2, q2 7 cB (decide ((0 : Int) < s59.1))] <|
  xn <| cnd rfl h (fun b100 h => wpC_skip <| kpN [q2 0 cI s59.1, q2 3 cS s59.2] (by kernel_rfl) <| xn <| wpC_blk <| wpC_seq <| reg_s <| st rfl <| mvd rfl rfl <| ck_k h fun i107 h => st rfl <| b_rem (k := .i64) rfl rfl i107 <| ckI_k h fun i108 h => st rfl <| b_add (k := .i64) rfl rfl i108 <| ckU_k h fun i109 h => st rfl <| o_cvi (k := .i64) (k' := .u8) rfl i109 <| x_bsl cU [((48 : Int) + (s59.1.tmod (10 : Int)))] (t1 (ss rfl rfl) rfl t0) rfl rfl <| ck_k h fun i110 h => st rfl <| o_b2s rfl rfl i110 <| st rfl <| mvd rfl rfl <| lnO_k h fun l112 h => st rfl <| b_cat rfl rfl l112 <| x_asg (ss rfl rfl) <| sq [q2 0 cI s59.1, q2 3 cS ((bytesOf [((48 : Int) + (s59.1.tmod (10 : Int)))]) ++ s59.2)] <|
  xn <| reg_s <| st rfl <| mvd rfl rfl <| ck_k h fun i113 h => ckI_k h fun i114 h => st rfl <| b_quo (k := .i64) rfl rfl i113 i114 <| x_asg (ss rfl rfl) <| sq [q2 0 cI (s59.1.tdiv (10 : Int)), q2 3 cS ((bytesOf [((48 : Int) + (s59.1.tmod (10 : Int)))]) ++ s59.2)] <|
  xbb <| kpN [q2 0 cI (s59.1.tdiv (10 : Int)), q2 3 cS ((bytesOf [((48 : Int) + (s59.1.tmod (10 : Int)))]) ++ s59.2)] (by kernel_rfl) <| xn <| hn97 ((s59.1.tdiv (10 : Int)), ((bytesOf [((48 : Int) + (s59.1.tmod (10 : Int)))]) ++ s59.2)) h)
  (fun b100 h => wpC_exit <| xt <| xt <| xt <| xt <| xb <| kpN [q2 3 cS s59.2] (by kernel_rfl) <| xn <| wpC_seq <| reg_s <| st rfl <| mvd rfl rfl <| lnO_k h fun l116 h => st rfl <| b_cat rfl rfl l116 <| x_asg (ss rfl rfl) <| sq [q2 2 cS (([109] : List UInt8) ++ s59.2)] <|
  xn <| wpC_ret <| re <| fin h (r1 (ss rfl rfl) <| r0) rfl))

def os_laws_markVariableS (r : ((List XVariable) × Int)) : D := cc6.enc r.1
def rs_laws_markVariableS (r : ((List XVariable) × Int)) : List D := [cI.enc r.2]
def m22 : MC := .seq (.reg [q1 4 (.asg (.c (.int .i64 0)))] [0, 1])
 (.seq (.kp [0, 1] (.seq (.reg [q1 5 (.asg (.c (.int .i64 0)))] [0, 1, 5])
 (.blk 0 (.loop (.seq (.kp [0, 1, 5] (.seq (.reg [q1 6 (.mv (.t 5)),q1 7 (.mv (.t 0)),q1 8 (.len false (.t 7)),q1 9 (.bin .lss (.t 6) (.t 8))] [0, 1, 5, 9])
 (.cond (.t 9) (.skip) (.exit 0))))
 (.seq (.kp [0, 1, 5] (.blk 1 (.seq (.reg [q1 12 (.mv (.t 0)),q1 13 (.mv (.t 5)),q1 14 (.mv (.t 1)),q1 15 (.call 70 [(.t 14)]),q1 16 (.ia 12 (.t 13) 2),q1 17 (.fa 16 0 0),q0 (.st 17 (.t 15) 1)] [0, 1, 5])
 (.seq (.reg [q1 18 (.mv (.t 1)),q1 19 (.bin .add (.t 18) (.c (.int .i64 1))),q1 1 (.asg (.t 19))] [0, 1, 5])
 (.seq (.reg [q1 20 (.mv (.t 0)),q1 21 (.mv (.t 5)),q1 22 (.mv (.t 1)),q1 23 (.ia 20 (.t 21) 2),q1 24 (.fa 23 1 1),q0 (.st 24 (.t 22) 1)] [0, 1, 5])
 (.reg [q1 25 (.mv (.t 1)),q1 26 (.bin .add (.t 25) (.c (.int .i64 1))),q1 1 (.asg (.t 26))] [0, 1, 5]))))))
 (.reg [q1 10 (.mv (.t 5)),q1 11 (.bin .add (.t 10) (.c (.int .i64 1))),q1 5 (.asg (.t 11))] [0, 1, 5])))))))
 (.seq (.reg [q1 27 (.mv (.t 1)),q1 4 (.asg (.t 27))] [0, 4])
 (.ret)))
theorem con_laws_markVariableS {v0 : (List XVariable)} {v1 : Int} {r : ((List XVariable) × Int)} (h : sh_laws_markVariableS v0 v1 = some r) : Con Try.prog 22 [cc6.enc v0, cI.enc v1] (outsOf (some (0, os_laws_markVariableS r))) (rs_laws_markVariableS r) := by
 delta sh_laws_markVariableS at h
 refine top (out := some (0, os_laws_markVariableS r)) (f := Try.f22) (m := m22) (rs := [.t 4]) (by kernel_rfl) rfl (by kernel_rfl) (by kernel_rfl) (by kernel_rfl) (by kernel_rfl) (by kernel_rfl) ?_
 exact
  ini [q2 0 cc6 v0, q2 1 cI v1] rfl <| wpC_seq <| reg_s <| x_asg (sc cI (0 : Int) rfl) <| sq [q2 0 cc6 v0, q2 1 cI v1] <|
  xn <| wpC_seq <| wpC_kp <| wpC_seq <| reg_s <| x_asg (sc cI (0 : Int) rfl) <| sq [q2 0 cc6 v0, q2 1 cI v1, q2 5 cI (0 : Int)] <|
  xn <| wpC_blk <| lpF (fun (s144 : ((List XVariable) × Int × Int)) => [q2 0 cc6 s144.1, q2 1 cI s144.2.1, q2 5 cI s144.2.2]) (v0, v1, (0 : Int)) rfl h
  fun G241 nx239 s144 hn240 h => wpC_seq <| wpC_kp <| wpC_seq <| reg_s <| st rfl <| mvd rfl rfl <| st rfl <| mvo rfl rfl <| stw rfl <| leno rfl fun l246 => st rfl <| b_lss (k := .i64) rfl rfl <| sq [q2 0 cc6 s144.1, q2 1 cI s144.2.1, q2 5 cI s144.2.2, q2 9 cB (decide (s144.2.2 < (s144.1.length : Int)))] <|
  xn <| cnd rfl h (fun b247 h => wpC_skip <| kpN [q2 0 cc6 s144.1, q2 1 cI s144.2.1, q2 5 cI s144.2.2] (by kernel_rfl) <| xn <| wpC_seq <| wpC_kp <| wpC_blk <| wpC_seq <| reg_s <| st rfl <| mvo rfl rfl <| st rfl <| mvd rfl rfl <| st rfl <| mvd rfl rfl <| bnd h fun x272 e273 h => st rfl <| o_call (a1 (c := cI) tK rfl a0) (con_laws_markText e273) (.inl (so1 sS so0)) <| getO_k h fun x274 i275 g276 h => st rfl <| iar rfl rfl rfl rfl i275 g276 rfl <| st rfl <| faa rfl rfl (Gt.idx g276 Gt.nil) rfl rfl rfl <| x_sta (cc6.enc (s144.1.set (s144.2.2).toNat (⟨x272, x274.Levels⟩ : XVariable))) (ss rfl rfl) rfl rfl (Ln.idx g276 (Ln.fld rfl rfl Ln.nil rfl)) (Cd.h_sz cS _) rfl <| sq [q2 0 cc6 (s144.1.set (s144.2.2).toNat (⟨x272, x274.Levels⟩ : XVariable)), q2 1 cI s144.2.1, q2 5 cI s144.2.2] <|
  xn <| wpC_seq <| reg_s <| st rfl <| mvd rfl rfl <| ckI_k h fun i278 h => st rfl <| b_add (k := .i64) rfl rfl i278 <| x_asg (ss rfl rfl) <| sq [q2 0 cc6 (s144.1.set (s144.2.2).toNat (⟨x272, x274.Levels⟩ : XVariable)), q2 1 cI (s144.2.1 + (1 : Int)), q2 5 cI s144.2.2] <|
  xn <| wpC_seq <| reg_s <| st rfl <| mvo rfl rfl <| st rfl <| mvd rfl rfl <| st rfl <| mvd rfl rfl <| getO_k h fun x282 i283 g284 h => st rfl <| iar rfl rfl rfl rfl i283 g284 rfl <| st rfl <| faa rfl rfl (Gt.idx g284 Gt.nil) rfl rfl rfl <| x_sta (cc6.enc ((s144.1.set (s144.2.2).toNat (⟨x272, x274.Levels⟩ : XVariable)).set (s144.2.2).toNat (⟨x282.Name, (s144.2.1 + (1 : Int))⟩ : XVariable))) (ss rfl rfl) rfl rfl (Ln.idx g284 (Ln.fld rfl rfl Ln.nil rfl)) (Cd.h_sz cI _) rfl <| sq [q2 0 cc6 ((s144.1.set (s144.2.2).toNat (⟨x272, x274.Levels⟩ : XVariable)).set (s144.2.2).toNat (⟨x282.Name, (s144.2.1 + (1 : Int))⟩ : XVariable)), q2 1 cI (s144.2.1 + (1 : Int)), q2 5 cI s144.2.2] <|
  xn <| reg_s <| st rfl <| mvd rfl rfl <| ckI_k h fun i285 h => st rfl <| b_add (k := .i64) rfl rfl i285 <| x_asg (ss rfl rfl) <| sq [q2 0 cc6 ((s144.1.set (s144.2.2).toNat (⟨x272, x274.Levels⟩ : XVariable)).set (s144.2.2).toNat (⟨x282.Name, (s144.2.1 + (1 : Int))⟩ : XVariable)), q2 1 cI ((s144.2.1 + (1 : Int)) + (1 : Int)), q2 5 cI s144.2.2] <|
  xbb <| kpN [q2 0 cc6 ((s144.1.set (s144.2.2).toNat (⟨x272, x274.Levels⟩ : XVariable)).set (s144.2.2).toNat (⟨x282.Name, (s144.2.1 + (1 : Int))⟩ : XVariable)), q2 1 cI ((s144.2.1 + (1 : Int)) + (1 : Int)), q2 5 cI s144.2.2] (by kernel_rfl) <| xn <| reg_s <| st rfl <| mvd rfl rfl <| ckI_k h fun i286 h => st rfl <| b_add (k := .i64) rfl rfl i286 <| x_asg (ss rfl rfl) <| sq [q2 0 cc6 ((s144.1.set (s144.2.2).toNat (⟨x272, x274.Levels⟩ : XVariable)).set (s144.2.2).toNat (⟨x282.Name, (s144.2.1 + (1 : Int))⟩ : XVariable)), q2 1 cI ((s144.2.1 + (1 : Int)) + (1 : Int)), q2 5 cI (s144.2.2 + (1 : Int))] <|
  xn <| hn240 (((s144.1.set (s144.2.2).toNat (⟨x272, x274.Levels⟩ : XVariable)).set (s144.2.2).toNat (⟨x282.Name, (s144.2.1 + (1 : Int))⟩ : XVariable)), ((s144.2.1 + (1 : Int)) + (1 : Int)), (s144.2.2 + (1 : Int))) h)
  (fun b247 h => wpC_exit <| xt <| xt <| xt <| xb <| kpN [q2 0 cc6 s144.1, q2 1 cI s144.2.1] (by kernel_rfl) <| xn <| wpC_seq <| reg_s <| st rfl <| mvd rfl rfl <| x_asg (ss rfl rfl) <| sq [q2 0 cc6 s144.1, q2 4 cI s144.2.1] <|
  xn <| wpC_ret <| re <| finO h (r1 (ss rfl rfl) <| r0) rfl rfl)

def os_laws_markEditS (r : ((List XEdit) × Int)) : D := cc7.enc r.1
def rs_laws_markEditS (r : ((List XEdit) × Int)) : List D := [cI.enc r.2]
def m23 : MC := .seq (.reg [q1 4 (.asg (.c (.int .i64 0)))] [0, 1])
 (.seq (.kp [0, 1] (.seq (.reg [q1 5 (.asg (.c (.int .i64 0)))] [0, 1, 5])
 (.blk 0 (.loop (.seq (.kp [0, 1, 5] (.seq (.reg [q1 6 (.mv (.t 5)),q1 7 (.mv (.t 0)),q1 8 (.len false (.t 7)),q1 9 (.bin .lss (.t 6) (.t 8))] [0, 1, 5, 9])
 (.cond (.t 9) (.skip) (.exit 0))))
 (.seq (.kp [0, 1, 5] (.blk 1 (.reg [q1 12 (.mv (.t 0)),q1 13 (.mv (.t 5)),q1 14 (.ia 12 (.t 13) 1),q1 15 (.fa 14 0 0),q1 16 (.ld 15 1 false),q1 17 (.mv (.t 1)),q1 18 (.callO 24 [(.t 16), (.t 17)]),q1 1 (.asg (.t 18))] [0, 1, 5])))
 (.reg [q1 10 (.mv (.t 5)),q1 11 (.bin .add (.t 10) (.c (.int .i64 1))),q1 5 (.asg (.t 11))] [0, 1, 5])))))))
 (.seq (.reg [q1 19 (.mv (.t 1)),q1 4 (.asg (.t 19))] [0, 4])
 (.ret)))
theorem con_laws_markEditS {v0 : (List XEdit)} {v1 : Int} {r : ((List XEdit) × Int)} (h : sh_laws_markEditS v0 v1 = some r) : Con Try.prog 23 [cc7.enc v0, cI.enc v1] (outsOf (some (0, os_laws_markEditS r))) (rs_laws_markEditS r) := by
 delta sh_laws_markEditS at h
 refine top (out := some (0, os_laws_markEditS r)) (f := Try.f23) (m := m23) (rs := [.t 4]) (by kernel_rfl) rfl (by kernel_rfl) (by kernel_rfl) (by kernel_rfl) (by kernel_rfl) (by kernel_rfl) ?_
 exact
  ini [q2 0 cc7 v0, q2 1 cI v1] rfl <| wpC_seq <| reg_s <| x_asg (sc cI (0 : Int) rfl) <| sq [q2 0 cc7 v0, q2 1 cI v1] <|
  xn <| wpC_seq <| wpC_kp <| wpC_seq <| reg_s <| x_asg (sc cI (0 : Int) rfl) <| sq [q2 0 cc7 v0, q2 1 cI v1, q2 5 cI (0 : Int)] <|
  xn <| wpC_blk <| lpF (fun (s60 : ((List XEdit) × Int × Int)) => [q2 0 cc7 s60.1, q2 1 cI s60.2.1, q2 5 cI s60.2.2]) (v0, v1, (0 : Int)) rfl h
  fun G101 nx99 s60 hn100 h => wpC_seq <| wpC_kp <| wpC_seq <| reg_s <| st rfl <| mvd rfl rfl <| st rfl <| mvo rfl rfl <| stw rfl <| leno rfl fun l106 => st rfl <| b_lss (k := .i64) rfl rfl <| sq [q2 0 cc7 s60.1, q2 1 cI s60.2.1, q2 5 cI s60.2.2, q2 9 cB (decide (s60.2.2 < (s60.1.length : Int)))] <|
  xn <| cnd rfl h (fun b107 h => wpC_skip <| kpN [q2 0 cc7 s60.1, q2 1 cI s60.2.1, q2 5 cI s60.2.2] (by kernel_rfl) <| xn <| wpC_seq <| wpC_kp <| wpC_blk <| reg_s <| st rfl <| mvo rfl rfl <| st rfl <| mvd rfl rfl <| getO_k h fun x113 i114 g115 h => st rfl <| iar rfl rfl rfl rfl i114 g115 rfl <| st rfl <| faa rfl rfl (Gt.idx g115 Gt.nil) rfl rfl rfl <| st rfl <| ldao rfl rfl (Gt.idx g115 (Gt.fld rfl rfl Gt.nil)) rfl rfl rfl <| st rfl <| mvd rfl rfl <| bnd h fun x116 e117 h => x_clr (c := cc12) (c' := cc12) (cc7.enc (s60.1.set (s60.2.2).toNat (⟨x116.1⟩ : XEdit))) (sLo sK) rfl (a1 (c := cI) tK rfl a0) rfl (Ln.idx g115 (Ln.fld rfl rfl Ln.nil rfl)) (con_laws_markIntS e117) rfl rfl (so1 sK so0) <| x_asg (ss rfl rfl) <| sq [q2 0 cc7 (s60.1.set (s60.2.2).toNat (⟨x116.1⟩ : XEdit)), q2 1 cI x116.2, q2 5 cI s60.2.2] <|
  xbb <| kpN [q2 0 cc7 (s60.1.set (s60.2.2).toNat (⟨x116.1⟩ : XEdit)), q2 1 cI x116.2, q2 5 cI s60.2.2] (by kernel_rfl) <| xn <| reg_s <| st rfl <| mvd rfl rfl <| ckI_k h fun i118 h => st rfl <| b_add (k := .i64) rfl rfl i118 <| x_asg (ss rfl rfl) <| sq [q2 0 cc7 (s60.1.set (s60.2.2).toNat (⟨x116.1⟩ : XEdit)), q2 1 cI x116.2, q2 5 cI (s60.2.2 + (1 : Int))] <|
  xn <| hn100 ((s60.1.set (s60.2.2).toNat (⟨x116.1⟩ : XEdit)), x116.2, (s60.2.2 + (1 : Int))) h)
  (fun b107 h => wpC_exit <| xt <| xt <| xt <| xb <| kpN [q2 0 cc7 s60.1, q2 1 cI s60.2.1] (by kernel_rfl) <| xn <| wpC_seq <| reg_s <| st rfl <| mvd rfl rfl <| x_asg (ss rfl rfl) <| sq [q2 0 cc7 s60.1, q2 4 cI s60.2.1] <|
  xn <| wpC_ret <| re <| finO h (r1 (ss rfl rfl) <| r0) rfl rfl)

def rs_spec_l1Own (r : (List Int)) : List D := [cc12.enc r]
def m90 : MC := .seq (.reg [q1 2 (.asg (.c (.slice true [])))] [0])
 (.seq (.reg [q1 3 (.bsl [] 1),q1 4 (.mv (.t 0)),q1 5 (.app (.t 3) (.t 4) 1),q1 2 (.asg (.t 5))] [2])
 (.ret))
theorem con_spec_l1Own {v0 : (List Int)} {r : (List Int)} (h : sh_spec_l1Own v0 = some r) : Con Try.prog 90 [cc11.enc v0] [] (rs_spec_l1Own r) := by
 delta sh_spec_l1Own at h
 refine top (out := none) (f := Try.f90) (m := m90) (rs := [.t 2]) (by kernel_rfl) rfl (by kernel_rfl) (by kernel_rfl) (by kernel_rfl) (by kernel_rfl) (by kernel_rfl) ?_
 exact
  ini [q2 0 cc11 v0] rfl <| wpC_seq <| reg_s <| x_asg (sc cc12 ([] : List Int) rfl) <| sq [q2 0 cc11 v0] <|
  xn <| wpC_seq <| reg_s <| x_bsl cI ([] : List Int) t0 rfl rfl <| st rfl <| mvd rfl rfl <| lnO_k h fun l2 h => x_app (so rfl rfl) (ts rfl) l2 rfl <| x_asg (so rfl rfl) <| sq [q2 2 cc12 (([] : List Int) ++ v0)] <|
  xn <| wpC_ret <| re <| fin h (r1 (so rfl rfl) <| r0) rfl

def rs_slices_Index_int (r : Int) : List D := [cI.enc r]
def m164 : MC := .seq (.reg [q1 4 (.asg (.c (.int .i64 0)))] [0, 1])
 (.seq (.kp [] (.seq (.reg [q1 6 (.mv (.t 0)),q1 7 (.len false (.t 6)),q1 8 (.mv (.c (.int .i64 0)))] [0, 1, 7, 8])
 (.blk 0 (.loop (.seq (.reg [q1 9 (.bin .lss (.t 8) (.t 7))] [0, 1, 7, 8, 9])
 (.seq (.kp [0, 1, 7, 8] (.cond (.t 9) (.skip) (.exit 0)))
 (.seq (.kp [0, 1, 7, 8] (.blk 1 (.seq (.reg [q1 10 (.mv (.t 8)),q1 5 (.asg (.t 10))] [0, 1, 5, 7, 8])
 (.seq (.reg [q1 11 (.mv (.t 1)),q1 12 (.mv (.t 0)),q1 13 (.mv (.t 5)),q1 14 (.ia 12 (.t 13) 1),q1 15 (.ld 14 1 false),q1 16 (.bin .eql (.t 11) (.t 15))] [0, 1, 5, 7, 8, 16])
 (.cond (.t 16) (.seq (.reg [q1 17 (.mv (.t 5)),q1 4 (.asg (.t 17))] [4])
 (.ret)) (.skip))))))
 (.reg [q1 18 (.bin .add (.t 8) (.c (.int .i64 1))),q1 8 (.mv (.t 18))] [0, 1, 7, 8]))))))))
 (.seq (.reg [q1 4 (.asg (.c (.int .i64 (-1))))] [4])
 (.ret)))
theorem con_slices_Index_int {v0 : (List Int)} {v1 : Int} {r : Int} (h : sh_slices_Index_int v0 v1 = some r) : Con Try.prog 164 [cc11.enc v0, cI.enc v1] [] (rs_slices_Index_int r) := by
 delta sh_slices_Index_int at h
 refine top (out := none) (f := Try.f164) (m := m164) (rs := [.t 4]) (by kernel_rfl) rfl (by kernel_rfl) (by kernel_rfl) (by kernel_rfl) (by kernel_rfl) (by kernel_rfl) ?_
 exact
  ini [q2 0 cc11 v0, q2 1 cI v1] rfl <| wpC_seq <| reg_s <| x_asg (sc cI (0 : Int) rfl) <| sq [q2 0 cc11 v0, q2 1 cI v1] <|
  xn <| wpC_seq <| wpC_kp <| wpC_seq <| reg_s <| st rfl <| mvd rfl rfl <| stw rfl <| lens rfl fun l16 => st rfl <| mvc cI (0 : Int) rfl <| sq [q2 0 cc11 v0, q2 1 cI v1, q2 7 cI (v0.length : Int), q2 8 cI (0 : Int)] <|
  xn <| wpC_blk <| lpR (fun (k18 : Nat) (s17 : Unit) => [q2 0 cc11 v0, q2 1 cI v1, q2 7 cI (v0.length : Int), q2 8 cI (k18 : Int)]) () rfl h
  (fun G26 s17 h => wpC_seq <| reg_s <| st rfl <| b_lss (k := .i64) rfl rfl <| sq [q2 0 cc11 v0, q2 1 cI v1, q2 7 cI (v0.length : Int), q2 8 cI (v0.length : Int), q2 9 cB (decide ((v0.length : Int) < (v0.length : Int)))] <|
  xn <| wpC_seq <| wpC_kp <| cnd0 rfl (dlf _) <| wpC_exit <| xt <| xt <| xt <| xb <| kpN [] (by kernel_rfl) <| xn <| wpC_seq <| reg_s <| x_asg (sc cI (-1 : Int) rfl) <| sq [q2 4 cI (-1 : Int)] <|
  xn <| wpC_ret <| re <| fin h (r1 (ss rfl rfl) <| r0) rfl)
  (fun G26 nx24 k18 s17 x19 hk20 hx21 hn25 h => wpC_seq <| reg_s <| st rfl <| b_lss (k := .i64) rfl rfl <| sq [q2 0 cc11 v0, q2 1 cI v1, q2 7 cI (v0.length : Int), q2 8 cI (k18 : Int), q2 9 cB (decide ((k18 : Int) < (v0.length : Int)))] <|
  xn <| wpC_seq <| wpC_kp <| cnd1 rfl (dlt hk20) <| wpC_skip <| kpN [q2 0 cc11 v0, q2 1 cI v1, q2 7 cI (v0.length : Int), q2 8 cI (k18 : Int)] (by kernel_rfl) <| xn <| wpC_seq <| wpC_kp <| wpC_blk <| wpC_seq <| reg_s <| st rfl <| mvd rfl rfl <| x_asg (ss rfl rfl) <| sq [q2 0 cc11 v0, q2 1 cI v1, q2 5 cI (k18 : Int), q2 7 cI (v0.length : Int), q2 8 cI (k18 : Int)] <|
  xn <| wpC_seq <| reg_s <| st rfl <| mvd rfl rfl <| st rfl <| mvd rfl rfl <| st rfl <| mvd rfl rfl <| st rfl <| ias rfl rfl (Int.natCast_nonneg _) hx21 rfl <| st rfl <| ldi rfl rfl rfl rfl <| st rfl <| b_eql (k := .i64) rfl rfl <| sq [q2 0 cc11 v0, q2 1 cI v1, q2 5 cI (k18 : Int), q2 7 cI (v0.length : Int), q2 8 cI (k18 : Int), q2 16 cB (decide (v1 = x19))] <|
  xn <| cnd rfl h (fun b28 h => wpC_seq <| reg_s <| st rfl <| mvd rfl rfl <| x_asg (ss rfl rfl) <| sq [q2 4 cI (k18 : Int)] <|
  xn <| wpC_ret <| rb <| rt <| rt <| rt <| rb <| rt <| rt <| re <| fin h (r1 (ss rfl rfl) <| r0) rfl)
  (fun b28 h => wpC_skip <| xbb <| kpN [q2 0 cc11 v0, q2 1 cI v1, q2 7 cI (v0.length : Int), q2 8 cI (k18 : Int)] (by kernel_rfl) <| xn <| reg_s <| st rfl <| b_inc rfl rfl l16 hk20 <| st rfl <| mvd rfl rfl <| sq [q2 0 cc11 v0, q2 1 cI v1, q2 7 cI (v0.length : Int), q2 8 cI ((k18 + 1 : Nat) : Int)] <|
  xn <| hn25 () h))

def rs_slices_Contains_int (r : Bool) : List D := [cB.enc r]
def m143 : MC := .seq (.reg [q1 4 (.asg (.c (.bool false)))] [0, 1])
 (.seq (.reg [q1 5 (.mv (.t 0)),q1 6 (.mv (.t 1)),q1 7 (.call 164 [(.t 5), (.t 6)]),q1 8 (.bin .geq (.t 7) (.c (.int .i64 0))),q1 4 (.asg (.t 8))] [4])
 (.ret))
theorem con_slices_Contains_int {v0 : (List Int)} {v1 : Int} {r : Bool} (h : sh_slices_Contains_int v0 v1 = some r) : Con Try.prog 143 [cc11.enc v0, cI.enc v1] [] (rs_slices_Contains_int r) := by
 delta sh_slices_Contains_int at h
 refine top (out := none) (f := Try.f143) (m := m143) (rs := [.t 4]) (by kernel_rfl) rfl (by kernel_rfl) (by kernel_rfl) (by kernel_rfl) (by kernel_rfl) (by kernel_rfl) ?_
 exact
  ini [q2 0 cc11 v0, q2 1 cI v1] rfl <| wpC_seq <| reg_s <| x_asg (sc cB false rfl) <| sq [q2 0 cc11 v0, q2 1 cI v1] <|
  xn <| wpC_seq <| reg_s <| st rfl <| mvd rfl rfl <| st rfl <| mvd rfl rfl <| bnd h fun x3 e4 h => st rfl <| o_call (a1 (c := cc11) (tLs tK) rfl (a1 (c := cI) tK rfl a0)) (con_slices_Index_int e4) (.inl (so1 sK so0)) <| st rfl <| b_geq (k := .i64) rfl rfl <| x_asg (ss rfl rfl) <| sq [q2 4 cB (decide ((0 : Int) ≤ x3))] <|
  xn <| wpC_ret <| re <| fin h (r1 (ss rfl rfl) <| r0) rfl

def rs_slices_Clone_int (r : (List Int)) : List D := [cc12.enc r]
def m92 : MC := .seq (.reg [q1 2 (.asg (.c (.slice true [])))] [0])
 (.seq (.kp [0] (.seq (.reg [q1 3 (.mv (.t 0)),q1 4 (.eqn false (.t 3))] [0, 4])
 (.cond (.t 4) (.seq (.reg [q1 2 (.asg (.c (.slice true [])))] [2])
 (.ret)) (.skip))))
 (.seq (.reg [q1 5 (.bsl [] 1),q1 6 (.mv (.t 0)),q1 7 (.app (.t 5) (.t 6) 1),q1 2 (.asg (.t 7))] [2])
 (.ret)))
theorem con_slices_Clone_int {v0 : (List Int)} {r : (List Int)} (h : sh_slices_Clone_int v0 = some r) : Con Try.prog 92 [cc11.enc v0] [] (rs_slices_Clone_int r) := by
 delta sh_slices_Clone_int at h
 refine top (out := none) (f := Try.f92) (m := m92) (rs := [.t 2]) (by kernel_rfl) rfl (by kernel_rfl) (by kernel_rfl) (by kernel_rfl) (by kernel_rfl) (by kernel_rfl) ?_
 exact
  ini [q2 0 cc11 v0] rfl <| wpC_seq <| reg_s <| x_asg (sc cc12 ([] : List Int) rfl) <| sq [q2 0 cc11 v0] <|
  xn <| wpC_seq <| wpC_kp <| wpC_seq <| reg_s <| st rfl <| mvd rfl rfl <| nilO_k h fun u12 w13 => stw rfl <| eqs rfl u12 w13 fun b11 h => sq [q2 0 cc11 v0, q2 4 cB b11] <|
  xn <| cnd rfl h (fun b14 h => wpC_seq <| reg_s <| x_asg (sc cc12 ([] : List Int) rfl) <| sq [q2 2 cc12 ([] : List Int)] <|
  xn <| wpC_ret <| rt <| rt <| re <| fin h (r1 (so rfl rfl) <| r0) rfl)
  (fun b14 h => wpC_skip <| kpN [q2 0 cc11 v0] (by kernel_rfl) <| xn <| wpC_seq <| reg_s <| x_bsl cI ([] : List Int) t0 rfl rfl <| st rfl <| mvd rfl rfl <| lnO_k h fun l16 h => x_app (so rfl rfl) (ts rfl) l16 rfl <| x_asg (so rfl rfl) <| sq [q2 2 cc12 (([] : List Int) ++ v0)] <|
  xn <| wpC_ret <| re <| fin h (r1 (so rfl rfl) <| r0) rfl)

def rs_spec_eSmall (r : Bool) : List D := [cB.enc r]
def m96 : MC := .seq (.reg [q1 4 (.asg (.c (.bool false)))] [0, 1])
 (.seq (.reg [q1 5 (.mv (.t 0)),q1 6 (.mv (.t 1)),q1 7 (.call 58 [(.t 5), (.t 6)]),q1 8 (.mv (.t 7)),
  ⟨some 9, .mv (.t 0), some (8, true)⟩,
  ⟨some 10, .call 59 [(.t 9)], some (8, true)⟩,
  ⟨some 11, .bin .leq (.t 10) (.c (.int .i64 100)), some (8, true)⟩,q1 12 (.pick (.t 8) (.t 11) (.c (.bool false))),q1 4 (.asg (.t 12))] [4])
 (.ret))
theorem con_spec_eSmall {v0 : (List XVariable)} {v1 : (List XEdit)} {r : Bool} (h : sh_spec_eSmall v0 v1 = some r) : Con Try.prog 96 [cc4.enc v0, cc1.enc v1] [] (rs_spec_eSmall r) := by
 delta sh_spec_eSmall at h
 refine top (out := none) (f := Try.f96) (m := m96) (rs := [.t 4]) (by kernel_rfl) rfl (by kernel_rfl) (by kernel_rfl) (by kernel_rfl) (by kernel_rfl) (by kernel_rfl) ?_
 exact
  ini [q2 0 cc4 v0, q2 1 cc1 v1] rfl <| wpC_seq <| reg_s <| x_asg (sc cB false rfl) <| sq [q2 0 cc4 v0, q2 1 cc1 v1] <|
  xn <| wpC_seq <| reg_s <| st rfl <| mvd rfl rfl <| st rfl <| mvd rfl rfl <| bnd h fun x6 e7 h => st rfl <| o_call (a1 (c := cc4) (tLs (tXVariable tS tK)) rfl (a1 (c := cc1) (tLs (tXEdit (tLs tK))) rfl a0)) (con_spec_eList e7) (.inl (so1 sB so0)) <| st rfl <| mvd rfl rfl <| ite_k h (fun b8 h => gt' rfl b8 <| st rfl <| mvd rfl rfl <| gt' rfl b8 <| bnd h fun x9 e10 h => st rfl <| o_call (a1 (c := cc4) (tLs (tXVariable tS tK)) rfl a0) (con_spec_sCount e10) (.inl (so1 sK so0)) <| gt' rfl b8 <| st rfl <| b_leq (k := .i64) rfl rfl <| st rfl <| pick1 rfl b8 (cd := cB) (v := (decide (x9 ≤ (100 : Int)))) rfl rfl <| x_asg (ss rfl rfl) <| sq [q2 4 cB (decide (x9 ≤ (100 : Int)))] <|
  xn <| wpC_ret <| re <| fin h (r1 (ss rfl rfl) <| r0) rfl)
  (fun b8 h => gf rfl b8 <| gf rfl b8 <| gf rfl b8 <| st rfl <| pick0 rfl b8 (cd := cB) (v := false) rfl rfl <| x_asg (ss rfl rfl) <| sq [q2 4 cB false] <|
  xn <| wpC_ret <| re <| fin h (r1 (ss rfl rfl) <| r0) rfl)

def rs_spec_sFits (r : Bool) : List D := [cB.enc r]
def m89 : MC := .seq (.reg [q1 4 (.asg (.c (.bool false)))] [0, 1])
 (.seq (.kp [0, 1] (.seq (.reg [q1 7 (.mv (.t 1)),q1 8 (.len false (.t 7)),q1 9 (.mv (.t 0)),q1 10 (.len false (.t 9)),q1 11 (.bin .neq (.t 8) (.t 10))] [0, 1, 11])
 (.cond (.t 11) (.seq (.reg [q1 4 (.asg (.c (.bool false)))] [4])
 (.ret)) (.skip))))
 (.seq (.kp [] (.seq (.reg [q1 12 (.mv (.t 0)),q1 13 (.len false (.t 12)),q1 14 (.mv (.c (.int .i64 0)))] [0, 1, 12, 13, 14])
 (.blk 0 (.loop (.seq (.reg [q1 15 (.bin .lss (.t 14) (.t 13))] [0, 1, 12, 13, 14, 15])
 (.seq (.kp [0, 1, 12, 13, 14] (.cond (.t 15) (.skip) (.exit 0)))
 (.seq (.kp [0, 1, 12, 13, 14] (.blk 1 (.seq (.reg [q1 16 (.mv (.t 14)),q1 17 (.ia 12 (.t 14) 2),q1 18 (.ld 17 2 true),q1 6 (.alloc (.agg [.str [], .int .i64 0])),q1 5 (.asg (.t 16)),q0 (.st 6 (.t 18) 2)] [0, 1, 5, 6, 12, 13, 14])
 (.seq (.drw [⟨0, q1 19 (.mv (.t 1)), [20, 21, 22, 23, 24, 25, 26, 27]⟩,
  ⟨1, q1 20 (.mv (.t 5)), [19, 21, 22, 23, 24, 25, 26, 27]⟩,
  ⟨2, q1 21 (.ia 19 (.t 20) 1), [22, 23, 24, 25, 26, 27]⟩,
  ⟨3, q1 22 (.ld 21 1 false), [23, 24, 25, 26, 27]⟩,
  ⟨4, q1 23 (.fa 6 1 1), [19, 20, 21, 22, 24, 25, 26, 27]⟩,
  ⟨5, q1 24 (.ld 23 1 false), [19, 20, 21, 22, 25, 26, 27]⟩,
  ⟨6, q1 25 (.bin .sub (.t 24) (.c (.int .i64 1))), [19, 20, 21, 22, 26, 27]⟩,
  ⟨7, q1 26 (.call 111 [(.t 22), (.c (.int .i64 0)), (.t 25)]), [27]⟩,
  ⟨8, q1 27 (.nt (.t 26)), []⟩]
  [] [0, 1, 12, 13, 14, 27])
 (.cond (.t 27) (.seq (.reg [q1 4 (.asg (.c (.bool false)))] [4])
 (.ret)) (.skip))))))
 (.reg [q1 28 (.bin .add (.t 14) (.c (.int .i64 1))),q1 14 (.mv (.t 28))] [0, 1, 12, 13, 14]))))))))
 (.seq (.reg [q1 4 (.asg (.c (.bool true)))] [4])
 (.ret))))
theorem con_spec_sFits {v0 : (List XVariable)} {v1 : (List Int)} {r : Bool} (h : sh_spec_sFits v0 v1 = some r) : Con Try.prog 89 [cc4.enc v0, cc11.enc v1] [] (rs_spec_sFits r) := by
 delta sh_spec_sFits at h
 refine top (out := none) (f := Try.f89) (m := m89) (rs := [.t 4]) (by kernel_rfl) rfl (by kernel_rfl) (by kernel_rfl) (by kernel_rfl) (by kernel_rfl) (by kernel_rfl) ?_
 exact
  ini [q2 0 cc4 v0, q2 1 cc11 v1] rfl <| wpC_seq <| reg_s <| x_asg (sc cB false rfl) <| sq [q2 0 cc4 v0, q2 1 cc11 v1] <|
  xn <| wpC_seq <| wpC_kp <| wpC_seq <| reg_s <| st rfl <| mvd rfl rfl <| stw rfl <| lens rfl fun l8 => st rfl <| mvd rfl rfl <| stw rfl <| lens rfl fun l9 => st rfl <| b_neq (k := .i64) rfl rfl <| sq [q2 0 cc4 v0, q2 1 cc11 v1, q2 11 cB (decide ((v1.length : Int) ≠ (v0.length : Int)))] <|
  xn <| cnd rfl h (fun b10 h => wpC_seq <| reg_s <| x_asg (sc cB false rfl) <| sq [q2 4 cB false] <|
  xn <| wpC_ret <| rt <| rt <| re <| fin h (r1 (ss rfl rfl) <| r0) rfl)
  (fun b10 h => wpC_skip <| kpN [q2 0 cc4 v0, q2 1 cc11 v1] (by kernel_rfl) <| xn <| wpC_seq <| wpC_kp <| wpC_seq <| reg_s <| st rfl <| mvd rfl rfl <| stw rfl <| lens rfl fun l74 => st rfl <| mvc cI (0 : Int) rfl <| sq [q2 0 cc4 v0, q2 1 cc11 v1, q2 12 cc4 v0, q2 13 cI (v0.length : Int), q2 14 cI (0 : Int)] <|
  xn <| wpC_blk <| lpR (fun (k76 : Nat) (s75 : Unit) => [q2 0 cc4 v0, q2 1 cc11 v1, q2 12 cc4 v0, q2 13 cI (v0.length : Int), q2 14 cI (k76 : Int)]) () rfl h
  (fun G108 s75 h => wpC_seq <| reg_s <| st rfl <| b_lss (k := .i64) rfl rfl <| sq [q2 0 cc4 v0, q2 1 cc11 v1, q2 12 cc4 v0, q2 13 cI (v0.length : Int), q2 14 cI (v0.length : Int), q2 15 cB (decide ((v0.length : Int) < (v0.length : Int)))] <|
  xn <| wpC_seq <| wpC_kp <| cnd0 rfl (dlf _) <| wpC_exit <| xt <| xt <| xt <| xb <| kpN [] (by kernel_rfl) <| xn <| wpC_seq <| reg_s <| x_asg (sc cB true rfl) <| sq [q2 4 cB true] <|
  xn <| wpC_ret <| re <| fin h (r1 (ss rfl rfl) <| r0) rfl)
  (fun G108 nx106 k76 s75 x77 hk78 hx79 hn107 h => wpC_seq <| reg_s <| st rfl <| b_lss (k := .i64) rfl rfl <| sq [q2 0 cc4 v0, q2 1 cc11 v1, q2 12 cc4 v0, q2 13 cI (v0.length : Int), q2 14 cI (k76 : Int), q2 15 cB (decide ((k76 : Int) < (v0.length : Int)))] <|
  xn <| wpC_seq <| wpC_kp <| cnd1 rfl (dlt hk78) <| wpC_skip <| kpN [q2 0 cc4 v0, q2 1 cc11 v1, q2 12 cc4 v0, q2 13 cI (v0.length : Int), q2 14 cI (k76 : Int)] (by kernel_rfl) <| xn <| wpC_seq <| wpC_kp <| wpC_blk <| wpC_seq <| reg_s <| st rfl <| mvd rfl rfl <| st rfl <| ias rfl rfl (Int.natCast_nonneg _) hx79 rfl <| st rfl <| ldi rfl rfl rfl rfl <| x_all cc9 (⟨([] : List UInt8), (0 : Int)⟩ : XVariable) rfl <| x_asg (ss rfl rfl) <| x_stb (ss rfl rfl) rfl (Cd.h_sz _ _) rfl <| sq [q2 0 cc4 v0, q2 1 cc11 v1, q2 5 cI (k76 : Int), q3 6 cc9 x77, q2 12 cc4 v0, q2 13 cI (v0.length : Int), q2 14 cI (k76 : Int)] <|
  xn <| wpC_seq <| drw_s <| pst rfl <| mvd rfl rfl ⟨rfl, pst rfl <| mvd rfl rfl ⟨rfl, getO_kp h fun x128 i129 g130 h => pst rfl <| ias rfl rfl i129 g130 rfl ⟨rfl, pst rfl <| ldi rfl rfl rfl rfl ⟨rfl, pst rfl <| fab rfl rfl rfl rfl ⟨rfl, pst rfl <| lda rfl rfl rfl rfl rfl rfl ⟨rfl, ckI_kp h fun i131 h => pst rfl <| b_sub (k := .i64) rfl rfl i131 ⟨rfl, bndp h fun x132 e133 h => pst rfl <| o_call (a1 (c := cI) tK rfl (a1 (c := cI) tK rfl (a1 (c := cI) tK rfl a0))) (con_spec_l1In e133) (.inl (so1 sB so0)) ⟨rfl, pst rfl <| o_nt rfl ⟨rfl, preN <| sq [q2 0 cc4 v0, q2 1 cc11 v1, q2 12 cc4 v0, q2 13 cI (v0.length : Int), q2 14 cI (k76 : Int), q2 27 cB (!x132)] <|
  xn <| cnd rfl h (fun b134 h => wpC_seq <| reg_s <| x_asg (sc cB false rfl) <| sq [q2 4 cB false] <|
  xn <| wpC_ret <| rb <| rt <| rt <| rt <| rb <| rt <| rt <| re <| fin h (r1 (ss rfl rfl) <| r0) rfl)
  (fun b134 h => wpC_skip <| xbb <| kpN [q2 0 cc4 v0, q2 1 cc11 v1, q2 12 cc4 v0, q2 13 cI (v0.length : Int), q2 14 cI (k76 : Int)] (by kernel_rfl) <| xn <| reg_s <| st rfl <| b_inc rfl rfl l74 hk78 <| st rfl <| mvd rfl rfl <| sq [q2 0 cc4 v0, q2 1 cc11 v1, q2 12 cc4 v0, q2 13 cI (v0.length : Int), q2 14 cI ((k76 + 1 : Nat) : Int)] <|
  xn <| hn107 () h)⟩⟩⟩⟩⟩⟩⟩⟩⟩))

def rs_spec_eComplete (r : ((List Int) × Bool)) : List D := [cc12.enc r.1, cB.enc r.2]
def m72 : MC := .seq (.reg [q1 8 (.asg (.c (.slice true []))),q1 9 (.asg (.c (.bool false)))] [0, 1, 2, 3])
 (.seq (.kp [] (.seq (.reg [q1 10 (.asg (.c (.int .i64 0)))] [0, 1, 2, 3, 10])
 (.blk 0 (.loop (.seq (.kp [0, 1, 2, 3, 10] (.seq (.reg [q1 15 (.mv (.t 10)),q1 16 (.mv (.t 0)),q1 17 (.call 59 [(.t 16)]),q1 18 (.bin .lss (.t 15) (.t 17))] [0, 1, 2, 3, 10, 18])
 (.cond (.t 18) (.skip) (.exit 0))))
 (.seq (.kp [0, 1, 2, 3, 10] (.blk 1 (.seq (.reg [q1 21 (.mv (.t 0)),q1 22 (.mv (.t 10)),q1 23 (.call 125 [(.t 21), (.t 22)]),q1 11 (.asg (.t 23))] [0, 1, 2, 3, 10, 11])
 (.seq (.reg [q1 24 (.mv (.t 1)),q1 25 (.mv (.t 11)),q1 26 (.call 91 [(.t 24), (.t 25)]),q1 27 (.len false (.t 26)),q1 28 (.bin .eql (.t 27) (.c (.int .i64 0))),q1 12 (.asg (.t 28))] [0, 1, 2, 3, 10, 11, 12])
 (.seq (.kp [0, 1, 2, 3, 10, 11, 12] (.seq (.reg [q1 29 (.mv (.t 2)),q1 30 (.len false (.t 29)),q1 31 (.mv (.c (.int .i64 0)))] [0, 1, 2, 3, 10, 11, 12, 29, 30, 31])
 (.blk 2 (.loop (.seq (.reg [q1 32 (.bin .lss (.t 31) (.t 30))] [0, 1, 2, 3, 10, 11, 12, 29, 30, 31, 32])
 (.seq (.kp [0, 1, 2, 3, 10, 11, 12, 29, 30, 31] (.cond (.t 32) (.skip) (.exit 2)))
 (.seq (.kp [0, 1, 2, 3, 10, 11, 12, 29, 30, 31] (.blk 3 (.seq (.reg [q1 33 (.ia 29 (.t 31) 1),q1 34 (.ld 33 1 false),q1 14 (.asg (.t 34))] [0, 1, 2, 3, 10, 11, 12, 14, 29, 30, 31])
 (.drw [⟨0, q1 35 (.mv (.t 12)), [36, 37, 38, 39, 40, 41, 42, 43, 44, 45, 46]⟩,
  ⟨1, q1 36 (.mv (.t 35)), [37, 38, 39, 40, 41, 42, 43, 44, 45, 46]⟩,
  ⟨2, ⟨some 37, .mv (.t 11), some (36, true)⟩, [38, 39, 40, 41, 42, 43, 44, 45, 46]⟩,
  ⟨3, ⟨some 38, .mv (.t 14), some (36, true)⟩, [37, 39, 40, 41, 42, 43, 44, 45, 46]⟩,
  ⟨4, ⟨some 39, .ia 37 (.t 38) 1, some (36, true)⟩, [40, 41, 42, 43, 44, 45, 46]⟩,
  ⟨5, ⟨some 40, .ld 39 1 false, some (36, true)⟩, [41, 42, 43, 44, 45, 46]⟩,
  ⟨6, ⟨some 41, .mv (.t 3), some (36, true)⟩, [37, 38, 39, 40, 42, 43, 44, 45, 46]⟩,
  ⟨7, ⟨some 42, .mv (.t 14), some (36, true)⟩, [37, 38, 39, 40, 41, 43, 44, 45, 46]⟩,
  ⟨8, ⟨some 43, .ia 41 (.t 42) 1, some (36, true)⟩, [37, 38, 39, 40, 44, 45, 46]⟩,
  ⟨9, ⟨some 44, .ld 43 1 false, some (36, true)⟩, [37, 38, 39, 40, 45, 46]⟩,
  ⟨10, ⟨some 45, .bin .eql (.t 40) (.t 44), some (36, true)⟩, [46]⟩,
  ⟨11, q1 46 (.pick (.t 36) (.t 45) (.c (.bool false))), []⟩]
  [(12, q1 12 (.asg (.t 46)))] [0, 1, 2, 3, 10, 11, 12, 29, 30, 31]))))
 (.reg [q1 47 (.bin .add (.t 31) (.c (.int .i64 1))),q1 31 (.mv (.t 47))] [0, 1, 2, 3, 10, 11, 12, 29, 30, 31]))))))))
 (.seq (.reg [q1 48 (.mv (.t 12))] [0, 1, 2, 3, 10, 11, 48])
 (.cond (.t 48) (.seq (.reg [q1 49 (.mv (.t 11)),q1 8 (.asg (.t 49)),q1 9 (.asg (.c (.bool true)))] [8, 9])
 (.ret)) (.skip))))))))
 (.reg [q1 19 (.mv (.t 10)),q1 20 (.bin .add (.t 19) (.c (.int .i64 1))),q1 10 (.asg (.t 20))] [0, 1, 2, 3, 10])))))))
 (.seq (.reg [q1 8 (.asg (.c (.slice true []))),q1 9 (.asg (.c (.bool false)))] [8, 9])
 (.ret)))
theorem con_spec_eComplete {v0 : (List XVariable)} {v1 : (List XEdit)} {v2 : (List Int)} {v3 : (List Int)} {r : ((List Int) × Bool)} (h : sh_spec_eComplete v0 v1 v2 v3 = some r) : Con Try.prog 72 [cc4.enc v0, cc1.enc v1, cc11.enc v2, cc11.enc v3] [] (rs_spec_eComplete r) := by
 delta sh_spec_eComplete at h
 refine top (out := none) (f := Try.f72) (m := m72) (rs := [.t 8, .t 9]) (by kernel_rfl) rfl (by kernel_rfl) (by kernel_rfl) (by kernel_rfl) (by kernel_rfl) (by kernel_rfl) ?_
 exact
  ini [q2 0 cc4 v0, q2 1 cc1 v1, q2 2 cc11 v2, q2 3 cc11 v3] rfl <| wpC_seq <| reg_s <| x_asg (sc cc12 ([] : List Int) rfl) <| x_asg (sc cB false rfl) <| sq [q2 0 cc4 v0, q2 1 cc1 v1, q2 2 cc11 v2, q2 3 cc11 v3] <|
  xn <| wpC_seq <| wpC_kp <| wpC_seq <| reg_s <| x_asg (sc cI (0 : Int) rfl) <| sq [q2 0 cc4 v0, q2 1 cc1 v1, q2 2 cc11 v2, q2 3 cc11 v3, q2 10 cI (0 : Int)] <|
  xn <| wpC_blk <| lpF (fun (s732 : Int) => [q2 0 cc4 v0, q2 1 cc1 v1, q2 2 cc11 v2, q2 3 cc11 v3, q2 10 cI s732]) (0 : Int) rfl h
  fun G1221 nx1219 s732 hn1220 h => wpC_seq <| wpC_kp <| wpC_seq <| reg_s <| st rfl <| mvd rfl rfl <| st rfl <| mvd rfl rfl <| bnd h fun x1229 e1230 h => st rfl <| o_call (a1 (c := cc4) (tLs (tXVariable tS tK)) rfl a0) (con_spec_sCount e1230) (.inl (so1 sK so0)) <| st rfl <| b_lss (k := .i64) rfl rfl <| sq [q2 0 cc4 v0, q2 1 cc1 v1, q2 2 cc11 v2, q2 3 cc11 v3, q2 10 cI s732, q2 18 cB (decide (s732 < x1229))] <|
  xn <| cnd rfl h (fun b1231 h => wpC_skip <| kpN [q2 0 cc4 v0, q2 1 cc1 v1, q2 2 cc11 v2, q2 3 cc11 v3, q2 10 cI s732] (by kernel_rfl) <| xn <| wpC_seq <| wpC_kp <| wpC_blk <| wpC_seq <| reg_s <| st rfl <| mvd rfl rfl <| st rfl <| mvd rfl rfl <| bnd h fun x1349 e1350 h => st rfl <| o_call (a1 (c := cc4) (tLs (tXVariable tS tK)) rfl (a1 (c := cI) tK rfl a0)) (con_spec_sAt e1350) (.inl (so1 (sLo sK) so0)) <| x_asg (so rfl rfl) <| sq [q2 0 cc4 v0, q2 1 cc1 v1, q2 2 cc11 v2, q2 3 cc11 v3, q2 10 cI s732, q2 11 cc12 x1349] <|
  xn <| wpC_seq <| reg_s <| st rfl <| mvd rfl rfl <| st rfl <| mvo rfl rfl <| bnd h fun x1354 e1355 h => st rfl <| o_call (a1 (c := cc1) (tLs (tXEdit (tLs tK))) rfl (a1 (c := cc12) (tLo tK) rfl a0)) (con_spec_eFailed e1355) (.inl (so1 (sLo sK) so0)) <| stw rfl <| leno rfl fun l1356 => st rfl <| b_eql (k := .i64) rfl rfl <| x_asg (ss rfl rfl) <| sq [q2 0 cc4 v0, q2 1 cc1 v1, q2 2 cc11 v2, q2 3 cc11 v3, q2 10 cI s732, q2 11 cc12 x1349, q2 12 cB (decide ((x1354.length : Int) = (0 : Int)))] <|
  xn <| wpC_seq <| wpC_kp <| wpC_seq <| reg_s <| st rfl <| mvd rfl rfl <| stw rfl <| lens rfl fun l1410 => st rfl <| mvc cI (0 : Int) rfl <| sq [q2 0 cc4 v0, q2 1 cc1 v1, q2 2 cc11 v2, q2 3 cc11 v3, q2 10 cI s732, q2 11 cc12 x1349, q2 12 cB (decide ((x1354.length : Int) = (0 : Int))), q2 29 cc11 v2, q2 30 cI (v2.length : Int), q2 31 cI (0 : Int)] <|
  xn <| wpC_blk <| lpR (fun (k1412 : Nat) (s1411 : Bool) => [q2 0 cc4 v0, q2 1 cc1 v1, q2 2 cc11 v2, q2 3 cc11 v3, q2 10 cI s732, q2 11 cc12 x1349, q2 12 cB s1411, q2 29 cc11 v2, q2 30 cI (v2.length : Int), q2 31 cI (k1412 : Int)]) (decide ((x1354.length : Int) = (0 : Int))) rfl h
  (fun G1446 s1411 h => wpC_seq <| reg_s <| st rfl <| b_lss (k := .i64) rfl rfl <| sq [q2 0 cc4 v0, q2 1 cc1 v1, q2 2 cc11 v2, q2 3 cc11 v3, q2 10 cI s732, q2 11 cc12 x1349, q2 12 cB s1411, q2 29 cc11 v2, q2 30 cI (v2.length : Int), q2 31 cI (v2.length : Int), q2 32 cB (decide ((v2.length : Int) < (v2.length : Int)))] <|
  xn <| wpC_seq <| wpC_kp <| cnd0 rfl (dlf _) <| wpC_exit <| xt <| xt <| xt <| xb <| kpN [q2 0 cc4 v0, q2 1 cc1 v1, q2 2 cc11 v2, q2 3 cc11 v3, q2 10 cI s732, q2 11 cc12 x1349, q2 12 cB s1411] (by kernel_rfl) <| xn <| wpC_seq <| reg_s <| st rfl <| mvd rfl rfl <| sq [q2 0 cc4 v0, q2 1 cc1 v1, q2 2 cc11 v2, q2 3 cc11 v3, q2 10 cI s732, q2 11 cc12 x1349, q2 48 cB s1411] <|
  xn <| cnd rfl h (fun b1447 h => wpC_seq <| reg_s <| st rfl <| mvo rfl rfl <| x_asg (sr rfl rfl) <| x_asg (sc cB true rfl) <| sq [q2 8 cc12 x1349, q2 9 cB true] <|
  xn <| wpC_ret <| rb <| rt <| rt <| rt <| rb <| rt <| rt <| re <| fin h (r1 (so rfl rfl) <| r1 (ss rfl rfl) <| r0) rfl)
  (fun b1447 h => wpC_skip <| xbb <| kpN [q2 0 cc4 v0, q2 1 cc1 v1, q2 2 cc11 v2, q2 3 cc11 v3, q2 10 cI s732] (by kernel_rfl) <| xn <| reg_s <| st rfl <| mvd rfl rfl <| ckI_k h fun i1448 h => st rfl <| b_add (k := .i64) rfl rfl i1448 <| x_asg (ss rfl rfl) <| sq [q2 0 cc4 v0, q2 1 cc1 v1, q2 2 cc11 v2, q2 3 cc11 v3, q2 10 cI (s732 + (1 : Int))] <|
  xn <| hn1220 (s732 + (1 : Int)) h))
  (fun G1446 nx1444 k1412 s1411 x1413 hk1414 hx1415 hn1445 h => wpC_seq <| reg_s <| st rfl <| b_lss (k := .i64) rfl rfl <| sq [q2 0 cc4 v0, q2 1 cc1 v1, q2 2 cc11 v2, q2 3 cc11 v3, q2 10 cI s732, q2 11 cc12 x1349, q2 12 cB s1411, q2 29 cc11 v2, q2 30 cI (v2.length : Int), q2 31 cI (k1412 : Int), q2 32 cB (decide ((k1412 : Int) < (v2.length : Int)))] <|
  xn <| wpC_seq <| wpC_kp <| cnd1 rfl (dlt hk1414) <| wpC_skip <| kpN [q2 0 cc4 v0, q2 1 cc1 v1, q2 2 cc11 v2, q2 3 cc11 v3, q2 10 cI s732, q2 11 cc12 x1349, q2 12 cB s1411, q2 29 cc11 v2, q2 30 cI (v2.length : Int), q2 31 cI (k1412 : Int)] (by kernel_rfl) <| xn <| wpC_seq <| wpC_kp <| wpC_blk <| wpC_seq <| reg_s <| st rfl <| ias rfl rfl (Int.natCast_nonneg _) hx1415 rfl <| st rfl <| ldi rfl rfl rfl rfl <| x_asg (ss rfl rfl) <| sq [q2 0 cc4 v0, q2 1 cc1 v1, q2 2 cc11 v2, q2 3 cc11 v3, q2 10 cI s732, q2 11 cc12 x1349, q2 12 cB s1411, q2 14 cI x1413, q2 29 cc11 v2, q2 30 cI (v2.length : Int), q2 31 cI (k1412 : Int)] <|
  xn <| drw_s <| pst rfl <| mvd rfl rfl ⟨rfl, pst rfl <| mvd rfl rfl ⟨rfl, ite_kp h (fun b1456 h => pgt rfl b1456 <| pst rfl <| mvo rfl rfl ⟨rfl, pgt rfl b1456 <| pst rfl <| mvd rfl rfl ⟨rfl, pgt rfl b1456 <| getO_kp h fun x1457 i1458 g1459 h => pst rfl <| iar rfl rfl rfl rfl i1458 g1459 rfl ⟨rfl, pgt rfl b1456 <| pst rfl <| lda rfl rfl (Gt.idx g1459 Gt.nil) rfl rfl rfl ⟨rfl, pgt rfl b1456 <| pst rfl <| mvd rfl rfl ⟨rfl, pgt rfl b1456 <| pst rfl <| mvd rfl rfl ⟨rfl, pgt rfl b1456 <| getO_kp h fun x1460 i1461 g1462 h => pst rfl <| ias rfl rfl i1461 g1462 rfl ⟨rfl, pgt rfl b1456 <| pst rfl <| ldi rfl rfl rfl rfl ⟨rfl, pgt rfl b1456 <| pst rfl <| b_eql (k := .i64) rfl rfl ⟨rfl, pst rfl <| pick1 rfl b1456 (cd := cB) (v := (decide (x1457 = x1460))) rfl rfl ⟨rfl, preN <| x_asg (ss rfl rfl) <| sq [q2 0 cc4 v0, q2 1 cc1 v1, q2 2 cc11 v2, q2 3 cc11 v3, q2 10 cI s732, q2 11 cc12 x1349, q2 12 cB (decide (x1457 = x1460)), q2 29 cc11 v2, q2 30 cI (v2.length : Int), q2 31 cI (k1412 : Int)] <|
  xbb <| kpN [q2 0 cc4 v0, q2 1 cc1 v1, q2 2 cc11 v2, q2 3 cc11 v3, q2 10 cI s732, q2 11 cc12 x1349, q2 12 cB (decide (x1457 = x1460)), q2 29 cc11 v2, q2 30 cI (v2.length : Int), q2 31 cI (k1412 : Int)] (by kernel_rfl) <| xn <| reg_s <| st rfl <| b_inc rfl rfl l1410 hk1414 <| st rfl <| mvd rfl rfl <| sq [q2 0 cc4 v0, q2 1 cc1 v1, q2 2 cc11 v2, q2 3 cc11 v3, q2 10 cI s732, q2 11 cc12 x1349, q2 12 cB (decide (x1457 = x1460)), q2 29 cc11 v2, q2 30 cI (v2.length : Int), q2 31 cI ((k1412 + 1 : Nat) : Int)] <|
  xn <| hn1445 (decide (x1457 = x1460)) h⟩⟩⟩⟩⟩⟩⟩⟩⟩⟩)
  (fun b1456 h => pgf rfl rfl b1456 <| pgf rfl rfl b1456 <| pgf rfl rfl b1456 <| pgf rfl rfl b1456 <| pgf rfl rfl b1456 <| pgf rfl rfl b1456 <| pgf rfl rfl b1456 <| pgf rfl rfl b1456 <| pgf rfl rfl b1456 <| pst rfl <| pick0 rfl b1456 (cd := cB) (v := false) rfl rfl ⟨rfl, preN <| x_asg (ss rfl rfl) <| sq [q2 0 cc4 v0, q2 1 cc1 v1, q2 2 cc11 v2, q2 3 cc11 v3, q2 10 cI s732, q2 11 cc12 x1349, q2 12 cB false, q2 29 cc11 v2, q2 30 cI (v2.length : Int), q2 31 cI (k1412 : Int)] <|
  xbb <| kpN [q2 0 cc4 v0, q2 1 cc1 v1, q2 2 cc11 v2, q2 3 cc11 v3, q2 10 cI s732, q2 11 cc12 x1349, q2 12 cB false, q2 29 cc11 v2, q2 30 cI (v2.length : Int), q2 31 cI (k1412 : Int)] (by kernel_rfl) <| xn <| reg_s <| st rfl <| b_inc rfl rfl l1410 hk1414 <| st rfl <| mvd rfl rfl <| sq [q2 0 cc4 v0, q2 1 cc1 v1, q2 2 cc11 v2, q2 3 cc11 v3, q2 10 cI s732, q2 11 cc12 x1349, q2 12 cB false, q2 29 cc11 v2, q2 30 cI (v2.length : Int), q2 31 cI ((k1412 + 1 : Nat) : Int)] <|
  xn <| hn1445 false h⟩)⟩⟩))
  (fun b1231 h => wpC_exit <| xt <| xt <| xt <| xb <| kpN [] (by kernel_rfl) <| xn <| wpC_seq <| reg_s <| x_asg (sc cc12 ([] : List Int) rfl) <| x_asg (sc cB false rfl) <| sq [q2 8 cc12 ([] : List Int), q2 9 cB false] <|
  xn <| wpC_ret <| re <| fin h (r1 (so rfl rfl) <| r1 (ss rfl rfl) <| r0) rfl)

def rs_impl_isSmall (r : Bool) : List D := [cB.enc r]
def m73 : MC := .seq (.reg [q1 2 (.asg (.c (.bool false)))] [0])
 (.seq (.reg [q1 3 (.mv (.t 0)),q1 4 (.call 63 [(.t 3)]),q1 5 (.mv (.t 4)),
  ⟨some 6, .mv (.t 0), some (5, true)⟩,
  ⟨some 7, .call 65 [(.t 6)], some (5, true)⟩,
  ⟨some 8, .bin .leq (.t 7) (.c (.int .i64 100)), some (5, true)⟩,q1 9 (.pick (.t 5) (.t 8) (.c (.bool false))),q1 2 (.asg (.t 9))] [2])
 (.ret))
theorem con_impl_isSmall {v0 : (List XVariable)} {r : Bool} (h : sh_impl_isSmall v0 = some r) : Con Try.prog 73 [cc4.enc v0] [] (rs_impl_isSmall r) := by
 delta sh_impl_isSmall at h
 refine top (out := none) (f := Try.f73) (m := m73) (rs := [.t 2]) (by kernel_rfl) rfl (by kernel_rfl) (by kernel_rfl) (by kernel_rfl) (by kernel_rfl) (by kernel_rfl) ?_
 exact
  ini [q2 0 cc4 v0] rfl <| wpC_seq <| reg_s <| x_asg (sc cB false rfl) <| sq [q2 0 cc4 v0] <|
  xn <| wpC_seq <| reg_s <| st rfl <| mvd rfl rfl <| bnd h fun x6 e7 h => st rfl <| o_call (a1 (c := cc4) (tLs (tXVariable tS tK)) rfl a0) (con_impl_IsSchema e7) (.inl (so1 sB so0)) <| st rfl <| mvd rfl rfl <| ite_k h (fun b8 h => gt' rfl b8 <| st rfl <| mvd rfl rfl <| gt' rfl b8 <| bnd h fun x9 e10 h => st rfl <| o_call (a1 (c := cc4) (tLs (tXVariable tS tK)) rfl a0) (con_impl_combinations e10) (.inl (so1 sK so0)) <| gt' rfl b8 <| st rfl <| b_leq (k := .i64) rfl rfl <| st rfl <| pick1 rfl b8 (cd := cB) (v := (decide (x9 ≤ (100 : Int)))) rfl rfl <| x_asg (ss rfl rfl) <| sq [q2 2 cB (decide (x9 ≤ (100 : Int)))] <|
  xn <| wpC_ret <| re <| fin h (r1 (ss rfl rfl) <| r0) rfl)
  (fun b8 h => gf rfl b8 <| gf rfl b8 <| gf rfl b8 <| st rfl <| pick0 rfl b8 (cd := cB) (v := false) rfl rfl <| x_asg (ss rfl rfl) <| sq [q2 2 cB false] <|
  xn <| wpC_ret <| re <| fin h (r1 (ss rfl rfl) <| r0) rfl)

def rs_impl_areValues (r : Bool) : List D := [cB.enc r]
def m75 : MC := .seq (.reg [q1 4 (.asg (.c (.bool false)))] [0, 1])
 (.seq (.kp [0, 1] (.seq (.reg [q1 7 (.mv (.t 1)),q1 8 (.len false (.t 7)),q1 9 (.mv (.t 0)),q1 10 (.len false (.t 9)),q1 11 (.bin .neq (.t 8) (.t 10))] [0, 1, 11])
 (.cond (.t 11) (.seq (.reg [q1 4 (.asg (.c (.bool false)))] [4])
 (.ret)) (.skip))))
 (.seq (.kp [] (.seq (.reg [q1 12 (.mv (.t 1)),q1 13 (.len false (.t 12)),q1 14 (.mv (.c (.int .i64 0)))] [0, 1, 12, 13, 14])
 (.blk 0 (.loop (.seq (.reg [q1 15 (.bin .lss (.t 14) (.t 13))] [0, 1, 12, 13, 14, 15])
 (.seq (.kp [0, 1, 12, 13, 14] (.cond (.t 15) (.skip) (.exit 0)))
 (.seq (.kp [0, 1, 12, 13, 14] (.blk 1 (.seq (.reg [q1 16 (.mv (.t 14)),q1 17 (.ia 12 (.t 14) 1),q1 18 (.ld 17 1 false),q1 5 (.asg (.t 16)),q1 6 (.asg (.t 18))] [0, 1, 5, 6, 12, 13, 14])
 (.seq (.reg [q1 19 (.mv (.t 6)),q1 20 (.bin .lss (.t 19) (.c (.int .i64 0))),q1 21 (.mv (.t 20)),
  ⟨some 22, .mv (.t 6), some (21, false)⟩,
  ⟨some 23, .mv (.t 0), some (21, false)⟩,
  ⟨some 24, .mv (.t 5), some (21, false)⟩,
  ⟨some 25, .ia 23 (.t 24) 2, some (21, false)⟩,
  ⟨some 26, .fa 25 1 1, some (21, false)⟩,
  ⟨some 27, .ld 26 1 false, some (21, false)⟩,
  ⟨some 28, .bin .geq (.t 22) (.t 27), some (21, false)⟩,q1 29 (.pick (.t 21) (.c (.bool true)) (.t 28))] [0, 1, 12, 13, 14, 29])
 (.cond (.t 29) (.seq (.reg [q1 4 (.asg (.c (.bool false)))] [4])
 (.ret)) (.skip))))))
 (.reg [q1 30 (.bin .add (.t 14) (.c (.int .i64 1))),q1 14 (.mv (.t 30))] [0, 1, 12, 13, 14]))))))))
 (.seq (.reg [q1 4 (.asg (.c (.bool true)))] [4])
 (.ret))))
theorem con_impl_areValues {v0 : (List XVariable)} {v1 : (List Int)} {r : Bool} (h : sh_impl_areValues v0 v1 = some r) : Con Try.prog 75 [cc4.enc v0, cc11.enc v1] [] (rs_impl_areValues r) := by
 delta sh_impl_areValues at h
 refine top (out := none) (f := Try.f75) (m := m75) (rs := [.t 4]) (by kernel_rfl) rfl (by kernel_rfl) (by kernel_rfl) (by kernel_rfl) (by kernel_rfl) (by kernel_rfl) ?_
 exact
  ini [q2 0 cc4 v0, q2 1 cc11 v1] rfl <| wpC_seq <| reg_s <| x_asg (sc cB false rfl) <| sq [q2 0 cc4 v0, q2 1 cc11 v1] <|
  xn <| wpC_seq <| wpC_kp <| wpC_seq <| reg_s <| st rfl <| mvd rfl rfl <| stw rfl <| lens rfl fun l8 => st rfl <| mvd rfl rfl <| stw rfl <| lens rfl fun l9 => st rfl <| b_neq (k := .i64) rfl rfl <| sq [q2 0 cc4 v0, q2 1 cc11 v1, q2 11 cB (decide ((v1.length : Int) ≠ (v0.length : Int)))] <|
  xn <| cnd rfl h (fun b10 h => wpC_seq <| reg_s <| x_asg (sc cB false rfl) <| sq [q2 4 cB false] <|
  xn <| wpC_ret <| rt <| rt <| re <| fin h (r1 (ss rfl rfl) <| r0) rfl)
  (fun b10 h => wpC_skip <| kpN [q2 0 cc4 v0, q2 1 cc11 v1] (by kernel_rfl) <| xn <| wpC_seq <| wpC_kp <| wpC_seq <| reg_s <| st rfl <| mvd rfl rfl <| stw rfl <| lens rfl fun l58 => st rfl <| mvc cI (0 : Int) rfl <| sq [q2 0 cc4 v0, q2 1 cc11 v1, q2 12 cc11 v1, q2 13 cI (v1.length : Int), q2 14 cI (0 : Int)] <|
  xn <| wpC_blk <| lpR (fun (k60 : Nat) (s59 : Unit) => [q2 0 cc4 v0, q2 1 cc11 v1, q2 12 cc11 v1, q2 13 cI (v1.length : Int), q2 14 cI (k60 : Int)]) () rfl h
  (fun G84 s59 h => wpC_seq <| reg_s <| st rfl <| b_lss (k := .i64) rfl rfl <| sq [q2 0 cc4 v0, q2 1 cc11 v1, q2 12 cc11 v1, q2 13 cI (v1.length : Int), q2 14 cI (v1.length : Int), q2 15 cB (decide ((v1.length : Int) < (v1.length : Int)))] <|
  xn <| wpC_seq <| wpC_kp <| cnd0 rfl (dlf _) <| wpC_exit <| xt <| xt <| xt <| xb <| kpN [] (by kernel_rfl) <| xn <| wpC_seq <| reg_s <| x_asg (sc cB true rfl) <| sq [q2 4 cB true] <|
  xn <| wpC_ret <| re <| fin h (r1 (ss rfl rfl) <| r0) rfl)
  (fun G84 nx82 k60 s59 x61 hk62 hx63 hn83 h => wpC_seq <| reg_s <| st rfl <| b_lss (k := .i64) rfl rfl <| sq [q2 0 cc4 v0, q2 1 cc11 v1, q2 12 cc11 v1, q2 13 cI (v1.length : Int), q2 14 cI (k60 : Int), q2 15 cB (decide ((k60 : Int) < (v1.length : Int)))] <|
  xn <| wpC_seq <| wpC_kp <| cnd1 rfl (dlt hk62) <| wpC_skip <| kpN [q2 0 cc4 v0, q2 1 cc11 v1, q2 12 cc11 v1, q2 13 cI (v1.length : Int), q2 14 cI (k60 : Int)] (by kernel_rfl) <| xn <| wpC_seq <| wpC_kp <| wpC_blk <| wpC_seq <| reg_s <| st rfl <| mvd rfl rfl <| st rfl <| ias rfl rfl (Int.natCast_nonneg _) hx63 rfl <| st rfl <| ldi rfl rfl rfl rfl <| x_asg (ss rfl rfl) <| x_asg (ss rfl rfl) <| sq [q2 0 cc4 v0, q2 1 cc11 v1, q2 5 cI (k60 : Int), q2 6 cI x61, q2 12 cc11 v1, q2 13 cI (v1.length : Int), q2 14 cI (k60 : Int)] <|
  xn <| wpC_seq <| reg_s <| st rfl <| mvd rfl rfl <| st rfl <| b_lss (k := .i64) rfl rfl <| st rfl <| mvd rfl rfl <| ite_k h (fun b98 h => gf rfl b98 <| gf rfl b98 <| gf rfl b98 <| gf rfl b98 <| gf rfl b98 <| gf rfl b98 <| gf rfl b98 <| st rfl <| pick1 rfl b98 (cd := cB) (v := true) rfl rfl <| sq [q2 0 cc4 v0, q2 1 cc11 v1, q2 12 cc11 v1, q2 13 cI (v1.length : Int), q2 14 cI (k60 : Int), q2 29 cB true] <|
  xn <| cnd1 rfl rfl <| wpC_seq <| reg_s <| x_asg (sc cB false rfl) <| sq [q2 4 cB false] <|
  xn <| wpC_ret <| rb <| rt <| rt <| rt <| rb <| rt <| rt <| re <| fin h (r1 (ss rfl rfl) <| r0) rfl)
  (fun b98 h => gt' rfl b98 <| st rfl <| mvd rfl rfl <| gt' rfl b98 <| st rfl <| mvd rfl rfl <| gt' rfl b98 <| st rfl <| mvd rfl rfl <| gt' rfl b98 <| getO_k h fun x99 i100 g101 h => st rfl <| ias rfl rfl i100 g101 rfl <| gt' rfl b98 <| st rfl <| fai rfl rfl rfl rfl <| gt' rfl b98 <| st rfl <| ldi rfl rfl rfl rfl <| gt' rfl b98 <| st rfl <| b_geq (k := .i64) rfl rfl <| st rfl <| pick0 rfl b98 (cd := cB) (v := (decide (x99.Levels ≤ x61))) rfl rfl <| sq [q2 0 cc4 v0, q2 1 cc11 v1, q2 12 cc11 v1, q2 13 cI (v1.length : Int), q2 14 cI (k60 : Int), q2 29 cB (decide (x99.Levels ≤ x61))] <|
  xn <| cnd rfl h (fun b102 h => wpC_seq <| reg_s <| x_asg (sc cB false rfl) <| sq [q2 4 cB false] <|
  xn <| wpC_ret <| rb <| rt <| rt <| rt <| rb <| rt <| rt <| re <| fin h (r1 (ss rfl rfl) <| r0) rfl)
  (fun b102 h => wpC_skip <| xbb <| kpN [q2 0 cc4 v0, q2 1 cc11 v1, q2 12 cc11 v1, q2 13 cI (v1.length : Int), q2 14 cI (k60 : Int)] (by kernel_rfl) <| xn <| reg_s <| st rfl <| b_inc rfl rfl l58 hk62 <| st rfl <| mvd rfl rfl <| sq [q2 0 cc4 v0, q2 1 cc11 v1, q2 12 cc11 v1, q2 13 cI (v1.length : Int), q2 14 cI ((k60 + 1 : Nat) : Int)] <|
  xn <| hn83 () h))))

def os_impl_completionOf_1 (r : ((Option (List Int)) × Bool)) : D := (cP true (cNo cI)).enc r.1
def rs_impl_completionOf_1 (r : ((Option (List Int)) × Bool)) : List D := [cB.enc r.2]
def m130 : MC := .seq (.reg [q1 5 (.asg (.c (.bool false)))] [0, 1, 2, 3])
 (.seq (.kp [0, 3] (.seq (.reg [q1 8 (.ld 1 1 false),q1 9 (.len false (.t 8)),q1 10 (.mv (.c (.int .i64 0)))] [0, 1, 2, 3, 8, 9, 10])
 (.blk 0 (.loop (.seq (.reg [q1 11 (.bin .lss (.t 10) (.t 9))] [0, 1, 2, 3, 8, 9, 10, 11])
 (.seq (.kp [0, 1, 2, 3, 8, 9, 10] (.cond (.t 11) (.skip) (.exit 0)))
 (.seq (.kp [0, 1, 2, 3, 8, 9, 10] (.blk 1 (.seq (.reg [q1 12 (.ia 8 (.t 10) 1),q1 13 (.ld 12 1 false),q1 7 (.asg (.t 13))] [0, 1, 2, 3, 7, 8, 9, 10])
 (.seq (.drw [⟨0, q1 14 (.mv (.t 0)), [15, 16, 17, 18, 19, 20, 21, 22]⟩,
  ⟨1, q1 15 (.mv (.t 7)), [14, 16, 17, 18, 19, 20, 21, 22]⟩,
  ⟨2, q1 16 (.ia 14 (.t 15) 1), [17, 18, 19, 20, 21, 22]⟩,
  ⟨3, q1 17 (.ld 16 1 false), [18, 19, 20, 21, 22]⟩,
  ⟨4, q1 18 (.ld 2 1 false), [14, 15, 16, 17, 19, 20, 21, 22]⟩,
  ⟨5, q1 19 (.mv (.t 7)), [14, 15, 16, 17, 18, 20, 21, 22]⟩,
  ⟨6, q1 20 (.ia 18 (.t 19) 1), [14, 15, 16, 17, 21, 22]⟩,
  ⟨7, q1 21 (.ld 20 1 false), [14, 15, 16, 17, 22]⟩,
  ⟨8, q1 22 (.bin .neq (.t 17) (.t 21)), []⟩]
  [] [0, 1, 2, 3, 8, 9, 10, 22])
 (.cond (.t 22) (.seq (.reg [q1 5 (.asg (.c (.bool true)))] [3, 5])
 (.ret)) (.skip))))))
 (.reg [q1 23 (.bin .add (.t 10) (.c (.int .i64 1))),q1 10 (.mv (.t 23))] [0, 1, 2, 3, 8, 9, 10]))))))))
 (.seq (.reg [q1 24 (.mv (.t 0)),q0 (.st 3 (.t 24) 1)] [3])
 (.seq (.reg [q1 5 (.asg (.c (.bool false)))] [3, 5])
 (.ret))))
theorem con_impl_completionOf_1 {v0 : (List Int)} {v1 : (List Int)} {v2 : (List Int)} {v3 : (Option (List Int))} {r : ((Option (List Int)) × Bool)} (h : sh_impl_completionOf_1 v0 v1 v2 v3 = some r) : Con Try.prog 130 [cc12.enc v0, (cP false cc11).enc v1, (cP false cc11).enc v2, (cP true (cNo cI)).enc v3] (outsOf (some (3, os_impl_completionOf_1 r))) (rs_impl_completionOf_1 r) := by
 delta sh_impl_completionOf_1 at h
 refine top (out := some (3, os_impl_completionOf_1 r)) (f := Try.f130) (m := m130) (rs := [.t 5]) (by kernel_rfl) rfl (by kernel_rfl) (by kernel_rfl) (by kernel_rfl) (by kernel_rfl) (by kernel_rfl) ?_
 exact
  ini [q2 0 cc12 v0, (1, .ima (cc11.enc v1)), (2, .ima (cc11.enc v2)), q3 3 (cNo cI) v3] rfl <| wpC_seq <| reg_s <| x_asg (sc cB false rfl) <| sq [q2 0 cc12 v0, (1, .ima (cc11.enc v1)), (2, .ima (cc11.enc v2)), q3 3 (cNo cI) v3] <|
  xn <| wpC_seq <| wpC_kp <| wpC_seq <| reg_s <| st rfl <| ldi rfl rfl rfl rfl <| stw rfl <| lens rfl fun l64 => st rfl <| mvc cI (0 : Int) rfl <| sq [q2 0 cc12 v0, (1, .ima (cc11.enc v1)), (2, .ima (cc11.enc v2)), q3 3 (cNo cI) v3, q2 8 cc11 v1, q2 9 cI (v1.length : Int), q2 10 cI (0 : Int)] <|
  xn <| wpC_blk <| lpR (fun (k66 : Nat) (s65 : Unit) => [q2 0 cc12 v0, (1, .ima (cc11.enc v1)), (2, .ima (cc11.enc v2)), q3 3 (cNo cI) v3, q2 8 cc11 v1, q2 9 cI (v1.length : Int), q2 10 cI (k66 : Int)]) () rfl h
  (fun G98 s65 h => wpC_seq <| reg_s <| st rfl <| b_lss (k := .i64) rfl rfl <| sq [q2 0 cc12 v0, (1, .ima (cc11.enc v1)), (2, .ima (cc11.enc v2)), q3 3 (cNo cI) v3, q2 8 cc11 v1, q2 9 cI (v1.length : Int), q2 10 cI (v1.length : Int), q2 11 cB (decide ((v1.length : Int) < (v1.length : Int)))] <|
  xn <| wpC_seq <| wpC_kp <| cnd0 rfl (dlf _) <| wpC_exit <| xt <| xt <| xt <| xb <| kpN [q2 0 cc12 v0, q3 3 (cNo cI) v3] (by kernel_rfl) <| xn <| wpC_seq <| reg_s <| st rfl <| mvo rfl rfl <| x_stb (sr rfl rfl) rfl (Cd.h_sz _ _) rfl <| sq [q3 3 (cNo cI) (some v0)] <|
  xn <| wpC_seq <| reg_s <| x_asg (sc cB false rfl) <| sq [q3 3 (cNo cI) (some v0), q2 5 cB false] <|
  xn <| wpC_ret <| re <| finO h (r1 (ss rfl rfl) <| r0) rfl rfl)
  (fun G98 nx96 k66 s65 x67 hk68 hx69 hn97 h => wpC_seq <| reg_s <| st rfl <| b_lss (k := .i64) rfl rfl <| sq [q2 0 cc12 v0, (1, .ima (cc11.enc v1)), (2, .ima (cc11.enc v2)), q3 3 (cNo cI) v3, q2 8 cc11 v1, q2 9 cI (v1.length : Int), q2 10 cI (k66 : Int), q2 11 cB (decide ((k66 : Int) < (v1.length : Int)))] <|
  xn <| wpC_seq <| wpC_kp <| cnd1 rfl (dlt hk68) <| wpC_skip <| kpN [q2 0 cc12 v0, (1, .ima (cc11.enc v1)), (2, .ima (cc11.enc v2)), q3 3 (cNo cI) v3, q2 8 cc11 v1, q2 9 cI (v1.length : Int), q2 10 cI (k66 : Int)] (by kernel_rfl) <| xn <| wpC_seq <| wpC_kp <| wpC_blk <| wpC_seq <| reg_s <| st rfl <| ias rfl rfl (Int.natCast_nonneg _) hx69 rfl <| st rfl <| ldi rfl rfl rfl rfl <| x_asg (ss rfl rfl) <| sq [q2 0 cc12 v0, (1, .ima (cc11.enc v1)), (2, .ima (cc11.enc v2)), q3 3 (cNo cI) v3, q2 7 cI x67, q2 8 cc11 v1, q2 9 cI (v1.length : Int), q2 10 cI (k66 : Int)] <|
  xn <| wpC_seq <| drw_s <| pst rfl <| mvo rfl rfl ⟨rfl, pst rfl <| mvd rfl rfl ⟨rfl, getO_kp h fun x118 i119 g120 h => pst rfl <| iar rfl rfl rfl rfl i119 g120 rfl ⟨rfl, pst rfl <| lda rfl rfl (Gt.idx g120 Gt.nil) rfl rfl rfl ⟨rfl, pst rfl <| ldi rfl rfl rfl rfl ⟨rfl, pst rfl <| mvd rfl rfl ⟨rfl, getO_kp h fun x121 i122 g123 h => pst rfl <| ias rfl rfl i122 g123 rfl ⟨rfl, pst rfl <| ldi rfl rfl rfl rfl ⟨rfl, pst rfl <| b_neq (k := .i64) rfl rfl ⟨rfl, preN <| sq [q2 0 cc12 v0, (1, .ima (cc11.enc v1)), (2, .ima (cc11.enc v2)), q3 3 (cNo cI) v3, q2 8 cc11 v1, q2 9 cI (v1.length : Int), q2 10 cI (k66 : Int), q2 22 cB (decide (x118 ≠ x121))] <|
  xn <| cnd rfl h (fun b124 h => wpC_seq <| reg_s <| x_asg (sc cB true rfl) <| sq [q3 3 (cNo cI) v3, q2 5 cB true] <|
  xn <| wpC_ret <| rb <| rt <| rt <| rt <| rb <| rt <| rt <| re <| finO h (r1 (ss rfl rfl) <| r0) rfl rfl)
  (fun b124 h => wpC_skip <| xbb <| kpN [q2 0 cc12 v0, (1, .ima (cc11.enc v1)), (2, .ima (cc11.enc v2)), q3 3 (cNo cI) v3, q2 8 cc11 v1, q2 9 cI (v1.length : Int), q2 10 cI (k66 : Int)] (by kernel_rfl) <| xn <| reg_s <| st rfl <| b_inc rfl rfl l64 hk68 <| st rfl <| mvd rfl rfl <| sq [q2 0 cc12 v0, (1, .ima (cc11.enc v1)), (2, .ima (cc11.enc v2)), q3 3 (cNo cI) v3, q2 8 cc11 v1, q2 9 cI (v1.length : Int), q2 10 cI ((k66 + 1 : Nat) : Int)] <|
  xn <| hn97 () h)⟩⟩⟩⟩⟩⟩⟩⟩⟩)

def os_impl_passing_impl_completionOf_1 (v0 : (List XVariable)) (v1 : (List XEdit)) (v2 : ((List Int) × (List Int) × (Option (List Int)))) (r : ((Option (List Int)) × Unit)) : D := (cFn 130 (fun (v : ((List Int) × (List Int) × (Option (List Int)))) => [.ptr false (cc11.enc v.1), .ptr false (cc11.enc v.2.1), .ptr true ((cNo cI).enc v.2.2)]) false (fun _ => (iml (iml imo)))).enc (v2.1, v2.2.1, r.1)
def rs_impl_passing_impl_completionOf_1 (r : ((Option (List Int)) × Unit)) : List D := []
def m66_130 : MC := .seq (.reg [q1 8 (.mv (.t 0)),q1 9 (.call 65 [(.t 8)]),q1 10 (.mv (.c (.int .i64 0)))] [0, 1, 2, 9, 10])
 (.blk 0 (.loop (.seq (.reg [q1 11 (.bin .lss (.t 10) (.t 9))] [0, 1, 2, 9, 10, 11])
 (.seq (.kp [0, 1, 2, 9, 10] (.cond (.t 11) (.skip) (.exit 0)))
 (.seq (.kp [0, 1, 2, 9, 10] (.blk 1 (.seq (.reg [q1 12 (.mv (.t 10)),q1 6 (.asg (.t 12))] [0, 1, 2, 6, 9, 10])
 (.seq (.reg [q1 13 (.mv (.t 0)),q1 14 (.mv (.t 6)),q1 15 (.call 128 [(.t 13), (.t 14)]),q1 7 (.asg (.t 15))] [0, 1, 2, 7, 9, 10])
 (.seq (.reg [q1 16 (.mv (.t 1)),q1 17 (.mv (.t 7)),q1 18 (.call 93 [(.t 16), (.t 17)]),q1 19 (.nt (.t 18)),q1 20 (.mv (.t 19)),
  ⟨some 21, .mv (.t 2), some (20, true)⟩,
  ⟨some 22, .mv (.t 7), some (20, true)⟩,
  ⟨some 23, .callf 21 [(true, (.t 22))], some (20, true)⟩,
  ⟨some 24, .nt (.t 23), some (20, true)⟩,q1 25 (.pick (.t 20) (.t 24) (.c (.bool false)))] [0, 1, 2, 9, 10, 25])
 (.cond (.t 25) (.ret) (.skip)))))))
 (.reg [q1 26 (.bin .add (.t 10) (.c (.int .i64 1))),q1 10 (.mv (.t 26))] [0, 1, 2, 9, 10]))))))
theorem con_impl_passing_impl_completionOf_1 {v0 : (List XVariable)} {v1 : (List XEdit)} {v2 : ((List Int) × (List Int) × (Option (List Int)))} {r : ((Option (List Int)) × Unit)} (h : sh_impl_passing_impl_completionOf_1 v0 v1 v2 = some r) : Con Try.prog 66 [cc4.enc v0, cc1.enc v1, (cFn 130 (fun (v : ((List Int) × (List Int) × (Option (List Int)))) => [.ptr false (cc11.enc v.1), .ptr false (cc11.enc v.2.1), .ptr true ((cNo cI).enc v.2.2)]) false (fun _ => (iml (iml imo)))).enc v2] (outsOf (some (2, os_impl_passing_impl_completionOf_1 v0 v1 v2 r))) (rs_impl_passing_impl_completionOf_1 r) := by
 delta sh_impl_passing_impl_completionOf_1 at h
 refine top (out := some (2, os_impl_passing_impl_completionOf_1 v0 v1 v2 r)) (f := Try.f66) (m := m66_130) (rs := []) (by kernel_rfl) rfl (by kernel_rfl) (by kernel_rfl) (by kernel_rfl) (by kernel_rfl) (by kernel_rfl) ?_
 exact
  ini [q2 0 cc4 v0, q2 1 cc1 v1, q2 2 (cFn 130 (fun (v : ((List Int) × (List Int) × (Option (List Int)))) => [.ptr false (cc11.enc v.1), .ptr false (cc11.enc v.2.1), .ptr true ((cNo cI).enc v.2.2)]) false (fun _ => (iml (iml imo)))) (v2.1, v2.2.1, v2.2.2)] rfl <| wpC_seq <| reg_s <| st rfl <| mvd rfl rfl <| bnd h fun x3 e4 h => st rfl <| o_call (a1 (c := cc4) (tLs (tXVariable tS tK)) rfl a0) (con_impl_combinations e4) (.inl (so1 sK so0)) <| st rfl <| mvc cI (0 : Int) rfl <| sq [q2 0 cc4 v0, q2 1 cc1 v1, q2 2 (cFn 130 (fun (v : ((List Int) × (List Int) × (Option (List Int)))) => [.ptr false (cc11.enc v.1), .ptr false (cc11.enc v.2.1), .ptr true ((cNo cI).enc v.2.2)]) false (fun _ => (iml (iml imo)))) (v2.1, v2.2.1, v2.2.2), q2 9 cI x3, q2 10 cI (0 : Int)] <|
  xn <| wpC_blk <| lpF (fun (s5 : ((Option (List Int)) × Int)) => [q2 0 cc4 v0, q2 1 cc1 v1, q2 2 (cFn 130 (fun (v : ((List Int) × (List Int) × (Option (List Int)))) => [.ptr false (cc11.enc v.1), .ptr false (cc11.enc v.2.1), .ptr true ((cNo cI).enc v.2.2)]) false (fun _ => (iml (iml imo)))) (v2.1, v2.2.1, s5.1), q2 9 cI x3, q2 10 cI s5.2]) (v2.2.2, (0 : Int)) rfl h
  fun G80 nx78 s5 hn79 h => wpC_seq <| reg_s <| st rfl <| b_lss (k := .i64) rfl rfl <| sq [q2 0 cc4 v0, q2 1 cc1 v1, q2 2 (cFn 130 (fun (v : ((List Int) × (List Int) × (Option (List Int)))) => [.ptr false (cc11.enc v.1), .ptr false (cc11.enc v.2.1), .ptr true ((cNo cI).enc v.2.2)]) false (fun _ => (iml (iml imo)))) (v2.1, v2.2.1, s5.1), q2 9 cI x3, q2 10 cI s5.2, q2 11 cB (decide (s5.2 < x3))] <|
  xn <| wpC_seq <| wpC_kp <| cnd rfl h (fun b82 h => wpC_skip <| kpN [q2 0 cc4 v0, q2 1 cc1 v1, q2 2 (cFn 130 (fun (v : ((List Int) × (List Int) × (Option (List Int)))) => [.ptr false (cc11.enc v.1), .ptr false (cc11.enc v.2.1), .ptr true ((cNo cI).enc v.2.2)]) false (fun _ => (iml (iml imo)))) (v2.1, v2.2.1, s5.1), q2 9 cI x3, q2 10 cI s5.2] (by kernel_rfl) <| xn <| wpC_seq <| wpC_kp <| wpC_blk <| wpC_seq <| reg_s <| st rfl <| mvd rfl rfl <| x_asg (ss rfl rfl) <| sq [q2 0 cc4 v0, q2 1 cc1 v1, q2 2 (cFn 130 (fun (v : ((List Int) × (List Int) × (Option (List Int)))) => [.ptr false (cc11.enc v.1), .ptr false (cc11.enc v.2.1), .ptr true ((cNo cI).enc v.2.2)]) false (fun _ => (iml (iml imo)))) (v2.1, v2.2.1, s5.1), q2 6 cI s5.2, q2 9 cI x3, q2 10 cI s5.2] <|
  xn <| wpC_seq <| reg_s <| st rfl <| mvd rfl rfl <| st rfl <| mvd rfl rfl <| bnd h fun x100 e101 h => st rfl <| o_call (a1 (c := cc4) (tLs (tXVariable tS tK)) rfl (a1 (c := cI) tK rfl a0)) (con_impl_valuesAt e101) (.inl (so1 (sLo sK) so0)) <| x_asg (so rfl rfl) <| sq [q2 0 cc4 v0, q2 1 cc1 v1, q2 2 (cFn 130 (fun (v : ((List Int) × (List Int) × (Option (List Int)))) => [.ptr false (cc11.enc v.1), .ptr false (cc11.enc v.2.1), .ptr true ((cNo cI).enc v.2.2)]) false (fun _ => (iml (iml imo)))) (v2.1, v2.2.1, s5.1), q2 7 cc12 x100, q2 9 cI x3, q2 10 cI s5.2] <|
  xn <| wpC_seq <| reg_s <| st rfl <| mvd rfl rfl <| st rfl <| mvo rfl rfl <| bnd h fun x107 e108 h => st rfl <| o_call (a1 (c := cc1) (tLs (tXEdit (tLs tK))) rfl (a1 (c := cc12) (tLo tK) rfl a0)) (con_impl_failsOne e108) (.inl (so1 sB so0)) <| st rfl <| o_nt rfl <| st rfl <| mvd rfl rfl <| ite_k h (fun b109 h => gt' rfl b109 <| st rfl <| mvo rfl rfl <| gt' rfl b109 <| st rfl <| mvo rfl rfl <| gt' rfl b109 <| bnd h fun x110 e111 h => x_cf (cFn 130 (fun (v : ((List Int) × (List Int) × (Option (List Int)))) => [.ptr false (cc11.enc v.1), .ptr false (cc11.enc v.2.1), .ptr true ((cNo cI).enc v.2.2)]) false (fun _ => (iml (iml imo)))) (v2.1, v2.2.1, x110.1) (far rfl rfl rfl) (k1 (sr rfl rfl) k0) (m1 m0) rfl (con_impl_completionOf_1 e111) (cls rfl (cls rfl (clo (sNo sK) cl0))) (so1 sB so0) <| gt' rfl b109 <| st rfl <| o_nt rfl <| st rfl <| pick1 rfl b109 (cd := cB) (v := (!x110.2)) rfl rfl <| sq [q2 0 cc4 v0, q2 1 cc1 v1, q2 2 (cFn 130 (fun (v : ((List Int) × (List Int) × (Option (List Int)))) => [.ptr false (cc11.enc v.1), .ptr false (cc11.enc v.2.1), .ptr true ((cNo cI).enc v.2.2)]) false (fun _ => (iml (iml imo)))) (v2.1, v2.2.1, x110.1), q2 9 cI x3, q2 10 cI s5.2, q2 25 cB (!x110.2)] <|
  xn <| cnd rfl h (fun b112 h => wpC_ret <| rb <| rt <| rt <| rt <| rb <| re <| finO h r0 rfl rfl)
  (fun b112 h => wpC_skip <| xbb <| kpN [q2 0 cc4 v0, q2 1 cc1 v1, q2 2 (cFn 130 (fun (v : ((List Int) × (List Int) × (Option (List Int)))) => [.ptr false (cc11.enc v.1), .ptr false (cc11.enc v.2.1), .ptr true ((cNo cI).enc v.2.2)]) false (fun _ => (iml (iml imo)))) (v2.1, v2.2.1, x110.1), q2 9 cI x3, q2 10 cI s5.2] (by kernel_rfl) <| xn <| reg_s <| ckI_k h fun i113 h => st rfl <| b_add (k := .i64) rfl rfl i113 <| st rfl <| mvd rfl rfl <| sq [q2 0 cc4 v0, q2 1 cc1 v1, q2 2 (cFn 130 (fun (v : ((List Int) × (List Int) × (Option (List Int)))) => [.ptr false (cc11.enc v.1), .ptr false (cc11.enc v.2.1), .ptr true ((cNo cI).enc v.2.2)]) false (fun _ => (iml (iml imo)))) (v2.1, v2.2.1, x110.1), q2 9 cI x3, q2 10 cI (s5.2 + (1 : Int))] <|
  xn <| hn79 (x110.1, (s5.2 + (1 : Int))) h))
  (fun b109 h => gf rfl b109 <| gf rfl b109 <| gf rfl b109 <| gf rfl b109 <| st rfl <| pick0 rfl b109 (cd := cB) (v := false) rfl rfl <| sq [q2 0 cc4 v0, q2 1 cc1 v1, q2 2 (cFn 130 (fun (v : ((List Int) × (List Int) × (Option (List Int)))) => [.ptr false (cc11.enc v.1), .ptr false (cc11.enc v.2.1), .ptr true ((cNo cI).enc v.2.2)]) false (fun _ => (iml (iml imo)))) (v2.1, v2.2.1, s5.1), q2 9 cI x3, q2 10 cI s5.2, q2 25 cB false] <|
  xn <| cnd0 rfl rfl <| wpC_skip <| xbb <| kpN [q2 0 cc4 v0, q2 1 cc1 v1, q2 2 (cFn 130 (fun (v : ((List Int) × (List Int) × (Option (List Int)))) => [.ptr false (cc11.enc v.1), .ptr false (cc11.enc v.2.1), .ptr true ((cNo cI).enc v.2.2)]) false (fun _ => (iml (iml imo)))) (v2.1, v2.2.1, s5.1), q2 9 cI x3, q2 10 cI s5.2] (by kernel_rfl) <| xn <| reg_s <| ckI_k h fun i114 h => st rfl <| b_add (k := .i64) rfl rfl i114 <| st rfl <| mvd rfl rfl <| sq [q2 0 cc4 v0, q2 1 cc1 v1, q2 2 (cFn 130 (fun (v : ((List Int) × (List Int) × (Option (List Int)))) => [.ptr false (cc11.enc v.1), .ptr false (cc11.enc v.2.1), .ptr true ((cNo cI).enc v.2.2)]) false (fun _ => (iml (iml imo)))) (v2.1, v2.2.1, s5.1), q2 9 cI x3, q2 10 cI (s5.2 + (1 : Int))] <|
  xn <| hn79 (s5.1, (s5.2 + (1 : Int))) h))
  (fun b82 h => wpC_exit <| xt <| xt <| xt <| xb <| ren <| finO h r0 rfl rfl)

def rs_impl_completionOf (r : (Option (List Int))) : List D := [(cNo cI).enc r]
def m76 : MC := .seq (.reg [q1 6 (.box (.t 2)),q1 7 (.box (.t 3)),q1 8 (.asg (.c (.slice true [])))] [0, 1, 6, 7, 12])
 (.fzb 6 (.fzb 7 (.seq (.reg [q1 9 (.alloc (.nilo))] [0, 1, 6, 7, 9, 12])
 (.seq (.reg [q1 10 (.mv (.t 0)),q1 11 (.mv (.t 1)),q1 12 (.mkf 130 [(false, 6), (false, 7), (true, 9)]),q1 13 (.callP 66 [(.t 10), (.t 11)] 12 [])] [9, 12])
 (.seq (.reg [q1 14 (.ld 9 1 false),q1 8 (.asg (.t 14))] [8])
 (.ret))))))
theorem con_impl_completionOf {v0 : (List XVariable)} {v1 : (List XEdit)} {v2 : (List Int)} {v3 : (List Int)} {r : (Option (List Int))} (h : sh_impl_completionOf v0 v1 v2 v3 = some r) : Con Try.prog 76 [cc4.enc v0, cc1.enc v1, cc11.enc v2, cc11.enc v3] [] (rs_impl_completionOf r) := by
 delta sh_impl_completionOf at h
 refine top (out := none) (f := Try.f76) (m := m76) (rs := [.t 8]) (by kernel_rfl) rfl (by kernel_rfl) (by kernel_rfl) (by kernel_rfl) (by kernel_rfl) (by kernel_rfl) ?_
 exact
  ini [q2 0 cc4 v0, q2 1 cc1 v1, q2 2 cc11 v2, q2 3 cc11 v3] rfl <| wpC_seq <| reg_s <| x_box (ss rfl rfl) <| x_box (ss rfl rfl) <| x_asg (sc cc12 ([] : List Int) rfl) <| sq [q2 0 cc4 v0, q2 1 cc1 v1, q3 6 cc11 v2, q3 7 cc11 v3, (12, .un)] <|
  xn <| fzb_s (tLs tK) rfl <| fzb_s (tLs tK) rfl <| wpC_seq <| reg_s <| x_all (cNo cI) (none : Option (List Int)) rfl <| sq [q2 0 cc4 v0, q2 1 cc1 v1, (6, .ima (cc11.enc v2)), (7, .ima (cc11.enc v3)), q3 9 (cNo cI) (none : Option (List Int)), (12, .un)] <|
  xn <| wpC_seq <| reg_s <| st rfl <| mvd rfl rfl <| st rfl <| mvd rfl rfl <| x_mkf (cFn 130 (fun (v : ((List Int) × (List Int) × (Option (List Int)))) => [.ptr false (cc11.enc v.1), .ptr false (cc11.enc v.2.1), .ptr true ((cNo cI).enc v.2.2)]) false (fun _ => (iml (iml imo)))) (v2, v3, (none : Option (List Int))) (cpi rfl (cpi rfl (cpo rfl cp0))) rfl rfl <| bnd h fun x3 e4 h => x_cp (cFn 130 (fun (v : ((List Int) × (List Int) × (Option (List Int)))) => [.ptr false (cc11.enc v.1), .ptr false (cc11.enc v.2.1), .ptr true ((cNo cI).enc v.2.2)]) false (fun _ => (iml (iml imo)))) (v2, v3, x3.1) rfl rfl (a1 (c := cc4) (tLs (tXVariable tS tK)) rfl (a1 (c := cc1) (tLs (tXEdit (tLs tK))) rfl a0)) a0 rfl rfl (con_impl_passing_impl_completionOf_1 e4) (cls rfl (cls rfl (clo (sNo sK) cl0))) so0 <| sq [(9, .adr 12 [.cap 2, .dr]), q2 12 (cFn 130 (fun (v : ((List Int) × (List Int) × (Option (List Int)))) => [.ptr false (cc11.enc v.1), .ptr false (cc11.enc v.2.1), .ptr true ((cNo cI).enc v.2.2)]) false (fun _ => (iml (iml imo)))) (v2, v3, x3.1)] <|
  xn <| wpC_seq <| reg_s <| st rfl <| ldao rfl rfl rfl rfl rfl rfl <| x_asg (spN ((cFn 130 (fun (v : ((List Int) × (List Int) × (Option (List Int)))) => [.ptr false (cc11.enc v.1), .ptr false (cc11.enc v.2.1), .ptr true ((cH (α := (Option (List Int)))).enc v.2.2)]) false (fun _ => (iml (iml imo)))).enc (v2, v3, x3.1)) rfl rfl (Ln.cap rfl rfl (Ln.dr rfl Ln.nil rfl) rfl)) <| sq [q2 8 (cNo cI) x3.1] <|
  xn <| wpC_ret <| re <| fin h (r1 (so rfl rfl) <| r0) rfl

def rs_impl_completionOf_fg (r : (List Int)) : List D := [cc12.enc r]
theorem con_impl_completionOf_fg {v0 : (List XVariable)} {v1 : (List XEdit)} {v2 : (List Int)} {v3 : (List Int)} {r : (List Int)} (h : sh_impl_completionOf_fg v0 v1 v2 v3 = some r) : Con Try.prog 76 [cc4.enc v0, cc1.enc v1, cc11.enc v2, cc11.enc v3] [] (rs_impl_completionOf_fg r) := by
 simp only [sh_impl_completionOf_fg, Option.map_eq_some_iff] at h
 obtain ⟨x, h1, rfl⟩ := h
 exact con_fg (con_impl_completionOf h1)

def rs_spec_l1Has (r : Bool) : List D := [cB.enc r]
def m78 : MC := .seq (.reg [q1 4 (.asg (.c (.bool false)))] [0, 1])
 (.seq (.kp [] (.seq (.reg [q1 7 (.mv (.t 0)),q1 8 (.len false (.t 7)),q1 9 (.mv (.c (.int .i64 0)))] [0, 1, 7, 8, 9])
 (.blk 0 (.loop (.seq (.reg [q1 10 (.bin .lss (.t 9) (.t 8))] [0, 1, 7, 8, 9, 10])
 (.seq (.kp [0, 1, 7, 8, 9] (.cond (.t 10) (.skip) (.exit 0)))
 (.seq (.kp [0, 1, 7, 8, 9] (.blk 1 (.seq (.reg [q1 11 (.ia 7 (.t 9) 1),q1 12 (.ld 11 1 false),q1 6 (.asg (.t 12))] [0, 1, 6, 7, 8, 9])
 (.seq (.reg [q1 13 (.mv (.t 6)),q1 14 (.mv (.t 1)),q1 15 (.bin .eql (.t 13) (.t 14))] [0, 1, 7, 8, 9, 15])
 (.cond (.t 15) (.seq (.reg [q1 4 (.asg (.c (.bool true)))] [4])
 (.ret)) (.skip))))))
 (.reg [q1 16 (.bin .add (.t 9) (.c (.int .i64 1))),q1 9 (.mv (.t 16))] [0, 1, 7, 8, 9]))))))))
 (.seq (.reg [q1 4 (.asg (.c (.bool false)))] [4])
 (.ret)))
theorem con_spec_l1Has {v0 : (List Int)} {v1 : Int} {r : Bool} (h : sh_spec_l1Has v0 v1 = some r) : Con Try.prog 78 [cc11.enc v0, cI.enc v1] [] (rs_spec_l1Has r) := by
 delta sh_spec_l1Has at h
 refine top (out := none) (f := Try.f78) (m := m78) (rs := [.t 4]) (by kernel_rfl) rfl (by kernel_rfl) (by kernel_rfl) (by kernel_rfl) (by kernel_rfl) (by kernel_rfl) ?_
 exact
  ini [q2 0 cc11 v0, q2 1 cI v1] rfl <| wpC_seq <| reg_s <| x_asg (sc cB false rfl) <| sq [q2 0 cc11 v0, q2 1 cI v1] <|
  xn <| wpC_seq <| wpC_kp <| wpC_seq <| reg_s <| st rfl <| mvd rfl rfl <| stw rfl <| lens rfl fun l16 => st rfl <| mvc cI (0 : Int) rfl <| sq [q2 0 cc11 v0, q2 1 cI v1, q2 7 cc11 v0, q2 8 cI (v0.length : Int), q2 9 cI (0 : Int)] <|
  xn <| wpC_blk <| lpR (fun (k18 : Nat) (s17 : Unit) => [q2 0 cc11 v0, q2 1 cI v1, q2 7 cc11 v0, q2 8 cI (v0.length : Int), q2 9 cI (k18 : Int)]) () rfl h
  (fun G26 s17 h => wpC_seq <| reg_s <| st rfl <| b_lss (k := .i64) rfl rfl <| sq [q2 0 cc11 v0, q2 1 cI v1, q2 7 cc11 v0, q2 8 cI (v0.length : Int), q2 9 cI (v0.length : Int), q2 10 cB (decide ((v0.length : Int) < (v0.length : Int)))] <|
  xn <| wpC_seq <| wpC_kp <| cnd0 rfl (dlf _) <| wpC_exit <| xt <| xt <| xt <| xb <| kpN [] (by kernel_rfl) <| xn <| wpC_seq <| reg_s <| x_asg (sc cB false rfl) <| sq [q2 4 cB false] <|
  xn <| wpC_ret <| re <| fin h (r1 (ss rfl rfl) <| r0) rfl)
  (fun G26 nx24 k18 s17 x19 hk20 hx21 hn25 h => wpC_seq <| reg_s <| st rfl <| b_lss (k := .i64) rfl rfl <| sq [q2 0 cc11 v0, q2 1 cI v1, q2 7 cc11 v0, q2 8 cI (v0.length : Int), q2 9 cI (k18 : Int), q2 10 cB (decide ((k18 : Int) < (v0.length : Int)))] <|
  xn <| wpC_seq <| wpC_kp <| cnd1 rfl (dlt hk20) <| wpC_skip <| kpN [q2 0 cc11 v0, q2 1 cI v1, q2 7 cc11 v0, q2 8 cI (v0.length : Int), q2 9 cI (k18 : Int)] (by kernel_rfl) <| xn <| wpC_seq <| wpC_kp <| wpC_blk <| wpC_seq <| reg_s <| st rfl <| ias rfl rfl (Int.natCast_nonneg _) hx21 rfl <| st rfl <| ldi rfl rfl rfl rfl <| x_asg (ss rfl rfl) <| sq [q2 0 cc11 v0, q2 1 cI v1, q2 6 cI x19, q2 7 cc11 v0, q2 8 cI (v0.length : Int), q2 9 cI (k18 : Int)] <|
  xn <| wpC_seq <| reg_s <| st rfl <| mvd rfl rfl <| st rfl <| mvd rfl rfl <| st rfl <| b_eql (k := .i64) rfl rfl <| sq [q2 0 cc11 v0, q2 1 cI v1, q2 7 cc11 v0, q2 8 cI (v0.length : Int), q2 9 cI (k18 : Int), q2 15 cB (decide (x19 = v1))] <|
  xn <| cnd rfl h (fun b28 h => wpC_seq <| reg_s <| x_asg (sc cB true rfl) <| sq [q2 4 cB true] <|
  xn <| wpC_ret <| rb <| rt <| rt <| rt <| rb <| rt <| rt <| re <| fin h (r1 (ss rfl rfl) <| r0) rfl)
  (fun b28 h => wpC_skip <| xbb <| kpN [q2 0 cc11 v0, q2 1 cI v1, q2 7 cc11 v0, q2 8 cI (v0.length : Int), q2 9 cI (k18 : Int)] (by kernel_rfl) <| xn <| reg_s <| st rfl <| b_inc rfl rfl l16 hk20 <| st rfl <| mvd rfl rfl <| sq [q2 0 cc11 v0, q2 1 cI v1, q2 7 cc11 v0, q2 8 cI (v0.length : Int), q2 9 cI ((k18 + 1 : Nat) : Int)] <|
  xn <| hn25 () h))

def rs_spec_l1Sign (r : Int) : List D := [cI.enc r]
def m131 : MC := .seq (.reg [q1 2 (.asg (.c (.int .i64 0)))] [0])
 (.seq (.kp [] (.blk 0 (.seq (.reg [q1 4 (.mv (.t 0)),q1 5 (.bin .lss (.t 4) (.c (.int .i64 0))),q1 3 (.asg (.t 5))] [0, 3])
 (.cond (.t 3) (.seq (.reg [q1 2 (.asg (.c (.int .i64 (-1))))] [2])
 (.ret)) (.seq (.reg [q1 7 (.mv (.t 0)),q1 8 (.bin .gtr (.t 7) (.c (.int .i64 0))),q1 6 (.asg (.t 8))] [6])
 (.cond (.t 6) (.seq (.reg [q1 2 (.asg (.c (.int .i64 1)))] [2])
 (.ret)) (.skip)))))))
 (.seq (.reg [q1 2 (.asg (.c (.int .i64 0)))] [2])
 (.ret)))
theorem con_spec_l1Sign {v0 : Int} {r : Int} (h : sh_spec_l1Sign v0 = some r) : Con Try.prog 131 [cI.enc v0] [] (rs_spec_l1Sign r) := by
 delta sh_spec_l1Sign at h
 refine top (out := none) (f := Try.f131) (m := m131) (rs := [.t 2]) (by kernel_rfl) rfl (by kernel_rfl) (by kernel_rfl) (by kernel_rfl) (by kernel_rfl) (by kernel_rfl) ?_
 exact
  ini [q2 0 cI v0] rfl <| wpC_seq <| reg_s <| x_asg (sc cI (0 : Int) rfl) <| sq [q2 0 cI v0] <|
  xn <| wpC_seq <| wpC_kp <| wpC_blk <| wpC_seq <| reg_s <| st rfl <| mvd rfl rfl <| st rfl <| b_lss (k := .i64) rfl rfl <| x_asg (ss rfl rfl) <| sq [q2 0 cI v0, q2 3 cB (decide (v0 < (0 : Int)))] <|
  xn <| cnd rfl h (fun b3 h => wpC_seq <| reg_s <| x_asg (sc cI (-1 : Int) rfl) <| sq [q2 2 cI (-1 : Int)] <|
  xn <| wpC_ret <| rb <| rt <| rt <| re <| fin h (r1 (ss rfl rfl) <| r0) rfl)
  (fun b3 h => wpC_seq <| reg_s <| st rfl <| mvd rfl rfl <| st rfl <| b_gtr (k := .i64) rfl rfl <| x_asg (ss rfl rfl) <| sq [q2 6 cB (decide ((0 : Int) < v0))] <|
  xn <| cnd rfl h (fun b4 h => wpC_seq <| reg_s <| x_asg (sc cI (1 : Int) rfl) <| sq [q2 2 cI (1 : Int)] <|
  xn <| wpC_ret <| rb <| rt <| rt <| re <| fin h (r1 (ss rfl rfl) <| r0) rfl)
  (fun b4 h => wpC_skip <| xbb <| kpN [] (by kernel_rfl) <| xn <| wpC_seq <| reg_s <| x_asg (sc cI (0 : Int) rfl) <| sq [q2 2 cI (0 : Int)] <|
  xn <| wpC_ret <| re <| fin h (r1 (ss rfl rfl) <| r0) rfl))

end AS.W
