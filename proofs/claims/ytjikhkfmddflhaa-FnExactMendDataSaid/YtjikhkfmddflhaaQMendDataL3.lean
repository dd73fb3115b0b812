/- The program computes the plain functions. No condition. -/
import Derived.Test.YtjikhkfmddflhaaQMendDataS
import Derived.Test.YtjikhkfmddflhaaProg
import Derived.Test.YtjikhkfmddflhaaQMendDataL2
set_option maxRecDepth 100000
set_option linter.unusedVariables false
set_option linter.unusedSimpArgs false
namespace AS.W
open Go Go.Proofs
def rs_spec_dGood (r : Bool) : List D := [cB.enc r]
def m98 : MC := .seq (.reg [q1 4 (.asg (.c (.bool false)))] [0, 1])
 (.seq (.kp [1] (.seq (.reg [q1 7 (.mv (.t 1)),q1 8 (.len false (.t 7)),q1 9 (.mv (.c (.int .i64 0)))] [0, 1, 7, 8, 9])
 (.blk 0 (.loop (.seq (.reg [q1 10 (.bin .lss (.t 9) (.t 8))] [0, 1, 7, 8, 9, 10])
 (.seq (.kp [0, 1, 7, 8, 9] (.cond (.t 10) (.skip) (.exit 0)))
 (.seq (.kp [0, 1, 7, 8, 9] (.blk 1 (.seq (.reg [q1 11 (.ia 7 (.t 9) 3),q1 12 (.ld 11 3 true),q1 6 (.alloc (.agg [.int .i64 0, .int .i64 0, .slice true []])),q0 (.st 6 (.t 12) 3)] [0, 1, 6, 7, 8, 9])
 (.seq (.reg [q1 13 (.mv (.t 0)),q1 14 (.ld 6 3 true),q1 15 (.call 145 [(.t 13), (.t 14)]),q1 16 (.nt (.t 15))] [0, 1, 7, 8, 9, 16])
 (.cond (.t 16) (.seq (.reg [q1 4 (.asg (.c (.bool false)))] [4])
 (.ret)) (.skip))))))
 (.reg [q1 17 (.bin .add (.t 9) (.c (.int .i64 1))),q1 9 (.mv (.t 17))] [0, 1, 7, 8, 9]))))))))
 (.seq (.reg [q1 18 (.mv (.t 1)),q1 19 (.len false (.t 18)),q1 20 (.bin .leq (.t 19) (.c (.int .i64 40))),q1 4 (.asg (.t 20))] [4])
 (.ret)))
theorem con_spec_dGood {v0 : (List XVariable)} {v1 : (List XRecord)} {r : Bool} (h : sh_spec_dGood v0 v1 = some r) : Con Try.prog 98 [cc4.enc v0, cc0.enc v1] [] (rs_spec_dGood r) := by
 delta sh_spec_dGood at h
 refine top (out := none) (f := Try.f98) (m := m98) (rs := [.t 4]) (by kernel_rfl) rfl (by kernel_rfl) (by kernel_rfl) (by kernel_rfl) (by kernel_rfl) (by kernel_rfl) ?_
 exact
  ini [q2 0 cc4 v0, q2 1 cc0 v1] rfl <| wpC_seq <| reg_s <| x_asg (sc cB false rfl) <| sq [q2 0 cc4 v0, q2 1 cc0 v1] <|
  xn <| wpC_seq <| wpC_kp <| wpC_seq <| reg_s <| st rfl <| mvd rfl rfl <| stw rfl <| lens rfl fun l32 => st rfl <| mvc cI (0 : Int) rfl <| sq [q2 0 cc4 v0, q2 1 cc0 v1, q2 7 cc0 v1, q2 8 cI (v1.length : Int), q2 9 cI (0 : Int)] <|
  xn <| wpC_blk <| lpR (fun (k34 : Nat) (s33 : Unit) => [q2 0 cc4 v0, q2 1 cc0 v1, q2 7 cc0 v1, q2 8 cI (v1.length : Int), q2 9 cI (k34 : Int)]) () rfl h
  (fun G50 s33 h => wpC_seq <| reg_s <| st rfl <| b_lss (k := .i64) rfl rfl <| sq [q2 0 cc4 v0, q2 1 cc0 v1, q2 7 cc0 v1, q2 8 cI (v1.length : Int), q2 9 cI (v1.length : Int), q2 10 cB (decide ((v1.length : Int) < (v1.length : Int)))] <|
  xn <| wpC_seq <| wpC_kp <| cnd0 rfl (dlf _) <| wpC_exit <| xt <| xt <| xt <| xb <| kpN [q2 1 cc0 v1] (by kernel_rfl) <| xn <| wpC_seq <| reg_s <| st rfl <| mvd rfl rfl <| stw rfl <| lens rfl fun l52 => st rfl <| b_leq (k := .i64) rfl rfl <| x_asg (ss rfl rfl) <| sq [q2 4 cB (decide ((v1.length : Int) ≤ (40 : Int)))] <|
  xn <| wpC_ret <| re <| fin h (r1 (ss rfl rfl) <| r0) rfl)
  (fun G50 nx48 k34 s33 x35 hk36 hx37 hn49 h => wpC_seq <| reg_s <| st rfl <| b_lss (k := .i64) rfl rfl <| sq [q2 0 cc4 v0, q2 1 cc0 v1, q2 7 cc0 v1, q2 8 cI (v1.length : Int), q2 9 cI (k34 : Int), q2 10 cB (decide ((k34 : Int) < (v1.length : Int)))] <|
  xn <| wpC_seq <| wpC_kp <| cnd1 rfl (dlt hk36) <| wpC_skip <| kpN [q2 0 cc4 v0, q2 1 cc0 v1, q2 7 cc0 v1, q2 8 cI (v1.length : Int), q2 9 cI (k34 : Int)] (by kernel_rfl) <| xn <| wpC_seq <| wpC_kp <| wpC_blk <| wpC_seq <| reg_s <| st rfl <| ias rfl rfl (Int.natCast_nonneg _) hx37 rfl <| st rfl <| ldi rfl rfl rfl rfl <| x_all cc5 (⟨(0 : Int), (0 : Int), ([] : List Int)⟩ : XRecord) rfl <| x_stb (ss rfl rfl) rfl (Cd.h_sz _ _) rfl <| sq [q2 0 cc4 v0, q2 1 cc0 v1, q3 6 cc3 x35, q2 7 cc0 v1, q2 8 cI (v1.length : Int), q2 9 cI (k34 : Int)] <|
  xn <| wpC_seq <| reg_s <| st rfl <| mvd rfl rfl <| st rfl <| ldb rfl rfl rfl rfl <| bnd h fun x60 e61 h => st rfl <| o_call (a1 (c := cc4) (tLs (tXVariable tS tK)) rfl (a1 (c := cc3) (tXRecord tK tK (tLs tK)) rfl a0)) (con_spec_rGood e61) (.inl (so1 sB so0)) <| st rfl <| o_nt rfl <| sq [q2 0 cc4 v0, q2 1 cc0 v1, q2 7 cc0 v1, q2 8 cI (v1.length : Int), q2 9 cI (k34 : Int), q2 16 cB (!x60)] <|
  xn <| cnd rfl h (fun b62 h => wpC_seq <| reg_s <| x_asg (sc cB false rfl) <| sq [q2 4 cB false] <|
  xn <| wpC_ret <| rb <| rt <| rt <| rt <| rb <| rt <| rt <| re <| fin h (r1 (ss rfl rfl) <| r0) rfl)
  (fun b62 h => wpC_skip <| xbb <| kpN [q2 0 cc4 v0, q2 1 cc0 v1, q2 7 cc0 v1, q2 8 cI (v1.length : Int), q2 9 cI (k34 : Int)] (by kernel_rfl) <| xn <| reg_s <| st rfl <| b_inc rfl rfl l32 hk36 <| st rfl <| mvd rfl rfl <| sq [q2 0 cc4 v0, q2 1 cc0 v1, q2 7 cc0 v1, q2 8 cI (v1.length : Int), q2 9 cI ((k34 + 1 : Nat) : Int)] <|
  xn <| hn49 () h))

def rs_spec_rOwn (r : XRecord) : List D := [cc5.enc r]
def m99 : MC := .seq (.reg [q1 1 (.box (.t 0)),q1 2 (.alloc (.agg [.int .i64 0, .int .i64 0, .slice true []]))] [1, 2])
 (.seq (.drw [⟨0, q1 3 (.fa 1 0 0), [4, 5, 6, 7, 8, 9]⟩,
  ⟨1, q1 4 (.ld 3 1 false), [5, 6, 7, 8, 9]⟩,
  ⟨2, q1 5 (.fa 1 1 1), [3, 4, 6, 7, 8, 9]⟩,
  ⟨3, q1 6 (.ld 5 1 false), [3, 4, 7, 8, 9]⟩,
  ⟨4, q1 7 (.fa 1 2 2), [3, 4, 5, 6, 8, 9]⟩,
  ⟨5, q1 8 (.ld 7 1 false), [3, 4, 5, 6, 9]⟩,
  ⟨6, q1 9 (.call 90 [(.t 8)]), [3, 4, 5, 6]⟩]
  [(7, q1 10 (.bld [.int .i64 0, .int .i64 0, .slice true []] [(0, (.t 4)), (1, (.t 6)), (2, (.t 9))])),
  (8, q0 (.st 2 (.t 10) 3))] [2])
 (.ret))
theorem con_spec_rOwn {v0 : XRecord} {r : XRecord} (h : sh_spec_rOwn v0 = some r) : Con Try.prog 99 [cc3.enc v0] [] (rs_spec_rOwn r) := by
 delta sh_spec_rOwn at h
 refine top (out := none) (f := Try.f99) (m := m99) (rs := [.c 2 3 true]) (by kernel_rfl) rfl (by kernel_rfl) (by kernel_rfl) (by kernel_rfl) (by kernel_rfl) (by kernel_rfl) ?_
 exact
  ini [q2 0 cc3 v0] rfl <| wpC_seq <| reg_s <| x_box (ss rfl rfl) <| x_all cc5 (⟨(0 : Int), (0 : Int), ([] : List Int)⟩ : XRecord) rfl <| sq [q3 1 cc3 v0, q3 2 cc5 (⟨(0 : Int), (0 : Int), ([] : List Int)⟩ : XRecord)] <|
  xn <| wpC_seq <| drw_s <| pst rfl <| fab rfl rfl rfl rfl ⟨rfl, pst rfl <| lda rfl rfl rfl rfl rfl rfl ⟨rfl, pst rfl <| fab rfl rfl rfl rfl ⟨rfl, pst rfl <| lda rfl rfl rfl rfl rfl rfl ⟨rfl, pst rfl <| fab rfl rfl rfl rfl ⟨rfl, pst rfl <| lda rfl rfl rfl rfl rfl rfl ⟨rfl, bndp h fun x3 e4 h => pst rfl <| o_call (a1 (c := cc11) (tLs tK) rfl a0) (con_spec_l1Own e4) (.inl (so1 (sLo sK) so0)) ⟨rfl, preN <| x_bld (cc5.enc (⟨v0.Area, v0.House, x3⟩ : XRecord)) (t1 (ss rfl rfl) rfl (t1 (ss rfl rfl) rfl (t1 (so rfl rfl) rfl t0))) rfl rfl <| x_stb (so rfl rfl) rfl (Cd.h_sz _ _) rfl <| sq [q3 2 cc5 (⟨v0.Area, v0.House, x3⟩ : XRecord)] <|
  xn <| wpC_ret <| re <| fin h (r2 rfl rfl rfl <| r0) rfl⟩⟩⟩⟩⟩⟩⟩

def rs_spec_iChanged (r : Int) : List D := [cI.enc r]
def m100 : MC := .seq (.reg [q1 6 (.asg (.c (.int .i64 0)))] [0, 1, 2])
 (.seq (.reg [q1 7 (.asg (.c (.int .i64 0)))] [0, 1, 2, 7])
 (.seq (.kp [7] (.seq (.reg [q1 9 (.mv (.t 1)),q1 10 (.len false (.t 9)),q1 11 (.mv (.c (.int .i64 0)))] [0, 1, 2, 7, 10, 11])
 (.blk 0 (.loop (.seq (.reg [q1 12 (.bin .lss (.t 11) (.t 10))] [0, 1, 2, 7, 10, 11, 12])
 (.seq (.kp [0, 1, 2, 7, 10, 11] (.cond (.t 12) (.skip) (.exit 0)))
 (.seq (.kp [0, 1, 2, 7, 10, 11] (.blk 1 (.seq (.reg [q1 13 (.mv (.t 11)),q1 8 (.asg (.t 13))] [0, 1, 2, 7, 8, 10, 11])
 (.seq (.drw [⟨0, q1 14 (.mv (.t 1)), [15, 16, 17, 18, 19, 20, 21, 22]⟩,
  ⟨1, q1 15 (.mv (.t 8)), [14, 16, 17, 18, 19, 20, 21, 22]⟩,
  ⟨2, q1 16 (.ia 14 (.t 15) 1), [17, 18, 19, 20, 21, 22]⟩,
  ⟨3, q1 17 (.ld 16 1 false), [18, 19, 20, 21, 22]⟩,
  ⟨4, q1 18 (.mv (.t 2)), [14, 15, 16, 17, 19, 20, 21, 22]⟩,
  ⟨5, q1 19 (.mv (.t 8)), [14, 15, 16, 17, 18, 20, 21, 22]⟩,
  ⟨6, q1 20 (.ia 18 (.t 19) 1), [14, 15, 16, 17, 21, 22]⟩,
  ⟨7, q1 21 (.ld 20 1 false), [14, 15, 16, 17, 22]⟩,
  ⟨8, q1 22 (.bin .neq (.t 17) (.t 21)), []⟩]
  [] [0, 1, 2, 7, 8, 10, 11, 22])
 (.cond (.t 22) (.reg [q1 23 (.mv (.t 7)),q1 24 (.mv (.t 0)),q1 25 (.mv (.t 8)),q1 26 (.ia 24 (.t 25) 1),q1 27 (.ld 26 1 false),q1 28 (.bin .add (.t 23) (.t 27)),q1 7 (.asg (.t 28))] [0, 1, 2, 7, 10, 11]) (.skip))))))
 (.reg [q1 29 (.bin .add (.t 11) (.c (.int .i64 1))),q1 11 (.mv (.t 29))] [0, 1, 2, 7, 10, 11]))))))))
 (.seq (.reg [q1 30 (.mv (.t 7)),q1 6 (.asg (.t 30))] [6])
 (.ret))))
theorem con_spec_iChanged {v0 : (List Int)} {v1 : (List Int)} {v2 : (List Int)} {r : Int} (h : sh_spec_iChanged v0 v1 v2 = some r) : Con Try.prog 100 [cc11.enc v0, cc11.enc v1, cc11.enc v2] [] (rs_spec_iChanged r) := by
 delta sh_spec_iChanged at h
 refine top (out := none) (f := Try.f100) (m := m100) (rs := [.t 6]) (by kernel_rfl) rfl (by kernel_rfl) (by kernel_rfl) (by kernel_rfl) (by kernel_rfl) (by kernel_rfl) ?_
 exact
  ini [q2 0 cc11 v0, q2 1 cc11 v1, q2 2 cc11 v2] rfl <| wpC_seq <| reg_s <| x_asg (sc cI (0 : Int) rfl) <| sq [q2 0 cc11 v0, q2 1 cc11 v1, q2 2 cc11 v2] <|
  xn <| wpC_seq <| reg_s <| x_asg (sc cI (0 : Int) rfl) <| sq [q2 0 cc11 v0, q2 1 cc11 v1, q2 2 cc11 v2, q2 7 cI (0 : Int)] <|
  xn <| wpC_seq <| wpC_kp <| wpC_seq <| reg_s <| st rfl <| mvd rfl rfl <| stw rfl <| lens rfl fun l78 => st rfl <| mvc cI (0 : Int) rfl <| sq [q2 0 cc11 v0, q2 1 cc11 v1, q2 2 cc11 v2, q2 7 cI (0 : Int), q2 10 cI (v1.length : Int), q2 11 cI (0 : Int)] <|
  xn <| wpC_blk <| lpR (fun (k80 : Nat) (s79 : Int) => [q2 0 cc11 v0, q2 1 cc11 v1, q2 2 cc11 v2, q2 7 cI s79, q2 10 cI (v1.length : Int), q2 11 cI (k80 : Int)]) (0 : Int) rfl h
  (fun G130 s79 h => wpC_seq <| reg_s <| st rfl <| b_lss (k := .i64) rfl rfl <| sq [q2 0 cc11 v0, q2 1 cc11 v1, q2 2 cc11 v2, q2 7 cI s79, q2 10 cI (v1.length : Int), q2 11 cI (v1.length : Int), q2 12 cB (decide ((v1.length : Int) < (v1.length : Int)))] <|
  xn <| wpC_seq <| wpC_kp <| cnd0 rfl (dlf _) <| wpC_exit <| xt <| xt <| xt <| xb <| kpN [q2 7 cI s79] (by kernel_rfl) <| xn <| wpC_seq <| reg_s <| st rfl <| mvd rfl rfl <| x_asg (ss rfl rfl) <| sq [q2 6 cI s79] <|
  xn <| wpC_ret <| re <| fin h (r1 (ss rfl rfl) <| r0) rfl)
  (fun G130 nx128 k80 s79 x81 hk82 hx83 hn129 h => wpC_seq <| reg_s <| st rfl <| b_lss (k := .i64) rfl rfl <| sq [q2 0 cc11 v0, q2 1 cc11 v1, q2 2 cc11 v2, q2 7 cI s79, q2 10 cI (v1.length : Int), q2 11 cI (k80 : Int), q2 12 cB (decide ((k80 : Int) < (v1.length : Int)))] <|
  xn <| wpC_seq <| wpC_kp <| cnd1 rfl (dlt hk82) <| wpC_skip <| kpN [q2 0 cc11 v0, q2 1 cc11 v1, q2 2 cc11 v2, q2 7 cI s79, q2 10 cI (v1.length : Int), q2 11 cI (k80 : Int)] (by kernel_rfl) <| xn <| wpC_seq <| wpC_kp <| wpC_blk <| wpC_seq <| reg_s <| st rfl <| mvd rfl rfl <| x_asg (ss rfl rfl) <| sq [q2 0 cc11 v0, q2 1 cc11 v1, q2 2 cc11 v2, q2 7 cI s79, q2 8 cI (k80 : Int), q2 10 cI (v1.length : Int), q2 11 cI (k80 : Int)] <|
  xn <| wpC_seq <| drw_s <| pst rfl <| mvd rfl rfl ⟨rfl, pst rfl <| mvd rfl rfl ⟨rfl, pst rfl <| ias rfl rfl (Int.natCast_nonneg _) hx83 rfl ⟨rfl, pst rfl <| ldi rfl rfl rfl rfl ⟨rfl, pst rfl <| mvd rfl rfl ⟨rfl, pst rfl <| mvd rfl rfl ⟨rfl, getO_kp h fun x145 i146 g147 h => pst rfl <| ias rfl rfl i146 g147 rfl ⟨rfl, pst rfl <| ldi rfl rfl rfl rfl ⟨rfl, pst rfl <| b_neq (k := .i64) rfl rfl ⟨rfl, preN <| sq [q2 0 cc11 v0, q2 1 cc11 v1, q2 2 cc11 v2, q2 7 cI s79, q2 8 cI (k80 : Int), q2 10 cI (v1.length : Int), q2 11 cI (k80 : Int), q2 22 cB (decide (x81 ≠ x145))] <|
  xn <| cnd rfl h (fun b148 h => reg_s <| st rfl <| mvd rfl rfl <| st rfl <| mvd rfl rfl <| st rfl <| mvd rfl rfl <| getO_k h fun x149 i150 g151 h => st rfl <| ias rfl rfl i150 g151 rfl <| st rfl <| ldi rfl rfl rfl rfl <| ckI_k h fun i152 h => st rfl <| b_add (k := .i64) rfl rfl i152 <| x_asg (ss rfl rfl) <| sq [q2 0 cc11 v0, q2 1 cc11 v1, q2 2 cc11 v2, q2 7 cI (s79 + x149), q2 10 cI (v1.length : Int), q2 11 cI (k80 : Int)] <|
  xbb <| kpN [q2 0 cc11 v0, q2 1 cc11 v1, q2 2 cc11 v2, q2 7 cI (s79 + x149), q2 10 cI (v1.length : Int), q2 11 cI (k80 : Int)] (by kernel_rfl) <| xn <| reg_s <| st rfl <| b_inc rfl rfl l78 hk82 <| st rfl <| mvd rfl rfl <| sq [q2 0 cc11 v0, q2 1 cc11 v1, q2 2 cc11 v2, q2 7 cI (s79 + x149), q2 10 cI (v1.length : Int), q2 11 cI ((k80 + 1 : Nat) : Int)] <|
  xn <| hn129 (s79 + x149) h)
  (fun b148 h => wpC_skip <| xbb <| kpN [q2 0 cc11 v0, q2 1 cc11 v1, q2 2 cc11 v2, q2 7 cI s79, q2 10 cI (v1.length : Int), q2 11 cI (k80 : Int)] (by kernel_rfl) <| xn <| reg_s <| st rfl <| b_inc rfl rfl l78 hk82 <| st rfl <| mvd rfl rfl <| sq [q2 0 cc11 v0, q2 1 cc11 v1, q2 2 cc11 v2, q2 7 cI s79, q2 10 cI (v1.length : Int), q2 11 cI ((k80 + 1 : Nat) : Int)] <|
  xn <| hn129 s79 h)⟩⟩⟩⟩⟩⟩⟩⟩⟩)

def rs_spec_MendData (r : ((List XRecord) × (List Int) × Bool)) : List D := [cc2.enc r.1, cc12.enc r.2.1, cB.enc r.2.2]
def m40 : MC := .seq (.reg [q1 8 (.asg (.c (.slice true []))),q1 9 (.asg (.c (.slice true []))),q1 10 (.asg (.c (.bool false)))] [0, 1, 2, 3])
 (.seq (.kp [0, 1, 2, 3] (.seq (.reg [q1 19 (.mv (.t 0)),q1 20 (.mv (.t 1)),q1 21 (.call 96 [(.t 19), (.t 20)]),q1 22 (.nt (.t 21)),q1 23 (.mv (.t 22)),
  ⟨some 24, .mv (.t 0), some (23, false)⟩,
  ⟨some 25, .mv (.t 2), some (23, false)⟩,
  ⟨some 26, .call 97 [(.t 24), (.t 25)], some (23, false)⟩,
  ⟨some 27, .nt (.t 26), some (23, false)⟩,q1 28 (.pick (.t 23) (.c (.bool true)) (.t 27)),q1 29 (.mv (.t 28)),
  ⟨some 30, .mv (.t 0), some (29, false)⟩,
  ⟨some 31, .mv (.t 3), some (29, false)⟩,
  ⟨some 32, .call 98 [(.t 30), (.t 31)], some (29, false)⟩,
  ⟨some 33, .nt (.t 32), some (29, false)⟩,q1 34 (.pick (.t 29) (.c (.bool true)) (.t 33))] [0, 1, 2, 3, 34])
 (.cond (.t 34) (.seq (.reg [q1 8 (.asg (.c (.slice true []))),q1 9 (.asg (.c (.slice true []))),q1 10 (.asg (.c (.bool false)))] [8, 9, 10])
 (.ret)) (.skip))))
 (.seq (.reg [q1 11 (.asg (.c (.slice true [])))] [0, 1, 2, 3, 11])
 (.seq (.reg [q1 12 (.asg (.c (.slice true [])))] [0, 1, 2, 3, 11, 12])
 (.seq (.kp [11, 12] (.seq (.reg [q1 35 (.mv (.t 3)),q1 36 (.len false (.t 35)),q1 37 (.mv (.c (.int .i64 0)))] [0, 1, 2, 3, 11, 12, 35, 36, 37])
 (.blk 0 (.loop (.seq (.reg [q1 38 (.bin .lss (.t 37) (.t 36))] [0, 1, 2, 3, 11, 12, 35, 36, 37, 38])
 (.seq (.kp [0, 1, 2, 3, 11, 12, 35, 36, 37] (.cond (.t 38) (.skip) (.exit 0)))
 (.seq (.kp [0, 1, 2, 3, 11, 12, 35, 36, 37] (.blk 1 (.seq (.reg [q1 39 (.ia 35 (.t 37) 3),q1 40 (.ld 39 3 true),q1 14 (.alloc (.agg [.int .i64 0, .int .i64 0, .slice true []])),q0 (.st 14 (.t 40) 3)] [0, 1, 2, 3, 11, 12, 14, 35, 36, 37])
 (.seq (.reg [q1 41 (.ld 14 3 true),q1 42 (.call 99 [(.t 41)]),q1 15 (.alloc (.agg [.int .i64 0, .int .i64 0, .slice true []])),q0 (.st 15 (.t 42) 3)] [0, 1, 2, 3, 11, 12, 14, 15, 35, 36, 37])
 (.seq (.reg [q1 16 (.asg (.c (.int .i64 0)))] [0, 1, 2, 3, 11, 12, 14, 15, 16, 35, 36, 37])
 (.seq (.kp [0, 1, 2, 3, 11, 12, 15, 16, 35, 36, 37] (.seq (.reg [q1 43 (.mv (.t 1)),q1 44 (.fa 14 2 2),q1 45 (.ld 44 1 false),q1 46 (.call 91 [(.t 43), (.t 45)]),q1 47 (.len false (.t 46)),q1 48 (.bin .gtr (.t 47) (.c (.int .i64 0)))] [0, 1, 2, 3, 11, 12, 14, 15, 16, 35, 36, 37, 48])
 (.cond (.t 48) (.seq (.reg [q1 50 (.mv (.t 0)),q1 51 (.mv (.t 1)),q1 52 (.mv (.t 2)),q1 53 (.fa 14 2 2),q1 54 (.ld 53 1 false),q1 55 (.call 87 [(.t 50), (.t 51), (.t 52), (.t 54)]),q1 49 (.mvt 55),q1 56 (.ext 49 0),q1 57 (.ext 49 1),q1 17 (.asg (.t 56)),q1 18 (.asg (.t 57))] [0, 1, 2, 3, 11, 12, 14, 15, 17, 18, 35, 36, 37])
 (.seq (.kp [0, 1, 2, 3, 11, 12, 14, 15, 17, 35, 36, 37] (.seq (.reg [q1 58 (.mv (.t 18)),q1 59 (.nt (.t 58))] [0, 1, 2, 3, 11, 12, 14, 15, 17, 35, 36, 37, 59])
 (.cond (.t 59) (.seq (.reg [q1 8 (.asg (.c (.slice true []))),q1 9 (.asg (.c (.slice true []))),q1 10 (.asg (.c (.bool false)))] [8, 9, 10])
 (.ret)) (.skip))))
 (.seq (.reg [q1 60 (.mv (.t 2)),q1 61 (.mv (.t 17)),q1 62 (.fa 14 2 2),q1 63 (.ld 62 1 false),q1 64 (.call 100 [(.t 60), (.t 61), (.t 63)]),q1 16 (.asg (.t 64))] [0, 1, 2, 3, 11, 12, 15, 16, 17, 35, 36, 37])
 (.reg [q1 65 (.mv (.t 17)),q1 66 (.fa 15 2 2),q0 (.st 66 (.t 65) 1)] [0, 1, 2, 3, 11, 12, 15, 16, 35, 36, 37])))) (.skip))))
 (.seq (.reg [q1 67 (.mv (.t 11)),q1 68 (.ld 15 3 true),q1 69 (.bsl [(.t 68)] 3),q1 70 (.app (.t 67) (.t 69) 3),q1 11 (.asg (.t 70))] [0, 1, 2, 3, 11, 12, 16, 35, 36, 37])
 (.reg [q1 71 (.mv (.t 12)),q1 72 (.mv (.t 16)),q1 73 (.bsl [(.t 72)] 1),q1 74 (.app (.t 71) (.t 73) 1),q1 12 (.asg (.t 74))] [0, 1, 2, 3, 11, 12, 35, 36, 37]))))))))
 (.reg [q1 75 (.bin .add (.t 37) (.c (.int .i64 1))),q1 37 (.mv (.t 75))] [0, 1, 2, 3, 11, 12, 35, 36, 37]))))))))
 (.seq (.reg [q1 76 (.mv (.t 11)),q1 77 (.mv (.t 12)),q1 8 (.asg (.t 76)),q1 9 (.asg (.t 77)),q1 10 (.asg (.c (.bool true)))] [8, 9, 10])
 (.ret))))))
theorem con_spec_MendData {v0 : (List XVariable)} {v1 : (List XEdit)} {v2 : (List Int)} {v3 : (List XRecord)} {r : ((List XRecord) × (List Int) × Bool)} (h : sh_spec_MendData v0 v1 v2 v3 = some r) : Con Try.prog 40 [cc4.enc v0, cc1.enc v1, cc11.enc v2, cc0.enc v3] [] (rs_spec_MendData r) := by
 delta sh_spec_MendData at h
 refine top (out := none) (f := Try.f40) (m := m40) (rs := [.t 8, .t 9, .t 10]) (by kernel_rfl) rfl (by kernel_rfl) (by kernel_rfl) (by kernel_rfl) (by kernel_rfl) (by kernel_rfl) ?_
 exact
  ini [q2 0 cc4 v0, q2 1 cc1 v1, q2 2 cc11 v2, q2 3 cc0 v3] rfl <| wpC_seq <| reg_s <| x_asg (sc cc2 ([] : List XRecord) rfl) <| x_asg (sc cc12 ([] : List Int) rfl) <| x_asg (sc cB false rfl) <| sq [q2 0 cc4 v0, q2 1 cc1 v1, q2 2 cc11 v2, q2 3 cc0 v3] <|
  xn <| wpC_seq <| wpC_kp <| wpC_seq <| reg_s <| st rfl <| mvd rfl rfl <| st rfl <| mvd rfl rfl <| bnd h fun x26 e27 h => st rfl <| o_call (a1 (c := cc4) (tLs (tXVariable tS tK)) rfl (a1 (c := cc1) (tLs (tXEdit (tLs tK))) rfl a0)) (con_spec_eSmall e27) (.inl (so1 sB so0)) <| st rfl <| o_nt rfl <| st rfl <| mvd rfl rfl <| ite_k h (fun b28 h => gf rfl b28 <| gf rfl b28 <| gf rfl b28 <| gf rfl b28 <| st rfl <| pick1 rfl b28 (cd := cB) (v := true) rfl rfl <| st rfl <| mvd rfl rfl <| gf rfl rfl <| gf rfl rfl <| gf rfl rfl <| gf rfl rfl <| st rfl <| pick1 rfl rfl (cd := cB) (v := true) rfl rfl <| sq [q2 0 cc4 v0, q2 1 cc1 v1, q2 2 cc11 v2, q2 3 cc0 v3, q2 34 cB true] <|
  xn <| cnd1 rfl rfl <| wpC_seq <| reg_s <| x_asg (sc cc2 ([] : List XRecord) rfl) <| x_asg (sc cc12 ([] : List Int) rfl) <| x_asg (sc cB false rfl) <| sq [q2 8 cc2 ([] : List XRecord), q2 9 cc12 ([] : List Int), q2 10 cB false] <|
  xn <| wpC_ret <| rt <| rt <| re <| fin h (r1 (so rfl rfl) <| r1 (so rfl rfl) <| r1 (ss rfl rfl) <| r0) rfl)
  (fun b28 h => gt' rfl b28 <| st rfl <| mvd rfl rfl <| gt' rfl b28 <| st rfl <| mvd rfl rfl <| gt' rfl b28 <| bnd h fun x29 e30 h => st rfl <| o_call (a1 (c := cc4) (tLs (tXVariable tS tK)) rfl (a1 (c := cc11) (tLs tK) rfl a0)) (con_spec_iWeights e30) (.inl (so1 sB so0)) <| gt' rfl b28 <| st rfl <| o_nt rfl <| st rfl <| pick0 rfl b28 (cd := cB) (v := (!x29)) rfl rfl <| st rfl <| mvd rfl rfl <| ite_k h (fun b31 h => gf rfl b31 <| gf rfl b31 <| gf rfl b31 <| gf rfl b31 <| st rfl <| pick1 rfl b31 (cd := cB) (v := true) rfl rfl <| sq [q2 0 cc4 v0, q2 1 cc1 v1, q2 2 cc11 v2, q2 3 cc0 v3, q2 34 cB true] <|
  xn <| cnd1 rfl rfl <| wpC_seq <| reg_s <| x_asg (sc cc2 ([] : List XRecord) rfl) <| x_asg (sc cc12 ([] : List Int) rfl) <| x_asg (sc cB false rfl) <| sq [q2 8 cc2 ([] : List XRecord), q2 9 cc12 ([] : List Int), q2 10 cB false] <|
  xn <| wpC_ret <| rt <| rt <| re <| fin h (r1 (so rfl rfl) <| r1 (so rfl rfl) <| r1 (ss rfl rfl) <| r0) rfl)
  (fun b31 h => gt' rfl b31 <| st rfl <| mvd rfl rfl <| gt' rfl b31 <| st rfl <| mvd rfl rfl <| gt' rfl b31 <| bnd h fun x32 e33 h => st rfl <| o_call (a1 (c := cc4) (tLs (tXVariable tS tK)) rfl (a1 (c := cc0) (tLs (tXRecord tK tK (tLs tK))) rfl a0)) (con_spec_dGood e33) (.inl (so1 sB so0)) <| gt' rfl b31 <| st rfl <| o_nt rfl <| st rfl <| pick0 rfl b31 (cd := cB) (v := (!x32)) rfl rfl <| sq [q2 0 cc4 v0, q2 1 cc1 v1, q2 2 cc11 v2, q2 3 cc0 v3, q2 34 cB (!x32)] <|
  xn <| cnd rfl h (fun b34 h => wpC_seq <| reg_s <| x_asg (sc cc2 ([] : List XRecord) rfl) <| x_asg (sc cc12 ([] : List Int) rfl) <| x_asg (sc cB false rfl) <| sq [q2 8 cc2 ([] : List XRecord), q2 9 cc12 ([] : List Int), q2 10 cB false] <|
  xn <| wpC_ret <| rt <| rt <| re <| fin h (r1 (so rfl rfl) <| r1 (so rfl rfl) <| r1 (ss rfl rfl) <| r0) rfl)
  (fun b34 h => wpC_skip <| kpN [q2 0 cc4 v0, q2 1 cc1 v1, q2 2 cc11 v2, q2 3 cc0 v3] (by kernel_rfl) <| xn <| wpC_seq <| reg_s <| x_asg (sc cc2 ([] : List XRecord) rfl) <| sq [q2 0 cc4 v0, q2 1 cc1 v1, q2 2 cc11 v2, q2 3 cc0 v3, q2 11 cc2 ([] : List XRecord)] <|
  xn <| wpC_seq <| reg_s <| x_asg (sc cc12 ([] : List Int) rfl) <| sq [q2 0 cc4 v0, q2 1 cc1 v1, q2 2 cc11 v2, q2 3 cc0 v3, q2 11 cc2 ([] : List XRecord), q2 12 cc12 ([] : List Int)] <|
  xn <| wpC_seq <| wpC_kp <| wpC_seq <| reg_s <| st rfl <| mvd rfl rfl <| stw rfl <| lens rfl fun l310 => st rfl <| mvc cI (0 : Int) rfl <| sq [q2 0 cc4 v0, q2 1 cc1 v1, q2 2 cc11 v2, q2 3 cc0 v3, q2 11 cc2 ([] : List XRecord), q2 12 cc12 ([] : List Int), q2 35 cc0 v3, q2 36 cI (v3.length : Int), q2 37 cI (0 : Int)] <|
  xn <| wpC_blk <| lpR (fun (k312 : Nat) (s311 : ((List XRecord) × (List Int))) => [q2 0 cc4 v0, q2 1 cc1 v1, q2 2 cc11 v2, q2 3 cc0 v3, q2 11 cc2 s311.1, q2 12 cc12 s311.2, q2 35 cc0 v3, q2 36 cI (v3.length : Int), q2 37 cI (k312 : Int)]) (([] : List XRecord), ([] : List Int)) rfl h
  (fun G494 s311 h => wpC_seq <| reg_s <| st rfl <| b_lss (k := .i64) rfl rfl <| sq [q2 0 cc4 v0, q2 1 cc1 v1, q2 2 cc11 v2, q2 3 cc0 v3, q2 11 cc2 s311.1, q2 12 cc12 s311.2, q2 35 cc0 v3, q2 36 cI (v3.length : Int), q2 37 cI (v3.length : Int), q2 38 cB (decide ((v3.length : Int) < (v3.length : Int)))] <|
  xn <| wpC_seq <| wpC_kp <| cnd0 rfl (dlf _) <| wpC_exit <| xt <| xt <| xt <| xb <| kpN [q2 11 cc2 s311.1, q2 12 cc12 s311.2] (by kernel_rfl) <| xn <| wpC_seq <| reg_s <| st rfl <| mvo rfl rfl <| st rfl <| mvo rfl rfl <| x_asg (sr rfl rfl) <| x_asg (sr rfl rfl) <| x_asg (sc cB true rfl) <| sq [q2 8 cc2 s311.1, q2 9 cc12 s311.2, q2 10 cB true] <|
  xn <| wpC_ret <| re <| fin h (r1 (so rfl rfl) <| r1 (so rfl rfl) <| r1 (ss rfl rfl) <| r0) rfl)
  (fun G494 nx492 k312 s311 x313 hk314 hx315 hn493 h => wpC_seq <| reg_s <| st rfl <| b_lss (k := .i64) rfl rfl <| sq [q2 0 cc4 v0, q2 1 cc1 v1, q2 2 cc11 v2, q2 3 cc0 v3, q2 11 cc2 s311.1, q2 12 cc12 s311.2, q2 35 cc0 v3, q2 36 cI (v3.length : Int), q2 37 cI (k312 : Int), q2 38 cB (decide ((k312 : Int) < (v3.length : Int)))] <|
  xn <| wpC_seq <| wpC_kp <| cnd1 rfl (dlt hk314) <| wpC_skip <| kpN [q2 0 cc4 v0, q2 1 cc1 v1, q2 2 cc11 v2, q2 3 cc0 v3, q2 11 cc2 s311.1, q2 12 cc12 s311.2, q2 35 cc0 v3, q2 36 cI (v3.length : Int), q2 37 cI (k312 : Int)] (by kernel_rfl) <| xn <| wpC_seq <| wpC_kp <| wpC_blk <| wpC_seq <| reg_s <| st rfl <| ias rfl rfl (Int.natCast_nonneg _) hx315 rfl <| st rfl <| ldi rfl rfl rfl rfl <| x_all cc5 (⟨(0 : Int), (0 : Int), ([] : List Int)⟩ : XRecord) rfl <| x_stb (ss rfl rfl) rfl (Cd.h_sz _ _) rfl <| sq [q2 0 cc4 v0, q2 1 cc1 v1, q2 2 cc11 v2, q2 3 cc0 v3, q2 11 cc2 s311.1, q2 12 cc12 s311.2, q3 14 cc3 x313, q2 35 cc0 v3, q2 36 cI (v3.length : Int), q2 37 cI (k312 : Int)] <|
  xn <| wpC_seq <| reg_s <| st rfl <| ldb rfl rfl rfl rfl <| bnd h fun x541 e542 h => st rfl <| o_call (a1 (c := cc3) (tXRecord tK tK (tLs tK)) rfl a0) (con_spec_rOwn e542) (.inl (so1 (sXRecord sK sK (sLo sK)) so0)) <| x_all cc5 (⟨(0 : Int), (0 : Int), ([] : List Int)⟩ : XRecord) rfl <| x_stb (so rfl rfl) rfl (Cd.h_sz _ _) rfl <| sq [q2 0 cc4 v0, q2 1 cc1 v1, q2 2 cc11 v2, q2 3 cc0 v3, q2 11 cc2 s311.1, q2 12 cc12 s311.2, q3 14 cc3 x313, q3 15 cc5 x541, q2 35 cc0 v3, q2 36 cI (v3.length : Int), q2 37 cI (k312 : Int)] <|
  xn <| wpC_seq <| reg_s <| x_asg (sc cI (0 : Int) rfl) <| sq [q2 0 cc4 v0, q2 1 cc1 v1, q2 2 cc11 v2, q2 3 cc0 v3, q2 11 cc2 s311.1, q2 12 cc12 s311.2, q3 14 cc3 x313, q3 15 cc5 x541, q2 16 cI (0 : Int), q2 35 cc0 v3, q2 36 cI (v3.length : Int), q2 37 cI (k312 : Int)] <|
  xn <| sqj (fun (s560 : (XRecord × Int)) => [q2 0 cc4 v0, q2 1 cc1 v1, q2 2 cc11 v2, q2 3 cc0 v3, q2 11 cc2 s311.1, q2 12 cc12 s311.2, q3 15 cc5 s560.1, q2 16 cI s560.2, q2 35 cc0 v3, q2 36 cI (v3.length : Int), q2 37 cI (k312 : Int)]) h (fun s560 h => wpC_seq <| reg_s <| st rfl <| mvo rfl rfl <| st rfl <| ldbo rfl rfl rfl rfl <| x_bsl cc5 [s560.1] (t1 (sb rfl rfl) rfl t0) rfl rfl <| lnO_k h fun l564 h => x_app (sr rfl rfl) (to1 rfl rfl) l564 rfl <| x_asg (so rfl rfl) <| sq [q2 0 cc4 v0, q2 1 cc1 v1, q2 2 cc11 v2, q2 3 cc0 v3, q2 11 cc2 (s311.1 ++ [s560.1]), q2 12 cc12 s311.2, q2 16 cI s560.2, q2 35 cc0 v3, q2 36 cI (v3.length : Int), q2 37 cI (k312 : Int)] <|
  xn <| reg_s <| st rfl <| mvo rfl rfl <| st rfl <| mvd rfl rfl <| x_bsl cI [s560.2] (t1 (ss rfl rfl) rfl t0) rfl rfl <| lnO_k h fun l565 h => x_app (sr rfl rfl) (to rfl rfl) l565 rfl <| x_asg (so rfl rfl) <| sq [q2 0 cc4 v0, q2 1 cc1 v1, q2 2 cc11 v2, q2 3 cc0 v3, q2 11 cc2 (s311.1 ++ [s560.1]), q2 12 cc12 (s311.2 ++ [s560.2]), q2 35 cc0 v3, q2 36 cI (v3.length : Int), q2 37 cI (k312 : Int)] <|
  xbb <| kpN [q2 0 cc4 v0, q2 1 cc1 v1, q2 2 cc11 v2, q2 3 cc0 v3, q2 11 cc2 (s311.1 ++ [s560.1]), q2 12 cc12 (s311.2 ++ [s560.2]), q2 35 cc0 v3, q2 36 cI (v3.length : Int), q2 37 cI (k312 : Int)] (by kernel_rfl) <| xn <| reg_s <| st rfl <| b_inc rfl rfl l310 hk314 <| st rfl <| mvd rfl rfl <| sq [q2 0 cc4 v0, q2 1 cc1 v1, q2 2 cc11 v2, q2 3 cc0 v3, q2 11 cc2 (s311.1 ++ [s560.1]), q2 12 cc12 (s311.2 ++ [s560.2]), q2 35 cc0 v3, q2 36 cI (v3.length : Int), q2 37 cI ((k312 + 1 : Nat) : Int)] <|
  xn <| hn493 ((s311.1 ++ [s560.1]), (s311.2 ++ [s560.2])) h)
  fun m562 h => wpC_kp <| wpC_seq <| reg_s <| st rfl <| mvd rfl rfl <| st rfl <| fab rfl rfl rfl rfl <| st rfl <| lda rfl rfl rfl rfl rfl rfl <| bnd h fun x569 e570 h => st rfl <| o_call (a1 (c := cc1) (tLs (tXEdit (tLs tK))) rfl (a1 (c := cc11) (tLs tK) rfl a0)) (con_spec_eFailed e570) (.inl (so1 (sLo sK) so0)) <| stw rfl <| leno rfl fun l571 => st rfl <| b_gtr (k := .i64) rfl rfl <| sq [q2 0 cc4 v0, q2 1 cc1 v1, q2 2 cc11 v2, q2 3 cc0 v3, q2 11 cc2 s311.1, q2 12 cc12 s311.2, q3 14 cc3 x313, q3 15 cc5 x541, q2 16 cI (0 : Int), q2 35 cc0 v3, q2 36 cI (v3.length : Int), q2 37 cI (k312 : Int), q2 48 cB (decide ((0 : Int) < (x569.length : Int)))] <|
  xn <| cnd rfl h (fun b572 h => wpC_seq <| reg_s <| st rfl <| mvd rfl rfl <| st rfl <| mvd rfl rfl <| st rfl <| mvd rfl rfl <| st rfl <| fab rfl rfl rfl rfl <| st rfl <| lda rfl rfl rfl rfl rfl rfl <| bnd h fun x575 e576 h => st rfl <| o_call (a1 (c := cc4) (tLs (tXVariable tS tK)) rfl (a1 (c := cc1) (tLs (tXEdit (tLs tK))) rfl (a1 (c := cc11) (tLs tK) rfl (a1 (c := cc11) (tLs tK) rfl a0)))) (con_spec_iMend e576) (.inl (so1 (sLo sK) (so1 sB so0))) <| x_mvt rfl <| x_ext rfl rfl <| x_ext rfl rfl <| x_asg (so rfl rfl) <| x_asg (ss rfl rfl) <| sq [q2 0 cc4 v0, q2 1 cc1 v1, q2 2 cc11 v2, q2 3 cc0 v3, q2 11 cc2 s311.1, q2 12 cc12 s311.2, q3 14 cc3 x313, q3 15 cc5 x541, q2 17 cc12 x575.1, q2 18 cB x575.2, q2 35 cc0 v3, q2 36 cI (v3.length : Int), q2 37 cI (k312 : Int)] <|
  xn <| wpC_seq <| wpC_kp <| wpC_seq <| reg_s <| st rfl <| mvd rfl rfl <| st rfl <| o_nt rfl <| sq [q2 0 cc4 v0, q2 1 cc1 v1, q2 2 cc11 v2, q2 3 cc0 v3, q2 11 cc2 s311.1, q2 12 cc12 s311.2, q3 14 cc3 x313, q3 15 cc5 x541, q2 17 cc12 x575.1, q2 35 cc0 v3, q2 36 cI (v3.length : Int), q2 37 cI (k312 : Int), q2 59 cB (!x575.2)] <|
  xn <| cnd rfl h (fun b578 h => wpC_seq <| reg_s <| x_asg (sc cc2 ([] : List XRecord) rfl) <| x_asg (sc cc12 ([] : List Int) rfl) <| x_asg (sc cB false rfl) <| sq [q2 8 cc2 ([] : List XRecord), q2 9 cc12 ([] : List Int), q2 10 cB false] <|
  xn <| wpC_ret <| rt <| rt <| rt <| rt <| rb <| rt <| rt <| rt <| rb <| rt <| rt <| re <| fin h (r1 (so rfl rfl) <| r1 (so rfl rfl) <| r1 (ss rfl rfl) <| r0) rfl)
  (fun b578 h => wpC_skip <| kpN [q2 0 cc4 v0, q2 1 cc1 v1, q2 2 cc11 v2, q2 3 cc0 v3, q2 11 cc2 s311.1, q2 12 cc12 s311.2, q3 14 cc3 x313, q3 15 cc5 x541, q2 17 cc12 x575.1, q2 35 cc0 v3, q2 36 cI (v3.length : Int), q2 37 cI (k312 : Int)] (by kernel_rfl) <| xn <| wpC_seq <| reg_s <| st rfl <| mvd rfl rfl <| st rfl <| mvo rfl rfl <| st rfl <| fab rfl rfl rfl rfl <| st rfl <| lda rfl rfl rfl rfl rfl rfl <| bnd h fun x581 e582 h => st rfl <| o_call (a1 (c := cc11) (tLs tK) rfl (a1 (c := cc12) (tLo tK) rfl (a1 (c := cc11) (tLs tK) rfl a0))) (con_spec_iChanged e582) (.inl (so1 sK so0)) <| x_asg (ss rfl rfl) <| sq [q2 0 cc4 v0, q2 1 cc1 v1, q2 2 cc11 v2, q2 3 cc0 v3, q2 11 cc2 s311.1, q2 12 cc12 s311.2, q3 15 cc5 x541, q2 16 cI x581, q2 17 cc12 x575.1, q2 35 cc0 v3, q2 36 cI (v3.length : Int), q2 37 cI (k312 : Int)] <|
  xn <| reg_s <| st rfl <| mvo rfl rfl <| st rfl <| fab rfl rfl rfl rfl <| x_sta (cc5.enc (⟨x541.Area, x541.House, x575.1⟩ : XRecord)) (sr rfl rfl) rfl rfl (Ln.fld rfl rfl Ln.nil rfl) (Cd.h_sz cc12 _) rfl <| sq [q2 0 cc4 v0, q2 1 cc1 v1, q2 2 cc11 v2, q2 3 cc0 v3, q2 11 cc2 s311.1, q2 12 cc12 s311.2, q3 15 cc5 (⟨x541.Area, x541.House, x575.1⟩ : XRecord), q2 16 cI x581, q2 35 cc0 v3, q2 36 cI (v3.length : Int), q2 37 cI (k312 : Int)] <|
  kpN [q2 0 cc4 v0, q2 1 cc1 v1, q2 2 cc11 v2, q2 3 cc0 v3, q2 11 cc2 s311.1, q2 12 cc12 s311.2, q3 15 cc5 (⟨x541.Area, x541.House, x575.1⟩ : XRecord), q2 16 cI x581, q2 35 cc0 v3, q2 36 cI (v3.length : Int), q2 37 cI (k312 : Int)] (by kernel_rfl) <| m562 ((⟨x541.Area, x541.House, x575.1⟩ : XRecord), x581) h))
  (fun b572 h => wpC_skip <| kpN [q2 0 cc4 v0, q2 1 cc1 v1, q2 2 cc11 v2, q2 3 cc0 v3, q2 11 cc2 s311.1, q2 12 cc12 s311.2, q3 15 cc5 x541, q2 16 cI (0 : Int), q2 35 cc0 v3, q2 36 cI (v3.length : Int), q2 37 cI (k312 : Int)] (by kernel_rfl) <| m562 (x541, (0 : Int)) h)))))

def rs_impl_isRecord (r : Bool) : List D := [cB.enc r]
def m146 : MC := .seq (.reg [q1 3 (.box (.t 1)),q1 4 (.asg (.c (.bool false)))] [0, 3])
 (.seq (.reg [q1 5 (.fa 3 0 0),q1 6 (.ld 5 1 false),q1 7 (.bin .geq (.t 6) (.c (.int .i64 0))),q1 8 (.mv (.t 7)),
  ⟨some 9, .fa 3 0 0, some (8, true)⟩,
  ⟨some 10, .ld 9 1 false, some (8, true)⟩,
  ⟨some 11, .bin .leq (.t 10) (.c (.int .i64 29)), some (8, true)⟩,q1 12 (.pick (.t 8) (.t 11) (.c (.bool false))),q1 13 (.mv (.t 12)),
  ⟨some 14, .fa 3 1 1, some (13, true)⟩,
  ⟨some 15, .ld 14 1 false, some (13, true)⟩,
  ⟨some 16, .bin .geq (.t 15) (.c (.int .i64 0)), some (13, true)⟩,q1 17 (.pick (.t 13) (.t 16) (.c (.bool false))),q1 18 (.mv (.t 17)),
  ⟨some 19, .fa 3 1 1, some (18, true)⟩,
  ⟨some 20, .ld 19 1 false, some (18, true)⟩,
  ⟨some 21, .bin .leq (.t 20) (.c (.int .i64 999)), some (18, true)⟩,q1 22 (.pick (.t 18) (.t 21) (.c (.bool false))),q1 23 (.mv (.t 22)),
  ⟨some 24, .mv (.t 0), some (23, true)⟩,
  ⟨some 25, .fa 3 2 2, some (23, true)⟩,
  ⟨some 26, .ld 25 1 false, some (23, true)⟩,
  ⟨some 27, .call 75 [(.t 24), (.t 26)], some (23, true)⟩,q1 28 (.pick (.t 23) (.t 27) (.c (.bool false))),q1 4 (.asg (.t 28))] [4])
 (.ret))
theorem con_impl_isRecord {v0 : (List XVariable)} {v1 : XRecord} {r : Bool} (h : sh_impl_isRecord v0 v1 = some r) : Con Try.prog 146 [cc4.enc v0, cc3.enc v1] [] (rs_impl_isRecord r) := by
 delta sh_impl_isRecord at h
 refine top (out := none) (f := Try.f146) (m := m146) (rs := [.t 4]) (by kernel_rfl) rfl (by kernel_rfl) (by kernel_rfl) (by kernel_rfl) (by kernel_rfl) (by kernel_rfl) ?_
 exact
  ini [q2 0 cc4 v0, q2 1 cc3 v1] rfl <| wpC_seq <| reg_s <| x_box (ss rfl rfl) <| x_asg (sc cB false rfl) <| sq [q2 0 cc4 v0, q3 3 cc3 v1] <|
  xn <| wpC_seq <| jw (fun (s7 : Bool) => [q2 4 cB s7]) h (fun s7 h => xn <| wpC_ret <| re <| fin h (r1 (ss rfl rfl) <| r0) rfl)
  fun s7' q8 h => reg_s <| st rfl <| fab rfl rfl rfl rfl <| st rfl <| lda rfl rfl rfl rfl rfl rfl <| st rfl <| b_geq (k := .i64) rfl rfl <| st rfl <| mvd rfl rfl <| ite_k h (fun b9 h => gt' rfl b9 <| st rfl <| fab rfl rfl rfl rfl <| gt' rfl b9 <| st rfl <| lda rfl rfl rfl rfl rfl rfl <| gt' rfl b9 <| st rfl <| b_leq (k := .i64) rfl rfl <| st rfl <| pick1 rfl b9 (cd := cB) (v := (decide (v1.Area ≤ (29 : Int)))) rfl rfl <| st rfl <| mvd rfl rfl <| ite_k h (fun b10 h => gt' rfl b10 <| st rfl <| fab rfl rfl rfl rfl <| gt' rfl b10 <| st rfl <| lda rfl rfl rfl rfl rfl rfl <| gt' rfl b10 <| st rfl <| b_geq (k := .i64) rfl rfl <| st rfl <| pick1 rfl b10 (cd := cB) (v := (decide ((0 : Int) ≤ v1.House))) rfl rfl <| st rfl <| mvd rfl rfl <| ite_k h (fun b11 h => gt' rfl b11 <| st rfl <| fab rfl rfl rfl rfl <| gt' rfl b11 <| st rfl <| lda rfl rfl rfl rfl rfl rfl <| gt' rfl b11 <| st rfl <| b_leq (k := .i64) rfl rfl <| st rfl <| pick1 rfl b11 (cd := cB) (v := (decide (v1.House ≤ (999 : Int)))) rfl rfl <| st rfl <| mvd rfl rfl <| ite_k h (fun b12 h => gt' rfl b12 <| st rfl <| mvd rfl rfl <| gt' rfl b12 <| st rfl <| fab rfl rfl rfl rfl <| gt' rfl b12 <| st rfl <| lda rfl rfl rfl rfl rfl rfl <| gt' rfl b12 <| bnd h fun x13 e14 h => st rfl <| o_call (a1 (c := cc4) (tLs (tXVariable tS tK)) rfl (a1 (c := cc11) (tLs tK) rfl a0)) (con_impl_areValues e14) (.inl (so1 sB so0)) <| st rfl <| pick1 rfl b12 (cd := cB) (v := x13) rfl rfl <| x_asg (ss rfl rfl) <| sq [q2 4 cB x13] <|
  lfn (S := (fun (s7 : Bool) => [q2 4 cB s7])) h q8 rfl)
  (fun b12 h => gf rfl b12 <| gf rfl b12 <| gf rfl b12 <| gf rfl b12 <| st rfl <| pick0 rfl b12 (cd := cB) (v := false) rfl rfl <| x_asg (ss rfl rfl) <| sq [q2 4 cB false] <|
  lfn (S := (fun (s7 : Bool) => [q2 4 cB s7])) h q8 rfl))
  (fun b11 h => gf rfl b11 <| gf rfl b11 <| gf rfl b11 <| st rfl <| pick0 rfl b11 (cd := cB) (v := false) rfl rfl <| st rfl <| mvd rfl rfl <| gf rfl rfl <| gf rfl rfl <| gf rfl rfl <| gf rfl rfl <| st rfl <| pick0 rfl rfl (cd := cB) (v := false) rfl rfl <| x_asg (ss rfl rfl) <| sq [q2 4 cB false] <|
  lfn (S := (fun (s7 : Bool) => [q2 4 cB s7])) h q8 rfl))
  (fun b10 h => gf rfl b10 <| gf rfl b10 <| gf rfl b10 <| st rfl <| pick0 rfl b10 (cd := cB) (v := false) rfl rfl <| st rfl <| mvd rfl rfl <| gf rfl rfl <| gf rfl rfl <| gf rfl rfl <| st rfl <| pick0 rfl rfl (cd := cB) (v := false) rfl rfl <| st rfl <| mvd rfl rfl <| gf rfl rfl <| gf rfl rfl <| gf rfl rfl <| gf rfl rfl <| st rfl <| pick0 rfl rfl (cd := cB) (v := false) rfl rfl <| x_asg (ss rfl rfl) <| sq [q2 4 cB false] <|
  lfn (S := (fun (s7 : Bool) => [q2 4 cB s7])) h q8 rfl))
  (fun b9 h => gf rfl b9 <| gf rfl b9 <| gf rfl b9 <| st rfl <| pick0 rfl b9 (cd := cB) (v := false) rfl rfl <| st rfl <| mvd rfl rfl <| gf rfl rfl <| gf rfl rfl <| gf rfl rfl <| st rfl <| pick0 rfl rfl (cd := cB) (v := false) rfl rfl <| st rfl <| mvd rfl rfl <| gf rfl rfl <| gf rfl rfl <| gf rfl rfl <| st rfl <| pick0 rfl rfl (cd := cB) (v := false) rfl rfl <| st rfl <| mvd rfl rfl <| gf rfl rfl <| gf rfl rfl <| gf rfl rfl <| gf rfl rfl <| st rfl <| pick0 rfl rfl (cd := cB) (v := false) rfl rfl <| x_asg (ss rfl rfl) <| sq [q2 4 cB false] <|
  lfn (S := (fun (s7 : Bool) => [q2 4 cB s7])) h q8 rfl)

def rs_impl_isData (r : Bool) : List D := [cB.enc r]
def m102 : MC := .seq (.reg [q1 4 (.asg (.c (.bool false)))] [0, 1])
 (.seq (.kp [0, 1] (.seq (.reg [q1 7 (.mv (.t 1)),q1 8 (.len false (.t 7)),q1 9 (.bin .gtr (.t 8) (.c (.int .i64 40)))] [0, 1, 9])
 (.cond (.t 9) (.seq (.reg [q1 4 (.asg (.c (.bool false)))] [4])
 (.ret)) (.skip))))
 (.seq (.kp [] (.seq (.reg [q1 10 (.mv (.t 1)),q1 11 (.len false (.t 10)),q1 12 (.mv (.c (.int .i64 0)))] [0, 1, 10, 11, 12])
 (.blk 0 (.loop (.seq (.reg [q1 13 (.bin .lss (.t 12) (.t 11))] [0, 1, 10, 11, 12, 13])
 (.seq (.kp [0, 1, 10, 11, 12] (.cond (.t 13) (.skip) (.exit 0)))
 (.seq (.kp [0, 1, 10, 11, 12] (.blk 1 (.seq (.reg [q1 14 (.ia 10 (.t 12) 3),q1 15 (.ld 14 3 true),q1 6 (.alloc (.agg [.int .i64 0, .int .i64 0, .slice true []])),q0 (.st 6 (.t 15) 3)] [0, 1, 6, 10, 11, 12])
 (.seq (.reg [q1 16 (.mv (.t 0)),q1 17 (.ld 6 3 true),q1 18 (.call 146 [(.t 16), (.t 17)]),q1 19 (.nt (.t 18))] [0, 1, 10, 11, 12, 19])
 (.cond (.t 19) (.seq (.reg [q1 4 (.asg (.c (.bool false)))] [4])
 (.ret)) (.skip))))))
 (.reg [q1 20 (.bin .add (.t 12) (.c (.int .i64 1))),q1 12 (.mv (.t 20))] [0, 1, 10, 11, 12]))))))))
 (.seq (.reg [q1 4 (.asg (.c (.bool true)))] [4])
 (.ret))))
theorem con_impl_isData {v0 : (List XVariable)} {v1 : (List XRecord)} {r : Bool} (h : sh_impl_isData v0 v1 = some r) : Con Try.prog 102 [cc4.enc v0, cc0.enc v1] [] (rs_impl_isData r) := by
 delta sh_impl_isData at h
 refine top (out := none) (f := Try.f102) (m := m102) (rs := [.t 4]) (by kernel_rfl) rfl (by kernel_rfl) (by kernel_rfl) (by kernel_rfl) (by kernel_rfl) (by kernel_rfl) ?_
 exact
  ini [q2 0 cc4 v0, q2 1 cc0 v1] rfl <| wpC_seq <| reg_s <| x_asg (sc cB false rfl) <| sq [q2 0 cc4 v0, q2 1 cc0 v1] <|
  xn <| wpC_seq <| wpC_kp <| wpC_seq <| reg_s <| st rfl <| mvd rfl rfl <| stw rfl <| lens rfl fun l5 => st rfl <| b_gtr (k := .i64) rfl rfl <| sq [q2 0 cc4 v0, q2 1 cc0 v1, q2 9 cB (decide ((40 : Int) < (v1.length : Int)))] <|
  xn <| cnd rfl h (fun b6 h => wpC_seq <| reg_s <| x_asg (sc cB false rfl) <| sq [q2 4 cB false] <|
  xn <| wpC_ret <| rt <| rt <| re <| fin h (r1 (ss rfl rfl) <| r0) rfl)
  (fun b6 h => wpC_skip <| kpN [q2 0 cc4 v0, q2 1 cc0 v1] (by kernel_rfl) <| xn <| wpC_seq <| wpC_kp <| wpC_seq <| reg_s <| st rfl <| mvd rfl rfl <| stw rfl <| lens rfl fun l38 => st rfl <| mvc cI (0 : Int) rfl <| sq [q2 0 cc4 v0, q2 1 cc0 v1, q2 10 cc0 v1, q2 11 cI (v1.length : Int), q2 12 cI (0 : Int)] <|
  xn <| wpC_blk <| lpR (fun (k40 : Nat) (s39 : Unit) => [q2 0 cc4 v0, q2 1 cc0 v1, q2 10 cc0 v1, q2 11 cI (v1.length : Int), q2 12 cI (k40 : Int)]) () rfl h
  (fun G56 s39 h => wpC_seq <| reg_s <| st rfl <| b_lss (k := .i64) rfl rfl <| sq [q2 0 cc4 v0, q2 1 cc0 v1, q2 10 cc0 v1, q2 11 cI (v1.length : Int), q2 12 cI (v1.length : Int), q2 13 cB (decide ((v1.length : Int) < (v1.length : Int)))] <|
  xn <| wpC_seq <| wpC_kp <| cnd0 rfl (dlf _) <| wpC_exit <| xt <| xt <| xt <| xb <| kpN [] (by kernel_rfl) <| xn <| wpC_seq <| reg_s <| x_asg (sc cB true rfl) <| sq [q2 4 cB true] <|
  xn <| wpC_ret <| re <| fin h (r1 (ss rfl rfl) <| r0) rfl)
  (fun G56 nx54 k40 s39 x41 hk42 hx43 hn55 h => wpC_seq <| reg_s <| st rfl <| b_lss (k := .i64) rfl rfl <| sq [q2 0 cc4 v0, q2 1 cc0 v1, q2 10 cc0 v1, q2 11 cI (v1.length : Int), q2 12 cI (k40 : Int), q2 13 cB (decide ((k40 : Int) < (v1.length : Int)))] <|
  xn <| wpC_seq <| wpC_kp <| cnd1 rfl (dlt hk42) <| wpC_skip <| kpN [q2 0 cc4 v0, q2 1 cc0 v1, q2 10 cc0 v1, q2 11 cI (v1.length : Int), q2 12 cI (k40 : Int)] (by kernel_rfl) <| xn <| wpC_seq <| wpC_kp <| wpC_blk <| wpC_seq <| reg_s <| st rfl <| ias rfl rfl (Int.natCast_nonneg _) hx43 rfl <| st rfl <| ldi rfl rfl rfl rfl <| x_all cc5 (⟨(0 : Int), (0 : Int), ([] : List Int)⟩ : XRecord) rfl <| x_stb (ss rfl rfl) rfl (Cd.h_sz _ _) rfl <| sq [q2 0 cc4 v0, q2 1 cc0 v1, q3 6 cc3 x41, q2 10 cc0 v1, q2 11 cI (v1.length : Int), q2 12 cI (k40 : Int)] <|
  xn <| wpC_seq <| reg_s <| st rfl <| mvd rfl rfl <| st rfl <| ldb rfl rfl rfl rfl <| bnd h fun x64 e65 h => st rfl <| o_call (a1 (c := cc4) (tLs (tXVariable tS tK)) rfl (a1 (c := cc3) (tXRecord tK tK (tLs tK)) rfl a0)) (con_impl_isRecord e65) (.inl (so1 sB so0)) <| st rfl <| o_nt rfl <| sq [q2 0 cc4 v0, q2 1 cc0 v1, q2 10 cc0 v1, q2 11 cI (v1.length : Int), q2 12 cI (k40 : Int), q2 19 cB (!x64)] <|
  xn <| cnd rfl h (fun b66 h => wpC_seq <| reg_s <| x_asg (sc cB false rfl) <| sq [q2 4 cB false] <|
  xn <| wpC_ret <| rb <| rt <| rt <| rt <| rb <| rt <| rt <| re <| fin h (r1 (ss rfl rfl) <| r0) rfl)
  (fun b66 h => wpC_skip <| xbb <| kpN [q2 0 cc4 v0, q2 1 cc0 v1, q2 10 cc0 v1, q2 11 cI (v1.length : Int), q2 12 cI (k40 : Int)] (by kernel_rfl) <| xn <| reg_s <| st rfl <| b_inc rfl rfl l38 hk42 <| st rfl <| mvd rfl rfl <| sq [q2 0 cc4 v0, q2 1 cc0 v1, q2 10 cc0 v1, q2 11 cI (v1.length : Int), q2 12 cI ((k40 + 1 : Nat) : Int)] <|
  xn <| hn55 () h)))

def rs_impl_copyRecord (r : XRecord) : List D := [cc5.enc r]
def m147 : MC := .seq (.reg [q1 1 (.box (.t 0)),q1 2 (.alloc (.agg [.int .i64 0, .int .i64 0, .slice true []]))] [1, 2])
 (.seq (.reg [q1 3 (.fa 1 2 2),q1 4 (.ld 3 1 false),q1 5 (.call 92 [(.t 4)]),q1 6 (.fa 1 2 2),q0 (.st 6 (.t 5) 1)] [1, 2])
 (.seq (.reg [q1 7 (.ld 1 3 true),q0 (.st 2 (.t 7) 3)] [2])
 (.ret)))
theorem con_impl_copyRecord {v0 : XRecord} {r : XRecord} (h : sh_impl_copyRecord v0 = some r) : Con Try.prog 147 [cc3.enc v0] [] (rs_impl_copyRecord r) := by
 delta sh_impl_copyRecord at h
 refine top (out := none) (f := Try.f147) (m := m147) (rs := [.c 2 3 true]) (by kernel_rfl) rfl (by kernel_rfl) (by kernel_rfl) (by kernel_rfl) (by kernel_rfl) (by kernel_rfl) ?_
 exact
  ini [q2 0 cc3 v0] rfl <| wpC_seq <| reg_s <| x_box (ss rfl rfl) <| x_all cc5 (⟨(0 : Int), (0 : Int), ([] : List Int)⟩ : XRecord) rfl <| sq [q3 1 cc3 v0, q3 2 cc5 (⟨(0 : Int), (0 : Int), ([] : List Int)⟩ : XRecord)] <|
  xn <| wpC_seq <| reg_s <| st rfl <| fab rfl rfl rfl rfl <| st rfl <| lda rfl rfl rfl rfl rfl rfl <| bnd h fun x3 e4 h => st rfl <| o_call (a1 (c := cc11) (tLs tK) rfl a0) (con_slices_Clone_int e4) (.inl (so1 (sLo sK) so0)) <| st rfl <| fab rfl rfl rfl rfl <| x_sta (cc5.enc (⟨v0.Area, v0.House, x3⟩ : XRecord)) (so rfl rfl) rfl rfl (Ln.fld rfl rfl Ln.nil rfl) (Cd.h_sz cc11 _) rfl <| sq [q3 1 cc5 (⟨v0.Area, v0.House, x3⟩ : XRecord), q3 2 cc5 (⟨(0 : Int), (0 : Int), ([] : List Int)⟩ : XRecord)] <|
  xn <| wpC_seq <| reg_s <| st rfl <| ldbo rfl rfl rfl rfl <| x_stb (sb rfl rfl) rfl (Cd.h_sz _ _) rfl <| sq [q3 2 cc5 (⟨v0.Area, v0.House, x3⟩ : XRecord)] <|
  xn <| wpC_ret <| re <| fin h (r2 rfl rfl rfl <| r0) rfl

def rs_impl_copyRecords (r : (List XRecord)) : List D := [cc2.enc r]
def m103 : MC := .seq (.reg [q1 2 (.asg (.c (.slice true [])))] [0])
 (.seq (.reg [q1 6 (.mv (.t 0)),q1 7 (.len false (.t 6)),q1 8 (.mk (.agg [.int .i64 0, .int .i64 0, .slice true []]) (.t 7)),q1 3 (.asg (.t 8))] [0, 3])
 (.seq (.kp [3] (.seq (.reg [q1 9 (.mv (.t 0)),q1 10 (.len false (.t 9)),q1 11 (.mv (.c (.int .i64 0)))] [0, 3, 9, 10, 11])
 (.blk 0 (.loop (.seq (.reg [q1 12 (.bin .lss (.t 11) (.t 10))] [0, 3, 9, 10, 11, 12])
 (.seq (.kp [0, 3, 9, 10, 11] (.cond (.t 12) (.skip) (.exit 0)))
 (.seq (.kp [0, 3, 9, 10, 11] (.blk 1 (.seq (.reg [q1 13 (.mv (.t 11)),q1 14 (.ia 9 (.t 11) 3),q1 15 (.ld 14 3 true),q1 5 (.alloc (.agg [.int .i64 0, .int .i64 0, .slice true []])),q1 4 (.asg (.t 13)),q0 (.st 5 (.t 15) 3)] [0, 3, 4, 5, 9, 10, 11])
 (.reg [q1 16 (.mv (.t 3)),q1 17 (.mv (.t 4)),q1 18 (.ld 5 3 true),q1 19 (.call 147 [(.t 18)]),q1 20 (.ia 16 (.t 17) 3),q0 (.st 20 (.t 19) 3)] [0, 3, 9, 10, 11]))))
 (.reg [q1 21 (.bin .add (.t 11) (.c (.int .i64 1))),q1 11 (.mv (.t 21))] [0, 3, 9, 10, 11]))))))))
 (.seq (.reg [q1 22 (.mv (.t 3)),q1 2 (.asg (.t 22))] [2])
 (.ret))))
theorem con_impl_copyRecords {v0 : (List XRecord)} {r : (List XRecord)} (h : sh_impl_copyRecords v0 = some r) : Con Try.prog 103 [cc0.enc v0] [] (rs_impl_copyRecords r) := by
 delta sh_impl_copyRecords at h
 refine top (out := none) (f := Try.f103) (m := m103) (rs := [.t 2]) (by kernel_rfl) rfl (by kernel_rfl) (by kernel_rfl) (by kernel_rfl) (by kernel_rfl) (by kernel_rfl) ?_
 exact
  ini [q2 0 cc0 v0] rfl <| wpC_seq <| reg_s <| x_asg (sc cc2 ([] : List XRecord) rfl) <| sq [q2 0 cc0 v0] <|
  xn <| wpC_seq <| reg_s <| st rfl <| mvd rfl rfl <| stw rfl <| lens rfl fun l4 => mkO_k h fun i5 l6 h => st rfl <| o_mk (c := cc5) (a0 := (⟨(0 : Int), (0 : Int), ([] : List Int)⟩ : XRecord)) rfl (k := .i64) rfl i5 l6 <| x_asg (so rfl rfl) <| sq [q2 0 cc0 v0, q2 3 cc2 (List.replicate ((v0.length : Int)).toNat (⟨(0 : Int), (0 : Int), ([] : List Int)⟩ : XRecord))] <|
  xn <| wpC_seq <| wpC_kp <| wpC_seq <| reg_s <| st rfl <| mvd rfl rfl <| stw rfl <| lens rfl fun l48 => st rfl <| mvc cI (0 : Int) rfl <| sq [q2 0 cc0 v0, q2 3 cc2 (List.replicate ((v0.length : Int)).toNat (⟨(0 : Int), (0 : Int), ([] : List Int)⟩ : XRecord)), q2 9 cc0 v0, q2 10 cI (v0.length : Int), q2 11 cI (0 : Int)] <|
  xn <| wpC_blk <| lpR (fun (k50 : Nat) (s49 : (List XRecord)) => [q2 0 cc0 v0, q2 3 cc2 s49, q2 9 cc0 v0, q2 10 cI (v0.length : Int), q2 11 cI (k50 : Int)]) (List.replicate ((v0.length : Int)).toNat (⟨(0 : Int), (0 : Int), ([] : List Int)⟩ : XRecord)) rfl h
  (fun G76 s49 h => wpC_seq <| reg_s <| st rfl <| b_lss (k := .i64) rfl rfl <| sq [q2 0 cc0 v0, q2 3 cc2 s49, q2 9 cc0 v0, q2 10 cI (v0.length : Int), q2 11 cI (v0.length : Int), q2 12 cB (decide ((v0.length : Int) < (v0.length : Int)))] <|
  xn <| wpC_seq <| wpC_kp <| cnd0 rfl (dlf _) <| wpC_exit <| xt <| xt <| xt <| xb <| kpN [q2 3 cc2 s49] (by kernel_rfl) <| xn <| wpC_seq <| reg_s <| st rfl <| mvo rfl rfl <| x_asg (sr rfl rfl) <| sq [q2 2 cc2 s49] <|
  xn <| wpC_ret <| re <| fin h (r1 (so rfl rfl) <| r0) rfl)
  (fun G76 nx74 k50 s49 x51 hk52 hx53 hn75 h => wpC_seq <| reg_s <| st rfl <| b_lss (k := .i64) rfl rfl <| sq [q2 0 cc0 v0, q2 3 cc2 s49, q2 9 cc0 v0, q2 10 cI (v0.length : Int), q2 11 cI (k50 : Int), q2 12 cB (decide ((k50 : Int) < (v0.length : Int)))] <|
  xn <| wpC_seq <| wpC_kp <| cnd1 rfl (dlt hk52) <| wpC_skip <| kpN [q2 0 cc0 v0, q2 3 cc2 s49, q2 9 cc0 v0, q2 10 cI (v0.length : Int), q2 11 cI (k50 : Int)] (by kernel_rfl) <| xn <| wpC_seq <| wpC_kp <| wpC_blk <| wpC_seq <| reg_s <| st rfl <| mvd rfl rfl <| st rfl <| ias rfl rfl (Int.natCast_nonneg _) hx53 rfl <| st rfl <| ldi rfl rfl rfl rfl <| x_all cc5 (⟨(0 : Int), (0 : Int), ([] : List Int)⟩ : XRecord) rfl <| x_asg (ss rfl rfl) <| x_stb (ss rfl rfl) rfl (Cd.h_sz _ _) rfl <| sq [q2 0 cc0 v0, q2 3 cc2 s49, q2 4 cI (k50 : Int), q3 5 cc3 x51, q2 9 cc0 v0, q2 10 cI (v0.length : Int), q2 11 cI (k50 : Int)] <|
  xn <| reg_s <| st rfl <| mvo rfl rfl <| st rfl <| mvd rfl rfl <| st rfl <| ldb rfl rfl rfl rfl <| bnd h fun x82 e83 h => st rfl <| o_call (a1 (c := cc3) (tXRecord tK tK (tLs tK)) rfl a0) (con_impl_copyRecord e83) (.inl (so1 (sXRecord sK sK (sLo sK)) so0)) <| getO_k h fun x84 i85 g86 h => st rfl <| iar rfl rfl rfl rfl i85 g86 rfl <| x_sta (cc2.enc (s49.set ((k50 : Int)).toNat x82)) (so rfl rfl) rfl rfl (Ln.idx g86 Ln.nil) (Cd.h_sz cc5 _) rfl <| sq [q2 0 cc0 v0, q2 3 cc2 (s49.set ((k50 : Int)).toNat x82), q2 9 cc0 v0, q2 10 cI (v0.length : Int), q2 11 cI (k50 : Int)] <|
  xbb <| kpN [q2 0 cc0 v0, q2 3 cc2 (s49.set ((k50 : Int)).toNat x82), q2 9 cc0 v0, q2 10 cI (v0.length : Int), q2 11 cI (k50 : Int)] (by kernel_rfl) <| xn <| reg_s <| st rfl <| b_inc rfl rfl l48 hk52 <| st rfl <| mvd rfl rfl <| sq [q2 0 cc0 v0, q2 3 cc2 (s49.set ((k50 : Int)).toNat x82), q2 9 cc0 v0, q2 10 cI (v0.length : Int), q2 11 cI ((k50 + 1 : Nat) : Int)] <|
  xn <| hn75 (s49.set ((k50 : Int)).toNat x82) h)

def rs_impl_MendData (r : ((List XRecord) × (List Int) × Bool)) : List D := [cc2.enc r.1, cc12.enc r.2.1, cB.enc r.2.2]
def m42 : MC := .seq (.reg [q1 8 (.asg (.c (.slice true []))),q1 9 (.asg (.c (.slice true []))),q1 10 (.asg (.c (.bool false)))] [0, 1, 2, 3])
 (.seq (.kp [0, 1, 2, 3] (.seq (.reg [q1 17 (.mv (.t 0)),q1 18 (.mv (.t 1)),q1 19 (.mv (.t 2)),q1 20 (.call 84 [(.t 17), (.t 18), (.t 19)]),q1 21 (.nt (.t 20)),q1 22 (.mv (.t 21)),
  ⟨some 23, .mv (.t 0), some (22, false)⟩,
  ⟨some 24, .mv (.t 3), some (22, false)⟩,
  ⟨some 25, .call 102 [(.t 23), (.t 24)], some (22, false)⟩,
  ⟨some 26, .nt (.t 25), some (22, false)⟩,q1 27 (.pick (.t 22) (.c (.bool true)) (.t 26))] [0, 1, 2, 3, 27])
 (.cond (.t 27) (.seq (.reg [q1 8 (.asg (.c (.slice true []))),q1 9 (.asg (.c (.slice true []))),q1 10 (.asg (.c (.bool false)))] [8, 9, 10])
 (.ret)) (.skip))))
 (.seq (.reg [q1 28 (.mv (.t 3)),q1 29 (.call 103 [(.t 28)]),q1 11 (.asg (.t 29))] [0, 1, 2, 3, 11])
 (.seq (.reg [q1 30 (.mv (.t 3)),q1 31 (.len false (.t 30)),q1 32 (.mk (.int .i64 0) (.t 31)),q1 12 (.asg (.t 32))] [0, 1, 2, 3, 11, 12])
 (.seq (.kp [11, 12] (.seq (.reg [q1 33 (.mv (.t 3)),q1 34 (.len false (.t 33)),q1 35 (.mv (.c (.int .i64 0)))] [0, 1, 2, 3, 11, 12, 33, 34, 35])
 (.blk 0 (.loop (.seq (.reg [q1 36 (.bin .lss (.t 35) (.t 34))] [0, 1, 2, 3, 11, 12, 33, 34, 35, 36])
 (.seq (.kp [0, 1, 2, 3, 11, 12, 33, 34, 35] (.cond (.t 36) (.skip) (.exit 0)))
 (.seq (.kp [0, 1, 2, 3, 11, 12, 33, 34, 35] (.blk 1 (.seq (.reg [q1 37 (.mv (.t 35)),q1 38 (.ia 33 (.t 35) 3),q1 39 (.ld 38 3 true),q1 14 (.alloc (.agg [.int .i64 0, .int .i64 0, .slice true []])),q1 13 (.asg (.t 37)),q0 (.st 14 (.t 39) 3)] [0, 1, 2, 3, 11, 12, 13, 14, 33, 34, 35])
 (.seq (.kp [0, 1, 2, 3, 11, 12, 13, 14, 33, 34, 35] (.seq (.reg [q1 40 (.mv (.t 1)),q1 41 (.fa 14 2 2),q1 42 (.ld 41 1 false),q1 43 (.call 93 [(.t 40), (.t 42)]),q1 44 (.nt (.t 43))] [0, 1, 2, 3, 11, 12, 13, 14, 33, 34, 35, 44])
 (.cond (.t 44) (.exit 1) (.skip))))
 (.seq (.reg [q1 46 (.mv (.t 0)),q1 47 (.mv (.t 1)),q1 48 (.mv (.t 2)),q1 49 (.fa 14 2 2),q1 50 (.ld 49 1 false),q1 51 (.call 85 [(.t 46), (.t 47), (.t 48), (.t 50)]),q1 45 (.mvt 51),q1 52 (.ext 45 0),q1 53 (.ext 45 1),q1 15 (.asg (.t 52)),q1 16 (.asg (.t 53))] [0, 1, 2, 3, 11, 12, 13, 14, 15, 16, 33, 34, 35])
 (.seq (.kp [0, 1, 2, 3, 11, 12, 13, 14, 15, 33, 34, 35] (.seq (.reg [q1 54 (.mv (.t 16)),q1 55 (.nt (.t 54))] [0, 1, 2, 3, 11, 12, 13, 14, 15, 33, 34, 35, 55])
 (.cond (.t 55) (.seq (.reg [q1 8 (.asg (.c (.slice true []))),q1 9 (.asg (.c (.slice true []))),q1 10 (.asg (.c (.bool false)))] [8, 9, 10])
 (.ret)) (.skip))))
 (.seq (.drw [⟨0, q1 56 (.mv (.t 11)), [57, 58, 59, 60, 61, 62, 63, 64, 65, 66, 67]⟩,
  ⟨1, q1 57 (.mv (.t 13)), [56, 58, 59, 60, 61, 62, 63, 64, 65, 66, 67]⟩,
  ⟨2, q1 58 (.mv (.t 0)), [56, 57, 59, 60, 61, 62, 63, 64, 65, 66, 67]⟩,
  ⟨3, q1 59 (.mv (.t 1)), [56, 57, 58, 60, 61, 62, 63, 64, 65, 66, 67]⟩,
  ⟨4, q1 60 (.mv (.t 0)), [56, 57, 58, 59, 61, 62, 63, 64, 65, 66, 67]⟩,
  ⟨5, q1 61 (.mv (.t 15)), [56, 57, 58, 59, 60, 62, 63, 64, 65, 66, 67]⟩,
  ⟨6, q1 62 (.call 94 [(.t 60), (.t 61)]), [56, 57, 58, 59, 63, 64, 65, 66, 67]⟩,
  ⟨7, q1 63 (.fa 14 2 2), [56, 57, 58, 59, 60, 61, 62, 64, 65, 66, 67]⟩,
  ⟨8, q1 64 (.ld 63 1 false), [56, 57, 58, 59, 60, 61, 62, 65, 66, 67]⟩,
  ⟨9, q1 65 (.call 76 [(.t 58), (.t 59), (.t 62), (.t 64)]), [56, 57, 66, 67]⟩,
  ⟨10, q1 66 (.ia 56 (.t 57) 3), [67]⟩,
  ⟨11, q1 67 (.fa 66 2 2), []⟩]
  [(12, q0 (.st 67 (.t 65) 1))] [0, 1, 2, 3, 11, 12, 13, 15, 33, 34, 35])
 (.reg [q1 68 (.mv (.t 12)),q1 69 (.mv (.t 13)),q1 70 (.mv (.t 2)),q1 71 (.mv (.t 15)),q1 72 (.call 86 [(.t 70), (.t 71)]),q1 73 (.ia 68 (.t 69) 1),q0 (.st 73 (.t 72) 1)] [0, 1, 2, 3, 11, 12, 33, 34, 35]))))))))
 (.reg [q1 74 (.bin .add (.t 35) (.c (.int .i64 1))),q1 35 (.mv (.t 74))] [0, 1, 2, 3, 11, 12, 33, 34, 35]))))))))
 (.seq (.reg [q1 75 (.mv (.t 11)),q1 76 (.mv (.t 12)),q1 8 (.asg (.t 75)),q1 9 (.asg (.t 76)),q1 10 (.asg (.c (.bool true)))] [8, 9, 10])
 (.ret))))))
theorem con_impl_MendData {v0 : (List XVariable)} {v1 : (List XEdit)} {v2 : (List Int)} {v3 : (List XRecord)} {r : ((List XRecord) × (List Int) × Bool)} (h : sh_impl_MendData v0 v1 v2 v3 = some r) : Con Try.prog 42 [cc4.enc v0, cc1.enc v1, cc11.enc v2, cc0.enc v3] [] (rs_impl_MendData r) := by
 delta sh_impl_MendData at h
 refine top (out := none) (f := Try.f42) (m := m42) (rs := [.t 8, .t 9, .t 10]) (by kernel_rfl) rfl (by kernel_rfl) (by kernel_rfl) (by kernel_rfl) (by kernel_rfl) (by kernel_rfl) ?_
 exact
  ini [q2 0 cc4 v0, q2 1 cc1 v1, q2 2 cc11 v2, q2 3 cc0 v3] rfl <| wpC_seq <| reg_s <| x_asg (sc cc2 ([] : List XRecord) rfl) <| x_asg (sc cc12 ([] : List Int) rfl) <| x_asg (sc cB false rfl) <| sq [q2 0 cc4 v0, q2 1 cc1 v1, q2 2 cc11 v2, q2 3 cc0 v3] <|
  xn <| wpC_seq <| wpC_kp <| wpC_seq <| reg_s <| st rfl <| mvd rfl rfl <| st rfl <| mvd rfl rfl <| st rfl <| mvd rfl rfl <| bnd h fun x17 e18 h => st rfl <| o_call (a1 (c := cc4) (tLs (tXVariable tS tK)) rfl (a1 (c := cc1) (tLs (tXEdit (tLs tK))) rfl (a1 (c := cc11) (tLs tK) rfl a0))) (con_impl_isMendable e18) (.inl (so1 sB so0)) <| st rfl <| o_nt rfl <| st rfl <| mvd rfl rfl <| ite_k h (fun b19 h => gf rfl b19 <| gf rfl b19 <| gf rfl b19 <| gf rfl b19 <| st rfl <| pick1 rfl b19 (cd := cB) (v := true) rfl rfl <| sq [q2 0 cc4 v0, q2 1 cc1 v1, q2 2 cc11 v2, q2 3 cc0 v3, q2 27 cB true] <|
  xn <| cnd1 rfl rfl <| wpC_seq <| reg_s <| x_asg (sc cc2 ([] : List XRecord) rfl) <| x_asg (sc cc12 ([] : List Int) rfl) <| x_asg (sc cB false rfl) <| sq [q2 8 cc2 ([] : List XRecord), q2 9 cc12 ([] : List Int), q2 10 cB false] <|
  xn <| wpC_ret <| rt <| rt <| re <| fin h (r1 (so rfl rfl) <| r1 (so rfl rfl) <| r1 (ss rfl rfl) <| r0) rfl)
  (fun b19 h => gt' rfl b19 <| st rfl <| mvd rfl rfl <| gt' rfl b19 <| st rfl <| mvd rfl rfl <| gt' rfl b19 <| bnd h fun x20 e21 h => st rfl <| o_call (a1 (c := cc4) (tLs (tXVariable tS tK)) rfl (a1 (c := cc0) (tLs (tXRecord tK tK (tLs tK))) rfl a0)) (con_impl_isData e21) (.inl (so1 sB so0)) <| gt' rfl b19 <| st rfl <| o_nt rfl <| st rfl <| pick0 rfl b19 (cd := cB) (v := (!x20)) rfl rfl <| sq [q2 0 cc4 v0, q2 1 cc1 v1, q2 2 cc11 v2, q2 3 cc0 v3, q2 27 cB (!x20)] <|
  xn <| cnd rfl h (fun b22 h => wpC_seq <| reg_s <| x_asg (sc cc2 ([] : List XRecord) rfl) <| x_asg (sc cc12 ([] : List Int) rfl) <| x_asg (sc cB false rfl) <| sq [q2 8 cc2 ([] : List XRecord), q2 9 cc12 ([] : List Int), q2 10 cB false] <|
  xn <| wpC_ret <| rt <| rt <| re <| fin h (r1 (so rfl rfl) <| r1 (so rfl rfl) <| r1 (ss rfl rfl) <| r0) rfl)
  (fun b22 h => wpC_skip <| kpN [q2 0 cc4 v0, q2 1 cc1 v1, q2 2 cc11 v2, q2 3 cc0 v3] (by kernel_rfl) <| xn <| wpC_seq <| reg_s <| st rfl <| mvd rfl rfl <| bnd h fun x25 e26 h => st rfl <| o_call (a1 (c := cc0) (tLs (tXRecord tK tK (tLs tK))) rfl a0) (con_impl_copyRecords e26) (.inl (so1 (sLo (sXRecord sK sK (sLo sK))) so0)) <| x_asg (so rfl rfl) <| sq [q2 0 cc4 v0, q2 1 cc1 v1, q2 2 cc11 v2, q2 3 cc0 v3, q2 11 cc2 x25] <|
  xn <| wpC_seq <| reg_s <| st rfl <| mvd rfl rfl <| stw rfl <| lens rfl fun l30 => mkO_k h fun i31 l32 h => st rfl <| o_mk (c := cI) (a0 := (0 : Int)) rfl (k := .i64) rfl i31 l32 <| x_asg (so rfl rfl) <| sq [q2 0 cc4 v0, q2 1 cc1 v1, q2 2 cc11 v2, q2 3 cc0 v3, q2 11 cc2 x25, q2 12 cc12 (List.replicate ((v3.length : Int)).toNat (0 : Int))] <|
  xn <| wpC_seq <| wpC_kp <| wpC_seq <| reg_s <| st rfl <| mvd rfl rfl <| stw rfl <| lens rfl fun l254 => st rfl <| mvc cI (0 : Int) rfl <| sq [q2 0 cc4 v0, q2 1 cc1 v1, q2 2 cc11 v2, q2 3 cc0 v3, q2 11 cc2 x25, q2 12 cc12 (List.replicate ((v3.length : Int)).toNat (0 : Int)), q2 33 cc0 v3, q2 34 cI (v3.length : Int), q2 35 cI (0 : Int)] <|
  xn <| wpC_blk <| lpR (fun (k256 : Nat) (s255 : ((List XRecord) × (List Int))) => [q2 0 cc4 v0, q2 1 cc1 v1, q2 2 cc11 v2, q2 3 cc0 v3, q2 11 cc2 s255.1, q2 12 cc12 s255.2, q2 33 cc0 v3, q2 34 cI (v3.length : Int), q2 35 cI (k256 : Int)]) (x25, (List.replicate ((v3.length : Int)).toNat (0 : Int))) rfl h
  (fun G402 s255 h => wpC_seq <| reg_s <| st rfl <| b_lss (k := .i64) rfl rfl <| sq [q2 0 cc4 v0, q2 1 cc1 v1, q2 2 cc11 v2, q2 3 cc0 v3, q2 11 cc2 s255.1, q2 12 cc12 s255.2, q2 33 cc0 v3, q2 34 cI (v3.length : Int), q2 35 cI (v3.length : Int), q2 36 cB (decide ((v3.length : Int) < (v3.length : Int)))] <|
  xn <| wpC_seq <| wpC_kp <| cnd0 rfl (dlf _) <| wpC_exit <| xt <| xt <| xt <| xb <| kpN [q2 11 cc2 s255.1, q2 12 cc12 s255.2] (by kernel_rfl) <| xn <| wpC_seq <| reg_s <| st rfl <| mvo rfl rfl <| st rfl <| mvo rfl rfl <| x_asg (sr rfl rfl) <| x_asg (sr rfl rfl) <| x_asg (sc cB true rfl) <| sq [q2 8 cc2 s255.1, q2 9 cc12 s255.2, q2 10 cB true] <|
  xn <| wpC_ret <| re <| fin h (r1 (so rfl rfl) <| r1 (so rfl rfl) <| r1 (ss rfl rfl) <| r0) rfl)
  (fun G402 nx400 k256 s255 x257 hk258 hx259 hn401 h => wpC_seq <| reg_s <| st rfl <| b_lss (k := .i64) rfl rfl <| sq [q2 0 cc4 v0, q2 1 cc1 v1, q2 2 cc11 v2, q2 3 cc0 v3, q2 11 cc2 s255.1, q2 12 cc12 s255.2, q2 33 cc0 v3, q2 34 cI (v3.length : Int), q2 35 cI (k256 : Int), q2 36 cB (decide ((k256 : Int) < (v3.length : Int)))] <|
  xn <| wpC_seq <| wpC_kp <| cnd1 rfl (dlt hk258) <| wpC_skip <| kpN [q2 0 cc4 v0, q2 1 cc1 v1, q2 2 cc11 v2, q2 3 cc0 v3, q2 11 cc2 s255.1, q2 12 cc12 s255.2, q2 33 cc0 v3, q2 34 cI (v3.length : Int), q2 35 cI (k256 : Int)] (by kernel_rfl) <| xn <| wpC_seq <| wpC_kp <| wpC_blk <| wpC_seq <| reg_s <| st rfl <| mvd rfl rfl <| st rfl <| ias rfl rfl (Int.natCast_nonneg _) hx259 rfl <| st rfl <| ldi rfl rfl rfl rfl <| x_all cc5 (⟨(0 : Int), (0 : Int), ([] : List Int)⟩ : XRecord) rfl <| x_asg (ss rfl rfl) <| x_stb (ss rfl rfl) rfl (Cd.h_sz _ _) rfl <| sq [q2 0 cc4 v0, q2 1 cc1 v1, q2 2 cc11 v2, q2 3 cc0 v3, q2 11 cc2 s255.1, q2 12 cc12 s255.2, q2 13 cI (k256 : Int), q3 14 cc3 x257, q2 33 cc0 v3, q2 34 cI (v3.length : Int), q2 35 cI (k256 : Int)] <|
  xn <| wpC_seq <| wpC_kp <| wpC_seq <| reg_s <| st rfl <| mvd rfl rfl <| st rfl <| fab rfl rfl rfl rfl <| st rfl <| lda rfl rfl rfl rfl rfl rfl <| bnd h fun x445 e446 h => st rfl <| o_call (a1 (c := cc1) (tLs (tXEdit (tLs tK))) rfl (a1 (c := cc11) (tLs tK) rfl a0)) (con_impl_failsOne e446) (.inl (so1 sB so0)) <| st rfl <| o_nt rfl <| sq [q2 0 cc4 v0, q2 1 cc1 v1, q2 2 cc11 v2, q2 3 cc0 v3, q2 11 cc2 s255.1, q2 12 cc12 s255.2, q2 13 cI (k256 : Int), q3 14 cc3 x257, q2 33 cc0 v3, q2 34 cI (v3.length : Int), q2 35 cI (k256 : Int), q2 44 cB (!x445)] <|
  xn <| cnd rfl h (fun b447 h => wpC_exit <| xt <| xt <| xb <| kpN [q2 0 cc4 v0, q2 1 cc1 v1, q2 2 cc11 v2, q2 3 cc0 v3, q2 11 cc2 s255.1, q2 12 cc12 s255.2, q2 33 cc0 v3, q2 34 cI (v3.length : Int), q2 35 cI (k256 : Int)] (by kernel_rfl) <| xn <| reg_s <| st rfl <| b_inc rfl rfl l254 hk258 <| st rfl <| mvd rfl rfl <| sq [q2 0 cc4 v0, q2 1 cc1 v1, q2 2 cc11 v2, q2 3 cc0 v3, q2 11 cc2 s255.1, q2 12 cc12 s255.2, q2 33 cc0 v3, q2 34 cI (v3.length : Int), q2 35 cI ((k256 + 1 : Nat) : Int)] <|
  xn <| hn401 (s255.1, s255.2) h)
  (fun b447 h => wpC_skip <| kpN [q2 0 cc4 v0, q2 1 cc1 v1, q2 2 cc11 v2, q2 3 cc0 v3, q2 11 cc2 s255.1, q2 12 cc12 s255.2, q2 13 cI (k256 : Int), q3 14 cc3 x257, q2 33 cc0 v3, q2 34 cI (v3.length : Int), q2 35 cI (k256 : Int)] (by kernel_rfl) <| xn <| wpC_seq <| reg_s <| st rfl <| mvd rfl rfl <| st rfl <| mvd rfl rfl <| st rfl <| mvd rfl rfl <| st rfl <| fab rfl rfl rfl rfl <| st rfl <| lda rfl rfl rfl rfl rfl rfl <| bnd h fun x450 e451 h => st rfl <| o_call (a1 (c := cc4) (tLs (tXVariable tS tK)) rfl (a1 (c := cc1) (tLs (tXEdit (tLs tK))) rfl (a1 (c := cc11) (tLs tK) rfl (a1 (c := cc11) (tLs tK) rfl a0)))) (con_impl_cheapestChange e451) (.inl (so1 (sLo sK) (so1 sB so0))) <| x_mvt rfl <| x_ext rfl rfl <| x_ext rfl rfl <| x_asg (so rfl rfl) <| x_asg (ss rfl rfl) <| sq [q2 0 cc4 v0, q2 1 cc1 v1, q2 2 cc11 v2, q2 3 cc0 v3, q2 11 cc2 s255.1, q2 12 cc12 s255.2, q2 13 cI (k256 : Int), q3 14 cc3 x257, q2 15 cc12 x450.1, q2 16 cB x450.2, q2 33 cc0 v3, q2 34 cI (v3.length : Int), q2 35 cI (k256 : Int)] <|
  xn <| wpC_seq <| wpC_kp <| wpC_seq <| reg_s <| st rfl <| mvd rfl rfl <| st rfl <| o_nt rfl <| sq [q2 0 cc4 v0, q2 1 cc1 v1, q2 2 cc11 v2, q2 3 cc0 v3, q2 11 cc2 s255.1, q2 12 cc12 s255.2, q2 13 cI (k256 : Int), q3 14 cc3 x257, q2 15 cc12 x450.1, q2 33 cc0 v3, q2 34 cI (v3.length : Int), q2 35 cI (k256 : Int), q2 55 cB (!x450.2)] <|
  xn <| cnd rfl h (fun b453 h => wpC_seq <| reg_s <| x_asg (sc cc2 ([] : List XRecord) rfl) <| x_asg (sc cc12 ([] : List Int) rfl) <| x_asg (sc cB false rfl) <| sq [q2 8 cc2 ([] : List XRecord), q2 9 cc12 ([] : List Int), q2 10 cB false] <|
  xn <| wpC_ret <| rt <| rt <| rb <| rt <| rt <| rt <| rb <| rt <| rt <| re <| fin h (r1 (so rfl rfl) <| r1 (so rfl rfl) <| r1 (ss rfl rfl) <| r0) rfl)
  (fun b453 h => wpC_skip <| kpN [q2 0 cc4 v0, q2 1 cc1 v1, q2 2 cc11 v2, q2 3 cc0 v3, q2 11 cc2 s255.1, q2 12 cc12 s255.2, q2 13 cI (k256 : Int), q3 14 cc3 x257, q2 15 cc12 x450.1, q2 33 cc0 v3, q2 34 cI (v3.length : Int), q2 35 cI (k256 : Int)] (by kernel_rfl) <| xn <| wpC_seq <| drw_s <| pst rfl <| mvo rfl rfl ⟨rfl, pst rfl <| mvd rfl rfl ⟨rfl, pst rfl <| mvd rfl rfl ⟨rfl, pst rfl <| mvd rfl rfl ⟨rfl, pst rfl <| mvd rfl rfl ⟨rfl, pst rfl <| mvo rfl rfl ⟨rfl, bndp h fun x461 e462 h => pst rfl <| o_call (a1 (c := cc4) (tLs (tXVariable tS tK)) rfl (a1 (c := cc12) (tLo tK) rfl a0)) (con_impl_otherVars e462) (.inl (so1 (sLo sK) so0)) ⟨rfl, pst rfl <| fab rfl rfl rfl rfl ⟨rfl, pst rfl <| lda rfl rfl rfl rfl rfl rfl ⟨rfl, bndp h fun x463 e464 h => pst rfl <| o_call (a1 (c := cc4) (tLs (tXVariable tS tK)) rfl (a1 (c := cc1) (tLs (tXEdit (tLs tK))) rfl (a1 (c := cc12) (tLo tK) rfl (a1 (c := cc11) (tLs tK) rfl a0)))) (con_impl_completionOf_fg e464) (.inl (so1 (sLo sK) so0)) ⟨rfl, getO_kp h fun x465 i466 g467 h => pst rfl <| iar rfl rfl rfl rfl i466 g467 rfl ⟨rfl, pst rfl <| faa rfl rfl (Gt.idx g467 Gt.nil) rfl rfl rfl ⟨rfl, preN <| x_sta (cc2.enc (s255.1.set ((k256 : Int)).toNat (⟨x465.Area, x465.House, x463⟩ : XRecord))) (so rfl rfl) rfl rfl (Ln.idx g467 (Ln.fld rfl rfl Ln.nil rfl)) (Cd.h_sz cc12 _) rfl <| sq [q2 0 cc4 v0, q2 1 cc1 v1, q2 2 cc11 v2, q2 3 cc0 v3, q2 11 cc2 (s255.1.set ((k256 : Int)).toNat (⟨x465.Area, x465.House, x463⟩ : XRecord)), q2 12 cc12 s255.2, q2 13 cI (k256 : Int), q2 15 cc12 x450.1, q2 33 cc0 v3, q2 34 cI (v3.length : Int), q2 35 cI (k256 : Int)] <|
  xn <| reg_s <| st rfl <| mvo rfl rfl <| st rfl <| mvd rfl rfl <| st rfl <| mvd rfl rfl <| st rfl <| mvo rfl rfl <| bnd h fun x468 e469 h => st rfl <| o_call (a1 (c := cc11) (tLs tK) rfl (a1 (c := cc12) (tLo tK) rfl a0)) (con_impl_weightOf e469) (.inl (so1 sK so0)) <| getO_k h fun x470 i471 g472 h => st rfl <| iar rfl rfl rfl rfl i471 g472 rfl <| x_sta (cc12.enc (s255.2.set ((k256 : Int)).toNat x468)) (ss rfl rfl) rfl rfl (Ln.idx g472 Ln.nil) (Cd.h_sz cI _) rfl <| sq [q2 0 cc4 v0, q2 1 cc1 v1, q2 2 cc11 v2, q2 3 cc0 v3, q2 11 cc2 (s255.1.set ((k256 : Int)).toNat (⟨x465.Area, x465.House, x463⟩ : XRecord)), q2 12 cc12 (s255.2.set ((k256 : Int)).toNat x468), q2 33 cc0 v3, q2 34 cI (v3.length : Int), q2 35 cI (k256 : Int)] <|
  xbb <| kpN [q2 0 cc4 v0, q2 1 cc1 v1, q2 2 cc11 v2, q2 3 cc0 v3, q2 11 cc2 (s255.1.set ((k256 : Int)).toNat (⟨x465.Area, x465.House, x463⟩ : XRecord)), q2 12 cc12 (s255.2.set ((k256 : Int)).toNat x468), q2 33 cc0 v3, q2 34 cI (v3.length : Int), q2 35 cI (k256 : Int)] (by kernel_rfl) <| xn <| reg_s <| st rfl <| b_inc rfl rfl l254 hk258 <| st rfl <| mvd rfl rfl <| sq [q2 0 cc4 v0, q2 1 cc1 v1, q2 2 cc11 v2, q2 3 cc0 v3, q2 11 cc2 (s255.1.set ((k256 : Int)).toNat (⟨x465.Area, x465.House, x463⟩ : XRecord)), q2 12 cc12 (s255.2.set ((k256 : Int)).toNat x468), q2 33 cc0 v3, q2 34 cI (v3.length : Int), q2 35 cI ((k256 + 1 : Nat) : Int)] <|
  xn <| hn401 ((s255.1.set ((k256 : Int)).toNat (⟨x465.Area, x465.House, x463⟩ : XRecord)), (s255.2.set ((k256 : Int)).toNat x468)) h⟩⟩⟩⟩⟩⟩⟩⟩⟩⟩⟩⟩)))))

def rs_laws_eqRecord (r : Bool) : List D := [cB.enc r]
def m104 : MC := .seq (.reg [q1 2 (.box (.t 0)),q1 3 (.box (.t 1)),q1 4 (.asg (.c (.bool false)))] [2, 3])
 (.seq (.kp [2, 3] (.seq (.reg [q1 5 (.fa 2 0 0),q1 6 (.ld 5 1 false),q1 7 (.fa 3 0 0),q1 8 (.ld 7 1 false),q1 9 (.bin .neq (.t 6) (.t 8))] [2, 3, 9])
 (.cond (.t 9) (.seq (.reg [q1 4 (.asg (.c (.bool false)))] [4])
 (.ret)) (.skip))))
 (.seq (.kp [2, 3] (.seq (.reg [q1 10 (.fa 2 1 1),q1 11 (.ld 10 1 false),q1 12 (.fa 3 1 1),q1 13 (.ld 12 1 false),q1 14 (.bin .neq (.t 11) (.t 13))] [2, 3, 14])
 (.cond (.t 14) (.seq (.reg [q1 4 (.asg (.c (.bool false)))] [4])
 (.ret)) (.skip))))
 (.seq (.kp [] (.seq (.reg [q1 15 (.fa 2 2 2),q1 16 (.ld 15 1 false),q1 17 (.fa 3 2 2),q1 18 (.ld 17 1 false),q1 19 (.call 19 [(.t 16), (.t 18)]),q1 20 (.nt (.t 19))] [20])
 (.cond (.t 20) (.seq (.reg [q1 4 (.asg (.c (.bool false)))] [4])
 (.ret)) (.skip))))
 (.seq (.reg [q1 4 (.asg (.c (.bool true)))] [4])
 (.ret)))))
theorem con_laws_eqRecord {v0 : XRecord} {v1 : XRecord} {r : Bool} (h : sh_laws_eqRecord v0 v1 = some r) : Con Try.prog 104 [cc3.enc v0, cc3.enc v1] [] (rs_laws_eqRecord r) := by
 delta sh_laws_eqRecord at h
 refine top (out := none) (f := Try.f104) (m := m104) (rs := [.t 4]) (by kernel_rfl) rfl (by kernel_rfl) (by kernel_rfl) (by kernel_rfl) (by kernel_rfl) (by kernel_rfl) ?_
 exact
  ini [q2 0 cc3 v0, q2 1 cc3 v1] rfl <| wpC_seq <| reg_s <| x_box (ss rfl rfl) <| x_box (ss rfl rfl) <| x_asg (sc cB false rfl) <| sq [q3 2 cc3 v0, q3 3 cc3 v1] <|
  xn <| wpC_seq <| wpC_kp <| wpC_seq <| reg_s <| st rfl <| fab rfl rfl rfl rfl <| st rfl <| lda rfl rfl rfl rfl rfl rfl <| st rfl <| fab rfl rfl rfl rfl <| st rfl <| lda rfl rfl rfl rfl rfl rfl <| st rfl <| b_neq (k := .i64) rfl rfl <| sq [q3 2 cc3 v0, q3 3 cc3 v1, q2 9 cB (decide (v0.Area ≠ v1.Area))] <|
  xn <| cnd rfl h (fun b2 h => wpC_seq <| reg_s <| x_asg (sc cB false rfl) <| sq [q2 4 cB false] <|
  xn <| wpC_ret <| rt <| rt <| re <| fin h (r1 (ss rfl rfl) <| r0) rfl)
  (fun b2 h => wpC_skip <| kpN [q3 2 cc3 v0, q3 3 cc3 v1] (by kernel_rfl) <| xn <| wpC_seq <| wpC_kp <| wpC_seq <| reg_s <| st rfl <| fab rfl rfl rfl rfl <| st rfl <| lda rfl rfl rfl rfl rfl rfl <| st rfl <| fab rfl rfl rfl rfl <| st rfl <| lda rfl rfl rfl rfl rfl rfl <| st rfl <| b_neq (k := .i64) rfl rfl <| sq [q3 2 cc3 v0, q3 3 cc3 v1, q2 14 cB (decide (v0.House ≠ v1.House))] <|
  xn <| cnd rfl h (fun b4 h => wpC_seq <| reg_s <| x_asg (sc cB false rfl) <| sq [q2 4 cB false] <|
  xn <| wpC_ret <| rt <| rt <| re <| fin h (r1 (ss rfl rfl) <| r0) rfl)
  (fun b4 h => wpC_skip <| kpN [q3 2 cc3 v0, q3 3 cc3 v1] (by kernel_rfl) <| xn <| wpC_seq <| wpC_kp <| wpC_seq <| reg_s <| st rfl <| fab rfl rfl rfl rfl <| st rfl <| lda rfl rfl rfl rfl rfl rfl <| st rfl <| fab rfl rfl rfl rfl <| st rfl <| lda rfl rfl rfl rfl rfl rfl <| bnd h fun x12 e13 h => st rfl <| o_call (a1 (c := cc11) (tLs tK) rfl (a1 (c := cc11) (tLs tK) rfl a0)) (con_laws_eqIntS e13) (.inl (so1 sB so0)) <| st rfl <| o_nt rfl <| sq [q2 20 cB (!x12)] <|
  xn <| cnd rfl h (fun b14 h => wpC_seq <| reg_s <| x_asg (sc cB false rfl) <| sq [q2 4 cB false] <|
  xn <| wpC_ret <| rt <| rt <| re <| fin h (r1 (ss rfl rfl) <| r0) rfl)
  (fun b14 h => wpC_skip <| kpN [] (by kernel_rfl) <| xn <| wpC_seq <| reg_s <| x_asg (sc cB true rfl) <| sq [q2 4 cB true] <|
  xn <| wpC_ret <| re <| fin h (r1 (ss rfl rfl) <| r0) rfl)))

def rs_laws_eqRecordS (r : Bool) : List D := [cB.enc r]
def m43 : MC := .seq (.reg [q1 4 (.asg (.c (.bool false)))] [0, 1])
 (.seq (.kp [0, 1] (.seq (.reg [q1 6 (.mv (.t 0)),q1 7 (.len false (.t 6)),q1 8 (.mv (.t 1)),q1 9 (.len false (.t 8)),q1 10 (.bin .neq (.t 7) (.t 9))] [0, 1, 10])
 (.cond (.t 10) (.seq (.reg [q1 4 (.asg (.c (.bool false)))] [4])
 (.ret)) (.skip))))
 (.seq (.kp [] (.seq (.reg [q1 5 (.asg (.c (.int .i64 0)))] [0, 1, 5])
 (.blk 0 (.loop (.seq (.kp [0, 1, 5] (.seq (.reg [q1 11 (.mv (.t 5)),q1 12 (.mv (.t 0)),q1 13 (.len false (.t 12)),q1 14 (.bin .lss (.t 11) (.t 13))] [0, 1, 5, 14])
 (.cond (.t 14) (.skip) (.exit 0))))
 (.seq (.kp [0, 1, 5] (.blk 1 (.seq (.drw [⟨0, q1 17 (.mv (.t 0)), [18, 19, 20, 21, 22, 23, 24, 25, 26]⟩,
  ⟨1, q1 18 (.mv (.t 5)), [17, 19, 20, 21, 22, 23, 24, 25, 26]⟩,
  ⟨2, q1 19 (.ia 17 (.t 18) 3), [20, 21, 22, 23, 24, 25, 26]⟩,
  ⟨3, q1 20 (.ld 19 3 true), [21, 22, 23, 24, 25, 26]⟩,
  ⟨4, q1 21 (.mv (.t 1)), [17, 18, 19, 20, 22, 23, 24, 25, 26]⟩,
  ⟨5, q1 22 (.mv (.t 5)), [17, 18, 19, 20, 21, 23, 24, 25, 26]⟩,
  ⟨6, q1 23 (.ia 21 (.t 22) 3), [17, 18, 19, 20, 24, 25, 26]⟩,
  ⟨7, q1 24 (.ld 23 3 true), [17, 18, 19, 20, 25, 26]⟩,
  ⟨8, q1 25 (.call 104 [(.t 20), (.t 24)]), [26]⟩,
  ⟨9, q1 26 (.nt (.t 25)), []⟩]
  [] [0, 1, 5, 26])
 (.cond (.t 26) (.seq (.reg [q1 4 (.asg (.c (.bool false)))] [4])
 (.ret)) (.skip)))))
 (.reg [q1 15 (.mv (.t 5)),q1 16 (.bin .add (.t 15) (.c (.int .i64 1))),q1 5 (.asg (.t 16))] [0, 1, 5])))))))
 (.seq (.reg [q1 4 (.asg (.c (.bool true)))] [4])
 (.ret))))
theorem con_laws_eqRecordS {v0 : (List XRecord)} {v1 : (List XRecord)} {r : Bool} (h : sh_laws_eqRecordS v0 v1 = some r) : Con Try.prog 43 [cc0.enc v0, cc0.enc v1] [] (rs_laws_eqRecordS r) := by
 delta sh_laws_eqRecordS at h
 refine top (out := none) (f := Try.f43) (m := m43) (rs := [.t 4]) (by kernel_rfl) rfl (by kernel_rfl) (by kernel_rfl) (by kernel_rfl) (by kernel_rfl) (by kernel_rfl) ?_
 exact
  ini [q2 0 cc0 v0, q2 1 cc0 v1] rfl <| wpC_seq <| reg_s <| x_asg (sc cB false rfl) <| sq [q2 0 cc0 v0, q2 1 cc0 v1] <|
  xn <| wpC_seq <| wpC_kp <| wpC_seq <| reg_s <| st rfl <| mvd rfl rfl <| stw rfl <| lens rfl fun l8 => st rfl <| mvd rfl rfl <| stw rfl <| lens rfl fun l9 => st rfl <| b_neq (k := .i64) rfl rfl <| sq [q2 0 cc0 v0, q2 1 cc0 v1, q2 10 cB (decide ((v0.length : Int) ≠ (v1.length : Int)))] <|
  xn <| cnd rfl h (fun b10 h => wpC_seq <| reg_s <| x_asg (sc cB false rfl) <| sq [q2 4 cB false] <|
  xn <| wpC_ret <| rt <| rt <| re <| fin h (r1 (ss rfl rfl) <| r0) rfl)
  (fun b10 h => wpC_skip <| kpN [q2 0 cc0 v0, q2 1 cc0 v1] (by kernel_rfl) <| xn <| wpC_seq <| wpC_kp <| wpC_seq <| reg_s <| x_asg (sc cI (0 : Int) rfl) <| sq [q2 0 cc0 v0, q2 1 cc0 v1, q2 5 cI (0 : Int)] <|
  xn <| wpC_blk <| lpF (fun (s142 : Int) => [q2 0 cc0 v0, q2 1 cc0 v1, q2 5 cI s142]) (0 : Int) rfl h
  fun G231 nx229 s142 hn230 h => wpC_seq <| wpC_kp <| wpC_seq <| reg_s <| st rfl <| mvd rfl rfl <| st rfl <| mvd rfl rfl <| stw rfl <| lens rfl fun l236 => st rfl <| b_lss (k := .i64) rfl rfl <| sq [q2 0 cc0 v0, q2 1 cc0 v1, q2 5 cI s142, q2 14 cB (decide (s142 < (v0.length : Int)))] <|
  xn <| cnd rfl h (fun b237 h => wpC_skip <| kpN [q2 0 cc0 v0, q2 1 cc0 v1, q2 5 cI s142] (by kernel_rfl) <| xn <| wpC_seq <| wpC_kp <| wpC_blk <| wpC_seq <| drw_s <| pst rfl <| mvd rfl rfl ⟨rfl, pst rfl <| mvd rfl rfl ⟨rfl, getO_kp h fun x263 i264 g265 h => pst rfl <| ias rfl rfl i264 g265 rfl ⟨rfl, pst rfl <| ldi rfl rfl rfl rfl ⟨rfl, pst rfl <| mvd rfl rfl ⟨rfl, pst rfl <| mvd rfl rfl ⟨rfl, getO_kp h fun x266 i267 g268 h => pst rfl <| ias rfl rfl i267 g268 rfl ⟨rfl, pst rfl <| ldi rfl rfl rfl rfl ⟨rfl, bndp h fun x269 e270 h => pst rfl <| o_call (a1 (c := cc3) (tXRecord tK tK (tLs tK)) rfl (a1 (c := cc3) (tXRecord tK tK (tLs tK)) rfl a0)) (con_laws_eqRecord e270) (.inl (so1 sB so0)) ⟨rfl, pst rfl <| o_nt rfl ⟨rfl, preN <| sq [q2 0 cc0 v0, q2 1 cc0 v1, q2 5 cI s142, q2 26 cB (!x269)] <|
  xn <| cnd rfl h (fun b271 h => wpC_seq <| reg_s <| x_asg (sc cB false rfl) <| sq [q2 4 cB false] <|
  xn <| wpC_ret <| rb <| rt <| rt <| rt <| rb <| rt <| rt <| re <| fin h (r1 (ss rfl rfl) <| r0) rfl)
  (fun b271 h => wpC_skip <| xbb <| kpN [q2 0 cc0 v0, q2 1 cc0 v1, q2 5 cI s142] (by kernel_rfl) <| xn <| reg_s <| st rfl <| mvd rfl rfl <| ckI_k h fun i272 h => st rfl <| b_add (k := .i64) rfl rfl i272 <| x_asg (ss rfl rfl) <| sq [q2 0 cc0 v0, q2 1 cc0 v1, q2 5 cI (s142 + (1 : Int))] <|
  xn <| hn230 (s142 + (1 : Int)) h)⟩⟩⟩⟩⟩⟩⟩⟩⟩⟩)
  (fun b237 h => wpC_exit <| xt <| xt <| xt <| xb <| kpN [] (by kernel_rfl) <| xn <| wpC_seq <| reg_s <| x_asg (sc cB true rfl) <| sq [q2 4 cB true] <|
  xn <| wpC_ret <| re <| fin h (r1 (ss rfl rfl) <| r0) rfl))

def os_laws_markRecordS (r : ((List XRecord) × Int)) : D := cc2.enc r.1
def rs_laws_markRecordS (r : ((List XRecord) × Int)) : List D := [cI.enc r.2]
def m44 : MC := .seq (.reg [q1 4 (.asg (.c (.int .i64 0)))] [0, 1])
 (.seq (.kp [0, 1] (.seq (.reg [q1 5 (.asg (.c (.int .i64 0)))] [0, 1, 5])
 (.blk 0 (.loop (.seq (.kp [0, 1, 5] (.seq (.reg [q1 6 (.mv (.t 5)),q1 7 (.mv (.t 0)),q1 8 (.len false (.t 7)),q1 9 (.bin .lss (.t 6) (.t 8))] [0, 1, 5, 9])
 (.cond (.t 9) (.skip) (.exit 0))))
 (.seq (.kp [0, 1, 5] (.blk 1 (.seq (.reg [q1 12 (.mv (.t 0)),q1 13 (.mv (.t 5)),q1 14 (.mv (.t 1)),q1 15 (.ia 12 (.t 13) 3),q1 16 (.fa 15 0 0),q0 (.st 16 (.t 14) 1)] [0, 1, 5])
 (.seq (.reg [q1 17 (.mv (.t 1)),q1 18 (.bin .add (.t 17) (.c (.int .i64 1))),q1 1 (.asg (.t 18))] [0, 1, 5])
 (.seq (.reg [q1 19 (.mv (.t 0)),q1 20 (.mv (.t 5)),q1 21 (.mv (.t 1)),q1 22 (.ia 19 (.t 20) 3),q1 23 (.fa 22 1 1),q0 (.st 23 (.t 21) 1)] [0, 1, 5])
 (.seq (.reg [q1 24 (.mv (.t 1)),q1 25 (.bin .add (.t 24) (.c (.int .i64 1))),q1 1 (.asg (.t 25))] [0, 1, 5])
 (.reg [q1 26 (.mv (.t 0)),q1 27 (.mv (.t 5)),q1 28 (.ia 26 (.t 27) 3),q1 29 (.fa 28 2 2),q1 30 (.ld 29 1 false),q1 31 (.mv (.t 1)),q1 32 (.callO 24 [(.t 30), (.t 31)]),q1 1 (.asg (.t 32))] [0, 1, 5])))))))
 (.reg [q1 10 (.mv (.t 5)),q1 11 (.bin .add (.t 10) (.c (.int .i64 1))),q1 5 (.asg (.t 11))] [0, 1, 5])))))))
 (.seq (.reg [q1 33 (.mv (.t 1)),q1 4 (.asg (.t 33))] [0, 4])
 (.ret)))
theorem con_laws_markRecordS {v0 : (List XRecord)} {v1 : Int} {r : ((List XRecord) × Int)} (h : sh_laws_markRecordS v0 v1 = some r) : Con Try.prog 44 [cc2.enc v0, cI.enc v1] (outsOf (some (0, os_laws_markRecordS r))) (rs_laws_markRecordS r) := by
 delta sh_laws_markRecordS at h
 refine top (out := some (0, os_laws_markRecordS r)) (f := Try.f44) (m := m44) (rs := [.t 4]) (by kernel_rfl) rfl (by kernel_rfl) (by kernel_rfl) (by kernel_rfl) (by kernel_rfl) (by kernel_rfl) ?_
 exact
  ini [q2 0 cc2 v0, q2 1 cI v1] rfl <| wpC_seq <| reg_s <| x_asg (sc cI (0 : Int) rfl) <| sq [q2 0 cc2 v0, q2 1 cI v1] <|
  xn <| wpC_seq <| wpC_kp <| wpC_seq <| reg_s <| x_asg (sc cI (0 : Int) rfl) <| sq [q2 0 cc2 v0, q2 1 cI v1, q2 5 cI (0 : Int)] <|
  xn <| wpC_blk <| lpF (fun (s156 : ((List XRecord) × Int × Int)) => [q2 0 cc2 s156.1, q2 1 cI s156.2.1, q2 5 cI s156.2.2]) (v0, v1, (0 : Int)) rfl h
  fun G261 nx259 s156 hn260 h => wpC_seq <| wpC_kp <| wpC_seq <| reg_s <| st rfl <| mvd rfl rfl <| st rfl <| mvo rfl rfl <| stw rfl <| leno rfl fun l266 => st rfl <| b_lss (k := .i64) rfl rfl <| sq [q2 0 cc2 s156.1, q2 1 cI s156.2.1, q2 5 cI s156.2.2, q2 9 cB (decide (s156.2.2 < (s156.1.length : Int)))] <|
  xn <| cnd rfl h (fun b267 h => wpC_skip <| kpN [q2 0 cc2 s156.1, q2 1 cI s156.2.1, q2 5 cI s156.2.2] (by kernel_rfl) <| xn <| wpC_seq <| wpC_kp <| wpC_blk <| wpC_seq <| reg_s <| st rfl <| mvo rfl rfl <| st rfl <| mvd rfl rfl <| st rfl <| mvd rfl rfl <| getO_k h fun x292 i293 g294 h => st rfl <| iar rfl rfl rfl rfl i293 g294 rfl <| st rfl <| faa rfl rfl (Gt.idx g294 Gt.nil) rfl rfl rfl <| x_sta (cc2.enc (s156.1.set (s156.2.2).toNat (⟨s156.2.1, x292.House, x292.Values⟩ : XRecord))) (ss rfl rfl) rfl rfl (Ln.idx g294 (Ln.fld rfl rfl Ln.nil rfl)) (Cd.h_sz cI _) rfl <| sq [q2 0 cc2 (s156.1.set (s156.2.2).toNat (⟨s156.2.1, x292.House, x292.Values⟩ : XRecord)), q2 1 cI s156.2.1, q2 5 cI s156.2.2] <|
  xn <| wpC_seq <| reg_s <| st rfl <| mvd rfl rfl <| ckI_k h fun i296 h => st rfl <| b_add (k := .i64) rfl rfl i296 <| x_asg (ss rfl rfl) <| sq [q2 0 cc2 (s156.1.set (s156.2.2).toNat (⟨s156.2.1, x292.House, x292.Values⟩ : XRecord)), q2 1 cI (s156.2.1 + (1 : Int)), q2 5 cI s156.2.2] <|
  xn <| wpC_seq <| reg_s <| st rfl <| mvo rfl rfl <| st rfl <| mvd rfl rfl <| st rfl <| mvd rfl rfl <| getO_k h fun x300 i301 g302 h => st rfl <| iar rfl rfl rfl rfl i301 g302 rfl <| st rfl <| faa rfl rfl (Gt.idx g302 Gt.nil) rfl rfl rfl <| x_sta (cc2.enc ((s156.1.set (s156.2.2).toNat (⟨s156.2.1, x292.House, x292.Values⟩ : XRecord)).set (s156.2.2).toNat (⟨x300.Area, (s156.2.1 + (1 : Int)), x300.Values⟩ : XRecord))) (ss rfl rfl) rfl rfl (Ln.idx g302 (Ln.fld rfl rfl Ln.nil rfl)) (Cd.h_sz cI _) rfl <| sq [q2 0 cc2 ((s156.1.set (s156.2.2).toNat (⟨s156.2.1, x292.House, x292.Values⟩ : XRecord)).set (s156.2.2).toNat (⟨x300.Area, (s156.2.1 + (1 : Int)), x300.Values⟩ : XRecord)), q2 1 cI (s156.2.1 + (1 : Int)), q2 5 cI s156.2.2] <|
  xn <| wpC_seq <| reg_s <| st rfl <| mvd rfl rfl <| ckI_k h fun i304 h => st rfl <| b_add (k := .i64) rfl rfl i304 <| x_asg (ss rfl rfl) <| sq [q2 0 cc2 ((s156.1.set (s156.2.2).toNat (⟨s156.2.1, x292.House, x292.Values⟩ : XRecord)).set (s156.2.2).toNat (⟨x300.Area, (s156.2.1 + (1 : Int)), x300.Values⟩ : XRecord)), q2 1 cI ((s156.2.1 + (1 : Int)) + (1 : Int)), q2 5 cI s156.2.2] <|
  xn <| reg_s <| st rfl <| mvo rfl rfl <| st rfl <| mvd rfl rfl <| getO_k h fun x305 i306 g307 h => st rfl <| iar rfl rfl rfl rfl i306 g307 rfl <| st rfl <| faa rfl rfl (Gt.idx g307 Gt.nil) rfl rfl rfl <| st rfl <| ldao rfl rfl (Gt.idx g307 (Gt.fld rfl rfl Gt.nil)) rfl rfl rfl <| st rfl <| mvd rfl rfl <| bnd h fun x308 e309 h => x_clr (c := cc12) (c' := cc12) (cc2.enc (((s156.1.set (s156.2.2).toNat (⟨s156.2.1, x292.House, x292.Values⟩ : XRecord)).set (s156.2.2).toNat (⟨x300.Area, (s156.2.1 + (1 : Int)), x300.Values⟩ : XRecord)).set (s156.2.2).toNat (⟨x305.Area, x305.House, x308.1⟩ : XRecord))) (sLo sK) rfl (a1 (c := cI) tK rfl a0) rfl (Ln.idx g307 (Ln.fld rfl rfl Ln.nil rfl)) (con_laws_markIntS e309) rfl rfl (so1 sK so0) <| x_asg (ss rfl rfl) <| sq [q2 0 cc2 (((s156.1.set (s156.2.2).toNat (⟨s156.2.1, x292.House, x292.Values⟩ : XRecord)).set (s156.2.2).toNat (⟨x300.Area, (s156.2.1 + (1 : Int)), x300.Values⟩ : XRecord)).set (s156.2.2).toNat (⟨x305.Area, x305.House, x308.1⟩ : XRecord)), q2 1 cI x308.2, q2 5 cI s156.2.2] <|
  xbb <| kpN [q2 0 cc2 (((s156.1.set (s156.2.2).toNat (⟨s156.2.1, x292.House, x292.Values⟩ : XRecord)).set (s156.2.2).toNat (⟨x300.Area, (s156.2.1 + (1 : Int)), x300.Values⟩ : XRecord)).set (s156.2.2).toNat (⟨x305.Area, x305.House, x308.1⟩ : XRecord)), q2 1 cI x308.2, q2 5 cI s156.2.2] (by kernel_rfl) <| xn <| reg_s <| st rfl <| mvd rfl rfl <| ckI_k h fun i310 h => st rfl <| b_add (k := .i64) rfl rfl i310 <| x_asg (ss rfl rfl) <| sq [q2 0 cc2 (((s156.1.set (s156.2.2).toNat (⟨s156.2.1, x292.House, x292.Values⟩ : XRecord)).set (s156.2.2).toNat (⟨x300.Area, (s156.2.1 + (1 : Int)), x300.Values⟩ : XRecord)).set (s156.2.2).toNat (⟨x305.Area, x305.House, x308.1⟩ : XRecord)), q2 1 cI x308.2, q2 5 cI (s156.2.2 + (1 : Int))] <|
  xn <| hn260 ((((s156.1.set (s156.2.2).toNat (⟨s156.2.1, x292.House, x292.Values⟩ : XRecord)).set (s156.2.2).toNat (⟨x300.Area, (s156.2.1 + (1 : Int)), x300.Values⟩ : XRecord)).set (s156.2.2).toNat (⟨x305.Area, x305.House, x308.1⟩ : XRecord)), x308.2, (s156.2.2 + (1 : Int))) h)
  (fun b267 h => wpC_exit <| xt <| xt <| xt <| xb <| kpN [q2 0 cc2 s156.1, q2 1 cI s156.2.1] (by kernel_rfl) <| xn <| wpC_seq <| reg_s <| st rfl <| mvd rfl rfl <| x_asg (ss rfl rfl) <| sq [q2 0 cc2 s156.1, q2 4 cI s156.2.1] <|
  xn <| wpC_ret <| re <| finO h (r1 (ss rfl rfl) <| r0) rfl rfl)

def rs_laws_heldRecordS (r : Int) : List D := [cI.enc r]
def m45 : MC := .seq (.reg [q1 4 (.asg (.c (.int .i64 0)))] [0, 1])
 (.seq (.kp [1] (.seq (.reg [q1 5 (.asg (.c (.int .i64 0)))] [0, 1, 5])
 (.blk 0 (.loop (.seq (.kp [0, 1, 5] (.seq (.reg [q1 6 (.mv (.t 5)),q1 7 (.mv (.t 0)),q1 8 (.len false (.t 7)),q1 9 (.bin .lss (.t 6) (.t 8))] [0, 1, 5, 9])
 (.cond (.t 9) (.skip) (.exit 0))))
 (.seq (.kp [0, 1, 5] (.blk 1 (.seq (.kp [0, 1, 5] (.seq (.reg [q1 12 (.mv (.t 0)),q1 13 (.mv (.t 5)),q1 14 (.ia 12 (.t 13) 3),q1 15 (.fa 14 0 0),q1 16 (.ld 15 1 false),q1 17 (.mv (.t 1)),q1 18 (.bin .neq (.t 16) (.t 17))] [0, 1, 5, 18])
 (.cond (.t 18) (.seq (.reg [q1 4 (.asg (.c (.int .i64 (-1))))] [4])
 (.ret)) (.skip))))
 (.seq (.reg [q1 19 (.mv (.t 1)),q1 20 (.bin .add (.t 19) (.c (.int .i64 1))),q1 1 (.asg (.t 20))] [0, 1, 5])
 (.seq (.kp [0, 1, 5] (.seq (.reg [q1 21 (.mv (.t 0)),q1 22 (.mv (.t 5)),q1 23 (.ia 21 (.t 22) 3),q1 24 (.fa 23 1 1),q1 25 (.ld 24 1 false),q1 26 (.mv (.t 1)),q1 27 (.bin .neq (.t 25) (.t 26))] [0, 1, 5, 27])
 (.cond (.t 27) (.seq (.reg [q1 4 (.asg (.c (.int .i64 (-1))))] [4])
 (.ret)) (.skip))))
 (.seq (.reg [q1 28 (.mv (.t 1)),q1 29 (.bin .add (.t 28) (.c (.int .i64 1))),q1 1 (.asg (.t 29))] [0, 1, 5])
 (.seq (.reg [q1 30 (.mv (.t 0)),q1 31 (.mv (.t 5)),q1 32 (.ia 30 (.t 31) 3),q1 33 (.fa 32 2 2),q1 34 (.ld 33 1 false),q1 35 (.mv (.t 1)),q1 36 (.call 25 [(.t 34), (.t 35)]),q1 1 (.asg (.t 36))] [0, 1, 5])
 (.seq (.reg [q1 37 (.mv (.t 1)),q1 38 (.bin .lss (.t 37) (.c (.int .i64 0)))] [0, 1, 5, 38])
 (.cond (.t 38) (.seq (.reg [q1 4 (.asg (.c (.int .i64 (-1))))] [4])
 (.ret)) (.skip))))))))))
 (.reg [q1 10 (.mv (.t 5)),q1 11 (.bin .add (.t 10) (.c (.int .i64 1))),q1 5 (.asg (.t 11))] [0, 1, 5])))))))
 (.seq (.reg [q1 39 (.mv (.t 1)),q1 4 (.asg (.t 39))] [4])
 (.ret)))
theorem con_laws_heldRecordS {v0 : (List XRecord)} {v1 : Int} {r : Int} (h : sh_laws_heldRecordS v0 v1 = some r) : Con Try.prog 45 [cc0.enc v0, cI.enc v1] [] (rs_laws_heldRecordS r) := by
 delta sh_laws_heldRecordS at h
 refine top (out := none) (f := Try.f45) (m := m45) (rs := [.t 4]) (by kernel_rfl) rfl (by kernel_rfl) (by kernel_rfl) (by kernel_rfl) (by kernel_rfl) (by kernel_rfl) ?_
 exact
  ini [q2 0 cc0 v0, q2 1 cI v1] rfl <| wpC_seq <| reg_s <| x_asg (sc cI (0 : Int) rfl) <| sq [q2 0 cc0 v0, q2 1 cI v1] <|
  xn <| wpC_seq <| wpC_kp <| wpC_seq <| reg_s <| x_asg (sc cI (0 : Int) rfl) <| sq [q2 0 cc0 v0, q2 1 cI v1, q2 5 cI (0 : Int)] <|
  xn <| wpC_blk <| lpF (fun (s180 : (Int × Int)) => [q2 0 cc0 v0, q2 1 cI s180.1, q2 5 cI s180.2]) (v1, (0 : Int)) rfl h
  fun G301 nx299 s180 hn300 h => wpC_seq <| wpC_kp <| wpC_seq <| reg_s <| st rfl <| mvd rfl rfl <| st rfl <| mvd rfl rfl <| stw rfl <| lens rfl fun l306 => st rfl <| b_lss (k := .i64) rfl rfl <| sq [q2 0 cc0 v0, q2 1 cI s180.1, q2 5 cI s180.2, q2 9 cB (decide (s180.2 < (v0.length : Int)))] <|
  xn <| cnd rfl h (fun b307 h => wpC_skip <| kpN [q2 0 cc0 v0, q2 1 cI s180.1, q2 5 cI s180.2] (by kernel_rfl) <| xn <| wpC_seq <| wpC_kp <| wpC_blk <| wpC_seq <| wpC_kp <| wpC_seq <| reg_s <| st rfl <| mvd rfl rfl <| st rfl <| mvd rfl rfl <| getO_k h fun x343 i344 g345 h => st rfl <| ias rfl rfl i344 g345 rfl <| st rfl <| fai rfl rfl rfl rfl <| st rfl <| ldi rfl rfl rfl rfl <| st rfl <| mvd rfl rfl <| st rfl <| b_neq (k := .i64) rfl rfl <| sq [q2 0 cc0 v0, q2 1 cI s180.1, q2 5 cI s180.2, q2 18 cB (decide (x343.Area ≠ s180.1))] <|
  xn <| cnd rfl h (fun b346 h => wpC_seq <| reg_s <| x_asg (sc cI (-1 : Int) rfl) <| sq [q2 4 cI (-1 : Int)] <|
  xn <| wpC_ret <| rt <| rt <| rb <| rt <| rt <| rt <| rb <| rt <| rt <| re <| fin h (r1 (ss rfl rfl) <| r0) rfl)
  (fun b346 h => wpC_skip <| kpN [q2 0 cc0 v0, q2 1 cI s180.1, q2 5 cI s180.2] (by kernel_rfl) <| xn <| wpC_seq <| reg_s <| st rfl <| mvd rfl rfl <| ckI_k h fun i348 h => st rfl <| b_add (k := .i64) rfl rfl i348 <| x_asg (ss rfl rfl) <| sq [q2 0 cc0 v0, q2 1 cI (s180.1 + (1 : Int)), q2 5 cI s180.2] <|
  xn <| wpC_seq <| wpC_kp <| wpC_seq <| reg_s <| st rfl <| mvd rfl rfl <| st rfl <| mvd rfl rfl <| st rfl <| ias rfl rfl i344 g345 rfl <| st rfl <| fai rfl rfl rfl rfl <| st rfl <| ldi rfl rfl rfl rfl <| st rfl <| mvd rfl rfl <| st rfl <| b_neq (k := .i64) rfl rfl <| sq [q2 0 cc0 v0, q2 1 cI (s180.1 + (1 : Int)), q2 5 cI s180.2, q2 27 cB (decide (x343.House ≠ (s180.1 + (1 : Int))))] <|
  xn <| cnd rfl h (fun b350 h => wpC_seq <| reg_s <| x_asg (sc cI (-1 : Int) rfl) <| sq [q2 4 cI (-1 : Int)] <|
  xn <| wpC_ret <| rt <| rt <| rb <| rt <| rt <| rt <| rb <| rt <| rt <| re <| fin h (r1 (ss rfl rfl) <| r0) rfl)
  (fun b350 h => wpC_skip <| kpN [q2 0 cc0 v0, q2 1 cI (s180.1 + (1 : Int)), q2 5 cI s180.2] (by kernel_rfl) <| xn <| wpC_seq <| reg_s <| st rfl <| mvd rfl rfl <| ckI_k h fun i352 h => st rfl <| b_add (k := .i64) rfl rfl i352 <| x_asg (ss rfl rfl) <| sq [q2 0 cc0 v0, q2 1 cI ((s180.1 + (1 : Int)) + (1 : Int)), q2 5 cI s180.2] <|
  xn <| wpC_seq <| reg_s <| st rfl <| mvd rfl rfl <| st rfl <| mvd rfl rfl <| st rfl <| ias rfl rfl i344 g345 rfl <| st rfl <| fai rfl rfl rfl rfl <| st rfl <| ldi rfl rfl rfl rfl <| st rfl <| mvd rfl rfl <| bnd h fun x355 e356 h => st rfl <| o_call (a1 (c := cc11) (tLs tK) rfl (a1 (c := cI) tK rfl a0)) (con_laws_heldIntS e356) (.inl (so1 sK so0)) <| x_asg (ss rfl rfl) <| sq [q2 0 cc0 v0, q2 1 cI x355, q2 5 cI s180.2] <|
  xn <| wpC_seq <| reg_s <| st rfl <| mvd rfl rfl <| st rfl <| b_lss (k := .i64) rfl rfl <| sq [q2 0 cc0 v0, q2 1 cI x355, q2 5 cI s180.2, q2 38 cB (decide (x355 < (0 : Int)))] <|
  xn <| cnd rfl h (fun b357 h => wpC_seq <| reg_s <| x_asg (sc cI (-1 : Int) rfl) <| sq [q2 4 cI (-1 : Int)] <|
  xn <| wpC_ret <| rb <| rt <| rt <| rt <| rb <| rt <| rt <| re <| fin h (r1 (ss rfl rfl) <| r0) rfl)
  (fun b357 h => wpC_skip <| xbb <| kpN [q2 0 cc0 v0, q2 1 cI x355, q2 5 cI s180.2] (by kernel_rfl) <| xn <| reg_s <| st rfl <| mvd rfl rfl <| ckI_k h fun i358 h => st rfl <| b_add (k := .i64) rfl rfl i358 <| x_asg (ss rfl rfl) <| sq [q2 0 cc0 v0, q2 1 cI x355, q2 5 cI (s180.2 + (1 : Int))] <|
  xn <| hn300 (x355, (s180.2 + (1 : Int))) h))))
  (fun b307 h => wpC_exit <| xt <| xt <| xt <| xb <| kpN [q2 1 cI s180.1] (by kernel_rfl) <| xn <| wpC_seq <| reg_s <| st rfl <| mvd rfl rfl <| x_asg (ss rfl rfl) <| sq [q2 4 cI s180.1] <|
  xn <| wpC_ret <| re <| fin h (r1 (ss rfl rfl) <| r0) rfl)
end AS.W
