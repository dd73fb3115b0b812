/- The program computes the plain functions. No condition. -/
import Derived.Test.YtpllepipjbiefaaGreatDoorQParsePlanS
import Derived.Test.YtpllepipjbiefaaGreatDoorProg
import Derived.Test.YtpllepipjbiefaaGreatDoorQParsePlanX
import Derived.Test.YtpllepipjbiefaaGreatDoorQParsePlanL0
set_option maxRecDepth 100000
set_option linter.unusedVariables false
set_option linter.unusedSimpArgs false
namespace AS.W
open Go Go.Proofs
def rs_spec_l1Rising (r:Bool):List D := [cB.enc r]
def m66:MC := .seq (.reg [q1 6 (.asg (.c (.bool false)))] [0,1,2])
 (.seq (.kp [] (.seq (.reg [q1 9 (.mv (.t 0)),q1 10 (.len false (.t 9)),q1 11 (.mv (.c (.int .i64 0)))] [0,1,2,9,10,11])
 (.blk 0 (.loop (.seq (.reg [q1 12 (.bin .lss (.t 11) (.t 10))] [0,1,2,9,10,11,12])
 (.seq (.kp [0,1,2,9,10,11] (.cond (.t 12) (.skip) (.exit 0)))
 (.seq (.kp [0,1,2,9,10,11] (.blk 1 (.seq (.reg [q1 13 (.mv (.t 11)),q1 14 (.ia 9 (.t 11) 1),q1 15 (.ld 14 1 false),q1 7 (.asg (.t 13)),q1 8 (.asg (.t 15))] [0,1,2,7,8,9,10,11])
 (.seq (.reg [q1 16 (.mv (.t 8)),q1 17 (.mv (.t 1)),q1 18 (.mv (.t 2)),q1 19 (.call 60 [(.t 16),(.t 17),(.t 18)]),q1 20 (.nt (.t 19)),q1 21 (.mv (.t 20)),
  ⟨some 22,.mv (.t 7),some (21,false)⟩,
  ⟨some 23,.bin .gtr (.t 22) (.c (.int .i64 0)),some (21,false)⟩,
  ⟨some 24,.mv (.t 23),some (21,false)⟩,
  ⟨some 25,.mv (.t 0),some (24,true)⟩,
  ⟨some 26,.mv (.t 7),some (24,true)⟩,
  ⟨some 27,.bin .sub (.t 26) (.c (.int .i64 1)),some (24,true)⟩,
  ⟨some 28,.ia 25 (.t 27) 1,some (24,true)⟩,
  ⟨some 29,.ld 28 1 false,some (24,true)⟩,
  ⟨some 30,.mv (.t 8),some (24,true)⟩,
  ⟨some 31,.bin .geq (.t 29) (.t 30),some (24,true)⟩,
  ⟨some 32,.pick (.t 24) (.t 31) (.c (.bool false)),some (21,false)⟩,q1 33 (.pick (.t 21) (.c (.bool true)) (.t 32))] [0,1,2,9,10,11,33])
 (.cond (.t 33) (.seq (.reg [q1 6 (.asg (.c (.bool false)))] [6])
 (.ret)) (.skip))))))
 (.reg [q1 34 (.bin .add (.t 11) (.c (.int .i64 1))),q1 11 (.mv (.t 34))] [0,1,2,9,10,11]))))))))
 (.seq (.reg [q1 6 (.asg (.c (.bool true)))] [6])
 (.ret)))
theorem con_spec_l1Rising {v0:(List Int)} {v1:Int} {v2:Int} {r:Bool} (h:sh_spec_l1Rising v0 v1 v2 = some r):Con Tryz.prog 66 [cc9.enc v0,cI.enc v1,cI.enc v2] [] (rs_spec_l1Rising r) := by
 delta sh_spec_l1Rising at h
 refine top (out := none) (f := Tryz.f66) (m := m66) (rs := [.t 6]) (by kernel_rfl) rfl (by kernel_rfl) (by kernel_rfl) (by kernel_rfl) (by kernel_rfl) (by kernel_rfl) ?_
 exact
  ini [q2 0 cc9 v0,q2 1 cI v1,q2 2 cI v2] rfl<|ws<|rg<|xa (sc cB false rfl)<|sq [q2 0 cc9 v0,q2 1 cI v1,q2 2 cI v2]<|
  xn<|ws<|wpC_kp<|ws<|rg<|st rfl<|mvd rfl rfl<|stw rfl<|lens rfl fun l80=>st rfl<|mvc cI (0:Int) rfl<|sq [q2 0 cc9 v0,q2 1 cI v1,q2 2 cI v2,q2 9 cc9 v0,q2 10 cI (v0.length:Int),q2 11 cI (0:Int)]<|
  xn<|wpC_blk<|lpR (fun (k82:Nat) (s81:Unit)=>[q2 0 cc9 v0,q2 1 cI v1,q2 2 cI v2,q2 9 cc9 v0,q2 10 cI (v0.length:Int),q2 11 cI (k82:Int)]) () rfl h
  (fun G122 s81 h=>ws<|rg<|st rfl<|b_lss (k := .i64) rfl rfl<|sq [q2 0 cc9 v0,q2 1 cI v1,q2 2 cI v2,q2 9 cc9 v0,q2 10 cI (v0.length:Int),q2 11 cI (v0.length:Int),q2 12 cB (decide ((v0.length:Int) < (v0.length:Int)))]<|
  xn<|ws<|wpC_kp<|cnd0 rfl (dlf _)<|wpC_exit<|xt<|xt<|xt<|xb<|kpN [] (by kernel_rfl)<|xn<|ws<|rg<|xa (sc cB true rfl)<|sq [q2 6 cB true]<|
  xn<|wpC_ret<|re<|fin h (r1 (ss rfl rfl)<|r0) rfl)
  (fun G122 nx120 k82 s81 x83 hk84 hx85 hn121 h=>ws<|rg<|st rfl<|b_lss (k := .i64) rfl rfl<|sq [q2 0 cc9 v0,q2 1 cI v1,q2 2 cI v2,q2 9 cc9 v0,q2 10 cI (v0.length:Int),q2 11 cI (k82:Int),q2 12 cB (decide ((k82:Int) < (v0.length:Int)))]<|
  xn<|ws<|wpC_kp<|cnd1 rfl (dlt hk84)<|wpC_skip<|kpN [q2 0 cc9 v0,q2 1 cI v1,q2 2 cI v2,q2 9 cc9 v0,q2 10 cI (v0.length:Int),q2 11 cI (k82:Int)] (by kernel_rfl)<|xn<|ws<|wpC_kp<|wpC_blk<|ws<|rg<|st rfl<|mvd rfl rfl<|st rfl<|ias rfl rfl (Int.natCast_nonneg _) hx85 rfl<|st rfl<|ldi rfl rfl rfl rfl<|xa (ss rfl rfl)<|xa (ss rfl rfl)<|sq [q2 0 cc9 v0,q2 1 cI v1,q2 2 cI v2,q2 7 cI (k82:Int),q2 8 cI x83,q2 9 cc9 v0,q2 10 cI (v0.length:Int),q2 11 cI (k82:Int)]<|
  xn<|ws<|rg<|st rfl<|mvd rfl rfl<|st rfl<|mvd rfl rfl<|st rfl<|mvd rfl rfl<|bnd h fun x148 e149 h=>st rfl<|o_call (a1 (c := cI) tK rfl (a1 (c := cI) tK rfl (a1 (c := cI) tK rfl a0))) (con_spec_l1In e149) (.inl (so1 sB so0))<|st rfl<|o_nt rfl<|st rfl<|mvd rfl rfl<|ite_k h (fun b150 h=>gf rfl b150<|gf rfl b150<|gf rfl b150<|gu rfl<|gu rfl<|gu rfl<|gu rfl<|gu rfl<|gu rfl<|gu rfl<|gf rfl b150<|st rfl<|pick1 rfl b150 (cd := cB) (v := true) rfl rfl<|sq [q2 0 cc9 v0,q2 1 cI v1,q2 2 cI v2,q2 9 cc9 v0,q2 10 cI (v0.length:Int),q2 11 cI (k82:Int),q2 33 cB true]<|
  xn<|cnd1 rfl rfl<|ws<|rg<|xa (sc cB false rfl)<|sq [q2 6 cB false]<|
  xn<|wpC_ret<|rb<|rt<|rt<|rt<|rb<|rt<|rt<|re<|fin h (r1 (ss rfl rfl)<|r0) rfl)
  (fun b150 h=>gt' rfl b150<|st rfl<|mvd rfl rfl<|gt' rfl b150<|st rfl<|b_gtr (k := .i64) rfl rfl<|gt' rfl b150<|st rfl<|mvd rfl rfl<|ite_k h (fun b151 h=>gt' rfl b151<|st rfl<|mvd rfl rfl<|gt' rfl b151<|st rfl<|mvd rfl rfl<|gt' rfl b151<|ckI_k h fun i152 h=>st rfl<|b_sub (k := .i64) rfl rfl i152<|gt' rfl b151<|getO_k h fun x153 i154 g155 h=>st rfl<|ias rfl rfl i154 g155 rfl<|gt' rfl b151<|st rfl<|ldi rfl rfl rfl rfl<|gt' rfl b151<|st rfl<|mvd rfl rfl<|gt' rfl b151<|st rfl<|b_geq (k := .i64) rfl rfl<|gt' rfl b150<|st rfl<|pick1 rfl b151 (cd := cB) (v := (decide (x83 ≤ x153))) rfl rfl<|st rfl<|pick0 rfl b150 (cd := cB) (v := (decide (x83 ≤ x153))) rfl rfl<|sq [q2 0 cc9 v0,q2 1 cI v1,q2 2 cI v2,q2 9 cc9 v0,q2 10 cI (v0.length:Int),q2 11 cI (k82:Int),q2 33 cB (decide (x83 ≤ x153))]<|
  xn<|cnd rfl h (fun b156 h=>ws<|rg<|xa (sc cB false rfl)<|sq [q2 6 cB false]<|
  xn<|wpC_ret<|rb<|rt<|rt<|rt<|rb<|rt<|rt<|re<|fin h (r1 (ss rfl rfl)<|r0) rfl)
  (fun b156 h=>wpC_skip<|xbb<|kpN [q2 0 cc9 v0,q2 1 cI v1,q2 2 cI v2,q2 9 cc9 v0,q2 10 cI (v0.length:Int),q2 11 cI (k82:Int)] (by kernel_rfl)<|xn<|rg<|st rfl<|b_inc rfl rfl l80 hk84<|st rfl<|mvd rfl rfl<|sq [q2 0 cc9 v0,q2 1 cI v1,q2 2 cI v2,q2 9 cc9 v0,q2 10 cI (v0.length:Int),q2 11 cI ((k82 + 1:Nat):Int)]<|
  xn<|hn121 () h))
  (fun b151 h=>gf rfl b151<|gf rfl b151<|gf rfl b151<|gf rfl b151<|gf rfl b151<|gf rfl b151<|gf rfl b151<|gt' rfl b150<|st rfl<|pick0 rfl b151 (cd := cB) (v := false) rfl rfl<|st rfl<|pick0 rfl b150 (cd := cB) (v := false) rfl rfl<|sq [q2 0 cc9 v0,q2 1 cI v1,q2 2 cI v2,q2 9 cc9 v0,q2 10 cI (v0.length:Int),q2 11 cI (k82:Int),q2 33 cB false]<|
  xn<|cnd0 rfl rfl<|wpC_skip<|xbb<|kpN [q2 0 cc9 v0,q2 1 cI v1,q2 2 cI v2,q2 9 cc9 v0,q2 10 cI (v0.length:Int),q2 11 cI (k82:Int)] (by kernel_rfl)<|xn<|rg<|st rfl<|b_inc rfl rfl l80 hk84<|st rfl<|mvd rfl rfl<|sq [q2 0 cc9 v0,q2 1 cI v1,q2 2 cI v2,q2 9 cc9 v0,q2 10 cI (v0.length:Int),q2 11 cI ((k82 + 1:Nat):Int)]<|
  xn<|hn121 () h)))

def rs_spec_uWhere (r:Bool):List D := [cB.enc r]
def m67:MC := .seq (.reg [q1 4 (.asg (.c (.bool false)))] [0,1])
 (.seq (.kp [0,1] (.seq (.reg [q1 7 (.mv (.t 1)),q1 8 (.len false (.t 7)),q1 9 (.mv (.t 0)),q1 10 (.len false (.t 9)),q1 11 (.bin .neq (.t 8) (.t 10))] [0,1,11])
 (.cond (.t 11) (.seq (.reg [q1 4 (.asg (.c (.bool false)))] [4])
 (.ret)) (.skip))))
 (.seq (.kp [] (.seq (.reg [q1 12 (.mv (.t 0)),q1 13 (.len false (.t 12)),q1 14 (.mv (.c (.int .i64 0)))] [0,1,12,13,14])
 (.blk 0 (.loop (.seq (.reg [q1 15 (.bin .lss (.t 14) (.t 13))] [0,1,12,13,14,15])
 (.seq (.kp [0,1,12,13,14] (.cond (.t 15) (.skip) (.exit 0)))
 (.seq (.kp [0,1,12,13,14] (.blk 1 (.seq (.reg [q1 16 (.mv (.t 14)),q1 17 (.ia 12 (.t 14) 2),q1 18 (.ld 17 2 true),q1 6 (.alloc (.agg [.str [],.int .i64 0])),q1 5 (.asg (.t 16)),q0 (.st 6 (.t 18) 2)] [0,1,5,6,12,13,14])
 (.seq (.drw [⟨0,q1 19 (.mv (.t 1)),[20,21,22,23,24,25,26,27,28,29]⟩,
  ⟨1,q1 20 (.mv (.t 5)),[19,21,22,23,24,25,26,27,28,29]⟩,
  ⟨2,q1 21 (.ia 19 (.t 20) 1),[22,23,24,25,26,27,28,29]⟩,
  ⟨3,q1 22 (.ld 21 1 false),[23,24,25,26,27,28,29]⟩,
  ⟨4,q1 23 (.fa 6 1 1),[19,20,21,22,24,25,26,27,28,29]⟩,
  ⟨5,q1 24 (.ld 23 1 false),[19,20,21,22,25,26,27,28,29]⟩,
  ⟨6,q1 25 (.cvi .u64 (.t 24)),[19,20,21,22,26,27,28,29]⟩,
  ⟨7,q1 26 (.bin .shl (.c (.int .i64 1)) (.t 25)),[19,20,21,22,27,28,29]⟩,
  ⟨8,q1 27 (.bin .sub (.t 26) (.c (.int .i64 1))),[19,20,21,22,28,29]⟩,
  ⟨9,q1 28 (.call 60 [(.t 22),(.c (.int .i64 0)),(.t 27)]),[29]⟩,
  ⟨10,q1 29 (.nt (.t 28)),[]⟩]
  [] [0,1,12,13,14,29])
 (.cond (.t 29) (.seq (.reg [q1 4 (.asg (.c (.bool false)))] [4])
 (.ret)) (.skip))))))
 (.reg [q1 30 (.bin .add (.t 14) (.c (.int .i64 1))),q1 14 (.mv (.t 30))] [0,1,12,13,14]))))))))
 (.seq (.reg [q1 4 (.asg (.c (.bool true)))] [4])
 (.ret))))
theorem con_spec_uWhere {v0:(List XVariable)} {v1:(List Int)} {r:Bool} (h:sh_spec_uWhere v0 v1 = some r):Con Tryz.prog 67 [cc4.enc v0,cc9.enc v1] [] (rs_spec_uWhere r) := by
 delta sh_spec_uWhere at h
 refine top (out := none) (f := Tryz.f67) (m := m67) (rs := [.t 4]) (by kernel_rfl) rfl (by kernel_rfl) (by kernel_rfl) (by kernel_rfl) (by kernel_rfl) (by kernel_rfl) ?_
 exact
  ini [q2 0 cc4 v0,q2 1 cc9 v1] rfl<|ws<|rg<|xa (sc cB false rfl)<|sq [q2 0 cc4 v0,q2 1 cc9 v1]<|
  xn<|ws<|wpC_kp<|ws<|rg<|st rfl<|mvd rfl rfl<|stw rfl<|lens rfl fun l8=>st rfl<|mvd rfl rfl<|stw rfl<|lens rfl fun l9=>st rfl<|b_neq (k := .i64) rfl rfl<|sq [q2 0 cc4 v0,q2 1 cc9 v1,q2 11 cB (decide ((v1.length:Int) ≠ (v0.length:Int)))]<|
  xn<|cnd rfl h (fun b10 h=>ws<|rg<|xa (sc cB false rfl)<|sq [q2 4 cB false]<|
  xn<|wpC_ret<|rt<|rt<|re<|fin h (r1 (ss rfl rfl)<|r0) rfl)
  (fun b10 h=>wpC_skip<|kpN [q2 0 cc4 v0,q2 1 cc9 v1] (by kernel_rfl)<|xn<|ws<|wpC_kp<|ws<|rg<|st rfl<|mvd rfl rfl<|stw rfl<|lens rfl fun l98=>st rfl<|mvc cI (0:Int) rfl<|sq [q2 0 cc4 v0,q2 1 cc9 v1,q2 12 cc4 v0,q2 13 cI (v0.length:Int),q2 14 cI (0:Int)]<|
  xn<|wpC_blk<|lpR (fun (k100:Nat) (s99:Unit)=>[q2 0 cc4 v0,q2 1 cc9 v1,q2 12 cc4 v0,q2 13 cI (v0.length:Int),q2 14 cI (k100:Int)]) () rfl h
  (fun G144 s99 h=>ws<|rg<|st rfl<|b_lss (k := .i64) rfl rfl<|sq [q2 0 cc4 v0,q2 1 cc9 v1,q2 12 cc4 v0,q2 13 cI (v0.length:Int),q2 14 cI (v0.length:Int),q2 15 cB (decide ((v0.length:Int) < (v0.length:Int)))]<|
  xn<|ws<|wpC_kp<|cnd0 rfl (dlf _)<|wpC_exit<|xt<|xt<|xt<|xb<|kpN [] (by kernel_rfl)<|xn<|ws<|rg<|xa (sc cB true rfl)<|sq [q2 4 cB true]<|
  xn<|wpC_ret<|re<|fin h (r1 (ss rfl rfl)<|r0) rfl)
  (fun G144 nx142 k100 s99 x101 hk102 hx103 hn143 h=>ws<|rg<|st rfl<|b_lss (k := .i64) rfl rfl<|sq [q2 0 cc4 v0,q2 1 cc9 v1,q2 12 cc4 v0,q2 13 cI (v0.length:Int),q2 14 cI (k100:Int),q2 15 cB (decide ((k100:Int) < (v0.length:Int)))]<|
  xn<|ws<|wpC_kp<|cnd1 rfl (dlt hk102)<|wpC_skip<|kpN [q2 0 cc4 v0,q2 1 cc9 v1,q2 12 cc4 v0,q2 13 cI (v0.length:Int),q2 14 cI (k100:Int)] (by kernel_rfl)<|xn<|ws<|wpC_kp<|wpC_blk<|ws<|rg<|st rfl<|mvd rfl rfl<|st rfl<|ias rfl rfl (Int.natCast_nonneg _) hx103 rfl<|st rfl<|ldi rfl rfl rfl rfl<|x_all cc7 (⟨([]:List UInt8),(0:Int)⟩:XVariable) rfl<|xa (ss rfl rfl)<|x_stb (ss rfl rfl) rfl (Cd.h_sz _ _) rfl<|sq [q2 0 cc4 v0,q2 1 cc9 v1,q2 5 cI (k100:Int),q3 6 cc7 x101,q2 12 cc4 v0,q2 13 cI (v0.length:Int),q2 14 cI (k100:Int)]<|
  xn<|ws<|drw_s<|pst rfl<|mvd rfl rfl ⟨rfl,pst rfl<|mvd rfl rfl ⟨rfl,getO_kp h fun x173 i174 g175 h=>pst rfl<|ias rfl rfl i174 g175 rfl ⟨rfl,pst rfl<|ldi rfl rfl rfl rfl ⟨rfl,pst rfl<|fab rfl rfl rfl rfl ⟨rfl,pst rfl<|lda rfl rfl rfl rfl rfl rfl ⟨rfl,ckK_kp h fun i176 h=>pst rfl<|o_cvi (k := .i64) (k' := .u64) rfl i176 ⟨rfl,ck_kp h fun i177 h=>ckI_kp h fun i178 h=>pst rfl<|b_shl (k := .i64) (k' := .u64) rfl rfl i177 rfl i178 ⟨rfl,ckI_kp h fun i179 h=>pst rfl<|b_sub (k := .i64) rfl rfl i179 ⟨rfl,bndp h fun x180 e181 h=>pst rfl<|o_call (a1 (c := cI) tK rfl (a1 (c := cI) tK rfl (a1 (c := cI) tK rfl a0))) (con_spec_l1In e181) (.inl (so1 sB so0)) ⟨rfl,pst rfl<|o_nt rfl ⟨rfl,preN<|sq [q2 0 cc4 v0,q2 1 cc9 v1,q2 12 cc4 v0,q2 13 cI (v0.length:Int),q2 14 cI (k100:Int),q2 29 cB (!x180)]<|
  xn<|cnd rfl h (fun b182 h=>ws<|rg<|xa (sc cB false rfl)<|sq [q2 4 cB false]<|
  xn<|wpC_ret<|rb<|rt<|rt<|rt<|rb<|rt<|rt<|re<|fin h (r1 (ss rfl rfl)<|r0) rfl)
  (fun b182 h=>wpC_skip<|xbb<|kpN [q2 0 cc4 v0,q2 1 cc9 v1,q2 12 cc4 v0,q2 13 cI (v0.length:Int),q2 14 cI (k100:Int)] (by kernel_rfl)<|xn<|rg<|st rfl<|b_inc rfl rfl l98 hk102<|st rfl<|mvd rfl rfl<|sq [q2 0 cc4 v0,q2 1 cc9 v1,q2 12 cc4 v0,q2 13 cI (v0.length:Int),q2 14 cI ((k100 + 1:Nat):Int)]<|
  xn<|hn143 () h)⟩⟩⟩⟩⟩⟩⟩⟩⟩⟩⟩))

def rs_spec_sPart (r:(List XVariable)):List D := [cc5.enc r]
def m88:MC := .seq (.reg [q1 4 (.asg (.c (.slice true [])))] [0,1])
 (.seq (.reg [q1 5 (.asg (.c (.slice true [])))] [0,1,5])
 (.seq (.kp [5] (.seq (.reg [q1 8 (.mv (.t 1)),q1 9 (.len false (.t 8)),q1 10 (.mv (.c (.int .i64 0)))] [0,1,5,8,9,10])
 (.blk 0 (.loop (.seq (.reg [q1 11 (.bin .lss (.t 10) (.t 9))] [0,1,5,8,9,10,11])
 (.seq (.kp [0,1,5,8,9,10] (.cond (.t 11) (.skip) (.exit 0)))
 (.seq (.kp [0,1,5,8,9,10] (.blk 1 (.seq (.reg [q1 12 (.ia 8 (.t 10) 1),q1 13 (.ld 12 1 false),q1 7 (.asg (.t 13))] [0,1,5,7,8,9,10])
 (.reg [q1 14 (.mv (.t 5)),q1 15 (.mv (.t 0)),q1 16 (.mv (.t 7)),q1 17 (.ia 15 (.t 16) 2),q1 18 (.ld 17 2 true),q1 19 (.bsl [(.t 18)] 2),q1 20 (.app (.t 14) (.t 19) 2),q1 5 (.asg (.t 20))] [0,1,5,8,9,10]))))
 (.reg [q1 21 (.bin .add (.t 10) (.c (.int .i64 1))),q1 10 (.mv (.t 21))] [0,1,5,8,9,10]))))))))
 (.seq (.reg [q1 22 (.mv (.t 5)),q1 4 (.asg (.t 22))] [4])
 (.ret))))
theorem con_spec_sPart {v0:(List XVariable)} {v1:(List Int)} {r:(List XVariable)} (h:sh_spec_sPart v0 v1 = some r):Con Tryz.prog 88 [cc4.enc v0,cc9.enc v1] [] (rs_spec_sPart r) := by
 delta sh_spec_sPart at h
 refine top (out := none) (f := Tryz.f88) (m := m88) (rs := [.t 4]) (by kernel_rfl) rfl (by kernel_rfl) (by kernel_rfl) (by kernel_rfl) (by kernel_rfl) (by kernel_rfl) ?_
 exact
  ini [q2 0 cc4 v0,q2 1 cc9 v1] rfl<|ws<|rg<|xa (sc cc5 ([]:List XVariable) rfl)<|sq [q2 0 cc4 v0,q2 1 cc9 v1]<|
  xn<|ws<|rg<|xa (sc cc5 ([]:List XVariable) rfl)<|sq [q2 0 cc4 v0,q2 1 cc9 v1,q2 5 cc5 ([]:List XVariable)]<|
  xn<|ws<|wpC_kp<|ws<|rg<|st rfl<|mvd rfl rfl<|stw rfl<|lens rfl fun l36=>st rfl<|mvc cI (0:Int) rfl<|sq [q2 0 cc4 v0,q2 1 cc9 v1,q2 5 cc5 ([]:List XVariable),q2 8 cc9 v1,q2 9 cI (v1.length:Int),q2 10 cI (0:Int)]<|
  xn<|wpC_blk<|lpR (fun (k38:Nat) (s37:(List XVariable))=>[q2 0 cc4 v0,q2 1 cc9 v1,q2 5 cc5 s37,q2 8 cc9 v1,q2 9 cI (v1.length:Int),q2 10 cI (k38:Int)]) ([]:List XVariable) rfl h
  (fun G60 s37 h=>ws<|rg<|st rfl<|b_lss (k := .i64) rfl rfl<|sq [q2 0 cc4 v0,q2 1 cc9 v1,q2 5 cc5 s37,q2 8 cc9 v1,q2 9 cI (v1.length:Int),q2 10 cI (v1.length:Int),q2 11 cB (decide ((v1.length:Int) < (v1.length:Int)))]<|
  xn<|ws<|wpC_kp<|cnd0 rfl (dlf _)<|wpC_exit<|xt<|xt<|xt<|xb<|kpN [q2 5 cc5 s37] (by kernel_rfl)<|xn<|ws<|rg<|st rfl<|mvo rfl rfl<|xa (sr rfl rfl)<|sq [q2 4 cc5 s37]<|
  xn<|wpC_ret<|re<|fin h (r1 (so rfl rfl)<|r0) rfl)
  (fun G60 nx58 k38 s37 x39 hk40 hx41 hn59 h=>ws<|rg<|st rfl<|b_lss (k := .i64) rfl rfl<|sq [q2 0 cc4 v0,q2 1 cc9 v1,q2 5 cc5 s37,q2 8 cc9 v1,q2 9 cI (v1.length:Int),q2 10 cI (k38:Int),q2 11 cB (decide ((k38:Int) < (v1.length:Int)))]<|
  xn<|ws<|wpC_kp<|cnd1 rfl (dlt hk40)<|wpC_skip<|kpN [q2 0 cc4 v0,q2 1 cc9 v1,q2 5 cc5 s37,q2 8 cc9 v1,q2 9 cI (v1.length:Int),q2 10 cI (k38:Int)] (by kernel_rfl)<|xn<|ws<|wpC_kp<|wpC_blk<|ws<|rg<|st rfl<|ias rfl rfl (Int.natCast_nonneg _) hx41 rfl<|st rfl<|ldi rfl rfl rfl rfl<|xa (ss rfl rfl)<|sq [q2 0 cc4 v0,q2 1 cc9 v1,q2 5 cc5 s37,q2 7 cI x39,q2 8 cc9 v1,q2 9 cI (v1.length:Int),q2 10 cI (k38:Int)]<|
  xn<|rg<|st rfl<|mvo rfl rfl<|st rfl<|mvd rfl rfl<|st rfl<|mvd rfl rfl<|getO_k h fun x65 i66 g67 h=>st rfl<|ias rfl rfl i66 g67 rfl<|st rfl<|ldi rfl rfl rfl rfl<|x_bsl cc7 [x65] (t1 (ss rfl rfl) rfl t0) rfl rfl<|lnO_k h fun l68 h=>x_app (sr rfl rfl) (tow rfl rfl) l68 rfl<|xa (so rfl rfl)<|sq [q2 0 cc4 v0,q2 1 cc9 v1,q2 5 cc5 (s37 ++ [x65]),q2 8 cc9 v1,q2 9 cI (v1.length:Int),q2 10 cI (k38:Int)]<|
  xbb<|kpN [q2 0 cc4 v0,q2 1 cc9 v1,q2 5 cc5 (s37 ++ [x65]),q2 8 cc9 v1,q2 9 cI (v1.length:Int),q2 10 cI (k38:Int)] (by kernel_rfl)<|xn<|rg<|st rfl<|b_inc rfl rfl l36 hk40<|st rfl<|mvd rfl rfl<|sq [q2 0 cc4 v0,q2 1 cc9 v1,q2 5 cc5 (s37 ++ [x65]),q2 8 cc9 v1,q2 9 cI (v1.length:Int),q2 10 cI ((k38 + 1:Nat):Int)]<|
  xn<|hn59 (s37 ++ [x65]) h)

def rs_spec_sCount (r:Int):List D := [cI.enc r]
def m87:MC := .seq (.reg [q1 2 (.asg (.c (.int .i64 0)))] [0])
 (.seq (.reg [q1 3 (.asg (.c (.int .i64 1)))] [0,3])
 (.seq (.kp [3] (.seq (.reg [q1 6 (.mv (.t 0)),q1 7 (.len false (.t 6)),q1 8 (.mv (.c (.int .i64 0)))] [0,3,6,7,8])
 (.blk 0 (.loop (.seq (.reg [q1 9 (.bin .lss (.t 8) (.t 7))] [0,3,6,7,8,9])
 (.seq (.kp [0,3,6,7,8] (.cond (.t 9) (.skip) (.exit 0)))
 (.seq (.kp [0,3,6,7,8] (.blk 1 (.seq (.reg [q1 10 (.ia 6 (.t 8) 2),q1 11 (.ld 10 2 true),q1 5 (.alloc (.agg [.str [],.int .i64 0])),q0 (.st 5 (.t 11) 2)] [0,3,5,6,7,8])
 (.reg [q1 12 (.mv (.t 3)),q1 13 (.fa 5 1 1),q1 14 (.ld 13 1 false),q1 15 (.bin .mul (.t 12) (.t 14)),q1 3 (.asg (.t 15))] [0,3,6,7,8]))))
 (.reg [q1 16 (.bin .add (.t 8) (.c (.int .i64 1))),q1 8 (.mv (.t 16))] [0,3,6,7,8]))))))))
 (.seq (.reg [q1 17 (.mv (.t 3)),q1 2 (.asg (.t 17))] [2])
 (.ret))))
theorem con_spec_sCount {v0:(List XVariable)} {r:Int} (h:sh_spec_sCount v0 = some r):Con Tryz.prog 87 [cc4.enc v0] [] (rs_spec_sCount r) := by
 delta sh_spec_sCount at h
 refine top (out := none) (f := Tryz.f87) (m := m87) (rs := [.t 2]) (by kernel_rfl) rfl (by kernel_rfl) (by kernel_rfl) (by kernel_rfl) (by kernel_rfl) (by kernel_rfl) ?_
 exact
  ini [q2 0 cc4 v0] rfl<|ws<|rg<|xa (sc cI (0:Int) rfl)<|sq [q2 0 cc4 v0]<|
  xn<|ws<|rg<|xa (sc cI (1:Int) rfl)<|sq [q2 0 cc4 v0,q2 3 cI (1:Int)]<|
  xn<|ws<|wpC_kp<|ws<|rg<|st rfl<|mvd rfl rfl<|stw rfl<|lens rfl fun l18=>st rfl<|mvc cI (0:Int) rfl<|sq [q2 0 cc4 v0,q2 3 cI (1:Int),q2 6 cc4 v0,q2 7 cI (v0.length:Int),q2 8 cI (0:Int)]<|
  xn<|wpC_blk<|lpR (fun (k20:Nat) (s19:Int)=>[q2 0 cc4 v0,q2 3 cI s19,q2 6 cc4 v0,q2 7 cI (v0.length:Int),q2 8 cI (k20:Int)]) (1:Int) rfl h
  (fun G30 s19 h=>ws<|rg<|st rfl<|b_lss (k := .i64) rfl rfl<|sq [q2 0 cc4 v0,q2 3 cI s19,q2 6 cc4 v0,q2 7 cI (v0.length:Int),q2 8 cI (v0.length:Int),q2 9 cB (decide ((v0.length:Int) < (v0.length:Int)))]<|
  xn<|ws<|wpC_kp<|cnd0 rfl (dlf _)<|wpC_exit<|xt<|xt<|xt<|xb<|kpN [q2 3 cI s19] (by kernel_rfl)<|xn<|ws<|rg<|st rfl<|mvd rfl rfl<|xa (ss rfl rfl)<|sq [q2 2 cI s19]<|
  xn<|wpC_ret<|re<|fin h (r1 (ss rfl rfl)<|r0) rfl)
  (fun G30 nx28 k20 s19 x21 hk22 hx23 hn29 h=>ws<|rg<|st rfl<|b_lss (k := .i64) rfl rfl<|sq [q2 0 cc4 v0,q2 3 cI s19,q2 6 cc4 v0,q2 7 cI (v0.length:Int),q2 8 cI (k20:Int),q2 9 cB (decide ((k20:Int) < (v0.length:Int)))]<|
  xn<|ws<|wpC_kp<|cnd1 rfl (dlt hk22)<|wpC_skip<|kpN [q2 0 cc4 v0,q2 3 cI s19,q2 6 cc4 v0,q2 7 cI (v0.length:Int),q2 8 cI (k20:Int)] (by kernel_rfl)<|xn<|ws<|wpC_kp<|wpC_blk<|ws<|rg<|st rfl<|ias rfl rfl (Int.natCast_nonneg _) hx23 rfl<|st rfl<|ldi rfl rfl rfl rfl<|x_all cc7 (⟨([]:List UInt8),(0:Int)⟩:XVariable) rfl<|x_stb (ss rfl rfl) rfl (Cd.h_sz _ _) rfl<|sq [q2 0 cc4 v0,q2 3 cI s19,q3 5 cc7 x21,q2 6 cc4 v0,q2 7 cI (v0.length:Int),q2 8 cI (k20:Int)]<|
  xn<|rg<|st rfl<|mvd rfl rfl<|st rfl<|fab rfl rfl rfl rfl<|st rfl<|lda rfl rfl rfl rfl rfl rfl<|ckI_k h fun i32 h=>st rfl<|b_mul (k := .i64) rfl rfl i32<|xa (ss rfl rfl)<|sq [q2 0 cc4 v0,q2 3 cI (s19 * x21.Levels),q2 6 cc4 v0,q2 7 cI (v0.length:Int),q2 8 cI (k20:Int)]<|
  xbb<|kpN [q2 0 cc4 v0,q2 3 cI (s19 * x21.Levels),q2 6 cc4 v0,q2 7 cI (v0.length:Int),q2 8 cI (k20:Int)] (by kernel_rfl)<|xn<|rg<|st rfl<|b_inc rfl rfl l18 hk22<|st rfl<|mvd rfl rfl<|sq [q2 0 cc4 v0,q2 3 cI (s19 * x21.Levels),q2 6 cc4 v0,q2 7 cI (v0.length:Int),q2 8 cI ((k20 + 1:Nat):Int)]<|
  xn<|hn29 (s19 * x21.Levels) h)

def rs_spec_uCount (r:Int):List D := [cI.enc r]
def m68:MC := .seq (.reg [q1 3 (.box (.t 0)),q1 5 (.box (.t 2)),q1 6 (.asg (.c (.int .i64 0)))] [1,3,5])
 (.seq (.drw [⟨0,q1 7 (.ld 3 1 true),[8,9,10,11,12,13,14,15,16,17]⟩,
  ⟨1,q1 8 (.fa 5 0 0),[7,9,10,11,12,13,14,15,16,17]⟩,
  ⟨2,q1 9 (.ld 8 1 false),[7,10,11,12,13,14,15,16,17]⟩,
  ⟨3,q1 10 (.call 65 [(.t 7),(.t 9)]),[11,12,13,14,15,16,17]⟩,
  ⟨4,q1 11 (.len false (.t 10)),[12,13,14,15,16,17]⟩,
  ⟨5,q1 12 (.mv (.t 1)),[7,8,9,10,11,13,14,15,16,17]⟩,
  ⟨6,q1 13 (.fa 5 1 1),[7,8,9,10,11,12,14,15,16,17]⟩,
  ⟨7,q1 14 (.ld 13 1 false),[7,8,9,10,11,12,15,16,17]⟩,
  ⟨8,q1 15 (.call 88 [(.t 12),(.t 14)]),[11,16,17]⟩,
  ⟨9,q1 16 (.call 87 [(.t 15)]),[11,17]⟩,
  ⟨10,q1 17 (.bin .mul (.t 11) (.t 16)),[]⟩]
  [(11,q1 6 (.asg (.t 17)))] [6])
 (.ret))
theorem con_spec_uCount {v0:XGeo} {v1:(List XVariable)} {v2:XTable} {r:Int} (h:sh_spec_uCount v0 v1 v2 = some r):Con Tryz.prog 68 [cc6.enc v0,cc4.enc v1,cc1.enc v2] [] (rs_spec_uCount r) := by
 delta sh_spec_uCount at h
 refine top (out := none) (f := Tryz.f68) (m := m68) (rs := [.t 6]) (by kernel_rfl) rfl (by kernel_rfl) (by kernel_rfl) (by kernel_rfl) (by kernel_rfl) (by kernel_rfl) ?_
 exact
  ini [q2 0 cc6 v0,q2 1 cc4 v1,q2 2 cc1 v2] rfl<|ws<|rg<|x_box (ss rfl rfl)<|x_box (ss rfl rfl)<|xa (sc cI (0:Int) rfl)<|sq [q2 1 cc4 v1,q3 3 cc6 v0,q3 5 cc1 v2]<|
  xn<|ws<|drw_s<|pst rfl<|ldb rfl rfl rfl rfl ⟨rfl,pst rfl<|fab rfl rfl rfl rfl ⟨rfl,pst rfl<|lda rfl rfl rfl rfl rfl rfl ⟨rfl,bndp h fun x9 e10 h=>pst rfl<|o_call (a1 (c := cc6) (tXGeo (tLs tK)) rfl (a1 (c := cI) tK rfl a0)) (con_spec_gLevel e10) (.inl (so1 (sLo sK) so0)) ⟨rfl,lmO_kp h fun l11 h=>pst rfl<|plno rfl l11 ⟨rfl,pst rfl<|mvd rfl rfl ⟨rfl,pst rfl<|fab rfl rfl rfl rfl ⟨rfl,pst rfl<|lda rfl rfl rfl rfl rfl rfl ⟨rfl,bndp h fun x12 e13 h=>pst rfl<|o_call (a1 (c := cc4) (tLs (tXVariable tS tK)) rfl (a1 (c := cc9) (tLs tK) rfl a0)) (con_spec_sPart e13) (.inl (so1 (sLo (sXVariable sS sK)) so0)) ⟨rfl,bndp h fun x14 e15 h=>pst rfl<|o_call (a1 (c := cc5) (tLo (tXVariable tS tK)) rfl a0) (con_spec_sCount e15) (.inl (so1 sK so0)) ⟨rfl,ckI_kp h fun i16 h=>pst rfl<|b_mul (k := .i64) rfl rfl i16 ⟨rfl,preN<|xa (ss rfl rfl)<|sq [q2 6 cI ((x9.length:Int) * x14)]<|
  xn<|wpC_ret<|re<|fin h (r1 (ss rfl rfl)<|r0) rfl⟩⟩⟩⟩⟩⟩⟩⟩⟩⟩⟩

def rs_spec_uGood (r:Bool):List D := [cB.enc r]
def m44:MC := .seq (.reg [q1 3 (.box (.t 0)),q1 5 (.box (.t 2)),q1 6 (.asg (.c (.bool false)))] [1,3,5])
 (.seq (.kp [1,3,5] (.seq (.reg [q1 7 (.ld 3 1 true),q1 8 (.call 41 [(.t 7)]),q1 9 (.nt (.t 8)),q1 10 (.mv (.t 9)),
  ⟨some 11,.mv (.t 1),some (10,false)⟩,
  ⟨some 12,.call 42 [(.t 11)],some (10,false)⟩,
  ⟨some 13,.nt (.t 12),some (10,false)⟩,q1 14 (.pick (.t 10) (.c (.bool true)) (.t 13)),q1 15 (.mv (.t 14)),
  ⟨some 16,.ld 3 1 true,some (15,false)⟩,
  ⟨some 17,.fa 5 0 0,some (15,false)⟩,
  ⟨some 18,.ld 17 1 false,some (15,false)⟩,
  ⟨some 19,.call 65 [(.t 16),(.t 18)],some (15,false)⟩,
  ⟨some 20,.len false (.t 19),some (15,false)⟩,
  ⟨some 21,.bin .eql (.t 20) (.c (.int .i64 0)),some (15,false)⟩,q1 22 (.pick (.t 15) (.c (.bool true)) (.t 21)),q1 23 (.mv (.t 22)),
  ⟨some 24,.fa 5 1 1,some (23,false)⟩,
  ⟨some 25,.ld 24 1 false,some (23,false)⟩,
  ⟨some 26,.mv (.t 1),some (23,false)⟩,
  ⟨some 27,.len false (.t 26),some (23,false)⟩,
  ⟨some 28,.bin .sub (.t 27) (.c (.int .i64 1)),some (23,false)⟩,
  ⟨some 29,.call 66 [(.t 25),(.c (.int .i64 0)),(.t 28)],some (23,false)⟩,
  ⟨some 30,.nt (.t 29),some (23,false)⟩,q1 31 (.pick (.t 23) (.c (.bool true)) (.t 30)),q1 32 (.mv (.t 31)),
  ⟨some 33,.mv (.t 1),some (32,false)⟩,
  ⟨some 34,.fa 5 2 2,some (32,false)⟩,
  ⟨some 35,.ld 34 1 false,some (32,false)⟩,
  ⟨some 36,.call 67 [(.t 33),(.t 35)],some (32,false)⟩,
  ⟨some 37,.nt (.t 36),some (32,false)⟩,q1 38 (.pick (.t 32) (.c (.bool true)) (.t 37)),q1 39 (.mv (.t 38)),
  ⟨some 40,.fa 5 3 3,some (39,false)⟩,
  ⟨some 41,.ld 40 1 false,some (39,false)⟩,
  ⟨some 42,.mv (.t 1),some (39,false)⟩,
  ⟨some 43,.len false (.t 42),some (39,false)⟩,
  ⟨some 44,.bin .sub (.t 43) (.c (.int .i64 1)),some (39,false)⟩,
  ⟨some 45,.call 60 [(.t 41),(.c (.int .i64 (-1))),(.t 44)],some (39,false)⟩,
  ⟨some 46,.nt (.t 45),some (39,false)⟩,q1 47 (.pick (.t 39) (.c (.bool true)) (.t 46))] [1,3,5,47])
 (.cond (.t 47) (.seq (.reg [q1 6 (.asg (.c (.bool false)))] [6])
 (.ret)) (.skip))))
 (.seq (.reg [q1 48 (.ld 3 1 true),q1 49 (.mv (.t 1)),q1 50 (.ld 5 4 true),q1 51 (.call 68 [(.t 48),(.t 49),(.t 50)]),q1 52 (.bin .leq (.t 51) (.c (.int .i64 600))),q1 6 (.asg (.t 52))] [6])
 (.ret)))
theorem con_spec_uGood {v0:XGeo} {v1:(List XVariable)} {v2:XTable} {r:Bool} (h:sh_spec_uGood v0 v1 v2 = some r):Con Tryz.prog 44 [cc6.enc v0,cc4.enc v1,cc1.enc v2] [] (rs_spec_uGood r) := by
 delta sh_spec_uGood at h
 refine top (out := none) (f := Tryz.f44) (m := m44) (rs := [.t 6]) (by kernel_rfl) rfl (by kernel_rfl) (by kernel_rfl) (by kernel_rfl) (by kernel_rfl) (by kernel_rfl) ?_
 exact
  ini [q2 0 cc6 v0,q2 1 cc4 v1,q2 2 cc1 v2] rfl<|ws<|rg<|x_box (ss rfl rfl)<|x_box (ss rfl rfl)<|xa (sc cB false rfl)<|sq [q2 1 cc4 v1,q3 3 cc6 v0,q3 5 cc1 v2]<|
  xn<|ws<|wpC_kp<|ws<|jw (fun (s70:Bool)=>[q2 1 cc4 v1,q3 3 cc6 v0,q3 5 cc1 v2,q2 47 cB s70]) h (fun s70 h=>xn<|cnd rfl h (fun b72 h=>ws<|rg<|xa (sc cB false rfl)<|sq [q2 6 cB false]<|
  xn<|wpC_ret<|rt<|rt<|re<|fin h (r1 (ss rfl rfl)<|r0) rfl)
  (fun b72 h=>wpC_skip<|kpN [q2 1 cc4 v1,q3 3 cc6 v0,q3 5 cc1 v2] (by kernel_rfl)<|xn<|ws<|rg<|st rfl<|ldb rfl rfl rfl rfl<|st rfl<|mvd rfl rfl<|st rfl<|ldb rfl rfl rfl rfl<|bnd h fun x75 e76 h=>st rfl<|o_call (a1 (c := cc6) (tXGeo (tLs tK)) rfl (a1 (c := cc4) (tLs (tXVariable tS tK)) rfl (a1 (c := cc1) (tXTable tK (tLs tK) (tLs tK) tK) rfl a0))) (con_spec_uCount e76) (.inl (so1 sK so0))<|st rfl<|b_leq (k := .i64) rfl rfl<|xa (ss rfl rfl)<|sq [q2 6 cB (decide (x75 ≤ (600:Int)))]<|
  xn<|wpC_ret<|re<|fin h (r1 (ss rfl rfl)<|r0) rfl))
  fun s70' q71 h=>rg<|st rfl<|ldb rfl rfl rfl rfl<|bnd h fun x77 e78 h=>st rfl<|o_call (a1 (c := cc6) (tXGeo (tLs tK)) rfl a0) (con_spec_gGood e78) (.inl (so1 sB so0))<|st rfl<|o_nt rfl<|st rfl<|mvd rfl rfl<|ite_k h (fun b79 h=>gf rfl b79<|gf rfl b79<|gf rfl b79<|st rfl<|pick1 rfl b79 (cd := cB) (v := true) rfl rfl<|st rfl<|mvd rfl rfl<|gf rfl rfl<|gf rfl rfl<|gf rfl rfl<|gf rfl rfl<|gf rfl rfl<|gf rfl rfl<|st rfl<|pick1 rfl rfl (cd := cB) (v := true) rfl rfl<|st rfl<|mvd rfl rfl<|gf rfl rfl<|gf rfl rfl<|gf rfl rfl<|gf rfl rfl<|gf rfl rfl<|gf rfl rfl<|gf rfl rfl<|st rfl<|pick1 rfl rfl (cd := cB) (v := true) rfl rfl<|st rfl<|mvd rfl rfl<|gf rfl rfl<|gf rfl rfl<|gf rfl rfl<|gf rfl rfl<|gf rfl rfl<|st rfl<|pick1 rfl rfl (cd := cB) (v := true) rfl rfl<|st rfl<|mvd rfl rfl<|gf rfl rfl<|gf rfl rfl<|gf rfl rfl<|gf rfl rfl<|gf rfl rfl<|gf rfl rfl<|gf rfl rfl<|st rfl<|pick1 rfl rfl (cd := cB) (v := true) rfl rfl<|sq [q2 1 cc4 v1,q3 3 cc6 v0,q3 5 cc1 v2,q2 47 cB true]<|
  lfn (S := (fun (s70:Bool)=>[q2 1 cc4 v1,q3 3 cc6 v0,q3 5 cc1 v2,q2 47 cB s70])) h q71 rfl)
  (fun b79 h=>gt' rfl b79<|st rfl<|mvd rfl rfl<|gt' rfl b79<|bnd h fun x80 e81 h=>st rfl<|o_call (a1 (c := cc4) (tLs (tXVariable tS tK)) rfl a0) (con_spec_sGood e81) (.inl (so1 sB so0))<|gt' rfl b79<|st rfl<|o_nt rfl<|st rfl<|pick0 rfl b79 (cd := cB) (v := (!x80)) rfl rfl<|st rfl<|mvd rfl rfl<|ite_k h (fun b82 h=>gf rfl b82<|gf rfl b82<|gf rfl b82<|gf rfl b82<|gf rfl b82<|gf rfl b82<|st rfl<|pick1 rfl b82 (cd := cB) (v := true) rfl rfl<|st rfl<|mvd rfl rfl<|gf rfl rfl<|gf rfl rfl<|gf rfl rfl<|gf rfl rfl<|gf rfl rfl<|gf rfl rfl<|gf rfl rfl<|st rfl<|pick1 rfl rfl (cd := cB) (v := true) rfl rfl<|st rfl<|mvd rfl rfl<|gf rfl rfl<|gf rfl rfl<|gf rfl rfl<|gf rfl rfl<|gf rfl rfl<|st rfl<|pick1 rfl rfl (cd := cB) (v := true) rfl rfl<|st rfl<|mvd rfl rfl<|gf rfl rfl<|gf rfl rfl<|gf rfl rfl<|gf rfl rfl<|gf rfl rfl<|gf rfl rfl<|gf rfl rfl<|st rfl<|pick1 rfl rfl (cd := cB) (v := true) rfl rfl<|sq [q2 1 cc4 v1,q3 3 cc6 v0,q3 5 cc1 v2,q2 47 cB true]<|
  lfn (S := (fun (s70:Bool)=>[q2 1 cc4 v1,q3 3 cc6 v0,q3 5 cc1 v2,q2 47 cB s70])) h q71 rfl)
  (fun b82 h=>gt' rfl b82<|st rfl<|ldb rfl rfl rfl rfl<|gt' rfl b82<|st rfl<|fab rfl rfl rfl rfl<|gt' rfl b82<|st rfl<|lda rfl rfl rfl rfl rfl rfl<|gt' rfl b82<|bnd h fun x83 e84 h=>st rfl<|o_call (a1 (c := cc6) (tXGeo (tLs tK)) rfl (a1 (c := cI) tK rfl a0)) (con_spec_gLevel e84) (.inl (so1 (sLo sK) so0))<|gt' rfl b82<|stw rfl<|leno rfl fun l85=>gt' rfl b82<|st rfl<|b_eql (k := .i64) rfl rfl<|st rfl<|pick0 rfl b82 (cd := cB) (v := (decide ((x83.length:Int) = (0:Int)))) rfl rfl<|st rfl<|mvd rfl rfl<|ite_k h (fun b86 h=>gf rfl b86<|gf rfl b86<|gf rfl b86<|gf rfl b86<|gf rfl b86<|gf rfl b86<|gf rfl b86<|st rfl<|pick1 rfl b86 (cd := cB) (v := true) rfl rfl<|st rfl<|mvd rfl rfl<|gf rfl rfl<|gf rfl rfl<|gf rfl rfl<|gf rfl rfl<|gf rfl rfl<|st rfl<|pick1 rfl rfl (cd := cB) (v := true) rfl rfl<|st rfl<|mvd rfl rfl<|gf rfl rfl<|gf rfl rfl<|gf rfl rfl<|gf rfl rfl<|gf rfl rfl<|gf rfl rfl<|gf rfl rfl<|st rfl<|pick1 rfl rfl (cd := cB) (v := true) rfl rfl<|sq [q2 1 cc4 v1,q3 3 cc6 v0,q3 5 cc1 v2,q2 47 cB true]<|
  lfn (S := (fun (s70:Bool)=>[q2 1 cc4 v1,q3 3 cc6 v0,q3 5 cc1 v2,q2 47 cB s70])) h q71 rfl)
  (fun b86 h=>gt' rfl b86<|st rfl<|fab rfl rfl rfl rfl<|gt' rfl b86<|st rfl<|lda rfl rfl rfl rfl rfl rfl<|gt' rfl b86<|st rfl<|mvd rfl rfl<|gt' rfl b86<|stw rfl<|lens rfl fun l87=>gt' rfl b86<|ckI_k h fun i88 h=>st rfl<|b_sub (k := .i64) rfl rfl i88<|gt' rfl b86<|bnd h fun x89 e90 h=>st rfl<|o_call (a1 (c := cc9) (tLs tK) rfl (a1 (c := cI) tK rfl (a1 (c := cI) tK rfl a0))) (con_spec_l1Rising e90) (.inl (so1 sB so0))<|gt' rfl b86<|st rfl<|o_nt rfl<|st rfl<|pick0 rfl b86 (cd := cB) (v := (!x89)) rfl rfl<|st rfl<|mvd rfl rfl<|ite_k h (fun b91 h=>gf rfl b91<|gf rfl b91<|gf rfl b91<|gf rfl b91<|gf rfl b91<|st rfl<|pick1 rfl b91 (cd := cB) (v := true) rfl rfl<|st rfl<|mvd rfl rfl<|gf rfl rfl<|gf rfl rfl<|gf rfl rfl<|gf rfl rfl<|gf rfl rfl<|gf rfl rfl<|gf rfl rfl<|st rfl<|pick1 rfl rfl (cd := cB) (v := true) rfl rfl<|sq [q2 1 cc4 v1,q3 3 cc6 v0,q3 5 cc1 v2,q2 47 cB true]<|
  lfn (S := (fun (s70:Bool)=>[q2 1 cc4 v1,q3 3 cc6 v0,q3 5 cc1 v2,q2 47 cB s70])) h q71 rfl)
  (fun b91 h=>gt' rfl b91<|st rfl<|mvd rfl rfl<|gt' rfl b91<|st rfl<|fab rfl rfl rfl rfl<|gt' rfl b91<|st rfl<|lda rfl rfl rfl rfl rfl rfl<|gt' rfl b91<|bnd h fun x92 e93 h=>st rfl<|o_call (a1 (c := cc4) (tLs (tXVariable tS tK)) rfl (a1 (c := cc9) (tLs tK) rfl a0)) (con_spec_uWhere e93) (.inl (so1 sB so0))<|gt' rfl b91<|st rfl<|o_nt rfl<|st rfl<|pick0 rfl b91 (cd := cB) (v := (!x92)) rfl rfl<|st rfl<|mvd rfl rfl<|ite_k h (fun b94 h=>gf rfl b94<|gf rfl b94<|gf rfl b94<|gf rfl b94<|gf rfl b94<|gf rfl b94<|gf rfl b94<|st rfl<|pick1 rfl b94 (cd := cB) (v := true) rfl rfl<|sq [q2 1 cc4 v1,q3 3 cc6 v0,q3 5 cc1 v2,q2 47 cB true]<|
  lfn (S := (fun (s70:Bool)=>[q2 1 cc4 v1,q3 3 cc6 v0,q3 5 cc1 v2,q2 47 cB s70])) h q71 rfl)
  (fun b94 h=>gt' rfl b94<|st rfl<|fab rfl rfl rfl rfl<|gt' rfl b94<|st rfl<|lda rfl rfl rfl rfl rfl rfl<|gt' rfl b94<|st rfl<|mvd rfl rfl<|gt' rfl b94<|stw rfl<|lens rfl fun l95=>gt' rfl b94<|ckI_k h fun i96 h=>st rfl<|b_sub (k := .i64) rfl rfl i96<|gt' rfl b94<|bnd h fun x97 e98 h=>st rfl<|o_call (a1 (c := cI) tK rfl (a1 (c := cI) tK rfl (a1 (c := cI) tK rfl a0))) (con_spec_l1In e98) (.inl (so1 sB so0))<|gt' rfl b94<|st rfl<|o_nt rfl<|st rfl<|pick0 rfl b94 (cd := cB) (v := (!x97)) rfl rfl<|sq [q2 1 cc4 v1,q3 3 cc6 v0,q3 5 cc1 v2,q2 47 cB (!x97)]<|
  lfn (S := (fun (s70:Bool)=>[q2 1 cc4 v1,q3 3 cc6 v0,q3 5 cc1 v2,q2 47 cB s70])) h q71 rfl)))))

def rs_spec_l1Num (r:(List UInt8)):List D := [cS.enc r]
def m69:MC := .seq (.reg [q1 2 (.asg (.c (.str [])))] [0])
 (.seq (.kp [0] (.seq (.reg [q1 3 (.mv (.t 0)),q1 4 (.bin .lss (.t 3) (.c (.int .i64 10)))] [0,4])
 (.cond (.t 4) (.seq (.reg [q1 5 (.mv (.t 0)),q1 6 (.bin .add (.c (.int .i64 48)) (.t 5)),q1 7 (.cvi .u8 (.t 6)),q1 8 (.bsl [(.t 7)] 1),q1 9 (.b2s (.t 8)),q1 2 (.asg (.t 9))] [2])
 (.ret)) (.skip))))
 (.seq (.drw [⟨0,q1 10 (.mv (.t 0)),[11,12,13,14,15,16,17,18,19]⟩,
  ⟨1,q1 11 (.bin .quo (.t 10) (.c (.int .i64 10))),[12,13,14,15,16,17,18,19]⟩,
  ⟨2,q1 12 (.call 69 [(.t 11)]),[13,14,15,16,17,18,19]⟩,
  ⟨3,q1 13 (.mv (.t 0)),[10,11,12,14,15,16,17,18,19]⟩,
  ⟨4,q1 14 (.bin .rem (.t 13) (.c (.int .i64 10))),[10,11,12,15,16,17,18,19]⟩,
  ⟨5,q1 15 (.bin .add (.c (.int .i64 48)) (.t 14)),[10,11,12,16,17,18,19]⟩,
  ⟨6,q1 16 (.cvi .u8 (.t 15)),[10,11,12,17,18,19]⟩,
  ⟨7,q1 17 (.bsl [(.t 16)] 1),[10,11,12,18,19]⟩,
  ⟨8,q1 18 (.b2s (.t 17)),[10,11,12,19]⟩,
  ⟨9,q1 19 (.bin .add (.t 12) (.t 18)),[]⟩]
  [(10,q1 2 (.asg (.t 19)))] [2])
 (.ret)))
theorem con_spec_l1Num_B {self:Int → Option (List UInt8)} (hself:∀ {v:Int} {r:(List UInt8)},self v = some r → Con Tryz.prog 69 [cI.enc v] [] (rs_spec_l1Num r)) {v0:Int} {r:(List UInt8)} (h:sh_spec_l1Num_B self v0 = some r):Con Tryz.prog 69 [cI.enc v0] [] (rs_spec_l1Num r) := by
 delta sh_spec_l1Num_B at h
 refine top (out := none) (f := Tryz.f69) (m := m69) (rs := [.t 2]) (by kernel_rfl) rfl (by kernel_rfl) (by kernel_rfl) (by kernel_rfl) (by kernel_rfl) (by kernel_rfl) ?_
 exact
  ini [q2 0 cI v0] rfl<|ws<|rg<|xa (sc cS ([]:List UInt8) rfl)<|sq [q2 0 cI v0]<|
  xn<|ws<|wpC_kp<|ws<|rg<|st rfl<|mvd rfl rfl<|st rfl<|b_lss (k := .i64) rfl rfl<|sq [q2 0 cI v0,q2 4 cB (decide (v0 < (10:Int)))]<|
  xn<|cnd rfl h (fun b10 h=>ws<|rg<|st rfl<|mvd rfl rfl<|ckI_k h fun i15 h=>st rfl<|b_add (k := .i64) rfl rfl i15<|ckU_k h fun i16 h=>st rfl<|o_cvi (k := .i64) (k' := .u8) rfl i16<|x_bsl cU [((48:Int) + v0)] (t1 (ss rfl rfl) rfl t0) rfl rfl<|ck_k h fun i17 h=>st rfl<|o_b2s rfl rfl i17<|xa (ss rfl rfl)<|sq [q2 2 cS (bytesOf [((48:Int) + v0)])]<|
  xn<|wpC_ret<|rt<|rt<|re<|fin h (r1 (ss rfl rfl)<|r0) rfl)
  (fun b10 h=>wpC_skip<|kpN [q2 0 cI v0] (by kernel_rfl)<|xn<|ws<|drw_s<|pst rfl<|mvd rfl rfl ⟨rfl,ck_kp h fun i29 h=>ckI_kp h fun i30 h=>pst rfl<|b_quo (k := .i64) rfl rfl i29 i30 ⟨rfl,bndp h fun x31 e32 h=>pst rfl<|o_call (a1 (c := cI) tK rfl a0) (hself e32) (.inl (so1 sS so0)) ⟨rfl,pst rfl<|mvd rfl rfl ⟨rfl,ck_kp h fun i33 h=>pst rfl<|b_rem (k := .i64) rfl rfl i33 ⟨rfl,ckI_kp h fun i34 h=>pst rfl<|b_add (k := .i64) rfl rfl i34 ⟨rfl,ckU_kp h fun i35 h=>pst rfl<|o_cvi (k := .i64) (k' := .u8) rfl i35 ⟨rfl,pst rfl<|p_bsl cU [((48:Int) + (v0.tmod (10:Int)))] (e1 rfl rfl rfl e0) rfl rfl ⟨rfl,ck_kp h fun i36 h=>pst rfl<|o_b2s rfl rfl i36 ⟨rfl,lnO_kp h fun l38 h=>pst rfl<|b_cat rfl rfl l38 ⟨rfl,preN<|xa (ss rfl rfl)<|sq [q2 2 cS (x31 ++ (bytesOf [((48:Int) + (v0.tmod (10:Int)))]))]<|
  xn<|wpC_ret<|re<|fin h (r1 (ss rfl rfl)<|r0) rfl⟩⟩⟩⟩⟩⟩⟩⟩⟩⟩)
theorem con_spec_l1Num {v0:Int} {r:(List UInt8)} (h:sh_spec_l1Num v0 = some r):Con Tryz.prog 69 [cI.enc v0] [] (rs_spec_l1Num r) := by
 have key:∀ (n:Nat) {v:Int} {r:(List UInt8)},loopF sh_spec_l1Num_B n v = some r → Con Tryz.prog 69 [cI.enc v] [] (rs_spec_l1Num r) := by
  intro n
  induction n with
  | zero=>intro v r h; cases h
  | succ n ih=>intro v r h; exact con_spec_l1Num_B ih h
 exact key _ h

def rs_spec_nNames (r:(List UInt8)):List D := [cS.enc r]
def m70:MC := .seq (.reg [q1 4 (.asg (.c (.str [])))] [0,1])
 (.seq (.reg [q1 5 (.asg (.c (.str [])))] [0,1,5])
 (.seq (.kp [5] (.seq (.reg [q1 8 (.mv (.t 1)),q1 9 (.len false (.t 8)),q1 10 (.mv (.c (.int .i64 0)))] [0,1,5,8,9,10])
 (.blk 0 (.loop (.seq (.reg [q1 11 (.bin .lss (.t 10) (.t 9))] [0,1,5,8,9,10,11])
 (.seq (.kp [0,1,5,8,9,10] (.cond (.t 11) (.skip) (.exit 0)))
 (.seq (.kp [0,1,5,8,9,10] (.blk 1 (.seq (.reg [q1 12 (.mv (.t 10)),q1 13 (.ia 8 (.t 10) 1),q1 14 (.ld 13 1 false),q1 6 (.asg (.t 12)),q1 7 (.asg (.t 14))] [0,1,5,6,7,8,9,10])
 (.seq (.kp [0,1,5,7,8,9,10] (.seq (.reg [q1 15 (.mv (.t 6)),q1 16 (.bin .gtr (.t 15) (.c (.int .i64 0)))] [0,1,5,7,8,9,10,16])
 (.cond (.t 16) (.reg [q1 17 (.mv (.t 5)),q1 18 (.bin .add (.t 17) (.c (.str [44]))),q1 5 (.asg (.t 18))] [0,1,5,7,8,9,10]) (.skip))))
 (.reg [q1 19 (.mv (.t 5)),q1 20 (.mv (.t 0)),q1 21 (.mv (.t 7)),q1 22 (.ia 20 (.t 21) 2),q1 23 (.fa 22 0 0),q1 24 (.ld 23 1 false),q1 25 (.bin .add (.t 19) (.t 24)),q1 5 (.asg (.t 25))] [0,1,5,8,9,10])))))
 (.reg [q1 26 (.bin .add (.t 10) (.c (.int .i64 1))),q1 10 (.mv (.t 26))] [0,1,5,8,9,10]))))))))
 (.seq (.reg [q1 27 (.mv (.t 5)),q1 4 (.asg (.t 27))] [4])
 (.ret))))
theorem con_spec_nNames {v0:(List XVariable)} {v1:(List Int)} {r:(List UInt8)} (h:sh_spec_nNames v0 v1 = some r):Con Tryz.prog 70 [cc4.enc v0,cc9.enc v1] [] (rs_spec_nNames r) := by
 delta sh_spec_nNames at h
 refine top (out := none) (f := Tryz.f70) (m := m70) (rs := [.t 4]) (by kernel_rfl) rfl (by kernel_rfl) (by kernel_rfl) (by kernel_rfl) (by kernel_rfl) (by kernel_rfl) ?_
 exact
  ini [q2 0 cc4 v0,q2 1 cc9 v1] rfl<|ws<|rg<|xa (sc cS ([]:List UInt8) rfl)<|sq [q2 0 cc4 v0,q2 1 cc9 v1]<|
  xn<|ws<|rg<|xa (sc cS ([]:List UInt8) rfl)<|sq [q2 0 cc4 v0,q2 1 cc9 v1,q2 5 cS ([]:List UInt8)]<|
  xn<|ws<|wpC_kp<|ws<|rg<|st rfl<|mvd rfl rfl<|stw rfl<|lens rfl fun l72=>st rfl<|mvc cI (0:Int) rfl<|sq [q2 0 cc4 v0,q2 1 cc9 v1,q2 5 cS ([]:List UInt8),q2 8 cc9 v1,q2 9 cI (v1.length:Int),q2 10 cI (0:Int)]<|
  xn<|wpC_blk<|lpR (fun (k74:Nat) (s73:(List UInt8))=>[q2 0 cc4 v0,q2 1 cc9 v1,q2 5 cS s73,q2 8 cc9 v1,q2 9 cI (v1.length:Int),q2 10 cI (k74:Int)]) ([]:List UInt8) rfl h
  (fun G120 s73 h=>ws<|rg<|st rfl<|b_lss (k := .i64) rfl rfl<|sq [q2 0 cc4 v0,q2 1 cc9 v1,q2 5 cS s73,q2 8 cc9 v1,q2 9 cI (v1.length:Int),q2 10 cI (v1.length:Int),q2 11 cB (decide ((v1.length:Int) < (v1.length:Int)))]<|
  xn<|ws<|wpC_kp<|cnd0 rfl (dlf _)<|wpC_exit<|xt<|xt<|xt<|xb<|kpN [q2 5 cS s73] (by kernel_rfl)<|xn<|ws<|rg<|st rfl<|mvd rfl rfl<|xa (ss rfl rfl)<|sq [q2 4 cS s73]<|
  xn<|wpC_ret<|re<|fin h (r1 (ss rfl rfl)<|r0) rfl)
  (fun G120 nx118 k74 s73 x75 hk76 hx77 hn119 h=>ws<|rg<|st rfl<|b_lss (k := .i64) rfl rfl<|sq [q2 0 cc4 v0,q2 1 cc9 v1,q2 5 cS s73,q2 8 cc9 v1,q2 9 cI (v1.length:Int),q2 10 cI (k74:Int),q2 11 cB (decide ((k74:Int) < (v1.length:Int)))]<|
  xn<|ws<|wpC_kp<|cnd1 rfl (dlt hk76)<|wpC_skip<|kpN [q2 0 cc4 v0,q2 1 cc9 v1,q2 5 cS s73,q2 8 cc9 v1,q2 9 cI (v1.length:Int),q2 10 cI (k74:Int)] (by kernel_rfl)<|xn<|ws<|wpC_kp<|wpC_blk<|ws<|rg<|st rfl<|mvd rfl rfl<|st rfl<|ias rfl rfl (Int.natCast_nonneg _) hx77 rfl<|st rfl<|ldi rfl rfl rfl rfl<|xa (ss rfl rfl)<|xa (ss rfl rfl)<|sq [q2 0 cc4 v0,q2 1 cc9 v1,q2 5 cS s73,q2 6 cI (k74:Int),q2 7 cI x75,q2 8 cc9 v1,q2 9 cI (v1.length:Int),q2 10 cI (k74:Int)]<|
  xn<|ws<|jw (fun (s133:(List UInt8))=>[q2 0 cc4 v0,q2 1 cc9 v1,q2 5 cS s133,q2 7 cI x75,q2 8 cc9 v1,q2 9 cI (v1.length:Int),q2 10 cI (k74:Int)]) h (fun s133 h=>xn<|rg<|st rfl<|mvd rfl rfl<|st rfl<|mvd rfl rfl<|st rfl<|mvd rfl rfl<|getO_k h fun x135 i136 g137 h=>st rfl<|ias rfl rfl i136 g137 rfl<|st rfl<|fai rfl rfl rfl rfl<|st rfl<|ldi rfl rfl rfl rfl<|lnO_k h fun l138 h=>st rfl<|b_cat rfl rfl l138<|xa (ss rfl rfl)<|sq [q2 0 cc4 v0,q2 1 cc9 v1,q2 5 cS (s133 ++ x135.Name),q2 8 cc9 v1,q2 9 cI (v1.length:Int),q2 10 cI (k74:Int)]<|
  xbb<|kpN [q2 0 cc4 v0,q2 1 cc9 v1,q2 5 cS (s133 ++ x135.Name),q2 8 cc9 v1,q2 9 cI (v1.length:Int),q2 10 cI (k74:Int)] (by kernel_rfl)<|xn<|rg<|st rfl<|b_inc rfl rfl l72 hk76<|st rfl<|mvd rfl rfl<|sq [q2 0 cc4 v0,q2 1 cc9 v1,q2 5 cS (s133 ++ x135.Name),q2 8 cc9 v1,q2 9 cI (v1.length:Int),q2 10 cI ((k74 + 1:Nat):Int)]<|
  xn<|hn119 (s133 ++ x135.Name) h)
  fun s133' q134 h=>wpC_kp<|ws<|rg<|st rfl<|mvd rfl rfl<|st rfl<|b_gtr (k := .i64) rfl rfl<|sq [q2 0 cc4 v0,q2 1 cc9 v1,q2 5 cS s73,q2 7 cI x75,q2 8 cc9 v1,q2 9 cI (v1.length:Int),q2 10 cI (k74:Int),q2 16 cB (decide ((0:Int) < (k74:Int)))]<|
  xn<|cnd rfl h (fun b139 h=>rg<|st rfl<|mvd rfl rfl<|lnO_k h fun l140 h=>st rfl<|b_cat rfl rfl l140<|xa (ss rfl rfl)<|sq [q2 0 cc4 v0,q2 1 cc9 v1,q2 5 cS (s73 ++ ([44]:List UInt8)),q2 7 cI x75,q2 8 cc9 v1,q2 9 cI (v1.length:Int),q2 10 cI (k74:Int)]<|
  kpN [q2 0 cc4 v0,q2 1 cc9 v1,q2 5 cS (s73 ++ ([44]:List UInt8)),q2 7 cI x75,q2 8 cc9 v1,q2 9 cI (v1.length:Int),q2 10 cI (k74:Int)] (by kernel_rfl)<|lfn (S := (fun (s133:(List UInt8))=>[q2 0 cc4 v0,q2 1 cc9 v1,q2 5 cS s133,q2 7 cI x75,q2 8 cc9 v1,q2 9 cI (v1.length:Int),q2 10 cI (k74:Int)])) h q134 rfl)
  (fun b139 h=>wpC_skip<|kpN [q2 0 cc4 v0,q2 1 cc9 v1,q2 5 cS s73,q2 7 cI x75,q2 8 cc9 v1,q2 9 cI (v1.length:Int),q2 10 cI (k74:Int)] (by kernel_rfl)<|lfn (S := (fun (s133:(List UInt8))=>[q2 0 cc4 v0,q2 1 cc9 v1,q2 5 cS s133,q2 7 cI x75,q2 8 cc9 v1,q2 9 cI (v1.length:Int),q2 10 cI (k74:Int)])) h q134 rfl))

def rs_spec_eLevels (r:(List Int)):List D := [cc11.enc r]
def m71:MC := .seq (.reg [q1 2 (.asg (.c (.slice true [])))] [0])
 (.seq (.reg [q1 3 (.asg (.c (.slice true [])))] [0,3])
 (.seq (.kp [3] (.seq (.reg [q1 4 (.asg (.c (.int .i64 0)))] [0,3,4])
 (.blk 0 (.loop (.seq (.kp [0,3,4] (.seq (.reg [q1 5 (.mv (.t 0)),q1 6 (.mv (.t 4)),q1 7 (.cvi .u64 (.t 6)),q1 8 (.bin .shr (.t 5) (.t 7)),q1 9 (.bin .gtr (.t 8) (.c (.int .i64 0)))] [0,3,4,9])
 (.cond (.t 9) (.skip) (.exit 0))))
 (.seq (.kp [0,3,4] (.blk 1 (.seq (.reg [q1 12 (.mv (.t 0)),q1 13 (.mv (.t 4)),q1 14 (.cvi .u64 (.t 13)),q1 15 (.bin .shr (.t 12) (.t 14)),q1 16 (.bin .and (.t 15) (.c (.int .i64 1))),q1 17 (.bin .eql (.t 16) (.c (.int .i64 1)))] [0,3,4,17])
 (.cond (.t 17) (.reg [q1 18 (.mv (.t 3)),q1 19 (.mv (.t 4)),q1 20 (.bsl [(.t 19)] 1),q1 21 (.app (.t 18) (.t 20) 1),q1 3 (.asg (.t 21))] [0,3,4]) (.skip)))))
 (.reg [q1 10 (.mv (.t 4)),q1 11 (.bin .add (.t 10) (.c (.int .i64 1))),q1 4 (.asg (.t 11))] [0,3,4])))))))
 (.seq (.reg [q1 22 (.mv (.t 3)),q1 2 (.asg (.t 22))] [2])
 (.ret))))
theorem con_spec_eLevels {v0:Int} {r:(List Int)} (h:sh_spec_eLevels v0 = some r):Con Tryz.prog 71 [cI.enc v0] [] (rs_spec_eLevels r) := by
 delta sh_spec_eLevels at h
 refine top (out := none) (f := Tryz.f71) (m := m71) (rs := [.t 2]) (by kernel_rfl) rfl (by kernel_rfl) (by kernel_rfl) (by kernel_rfl) (by kernel_rfl) (by kernel_rfl) ?_
 exact
  ini [q2 0 cI v0] rfl<|ws<|rg<|xa (sc cc11 ([]:List Int) rfl)<|sq [q2 0 cI v0]<|
  xn<|ws<|rg<|xa (sc cc11 ([]:List Int) rfl)<|sq [q2 0 cI v0,q2 3 cc11 ([]:List Int)]<|
  xn<|ws<|wpC_kp<|ws<|rg<|xa (sc cI (0:Int) rfl)<|sq [q2 0 cI v0,q2 3 cc11 ([]:List Int),q2 4 cI (0:Int)]<|
  xn<|wpC_blk<|lpF (fun (s129:((List Int) × Int))=>[q2 0 cI v0,q2 3 cc11 s129.1,q2 4 cI s129.2]) (([]:List Int),(0:Int)) rfl h
  fun G216 nx214 s129 hn215 h=>ws<|wpC_kp<|ws<|rg<|st rfl<|mvd rfl rfl<|st rfl<|mvd rfl rfl<|ckK_k h fun i224 h=>st rfl<|o_cvi (k := .i64) (k' := .u64) rfl i224<|ck_k h fun i225 h=>st rfl<|b_shr (k := .i64) (k' := .u64) rfl rfl i225 rfl<|st rfl<|b_gtr (k := .i64) rfl rfl<|sq [q2 0 cI v0,q2 3 cc11 s129.1,q2 4 cI s129.2,q2 9 cB (decide ((0:Int) < (v0 / 2 ^ (s129.2).toNat)))]<|
  xn<|cnd rfl h (fun b226 h=>wpC_skip<|kpN [q2 0 cI v0,q2 3 cc11 s129.1,q2 4 cI s129.2] (by kernel_rfl)<|xn<|ws<|wpC_kp<|wpC_blk<|ws<|rg<|st rfl<|mvd rfl rfl<|st rfl<|mvd rfl rfl<|ckK_k h fun i247 h=>st rfl<|o_cvi (k := .i64) (k' := .u64) rfl i247<|ck_k h fun i248 h=>st rfl<|b_shr (k := .i64) (k' := .u64) rfl rfl i248 rfl<|ck_k h fun i249 h=>ckK_k h fun i250 h=>ck_k h fun i251 h=>ckK_k h fun i252 h=>st rfl<|b_and (k := .i64) rfl rfl ⟨i249,i250⟩ ⟨i251,i252⟩<|st rfl<|b_eql (k := .i64) rfl rfl<|sq [q2 0 cI v0,q2 3 cc11 s129.1,q2 4 cI s129.2,q2 17 cB (decide ((((v0 / 2 ^ (s129.2).toNat).toNat &&& (1:Int).toNat:Nat):Int) = (1:Int)))]<|
  xn<|cnd rfl h (fun b253 h=>rg<|st rfl<|mvo rfl rfl<|st rfl<|mvd rfl rfl<|x_bsl cI [s129.2] (t1 (ss rfl rfl) rfl t0) rfl rfl<|lnO_k h fun l254 h=>x_app (sr rfl rfl) (tow rfl rfl) l254 rfl<|xa (so rfl rfl)<|sq [q2 0 cI v0,q2 3 cc11 (s129.1 ++ [s129.2]),q2 4 cI s129.2]<|
  xbb<|kpN [q2 0 cI v0,q2 3 cc11 (s129.1 ++ [s129.2]),q2 4 cI s129.2] (by kernel_rfl)<|xn<|rg<|st rfl<|mvd rfl rfl<|ckI_k h fun i255 h=>st rfl<|b_add (k := .i64) rfl rfl i255<|xa (ss rfl rfl)<|sq [q2 0 cI v0,q2 3 cc11 (s129.1 ++ [s129.2]),q2 4 cI (s129.2 + (1:Int))]<|
  xn<|hn215 ((s129.1 ++ [s129.2]),(s129.2 + (1:Int))) h)
  (fun b253 h=>wpC_skip<|xbb<|kpN [q2 0 cI v0,q2 3 cc11 s129.1,q2 4 cI s129.2] (by kernel_rfl)<|xn<|rg<|st rfl<|mvd rfl rfl<|ckI_k h fun i256 h=>st rfl<|b_add (k := .i64) rfl rfl i256<|xa (ss rfl rfl)<|sq [q2 0 cI v0,q2 3 cc11 s129.1,q2 4 cI (s129.2 + (1:Int))]<|
  xn<|hn215 (s129.1,(s129.2 + (1:Int))) h))
  (fun b226 h=>wpC_exit<|xt<|xt<|xt<|xb<|kpN [q2 3 cc11 s129.1] (by kernel_rfl)<|xn<|ws<|rg<|st rfl<|mvo rfl rfl<|xa (sr rfl rfl)<|sq [q2 2 cc11 s129.1]<|
  xn<|wpC_ret<|re<|fin h (r1 (so rfl rfl)<|r0) rfl)

def rs_spec_nTable (r:(List UInt8)):List D := [cS.enc r]
def m45:MC := .seq (.reg [q1 3 (.box (.t 1)),q1 4 (.asg (.c (.str [])))] [0,3])
 (.seq (.reg [q1 5 (.asg (.c (.str [99,111,117,110,116])))] [0,3,5])
 (.seq (.kp [0,3,5] (.seq (.reg [q1 11 (.fa 3 3 3),q1 12 (.ld 11 1 false),q1 13 (.bin .geq (.t 12) (.c (.int .i64 0)))] [0,3,5,13])
 (.cond (.t 13) (.reg [q1 14 (.mv (.t 0)),q1 15 (.fa 3 3 3),q1 16 (.ld 15 1 false),q1 17 (.ia 14 (.t 16) 2),q1 18 (.fa 17 0 0),q1 19 (.ld 18 1 false),q1 20 (.bin .add (.c (.str [115,117,109,32])) (.t 19)),q1 5 (.asg (.t 20))] [0,3,5]) (.skip))))
 (.seq (.reg [q1 21 (.mv (.t 5)),q1 22 (.fa 3 0 0),q1 23 (.ld 22 1 false),q1 24 (.call 69 [(.t 23)]),q1 25 (.bin .add (.c (.str [32,108,101,118,101,108,32])) (.t 24)),q1 26 (.bin .add (.t 21) (.t 25)),q1 5 (.asg (.t 26))] [0,3,5])
 (.seq (.kp [0,3,5] (.seq (.reg [q1 27 (.fa 3 1 1),q1 28 (.ld 27 1 false),q1 29 (.len false (.t 28)),q1 30 (.bin .gtr (.t 29) (.c (.int .i64 0)))] [0,3,5,30])
 (.cond (.t 30) (.reg [q1 31 (.mv (.t 5)),q1 32 (.mv (.t 0)),q1 33 (.fa 3 1 1),q1 34 (.ld 33 1 false),q1 35 (.call 70 [(.t 32),(.t 34)]),q1 36 (.bin .add (.c (.str [32,98,121,32])) (.t 35)),q1 37 (.bin .add (.t 31) (.t 36)),q1 5 (.asg (.t 37))] [0,3,5]) (.skip))))
 (.seq (.reg [q1 6 (.asg (.c (.bool true)))] [0,3,5,6])
 (.seq (.kp [5] (.seq (.reg [q1 38 (.fa 3 2 2),q1 39 (.ld 38 1 false),q1 40 (.len false (.t 39)),q1 41 (.mv (.c (.int .i64 0)))] [0,3,5,6,38,39,40,41])
 (.blk 0 (.loop (.seq (.reg [q1 42 (.bin .lss (.t 41) (.t 40))] [0,3,5,6,38,39,40,41,42])
 (.seq (.kp [0,3,5,6,38,39,40,41] (.cond (.t 42) (.skip) (.exit 0)))
 (.seq (.kp [0,3,5,6,38,39,40,41] (.blk 1 (.seq (.reg [q1 43 (.mv (.t 41)),q1 44 (.ia 39 (.t 41) 1),q1 45 (.ld 44 1 false),q1 7 (.asg (.t 43)),q1 8 (.asg (.t 45))] [0,3,5,6,7,8,38,39,40,41])
 (.seq (.kp [0,3,5,6,7,8,38,39,40,41] (.seq (.reg [q1 46 (.mv (.t 8)),q1 47 (.bin .eql (.t 46) (.c (.int .i64 0)))] [0,3,5,6,7,8,38,39,40,41,47])
 (.cond (.t 47) (.exit 1) (.skip))))
 (.seq (.kp [0,3,5,6,7,8,38,39,40,41] (.seq (.reg [q1 48 (.mv (.t 6))] [0,3,5,6,7,8,38,39,40,41,48])
 (.cond (.t 48) (.seq (.reg [q1 49 (.mv (.t 5)),q1 50 (.bin .add (.t 49) (.c (.str [32,119,104,101,114,101]))),q1 5 (.asg (.t 50))] [0,3,5,7,8,38,39,40,41])
 (.reg [q1 6 (.asg (.c (.bool false)))] [0,3,5,6,7,8,38,39,40,41])) (.skip))))
 (.seq (.reg [q1 51 (.mv (.t 5)),q1 52 (.mv (.t 0)),q1 53 (.mv (.t 7)),q1 54 (.ia 52 (.t 53) 2),q1 55 (.fa 54 0 0),q1 56 (.ld 55 1 false),q1 57 (.bin .add (.c (.str [32])) (.t 56)),q1 58 (.bin .add (.t 57) (.c (.str [61]))),q1 59 (.bin .add (.t 51) (.t 58)),q1 5 (.asg (.t 59))] [0,3,5,6,8,38,39,40,41])
 (.seq (.reg [q1 60 (.mv (.t 8)),q1 61 (.call 71 [(.t 60)]),q1 62 (.len false (.t 61)),q1 63 (.mv (.c (.int .i64 0)))] [0,3,5,6,38,39,40,41,61,62,63])
 (.blk 2 (.loop (.seq (.reg [q1 64 (.bin .lss (.t 63) (.t 62))] [0,3,5,6,38,39,40,41,61,62,63,64])
 (.seq (.kp [0,3,5,6,38,39,40,41,61,62,63] (.cond (.t 64) (.skip) (.exit 2)))
 (.seq (.kp [0,3,5,6,38,39,40,41,61,62,63] (.blk 3 (.seq (.reg [q1 65 (.mv (.t 63)),q1 66 (.ia 61 (.t 63) 1),q1 67 (.ld 66 1 false),q1 9 (.asg (.t 65)),q1 10 (.asg (.t 67))] [0,3,5,6,9,10,38,39,40,41,61,62,63])
 (.seq (.kp [0,3,5,6,10,38,39,40,41,61,62,63] (.seq (.reg [q1 68 (.mv (.t 9)),q1 69 (.bin .gtr (.t 68) (.c (.int .i64 0)))] [0,3,5,6,10,38,39,40,41,61,62,63,69])
 (.cond (.t 69) (.reg [q1 70 (.mv (.t 5)),q1 71 (.bin .add (.t 70) (.c (.str [44]))),q1 5 (.asg (.t 71))] [0,3,5,6,10,38,39,40,41,61,62,63]) (.skip))))
 (.reg [q1 72 (.mv (.t 5)),q1 73 (.mv (.t 10)),q1 74 (.call 69 [(.t 73)]),q1 75 (.bin .add (.t 72) (.t 74)),q1 5 (.asg (.t 75))] [0,3,5,6,38,39,40,41,61,62,63])))))
 (.reg [q1 76 (.bin .add (.t 63) (.c (.int .i64 1))),q1 63 (.mv (.t 76))] [0,3,5,6,38,39,40,41,61,62,63])))))))))))))
 (.reg [q1 77 (.bin .add (.t 41) (.c (.int .i64 1))),q1 41 (.mv (.t 77))] [0,3,5,6,38,39,40,41]))))))))
 (.seq (.reg [q1 78 (.mv (.t 5)),q1 4 (.asg (.t 78))] [4])
 (.ret))))))))
theorem con_spec_nTable {v0:(List XVariable)} {v1:XTable} {r:(List UInt8)} (h:sh_spec_nTable v0 v1 = some r):Con Tryz.prog 45 [cc4.enc v0,cc1.enc v1] [] (rs_spec_nTable r) := by
 delta sh_spec_nTable at h
 refine top (out := none) (f := Tryz.f45) (m := m45) (rs := [.t 4]) (by kernel_rfl) rfl (by kernel_rfl) (by kernel_rfl) (by kernel_rfl) (by kernel_rfl) (by kernel_rfl) ?_
 exact
  ini [q2 0 cc4 v0,q2 1 cc1 v1] rfl<|ws<|rg<|x_box (ss rfl rfl)<|xa (sc cS ([]:List UInt8) rfl)<|sq [q2 0 cc4 v0,q3 3 cc1 v1]<|
  xn<|ws<|rg<|xa (sc cS ([99,111,117,110,116]:List UInt8) rfl)<|sq [q2 0 cc4 v0,q3 3 cc1 v1,q2 5 cS ([99,111,117,110,116]:List UInt8)]<|
  xn<|ws<|jw (fun (s6:(List UInt8))=>[q2 0 cc4 v0,q3 3 cc1 v1,q2 5 cS s6]) h (fun s6 h=>xn<|ws<|rg<|st rfl<|mvd rfl rfl<|st rfl<|fab rfl rfl rfl rfl<|st rfl<|lda rfl rfl rfl rfl rfl rfl<|bnd h fun x12 e13 h=>st rfl<|o_call (a1 (c := cI) tK rfl a0) (con_spec_l1Num e13) (.inl (so1 sS so0))<|lnO_k h fun l14 h=>st rfl<|b_cat rfl rfl l14<|lnO_k h fun l15 h=>st rfl<|b_cat rfl rfl l15<|xa (ss rfl rfl)<|sq [q2 0 cc4 v0,q3 3 cc1 v1,q2 5 cS (s6 ++ (([32,108,101,118,101,108,32]:List UInt8) ++ x12))]<|
  xn<|ws<|jw (fun (s23:(List UInt8))=>[q2 0 cc4 v0,q3 3 cc1 v1,q2 5 cS s23]) h (fun s23 h=>xn<|ws<|rg<|xa (sc cB true rfl)<|sq [q2 0 cc4 v0,q3 3 cc1 v1,q2 5 cS s23,q2 6 cB true]<|
  xn<|ws<|wpC_kp<|ws<|rg<|st rfl<|fab rfl rfl rfl rfl<|st rfl<|lda rfl rfl rfl rfl rfl rfl<|stw rfl<|lens rfl fun l568=>st rfl<|mvc cI (0:Int) rfl<|sq [q2 0 cc4 v0,q3 3 cc1 v1,q2 5 cS s23,q2 6 cB true,(38,.adr 3 [.fld 2]),q2 39 cc9 v1.Where,q2 40 cI (v1.Where.length:Int),q2 41 cI (0:Int)]<|
  xn<|wpC_blk<|lpR (fun (k570:Nat) (s569:((List UInt8) × Bool))=>[q2 0 cc4 v0,q3 3 cc1 v1,q2 5 cS s569.1,q2 6 cB s569.2,(38,.adr 3 [.fld 2]),q2 39 cc9 v1.Where,q2 40 cI (v1.Where.length:Int),q2 41 cI (k570:Int)]) (s23,true) rfl h
  (fun G928 s569 h=>ws<|rg<|st rfl<|b_lss (k := .i64) rfl rfl<|sq [q2 0 cc4 v0,q3 3 cc1 v1,q2 5 cS s569.1,q2 6 cB s569.2,(38,.adr 3 [.fld 2]),q2 39 cc9 v1.Where,q2 40 cI (v1.Where.length:Int),q2 41 cI (v1.Where.length:Int),q2 42 cB (decide ((v1.Where.length:Int) < (v1.Where.length:Int)))]<|
  xn<|ws<|wpC_kp<|cnd0 rfl (dlf _)<|wpC_exit<|xt<|xt<|xt<|xb<|kpN [q2 5 cS s569.1] (by kernel_rfl)<|xn<|ws<|rg<|st rfl<|mvd rfl rfl<|xa (ss rfl rfl)<|sq [q2 4 cS s569.1]<|
  xn<|wpC_ret<|re<|fin h (r1 (ss rfl rfl)<|r0) rfl)
  (fun G928 nx926 k570 s569 x571 hk572 hx573 hn927 h=>ws<|rg<|st rfl<|b_lss (k := .i64) rfl rfl<|sq [q2 0 cc4 v0,q3 3 cc1 v1,q2 5 cS s569.1,q2 6 cB s569.2,(38,.adr 3 [.fld 2]),q2 39 cc9 v1.Where,q2 40 cI (v1.Where.length:Int),q2 41 cI (k570:Int),q2 42 cB (decide ((k570:Int) < (v1.Where.length:Int)))]<|
  xn<|ws<|wpC_kp<|cnd1 rfl (dlt hk572)<|wpC_skip<|kpN [q2 0 cc4 v0,q3 3 cc1 v1,q2 5 cS s569.1,q2 6 cB s569.2,(38,.adr 3 [.fld 2]),q2 39 cc9 v1.Where,q2 40 cI (v1.Where.length:Int),q2 41 cI (k570:Int)] (by kernel_rfl)<|xn<|ws<|wpC_kp<|wpC_blk<|ws<|rg<|st rfl<|mvd rfl rfl<|st rfl<|ias rfl rfl (Int.natCast_nonneg _) hx573 rfl<|st rfl<|ldi rfl rfl rfl rfl<|xa (ss rfl rfl)<|xa (ss rfl rfl)<|sq [q2 0 cc4 v0,q3 3 cc1 v1,q2 5 cS s569.1,q2 6 cB s569.2,q2 7 cI (k570:Int),q2 8 cI x571,(38,.adr 3 [.fld 2]),q2 39 cc9 v1.Where,q2 40 cI (v1.Where.length:Int),q2 41 cI (k570:Int)]<|
  xn<|ws<|wpC_kp<|ws<|rg<|st rfl<|mvd rfl rfl<|st rfl<|b_eql (k := .i64) rfl rfl<|sq [q2 0 cc4 v0,q3 3 cc1 v1,q2 5 cS s569.1,q2 6 cB s569.2,q2 7 cI (k570:Int),q2 8 cI x571,(38,.adr 3 [.fld 2]),q2 39 cc9 v1.Where,q2 40 cI (v1.Where.length:Int),q2 41 cI (k570:Int),q2 47 cB (decide (x571 = (0:Int)))]<|
  xn<|cnd rfl h (fun b1020 h=>wpC_exit<|xt<|xt<|xb<|kpN [q2 0 cc4 v0,q3 3 cc1 v1,q2 5 cS s569.1,q2 6 cB s569.2,(38,.adr 3 [.fld 2]),q2 39 cc9 v1.Where,q2 40 cI (v1.Where.length:Int),q2 41 cI (k570:Int)] (by kernel_rfl)<|xn<|rg<|st rfl<|b_inc rfl rfl l568 hk572<|st rfl<|mvd rfl rfl<|sq [q2 0 cc4 v0,q3 3 cc1 v1,q2 5 cS s569.1,q2 6 cB s569.2,(38,.adr 3 [.fld 2]),q2 39 cc9 v1.Where,q2 40 cI (v1.Where.length:Int),q2 41 cI ((k570 + 1:Nat):Int)]<|
  xn<|hn927 (s569.1,s569.2) h)
  (fun b1020 h=>wpC_skip<|kpN [q2 0 cc4 v0,q3 3 cc1 v1,q2 5 cS s569.1,q2 6 cB s569.2,q2 7 cI (k570:Int),q2 8 cI x571,(38,.adr 3 [.fld 2]),q2 39 cc9 v1.Where,q2 40 cI (v1.Where.length:Int),q2 41 cI (k570:Int)] (by kernel_rfl)<|xn<|ws<|jw (fun (s1024:((List UInt8) × Bool))=>[q2 0 cc4 v0,q3 3 cc1 v1,q2 5 cS s1024.1,q2 6 cB s1024.2,q2 7 cI (k570:Int),q2 8 cI x571,(38,.adr 3 [.fld 2]),q2 39 cc9 v1.Where,q2 40 cI (v1.Where.length:Int),q2 41 cI (k570:Int)]) h (fun s1024 h=>xn<|ws<|rg<|st rfl<|mvd rfl rfl<|st rfl<|mvd rfl rfl<|st rfl<|mvd rfl rfl<|getO_k h fun x1032 i1033 g1034 h=>st rfl<|ias rfl rfl i1033 g1034 rfl<|st rfl<|fai rfl rfl rfl rfl<|st rfl<|ldi rfl rfl rfl rfl<|lnO_k h fun l1035 h=>st rfl<|b_cat rfl rfl l1035<|lnO_k h fun l1036 h=>st rfl<|b_cat rfl rfl l1036<|lnO_k h fun l1037 h=>st rfl<|b_cat rfl rfl l1037<|xa (ss rfl rfl)<|sq [q2 0 cc4 v0,q3 3 cc1 v1,q2 5 cS (s1024.1 ++ ((([32]:List UInt8) ++ x1032.Name) ++ ([61]:List UInt8))),q2 6 cB s1024.2,q2 8 cI x571,(38,.adr 3 [.fld 2]),q2 39 cc9 v1.Where,q2 40 cI (v1.Where.length:Int),q2 41 cI (k570:Int)]<|
  xn<|ws<|rg<|st rfl<|mvd rfl rfl<|bnd h fun x1041 e1042 h=>st rfl<|o_call (a1 (c := cI) tK rfl a0) (con_spec_eLevels e1042) (.inl (so1 (sLo sK) so0))<|stw rfl<|leno rfl fun l1043=>st rfl<|mvc cI (0:Int) rfl<|sq [q2 0 cc4 v0,q3 3 cc1 v1,q2 5 cS (s1024.1 ++ ((([32]:List UInt8) ++ x1032.Name) ++ ([61]:List UInt8))),q2 6 cB s1024.2,(38,.adr 3 [.fld 2]),q2 39 cc9 v1.Where,q2 40 cI (v1.Where.length:Int),q2 41 cI (k570:Int),q2 61 cc11 x1041,q2 62 cI (x1041.length:Int),q2 63 cI (0:Int)]<|
  xn<|wpC_blk<|lpR (fun (k1045:Nat) (s1044:(List UInt8))=>[q2 0 cc4 v0,q3 3 cc1 v1,q2 5 cS s1044,q2 6 cB s1024.2,(38,.adr 3 [.fld 2]),q2 39 cc9 v1.Where,q2 40 cI (v1.Where.length:Int),q2 41 cI (k570:Int),q2 61 cc11 x1041,q2 62 cI (x1041.length:Int),q2 63 cI (k1045:Int)]) (s1024.1 ++ ((([32]:List UInt8) ++ x1032.Name) ++ ([61]:List UInt8))) rfl h
  (fun G1087 s1044 h=>ws<|rg<|st rfl<|b_lss (k := .i64) rfl rfl<|sq [q2 0 cc4 v0,q3 3 cc1 v1,q2 5 cS s1044,q2 6 cB s1024.2,(38,.adr 3 [.fld 2]),q2 39 cc9 v1.Where,q2 40 cI (v1.Where.length:Int),q2 41 cI (k570:Int),q2 61 cc11 x1041,q2 62 cI (x1041.length:Int),q2 63 cI (x1041.length:Int),q2 64 cB (decide ((x1041.length:Int) < (x1041.length:Int)))]<|
  xn<|ws<|wpC_kp<|cnd0 rfl (dlf _)<|wpC_exit<|xt<|xt<|xt<|xb<|xbb<|kpN [q2 0 cc4 v0,q3 3 cc1 v1,q2 5 cS s1044,q2 6 cB s1024.2,(38,.adr 3 [.fld 2]),q2 39 cc9 v1.Where,q2 40 cI (v1.Where.length:Int),q2 41 cI (k570:Int)] (by kernel_rfl)<|xn<|rg<|st rfl<|b_inc rfl rfl l568 hk572<|st rfl<|mvd rfl rfl<|sq [q2 0 cc4 v0,q3 3 cc1 v1,q2 5 cS s1044,q2 6 cB s1024.2,(38,.adr 3 [.fld 2]),q2 39 cc9 v1.Where,q2 40 cI (v1.Where.length:Int),q2 41 cI ((k570 + 1:Nat):Int)]<|
  xn<|hn927 (s1044,s1024.2) h)
  (fun G1087 nx1085 k1045 s1044 x1046 hk1047 hx1048 hn1086 h=>ws<|rg<|st rfl<|b_lss (k := .i64) rfl rfl<|sq [q2 0 cc4 v0,q3 3 cc1 v1,q2 5 cS s1044,q2 6 cB s1024.2,(38,.adr 3 [.fld 2]),q2 39 cc9 v1.Where,q2 40 cI (v1.Where.length:Int),q2 41 cI (k570:Int),q2 61 cc11 x1041,q2 62 cI (x1041.length:Int),q2 63 cI (k1045:Int),q2 64 cB (decide ((k1045:Int) < (x1041.length:Int)))]<|
  xn<|ws<|wpC_kp<|cnd1 rfl (dlt hk1047)<|wpC_skip<|kpN [q2 0 cc4 v0,q3 3 cc1 v1,q2 5 cS s1044,q2 6 cB s1024.2,(38,.adr 3 [.fld 2]),q2 39 cc9 v1.Where,q2 40 cI (v1.Where.length:Int),q2 41 cI (k570:Int),q2 61 cc11 x1041,q2 62 cI (x1041.length:Int),q2 63 cI (k1045:Int)] (by kernel_rfl)<|xn<|ws<|wpC_kp<|wpC_blk<|ws<|rg<|st rfl<|mvd rfl rfl<|st rfl<|iao rfl rfl (Int.natCast_nonneg _) hx1048 rfl<|st rfl<|lda rfl rfl (Gt.idx hx1048 Gt.nil) rfl rfl rfl<|xa (ss rfl rfl)<|xa (ss rfl rfl)<|sq [q2 0 cc4 v0,q3 3 cc1 v1,q2 5 cS s1044,q2 6 cB s1024.2,q2 9 cI (k1045:Int),q2 10 cI x1046,(38,.adr 3 [.fld 2]),q2 39 cc9 v1.Where,q2 40 cI (v1.Where.length:Int),q2 41 cI (k570:Int),q2 61 cc11 x1041,q2 62 cI (x1041.length:Int),q2 63 cI (k1045:Int)]<|
  xn<|ws<|jw (fun (s1099:(List UInt8))=>[q2 0 cc4 v0,q3 3 cc1 v1,q2 5 cS s1099,q2 6 cB s1024.2,q2 10 cI x1046,(38,.adr 3 [.fld 2]),q2 39 cc9 v1.Where,q2 40 cI (v1.Where.length:Int),q2 41 cI (k570:Int),q2 61 cc11 x1041,q2 62 cI (x1041.length:Int),q2 63 cI (k1045:Int)]) h (fun s1099 h=>xn<|rg<|st rfl<|mvd rfl rfl<|st rfl<|mvd rfl rfl<|bnd h fun x1101 e1102 h=>st rfl<|o_call (a1 (c := cI) tK rfl a0) (con_spec_l1Num e1102) (.inl (so1 sS so0))<|lnO_k h fun l1103 h=>st rfl<|b_cat rfl rfl l1103<|xa (ss rfl rfl)<|sq [q2 0 cc4 v0,q3 3 cc1 v1,q2 5 cS (s1099 ++ x1101),q2 6 cB s1024.2,(38,.adr 3 [.fld 2]),q2 39 cc9 v1.Where,q2 40 cI (v1.Where.length:Int),q2 41 cI (k570:Int),q2 61 cc11 x1041,q2 62 cI (x1041.length:Int),q2 63 cI (k1045:Int)]<|
  xbb<|kpN [q2 0 cc4 v0,q3 3 cc1 v1,q2 5 cS (s1099 ++ x1101),q2 6 cB s1024.2,(38,.adr 3 [.fld 2]),q2 39 cc9 v1.Where,q2 40 cI (v1.Where.length:Int),q2 41 cI (k570:Int),q2 61 cc11 x1041,q2 62 cI (x1041.length:Int),q2 63 cI (k1045:Int)] (by kernel_rfl)<|xn<|rg<|st rfl<|b_inc rfl rfl l1043 hk1047<|st rfl<|mvd rfl rfl<|sq [q2 0 cc4 v0,q3 3 cc1 v1,q2 5 cS (s1099 ++ x1101),q2 6 cB s1024.2,(38,.adr 3 [.fld 2]),q2 39 cc9 v1.Where,q2 40 cI (v1.Where.length:Int),q2 41 cI (k570:Int),q2 61 cc11 x1041,q2 62 cI (x1041.length:Int),q2 63 cI ((k1045 + 1:Nat):Int)]<|
  xn<|hn1086 (s1099 ++ x1101) h)
  fun s1099' q1100 h=>wpC_kp<|ws<|rg<|st rfl<|mvd rfl rfl<|st rfl<|b_gtr (k := .i64) rfl rfl<|sq [q2 0 cc4 v0,q3 3 cc1 v1,q2 5 cS s1044,q2 6 cB s1024.2,q2 10 cI x1046,(38,.adr 3 [.fld 2]),q2 39 cc9 v1.Where,q2 40 cI (v1.Where.length:Int),q2 41 cI (k570:Int),q2 61 cc11 x1041,q2 62 cI (x1041.length:Int),q2 63 cI (k1045:Int),q2 69 cB (decide ((0:Int) < (k1045:Int)))]<|
  xn<|cnd rfl h (fun b1104 h=>rg<|st rfl<|mvd rfl rfl<|lnO_k h fun l1105 h=>st rfl<|b_cat rfl rfl l1105<|xa (ss rfl rfl)<|sq [q2 0 cc4 v0,q3 3 cc1 v1,q2 5 cS (s1044 ++ ([44]:List UInt8)),q2 6 cB s1024.2,q2 10 cI x1046,(38,.adr 3 [.fld 2]),q2 39 cc9 v1.Where,q2 40 cI (v1.Where.length:Int),q2 41 cI (k570:Int),q2 61 cc11 x1041,q2 62 cI (x1041.length:Int),q2 63 cI (k1045:Int)]<|
  kpN [q2 0 cc4 v0,q3 3 cc1 v1,q2 5 cS (s1044 ++ ([44]:List UInt8)),q2 6 cB s1024.2,q2 10 cI x1046,(38,.adr 3 [.fld 2]),q2 39 cc9 v1.Where,q2 40 cI (v1.Where.length:Int),q2 41 cI (k570:Int),q2 61 cc11 x1041,q2 62 cI (x1041.length:Int),q2 63 cI (k1045:Int)] (by kernel_rfl)<|lfn (S := (fun (s1099:(List UInt8))=>[q2 0 cc4 v0,q3 3 cc1 v1,q2 5 cS s1099,q2 6 cB s1024.2,q2 10 cI x1046,(38,.adr 3 [.fld 2]),q2 39 cc9 v1.Where,q2 40 cI (v1.Where.length:Int),q2 41 cI (k570:Int),q2 61 cc11 x1041,q2 62 cI (x1041.length:Int),q2 63 cI (k1045:Int)])) h q1100 rfl)
  (fun b1104 h=>wpC_skip<|kpN [q2 0 cc4 v0,q3 3 cc1 v1,q2 5 cS s1044,q2 6 cB s1024.2,q2 10 cI x1046,(38,.adr 3 [.fld 2]),q2 39 cc9 v1.Where,q2 40 cI (v1.Where.length:Int),q2 41 cI (k570:Int),q2 61 cc11 x1041,q2 62 cI (x1041.length:Int),q2 63 cI (k1045:Int)] (by kernel_rfl)<|lfn (S := (fun (s1099:(List UInt8))=>[q2 0 cc4 v0,q3 3 cc1 v1,q2 5 cS s1099,q2 6 cB s1024.2,q2 10 cI x1046,(38,.adr 3 [.fld 2]),q2 39 cc9 v1.Where,q2 40 cI (v1.Where.length:Int),q2 41 cI (k570:Int),q2 61 cc11 x1041,q2 62 cI (x1041.length:Int),q2 63 cI (k1045:Int)])) h q1100 rfl)))
  fun s1024' q1025 h=>wpC_kp<|ws<|rg<|st rfl<|mvd rfl rfl<|sq [q2 0 cc4 v0,q3 3 cc1 v1,q2 5 cS s569.1,q2 6 cB s569.2,q2 7 cI (k570:Int),q2 8 cI x571,(38,.adr 3 [.fld 2]),q2 39 cc9 v1.Where,q2 40 cI (v1.Where.length:Int),q2 41 cI (k570:Int),q2 48 cB s569.2]<|
  xn<|cnd rfl h (fun b1106 h=>ws<|rg<|st rfl<|mvd rfl rfl<|lnO_k h fun l1108 h=>st rfl<|b_cat rfl rfl l1108<|xa (ss rfl rfl)<|sq [q2 0 cc4 v0,q3 3 cc1 v1,q2 5 cS (s569.1 ++ ([32,119,104,101,114,101]:List UInt8)),q2 7 cI (k570:Int),q2 8 cI x571,(38,.adr 3 [.fld 2]),q2 39 cc9 v1.Where,q2 40 cI (v1.Where.length:Int),q2 41 cI (k570:Int)]<|
  xn<|rg<|xa (sc cB false rfl)<|sq [q2 0 cc4 v0,q3 3 cc1 v1,q2 5 cS (s569.1 ++ ([32,119,104,101,114,101]:List UInt8)),q2 6 cB false,q2 7 cI (k570:Int),q2 8 cI x571,(38,.adr 3 [.fld 2]),q2 39 cc9 v1.Where,q2 40 cI (v1.Where.length:Int),q2 41 cI (k570:Int)]<|
  kpN [q2 0 cc4 v0,q3 3 cc1 v1,q2 5 cS (s569.1 ++ ([32,119,104,101,114,101]:List UInt8)),q2 6 cB false,q2 7 cI (k570:Int),q2 8 cI x571,(38,.adr 3 [.fld 2]),q2 39 cc9 v1.Where,q2 40 cI (v1.Where.length:Int),q2 41 cI (k570:Int)] (by kernel_rfl)<|lfn (S := (fun (s1024:((List UInt8) × Bool))=>[q2 0 cc4 v0,q3 3 cc1 v1,q2 5 cS s1024.1,q2 6 cB s1024.2,q2 7 cI (k570:Int),q2 8 cI x571,(38,.adr 3 [.fld 2]),q2 39 cc9 v1.Where,q2 40 cI (v1.Where.length:Int),q2 41 cI (k570:Int)])) h q1025 rfl)
  (fun b1106 h=>wpC_skip<|kpN [q2 0 cc4 v0,q3 3 cc1 v1,q2 5 cS s569.1,q2 6 cB s569.2,q2 7 cI (k570:Int),q2 8 cI x571,(38,.adr 3 [.fld 2]),q2 39 cc9 v1.Where,q2 40 cI (v1.Where.length:Int),q2 41 cI (k570:Int)] (by kernel_rfl)<|lfn (S := (fun (s1024:((List UInt8) × Bool))=>[q2 0 cc4 v0,q3 3 cc1 v1,q2 5 cS s1024.1,q2 6 cB s1024.2,q2 7 cI (k570:Int),q2 8 cI x571,(38,.adr 3 [.fld 2]),q2 39 cc9 v1.Where,q2 40 cI (v1.Where.length:Int),q2 41 cI (k570:Int)])) h q1025 rfl))))
  fun s23' q24 h=>wpC_kp<|ws<|rg<|st rfl<|fab rfl rfl rfl rfl<|st rfl<|lda rfl rfl rfl rfl rfl rfl<|stw rfl<|lens rfl fun l1110=>st rfl<|b_gtr (k := .i64) rfl rfl<|sq [q2 0 cc4 v0,q3 3 cc1 v1,q2 5 cS (s6 ++ (([32,108,101,118,101,108,32]:List UInt8) ++ x12)),q2 30 cB (decide ((0:Int) < (v1.Vars.length:Int)))]<|
  xn<|cnd rfl h (fun b1111 h=>rg<|st rfl<|mvd rfl rfl<|st rfl<|mvd rfl rfl<|st rfl<|fab rfl rfl rfl rfl<|st rfl<|lda rfl rfl rfl rfl rfl rfl<|bnd h fun x1112 e1113 h=>st rfl<|o_call (a1 (c := cc4) (tLs (tXVariable tS tK)) rfl (a1 (c := cc9) (tLs tK) rfl a0)) (con_spec_nNames e1113) (.inl (so1 sS so0))<|lnO_k h fun l1114 h=>st rfl<|b_cat rfl rfl l1114<|lnO_k h fun l1115 h=>st rfl<|b_cat rfl rfl l1115<|xa (ss rfl rfl)<|sq [q2 0 cc4 v0,q3 3 cc1 v1,q2 5 cS ((s6 ++ (([32,108,101,118,101,108,32]:List UInt8) ++ x12)) ++ (([32,98,121,32]:List UInt8) ++ x1112))]<|
  kpN [q2 0 cc4 v0,q3 3 cc1 v1,q2 5 cS ((s6 ++ (([32,108,101,118,101,108,32]:List UInt8) ++ x12)) ++ (([32,98,121,32]:List UInt8) ++ x1112))] (by kernel_rfl)<|lfn (S := (fun (s23:(List UInt8))=>[q2 0 cc4 v0,q3 3 cc1 v1,q2 5 cS s23])) h q24 rfl)
  (fun b1111 h=>wpC_skip<|kpN [q2 0 cc4 v0,q3 3 cc1 v1,q2 5 cS (s6 ++ (([32,108,101,118,101,108,32]:List UInt8) ++ x12))] (by kernel_rfl)<|lfn (S := (fun (s23:(List UInt8))=>[q2 0 cc4 v0,q3 3 cc1 v1,q2 5 cS s23])) h q24 rfl))
  fun s6' q7 h=>wpC_kp<|ws<|rg<|st rfl<|fab rfl rfl rfl rfl<|st rfl<|lda rfl rfl rfl rfl rfl rfl<|st rfl<|b_geq (k := .i64) rfl rfl<|sq [q2 0 cc4 v0,q3 3 cc1 v1,q2 5 cS ([99,111,117,110,116]:List UInt8),q2 13 cB (decide ((0:Int) ≤ v1.Sum))]<|
  xn<|cnd rfl h (fun b1116 h=>rg<|st rfl<|mvd rfl rfl<|st rfl<|fab rfl rfl rfl rfl<|st rfl<|lda rfl rfl rfl rfl rfl rfl<|getO_k h fun x1117 i1118 g1119 h=>st rfl<|ias rfl rfl i1118 g1119 rfl<|st rfl<|fai rfl rfl rfl rfl<|st rfl<|ldi rfl rfl rfl rfl<|lnO_k h fun l1120 h=>st rfl<|b_cat rfl rfl l1120<|xa (ss rfl rfl)<|sq [q2 0 cc4 v0,q3 3 cc1 v1,q2 5 cS (([115,117,109,32]:List UInt8) ++ x1117.Name)]<|
  kpN [q2 0 cc4 v0,q3 3 cc1 v1,q2 5 cS (([115,117,109,32]:List UInt8) ++ x1117.Name)] (by kernel_rfl)<|lfn (S := (fun (s6:(List UInt8))=>[q2 0 cc4 v0,q3 3 cc1 v1,q2 5 cS s6])) h q7 rfl)
  (fun b1116 h=>wpC_skip<|kpN [q2 0 cc4 v0,q3 3 cc1 v1,q2 5 cS ([99,111,117,110,116]:List UInt8)] (by kernel_rfl)<|lfn (S := (fun (s6:(List UInt8))=>[q2 0 cc4 v0,q3 3 cc1 v1,q2 5 cS s6])) h q7 rfl)

def rs_spec_nParse (r:(XTable × Bool)):List D := [cc3.enc r.1,cB.enc r.2]
def m26:MC := .seq (.reg [q1 3 (.box (.t 0)),q1 6 (.alloc (.agg [.int .i64 0,.slice true [],.slice true [],.int .i64 0])),q1 7 (.asg (.c (.bool false)))] [1,2,3,6])
 (.seq (.reg [q1 9 (.mv (.t 1)),q1 10 (.mv (.t 2)),q1 11 (.call 43 [(.t 9),(.t 10)]),q1 8 (.alloc (.agg [.int .i64 0,.slice true [],.slice true [],.int .i64 0])),q0 (.st 8 (.t 11) 4)] [1,2,3,6,8])
 (.seq (.kp [6,8] (.seq (.reg [q1 12 (.ld 3 1 true),q1 13 (.mv (.t 1)),q1 14 (.ld 8 4 true),q1 15 (.call 44 [(.t 12),(.t 13),(.t 14)]),q1 16 (.nt (.t 15)),q1 17 (.mv (.t 16)),
  ⟨some 18,.mv (.t 1),some (17,false)⟩,
  ⟨some 19,.ld 8 4 true,some (17,false)⟩,
  ⟨some 20,.call 45 [(.t 18),(.t 19)],some (17,false)⟩,
  ⟨some 21,.mv (.t 2),some (17,false)⟩,
  ⟨some 22,.bin .neq (.t 20) (.t 21),some (17,false)⟩,q1 23 (.pick (.t 17) (.c (.bool true)) (.t 22))] [6,8,23])
 (.cond (.t 23) (.seq (.reg [q1 24 (.bld [.int .i64 0,.slice true [],.slice true [],.int .i64 0] []),q0 (.st 6 (.t 24) 4),q1 7 (.asg (.c (.bool false)))] [6,7])
 (.ret)) (.skip))))
 (.seq (.reg [q1 25 (.ld 8 4 true),q0 (.st 6 (.t 25) 4),q1 7 (.asg (.c (.bool true)))] [6,7])
 (.ret))))
theorem con_spec_nParse {v0:XGeo} {v1:(List XVariable)} {v2:(List UInt8)} {r:(XTable × Bool)} (h:sh_spec_nParse v0 v1 v2 = some r):Con Tryz.prog 26 [cc6.enc v0,cc4.enc v1,cS.enc v2] [] (rs_spec_nParse r) := by
 delta sh_spec_nParse at h
 refine top (out := none) (f := Tryz.f26) (m := m26) (rs := [.c 6 4 true,.t 7]) (by kernel_rfl) rfl (by kernel_rfl) (by kernel_rfl) (by kernel_rfl) (by kernel_rfl) (by kernel_rfl) ?_
 exact
  ini [q2 0 cc6 v0,q2 1 cc4 v1,q2 2 cS v2] rfl<|ws<|rg<|x_box (ss rfl rfl)<|x_all cc3 (⟨(0:Int),([]:List Int),([]:List Int),(0:Int)⟩:XTable) rfl<|xa (sc cB false rfl)<|sq [q2 1 cc4 v1,q2 2 cS v2,q3 3 cc6 v0,q3 6 cc3 (⟨(0:Int),([]:List Int),([]:List Int),(0:Int)⟩:XTable)]<|
  xn<|ws<|rg<|st rfl<|mvd rfl rfl<|st rfl<|mvd rfl rfl<|bnd h fun x3 e4 h=>st rfl<|o_call (a1 (c := cc4) (tLs (tXVariable tS tK)) rfl (a1 (c := cS) tS rfl a0)) (con_spec_nGuess e4) (.inl (so1 (sXTable sK (sLo sK) (sLo sK) sK) so0))<|x_all cc3 (⟨(0:Int),([]:List Int),([]:List Int),(0:Int)⟩:XTable) rfl<|x_stb (so rfl rfl) rfl (Cd.h_sz _ _) rfl<|sq [q2 1 cc4 v1,q2 2 cS v2,q3 3 cc6 v0,q3 6 cc3 (⟨(0:Int),([]:List Int),([]:List Int),(0:Int)⟩:XTable),q3 8 cc3 x3]<|
  xn<|ws<|wpC_kp<|ws<|rg<|st rfl<|ldb rfl rfl rfl rfl<|st rfl<|mvd rfl rfl<|st rfl<|ldbo rfl rfl rfl rfl<|bnd h fun x21 e22 h=>st rfl<|o_call (a1 (c := cc6) (tXGeo (tLs tK)) rfl (a1 (c := cc4) (tLs (tXVariable tS tK)) rfl (a1 (c := cc3) (tXTable tK (tLo tK) (tLo tK) tK) rfl a0))) (con_spec_uGood e22) (.inl (so1 sB so0))<|st rfl<|o_nt rfl<|st rfl<|mvd rfl rfl<|ite_k h (fun b23 h=>gf rfl b23<|gf rfl b23<|gf rfl b23<|gf rfl b23<|gf rfl b23<|st rfl<|pick1 rfl b23 (cd := cB) (v := true) rfl rfl<|sq [q3 6 cc3 (⟨(0:Int),([]:List Int),([]:List Int),(0:Int)⟩:XTable),q3 8 cc3 x3,q2 23 cB true]<|
  xn<|cnd1 rfl rfl<|ws<|rg<|x_bld (cc3.enc (⟨(0:Int),([]:List Int),([]:List Int),(0:Int)⟩:XTable)) t0 rfl rfl<|x_stb (so rfl rfl) rfl (Cd.h_sz _ _) rfl<|xa (sc cB false rfl)<|sq [q3 6 cc3 (⟨(0:Int),([]:List Int),([]:List Int),(0:Int)⟩:XTable),q2 7 cB false]<|
  xn<|wpC_ret<|rt<|rt<|re<|fin h (r2 rfl rfl rfl<|r1 (ss rfl rfl)<|r0) rfl)
  (fun b23 h=>gt' rfl b23<|st rfl<|mvd rfl rfl<|gt' rfl b23<|st rfl<|ldbo rfl rfl rfl rfl<|gt' rfl b23<|bnd h fun x24 e25 h=>st rfl<|o_call (a1 (c := cc4) (tLs (tXVariable tS tK)) rfl (a1 (c := cc3) (tXTable tK (tLo tK) (tLo tK) tK) rfl a0)) (con_spec_nTable e25) (.inl (so1 sS so0))<|gt' rfl b23<|st rfl<|mvd rfl rfl<|gt' rfl b23<|st rfl<|b_sne rfl rfl<|st rfl<|pick0 rfl b23 (cd := cB) (v := (decide (x24 ≠ v2))) rfl rfl<|sq [q3 6 cc3 (⟨(0:Int),([]:List Int),([]:List Int),(0:Int)⟩:XTable),q3 8 cc3 x3,q2 23 cB (decide (x24 ≠ v2))]<|
  xn<|cnd rfl h (fun b26 h=>ws<|rg<|x_bld (cc3.enc (⟨(0:Int),([]:List Int),([]:List Int),(0:Int)⟩:XTable)) t0 rfl rfl<|x_stb (so rfl rfl) rfl (Cd.h_sz _ _) rfl<|xa (sc cB false rfl)<|sq [q3 6 cc3 (⟨(0:Int),([]:List Int),([]:List Int),(0:Int)⟩:XTable),q2 7 cB false]<|
  xn<|wpC_ret<|rt<|rt<|re<|fin h (r2 rfl rfl rfl<|r1 (ss rfl rfl)<|r0) rfl)
  (fun b26 h=>wpC_skip<|kpN [q3 6 cc3 (⟨(0:Int),([]:List Int),([]:List Int),(0:Int)⟩:XTable),q3 8 cc3 x3] (by kernel_rfl)<|xn<|ws<|rg<|st rfl<|ldbo rfl rfl rfl rfl<|x_stb (sb rfl rfl) rfl (Cd.h_sz _ _) rfl<|xa (sc cB true rfl)<|sq [q3 6 cc3 x3,q2 7 cB true]<|
  xn<|wpC_ret<|re<|fin h (r2 rfl rfl rfl<|r1 (ss rfl rfl)<|r0) rfl))

def rs_impl_IsGeo (r:Bool):List D := [cB.enc r]
def m29:MC := .seq (.reg [q1 1 (.box (.t 0)),q1 2 (.asg (.c (.bool false)))] [1])
 (.seq (.kp [1] (.seq (.reg [q1 4 (.fa 1 0 0),q1 5 (.ld 4 1 false),q1 6 (.len false (.t 5)),q1 7 (.bin .lss (.t 6) (.c (.int .i64 1))),q1 8 (.mv (.t 7)),
  ⟨some 9,.fa 1 0 0,some (8,false)⟩,
  ⟨some 10,.ld 9 1 false,some (8,false)⟩,
  ⟨some 11,.len false (.t 10),some (8,false)⟩,
  ⟨some 12,.bin .gtr (.t 11) (.c (.int .i64 30)),some (8,false)⟩,q1 13 (.pick (.t 8) (.c (.bool true)) (.t 12)),q1 14 (.mv (.t 13)),
  ⟨some 15,.fa 1 0 0,some (14,false)⟩,
  ⟨some 16,.ld 15 1 false,some (14,false)⟩,
  ⟨some 17,.ia 16 (.c (.int .i64 0)) 1,some (14,false)⟩,
  ⟨some 18,.ld 17 1 false,some (14,false)⟩,
  ⟨some 19,.bin .neq (.t 18) (.c (.int .i64 (-1))),some (14,false)⟩,q1 20 (.pick (.t 14) (.c (.bool true)) (.t 19))] [1,20])
 (.cond (.t 20) (.seq (.reg [q1 2 (.asg (.c (.bool false)))] [2])
 (.ret)) (.skip))))
 (.seq (.kp [] (.seq (.reg [q1 3 (.asg (.c (.int .i64 1)))] [1,3])
 (.blk 0 (.loop (.seq (.kp [1,3] (.seq (.reg [q1 21 (.mv (.t 3)),q1 22 (.fa 1 0 0),q1 23 (.ld 22 1 false),q1 24 (.len false (.t 23)),q1 25 (.bin .lss (.t 21) (.t 24))] [1,3,25])
 (.cond (.t 25) (.skip) (.exit 0))))
 (.seq (.kp [1,3] (.blk 1 (.seq (.reg [q1 28 (.fa 1 0 0),q1 29 (.ld 28 1 false),q1 30 (.mv (.t 3)),q1 31 (.ia 29 (.t 30) 1),q1 32 (.ld 31 1 false),q1 33 (.bin .lss (.t 32) (.c (.int .i64 0))),q1 34 (.mv (.t 33)),
  ⟨some 35,.fa 1 0 0,some (34,false)⟩,
  ⟨some 36,.ld 35 1 false,some (34,false)⟩,
  ⟨some 37,.mv (.t 3),some (34,false)⟩,
  ⟨some 38,.ia 36 (.t 37) 1,some (34,false)⟩,
  ⟨some 39,.ld 38 1 false,some (34,false)⟩,
  ⟨some 40,.mv (.t 3),some (34,false)⟩,
  ⟨some 41,.bin .geq (.t 39) (.t 40),some (34,false)⟩,q1 42 (.pick (.t 34) (.c (.bool true)) (.t 41))] [1,3,42])
 (.cond (.t 42) (.seq (.reg [q1 2 (.asg (.c (.bool false)))] [2])
 (.ret)) (.skip)))))
 (.reg [q1 26 (.mv (.t 3)),q1 27 (.bin .add (.t 26) (.c (.int .i64 1))),q1 3 (.asg (.t 27))] [1,3])))))))
 (.seq (.reg [q1 2 (.asg (.c (.bool true)))] [2])
 (.ret))))
theorem con_impl_IsGeo {v0:XGeo} {r:Bool} (h:sh_impl_IsGeo v0 = some r):Con Tryz.prog 29 [cc6.enc v0] [] (rs_impl_IsGeo r) := by
 delta sh_impl_IsGeo at h
 refine top (out := none) (f := Tryz.f29) (m := m29) (rs := [.t 2]) (by kernel_rfl) rfl (by kernel_rfl) (by kernel_rfl) (by kernel_rfl) (by kernel_rfl) (by kernel_rfl) ?_
 exact
  ini [q2 0 cc6 v0] rfl<|ws<|rg<|x_box (ss rfl rfl)<|xa (sc cB false rfl)<|sq [q3 1 cc6 v0]<|
  xn<|ws<|wpC_kp<|ws<|rg<|st rfl<|fab rfl rfl rfl rfl<|st rfl<|lda rfl rfl rfl rfl rfl rfl<|stw rfl<|lens rfl fun l23=>st rfl<|b_lss (k := .i64) rfl rfl<|st rfl<|mvd rfl rfl<|ite_k h (fun b24 h=>gf rfl b24<|gf rfl b24<|gf rfl b24<|gf rfl b24<|st rfl<|pick1 rfl b24 (cd := cB) (v := true) rfl rfl<|st rfl<|mvd rfl rfl<|gf rfl rfl<|gf rfl rfl<|gf rfl rfl<|gf rfl rfl<|gf rfl rfl<|st rfl<|pick1 rfl rfl (cd := cB) (v := true) rfl rfl<|sq [q3 1 cc6 v0,q2 20 cB true]<|
  xn<|cnd1 rfl rfl<|ws<|rg<|xa (sc cB false rfl)<|sq [q2 2 cB false]<|
  xn<|wpC_ret<|rt<|rt<|re<|fin h (r1 (ss rfl rfl)<|r0) rfl)
  (fun b24 h=>gt' rfl b24<|st rfl<|fab rfl rfl rfl rfl<|gt' rfl b24<|st rfl<|lda rfl rfl rfl rfl rfl rfl<|gt' rfl b24<|stw rfl<|lens rfl fun l25=>gt' rfl b24<|st rfl<|b_gtr (k := .i64) rfl rfl<|st rfl<|pick0 rfl b24 (cd := cB) (v := (decide ((30:Int) < (v0.Parents.length:Int)))) rfl rfl<|st rfl<|mvd rfl rfl<|ite_k h (fun b26 h=>gf rfl b26<|gf rfl b26<|gf rfl b26<|gf rfl b26<|gf rfl b26<|st rfl<|pick1 rfl b26 (cd := cB) (v := true) rfl rfl<|sq [q3 1 cc6 v0,q2 20 cB true]<|
  xn<|cnd1 rfl rfl<|ws<|rg<|xa (sc cB false rfl)<|sq [q2 2 cB false]<|
  xn<|wpC_ret<|rt<|rt<|re<|fin h (r1 (ss rfl rfl)<|r0) rfl)
  (fun b26 h=>gt' rfl b26<|st rfl<|fab rfl rfl rfl rfl<|gt' rfl b26<|st rfl<|lda rfl rfl rfl rfl rfl rfl<|gt' rfl b26<|getO_k h fun x27 i28 g29 h=>st rfl<|ias rfl rfl i28 g29 rfl<|gt' rfl b26<|st rfl<|ldi rfl rfl rfl rfl<|gt' rfl b26<|st rfl<|b_neq (k := .i64) rfl rfl<|st rfl<|pick0 rfl b26 (cd := cB) (v := (decide (x27 ≠ (-1:Int)))) rfl rfl<|sq [q3 1 cc6 v0,q2 20 cB (decide (x27 ≠ (-1:Int)))]<|
  xn<|cnd rfl h (fun b30 h=>ws<|rg<|xa (sc cB false rfl)<|sq [q2 2 cB false]<|
  xn<|wpC_ret<|rt<|rt<|re<|fin h (r1 (ss rfl rfl)<|r0) rfl)
  (fun b30 h=>wpC_skip<|kpN [q3 1 cc6 v0] (by kernel_rfl)<|xn<|ws<|wpC_kp<|ws<|rg<|xa (sc cI (1:Int) rfl)<|sq [q3 1 cc6 v0,q2 3 cI (1:Int)]<|
  xn<|wpC_blk<|lpF (fun (s114:Int)=>[q3 1 cc6 v0,q2 3 cI s114]) (1:Int) rfl h
  fun G171 nx169 s114 hn170 h=>ws<|wpC_kp<|ws<|rg<|st rfl<|mvd rfl rfl<|st rfl<|fab rfl rfl rfl rfl<|st rfl<|lda rfl rfl rfl rfl rfl rfl<|stw rfl<|lens rfl fun l176=>st rfl<|b_lss (k := .i64) rfl rfl<|sq [q3 1 cc6 v0,q2 3 cI s114,q2 25 cB (decide (s114 < (v0.Parents.length:Int)))]<|
  xn<|cnd rfl h (fun b177 h=>wpC_skip<|kpN [q3 1 cc6 v0,q2 3 cI s114] (by kernel_rfl)<|xn<|ws<|wpC_kp<|wpC_blk<|ws<|rg<|st rfl<|fab rfl rfl rfl rfl<|st rfl<|lda rfl rfl rfl rfl rfl rfl<|st rfl<|mvd rfl rfl<|getO_k h fun x191 i192 g193 h=>st rfl<|ias rfl rfl i192 g193 rfl<|st rfl<|ldi rfl rfl rfl rfl<|st rfl<|b_lss (k := .i64) rfl rfl<|st rfl<|mvd rfl rfl<|ite_k h (fun b194 h=>gf rfl b194<|gf rfl b194<|gf rfl b194<|gf rfl b194<|gf rfl b194<|gf rfl b194<|gf rfl b194<|st rfl<|pick1 rfl b194 (cd := cB) (v := true) rfl rfl<|sq [q3 1 cc6 v0,q2 3 cI s114,q2 42 cB true]<|
  xn<|cnd1 rfl rfl<|ws<|rg<|xa (sc cB false rfl)<|sq [q2 2 cB false]<|
  xn<|wpC_ret<|rb<|rt<|rt<|rt<|rb<|rt<|rt<|re<|fin h (r1 (ss rfl rfl)<|r0) rfl)
  (fun b194 h=>gt' rfl b194<|st rfl<|fab rfl rfl rfl rfl<|gt' rfl b194<|st rfl<|lda rfl rfl rfl rfl rfl rfl<|gt' rfl b194<|st rfl<|mvd rfl rfl<|gt' rfl b194<|st rfl<|ias rfl rfl i192 g193 rfl<|gt' rfl b194<|st rfl<|ldi rfl rfl rfl rfl<|gt' rfl b194<|st rfl<|mvd rfl rfl<|gt' rfl b194<|st rfl<|b_geq (k := .i64) rfl rfl<|st rfl<|pick0 rfl b194 (cd := cB) (v := (decide (s114 ≤ x191))) rfl rfl<|sq [q3 1 cc6 v0,q2 3 cI s114,q2 42 cB (decide (s114 ≤ x191))]<|
  xn<|cnd rfl h (fun b195 h=>ws<|rg<|xa (sc cB false rfl)<|sq [q2 2 cB false]<|
  xn<|wpC_ret<|rb<|rt<|rt<|rt<|rb<|rt<|rt<|re<|fin h (r1 (ss rfl rfl)<|r0) rfl)
  (fun b195 h=>wpC_skip<|xbb<|kpN [q3 1 cc6 v0,q2 3 cI s114] (by kernel_rfl)<|xn<|rg<|st rfl<|mvd rfl rfl<|ckI_k h fun i196 h=>st rfl<|b_add (k := .i64) rfl rfl i196<|xa (ss rfl rfl)<|sq [q3 1 cc6 v0,q2 3 cI (s114 + (1:Int))]<|
  xn<|hn170 (s114 + (1:Int)) h)))
  (fun b177 h=>wpC_exit<|xt<|xt<|xt<|xb<|kpN [] (by kernel_rfl)<|xn<|ws<|rg<|xa (sc cB true rfl)<|sq [q2 2 cB true]<|
  xn<|wpC_ret<|re<|fin h (r1 (ss rfl rfl)<|r0) rfl))))

def rs_impl_isWord (r:Bool):List D := [cB.enc r]
def m46:MC := .seq (.reg [q1 2 (.asg (.c (.bool false)))] [0])
 (.seq (.kp [0] (.seq (.reg [q1 4 (.mv (.t 0)),q1 5 (.len true (.t 4)),q1 6 (.bin .lss (.t 5) (.c (.int .i64 1))),q1 7 (.mv (.t 6)),
  ⟨some 8,.mv (.t 0),some (7,false)⟩,
  ⟨some 9,.len true (.t 8),some (7,false)⟩,
  ⟨some 10,.bin .gtr (.t 9) (.c (.int .i64 8)),some (7,false)⟩,q1 11 (.pick (.t 7) (.c (.bool true)) (.t 10))] [0,11])
 (.cond (.t 11) (.seq (.reg [q1 2 (.asg (.c (.bool false)))] [2])
 (.ret)) (.skip))))
 (.seq (.kp [] (.seq (.reg [q1 12 (.mv (.t 0)),q1 13 (.len true (.t 12)),q1 14 (.mv (.c (.int .i64 0)))] [0,13,14])
 (.blk 0 (.loop (.seq (.reg [q1 15 (.bin .lss (.t 14) (.t 13))] [0,13,14,15])
 (.seq (.kp [0,13,14] (.cond (.t 15) (.skip) (.exit 0)))
 (.seq (.kp [0,13,14] (.blk 1 (.seq (.reg [q1 16 (.mv (.t 14)),q1 3 (.asg (.t 16))] [0,3,13,14])
 (.seq (.reg [q1 17 (.mv (.t 0)),q1 18 (.mv (.t 3)),q1 19 (.ix (.t 17) (.t 18)),q1 20 (.bin .lss (.t 19) (.c (.int .u8 97))),q1 21 (.mv (.t 20)),
  ⟨some 22,.mv (.t 0),some (21,false)⟩,
  ⟨some 23,.mv (.t 3),some (21,false)⟩,
  ⟨some 24,.ix (.t 22) (.t 23),some (21,false)⟩,
  ⟨some 25,.bin .gtr (.t 24) (.c (.int .u8 122)),some (21,false)⟩,q1 26 (.pick (.t 21) (.c (.bool true)) (.t 25))] [0,13,14,26])
 (.cond (.t 26) (.seq (.reg [q1 2 (.asg (.c (.bool false)))] [2])
 (.ret)) (.skip))))))
 (.reg [q1 27 (.bin .add (.t 14) (.c (.int .i64 1))),q1 14 (.mv (.t 27))] [0,13,14]))))))))
 (.seq (.reg [q1 2 (.asg (.c (.bool true)))] [2])
 (.ret))))
theorem con_impl_isWord {v0:(List UInt8)} {r:Bool} (h:sh_impl_isWord v0 = some r):Con Tryz.prog 46 [cS.enc v0] [] (rs_impl_isWord r) := by
 delta sh_impl_isWord at h
 refine top (out := none) (f := Tryz.f46) (m := m46) (rs := [.t 2]) (by kernel_rfl) rfl (by kernel_rfl) (by kernel_rfl) (by kernel_rfl) (by kernel_rfl) (by kernel_rfl) ?_
 exact
  ini [q2 0 cS v0] rfl<|ws<|rg<|xa (sc cB false rfl)<|sq [q2 0 cS v0]<|
  xn<|ws<|wpC_kp<|ws<|rg<|st rfl<|mvd rfl rfl<|stw rfl<|lent rfl fun l11=>st rfl<|b_lss (k := .i64) rfl rfl<|st rfl<|mvd rfl rfl<|ite_k h (fun b12 h=>gf rfl b12<|gf rfl b12<|gf rfl b12<|st rfl<|pick1 rfl b12 (cd := cB) (v := true) rfl rfl<|sq [q2 0 cS v0,q2 11 cB true]<|
  xn<|cnd1 rfl rfl<|ws<|rg<|xa (sc cB false rfl)<|sq [q2 2 cB false]<|
  xn<|wpC_ret<|rt<|rt<|re<|fin h (r1 (ss rfl rfl)<|r0) rfl)
  (fun b12 h=>gt' rfl b12<|st rfl<|mvd rfl rfl<|gt' rfl b12<|stw rfl<|lent rfl fun l13=>gt' rfl b12<|st rfl<|b_gtr (k := .i64) rfl rfl<|st rfl<|pick0 rfl b12 (cd := cB) (v := (decide ((8:Int) < (v0.length:Int)))) rfl rfl<|sq [q2 0 cS v0,q2 11 cB (decide ((8:Int) < (v0.length:Int)))]<|
  xn<|cnd rfl h (fun b14 h=>ws<|rg<|xa (sc cB false rfl)<|sq [q2 2 cB false]<|
  xn<|wpC_ret<|rt<|rt<|re<|fin h (r1 (ss rfl rfl)<|r0) rfl)
  (fun b14 h=>wpC_skip<|kpN [q2 0 cS v0] (by kernel_rfl)<|xn<|ws<|wpC_kp<|ws<|rg<|st rfl<|mvd rfl rfl<|stw rfl<|lent rfl fun l38=>st rfl<|mvc cI (0:Int) rfl<|sq [q2 0 cS v0,q2 13 cI (v0.length:Int),q2 14 cI (0:Int)]<|
  xn<|wpC_blk<|lpR (fun (k40:Nat) (s39:Unit)=>[q2 0 cS v0,q2 13 cI (v0.length:Int),q2 14 cI (k40:Int)]) () rfl h
  (fun G52 s39 h=>ws<|rg<|st rfl<|b_lss (k := .i64) rfl rfl<|sq [q2 0 cS v0,q2 13 cI (v0.length:Int),q2 14 cI (v0.length:Int),q2 15 cB (decide ((v0.length:Int) < (v0.length:Int)))]<|
  xn<|ws<|wpC_kp<|cnd0 rfl (dlf _)<|wpC_exit<|xt<|xt<|xt<|xb<|kpN [] (by kernel_rfl)<|xn<|ws<|rg<|xa (sc cB true rfl)<|sq [q2 2 cB true]<|
  xn<|wpC_ret<|re<|fin h (r1 (ss rfl rfl)<|r0) rfl)
  (fun G52 nx50 k40 s39 x41 hk42 hx43 hn51 h=>ws<|rg<|st rfl<|b_lss (k := .i64) rfl rfl<|sq [q2 0 cS v0,q2 13 cI (v0.length:Int),q2 14 cI (k40:Int),q2 15 cB (decide ((k40:Int) < (v0.length:Int)))]<|
  xn<|ws<|wpC_kp<|cnd1 rfl (dlt hk42)<|wpC_skip<|kpN [q2 0 cS v0,q2 13 cI (v0.length:Int),q2 14 cI (k40:Int)] (by kernel_rfl)<|xn<|ws<|wpC_kp<|wpC_blk<|ws<|rg<|st rfl<|mvd rfl rfl<|xa (ss rfl rfl)<|sq [q2 0 cS v0,q2 3 cI (k40:Int),q2 13 cI (v0.length:Int),q2 14 cI (k40:Int)]<|
  xn<|ws<|rg<|st rfl<|mvd rfl rfl<|st rfl<|mvd rfl rfl<|st rfl<|o_ix (k := .i64) rfl rfl (Int.natCast_nonneg _) hx43<|st rfl<|b_lss (k := .u8) rfl rfl<|st rfl<|mvd rfl rfl<|ite_k h (fun b57 h=>gf rfl b57<|gf rfl b57<|gf rfl b57<|gf rfl b57<|st rfl<|pick1 rfl b57 (cd := cB) (v := true) rfl rfl<|sq [q2 0 cS v0,q2 13 cI (v0.length:Int),q2 14 cI (k40:Int),q2 26 cB true]<|
  xn<|cnd1 rfl rfl<|ws<|rg<|xa (sc cB false rfl)<|sq [q2 2 cB false]<|
  xn<|wpC_ret<|rb<|rt<|rt<|rt<|rb<|rt<|rt<|re<|fin h (r1 (ss rfl rfl)<|r0) rfl)
  (fun b57 h=>gt' rfl b57<|st rfl<|mvd rfl rfl<|gt' rfl b57<|st rfl<|mvd rfl rfl<|gt' rfl b57<|st rfl<|o_ix (k := .i64) rfl rfl (Int.natCast_nonneg _) hx43<|gt' rfl b57<|st rfl<|b_gtr (k := .u8) rfl rfl<|st rfl<|pick0 rfl b57 (cd := cB) (v := (decide ((122:Int) < (x41.toNat:Int)))) rfl rfl<|sq [q2 0 cS v0,q2 13 cI (v0.length:Int),q2 14 cI (k40:Int),q2 26 cB (decide ((122:Int) < (x41.toNat:Int)))]<|
  xn<|cnd rfl h (fun b58 h=>ws<|rg<|xa (sc cB false rfl)<|sq [q2 2 cB false]<|
  xn<|wpC_ret<|rb<|rt<|rt<|rt<|rb<|rt<|rt<|re<|fin h (r1 (ss rfl rfl)<|r0) rfl)
  (fun b58 h=>wpC_skip<|xbb<|kpN [q2 0 cS v0,q2 13 cI (v0.length:Int),q2 14 cI (k40:Int)] (by kernel_rfl)<|xn<|rg<|st rfl<|b_inc rfl rfl l38 hk42<|st rfl<|mvd rfl rfl<|sq [q2 0 cS v0,q2 13 cI (v0.length:Int),q2 14 cI ((k40 + 1:Nat):Int)]<|
  xn<|hn51 () h)))))

def rs_impl_IsSchema (r:Bool):List D := [cB.enc r]
def m30:MC := .seq (.reg [q1 2 (.asg (.c (.bool false)))] [0])
 (.seq (.kp [0] (.seq (.reg [q1 7 (.mv (.t 0)),q1 8 (.len false (.t 7)),q1 9 (.bin .lss (.t 8) (.c (.int .i64 1))),q1 10 (.mv (.t 9)),
  ⟨some 11,.mv (.t 0),some (10,false)⟩,
  ⟨some 12,.len false (.t 11),some (10,false)⟩,
  ⟨some 13,.bin .gtr (.t 12) (.c (.int .i64 6)),some (10,false)⟩,q1 14 (.pick (.t 10) (.c (.bool true)) (.t 13))] [0,14])
 (.cond (.t 14) (.seq (.reg [q1 2 (.asg (.c (.bool false)))] [2])
 (.ret)) (.skip))))
 (.seq (.kp [] (.seq (.reg [q1 15 (.mv (.t 0)),q1 16 (.len false (.t 15)),q1 17 (.mv (.c (.int .i64 0)))] [0,15,16,17])
 (.blk 0 (.loop (.seq (.reg [q1 18 (.bin .lss (.t 17) (.t 16))] [0,15,16,17,18])
 (.seq (.kp [0,15,16,17] (.cond (.t 18) (.skip) (.exit 0)))
 (.seq (.kp [0,15,16,17] (.blk 1 (.seq (.reg [q1 19 (.mv (.t 17)),q1 20 (.ia 15 (.t 17) 2),q1 21 (.ld 20 2 true),q1 4 (.alloc (.agg [.str [],.int .i64 0])),q1 3 (.asg (.t 19)),q0 (.st 4 (.t 21) 2)] [0,3,4,15,16,17])
 (.seq (.kp [0,3,4,15,16,17] (.seq (.reg [q1 22 (.fa 4 0 0),q1 23 (.ld 22 1 false),q1 24 (.call 46 [(.t 23)]),q1 25 (.nt (.t 24)),q1 26 (.mv (.t 25)),
  ⟨some 27,.fa 4 1 1,some (26,false)⟩,
  ⟨some 28,.ld 27 1 false,some (26,false)⟩,
  ⟨some 29,.bin .lss (.t 28) (.c (.int .i64 2)),some (26,false)⟩,q1 30 (.pick (.t 26) (.c (.bool true)) (.t 29)),q1 31 (.mv (.t 30)),
  ⟨some 32,.fa 4 1 1,some (31,false)⟩,
  ⟨some 33,.ld 32 1 false,some (31,false)⟩,
  ⟨some 34,.bin .gtr (.t 33) (.c (.int .i64 8)),some (31,false)⟩,q1 35 (.pick (.t 31) (.c (.bool true)) (.t 34))] [0,3,4,15,16,17,35])
 (.cond (.t 35) (.seq (.reg [q1 2 (.asg (.c (.bool false)))] [2])
 (.ret)) (.skip))))
 (.seq (.reg [q1 36 (.mv (.t 0)),q1 37 (.mv (.t 3)),q1 38 (.sl (.t 36) none (some (.t 37)) 2),q1 39 (.len false (.t 38)),q1 40 (.mv (.c (.int .i64 0)))] [0,4,15,16,17,38,39,40])
 (.blk 2 (.loop (.seq (.reg [q1 41 (.bin .lss (.t 40) (.t 39))] [0,4,15,16,17,38,39,40,41])
 (.seq (.kp [0,4,15,16,17,38,39,40] (.cond (.t 41) (.skip) (.exit 2)))
 (.seq (.kp [0,4,15,16,17,38,39,40] (.blk 3 (.seq (.reg [q1 42 (.ia 38 (.t 40) 2),q1 43 (.ld 42 2 true),q1 6 (.alloc (.agg [.str [],.int .i64 0])),q0 (.st 6 (.t 43) 2)] [0,4,6,15,16,17,38,39,40])
 (.seq (.reg [q1 44 (.fa 6 0 0),q1 45 (.ld 44 1 false),q1 46 (.fa 4 0 0),q1 47 (.ld 46 1 false),q1 48 (.bin .eql (.t 45) (.t 47))] [0,4,15,16,17,38,39,40,48])
 (.cond (.t 48) (.seq (.reg [q1 2 (.asg (.c (.bool false)))] [2])
 (.ret)) (.skip))))))
 (.reg [q1 49 (.bin .add (.t 40) (.c (.int .i64 1))),q1 40 (.mv (.t 49))] [0,4,15,16,17,38,39,40])))))))))))
 (.reg [q1 50 (.bin .add (.t 17) (.c (.int .i64 1))),q1 17 (.mv (.t 50))] [0,15,16,17]))))))))
 (.seq (.reg [q1 2 (.asg (.c (.bool true)))] [2])
 (.ret))))
theorem con_impl_IsSchema {v0:(List XVariable)} {r:Bool} (h:sh_impl_IsSchema v0 = some r):Con Tryz.prog 30 [cc4.enc v0] [] (rs_impl_IsSchema r) := by
 delta sh_impl_IsSchema at h
 refine top (out := none) (f := Tryz.f30) (m := m30) (rs := [.t 2]) (by kernel_rfl) rfl (by kernel_rfl) (by kernel_rfl) (by kernel_rfl) (by kernel_rfl) (by kernel_rfl) ?_
 exact
  ini [q2 0 cc4 v0] rfl<|ws<|rg<|xa (sc cB false rfl)<|sq [q2 0 cc4 v0]<|
  xn<|ws<|wpC_kp<|ws<|rg<|st rfl<|mvd rfl rfl<|stw rfl<|lens rfl fun l11=>st rfl<|b_lss (k := .i64) rfl rfl<|st rfl<|mvd rfl rfl<|ite_k h (fun b12 h=>gf rfl b12<|gf rfl b12<|gf rfl b12<|st rfl<|pick1 rfl b12 (cd := cB) (v := true) rfl rfl<|sq [q2 0 cc4 v0,q2 14 cB true]<|
  xn<|cnd1 rfl rfl<|ws<|rg<|xa (sc cB false rfl)<|sq [q2 2 cB false]<|
  xn<|wpC_ret<|rt<|rt<|re<|fin h (r1 (ss rfl rfl)<|r0) rfl)
  (fun b12 h=>gt' rfl b12<|st rfl<|mvd rfl rfl<|gt' rfl b12<|stw rfl<|lens rfl fun l13=>gt' rfl b12<|st rfl<|b_gtr (k := .i64) rfl rfl<|st rfl<|pick0 rfl b12 (cd := cB) (v := (decide ((6:Int) < (v0.length:Int)))) rfl rfl<|sq [q2 0 cc4 v0,q2 14 cB (decide ((6:Int) < (v0.length:Int)))]<|
  xn<|cnd rfl h (fun b14 h=>ws<|rg<|xa (sc cB false rfl)<|sq [q2 2 cB false]<|
  xn<|wpC_ret<|rt<|rt<|re<|fin h (r1 (ss rfl rfl)<|r0) rfl)
  (fun b14 h=>wpC_skip<|kpN [q2 0 cc4 v0] (by kernel_rfl)<|xn<|ws<|wpC_kp<|ws<|rg<|st rfl<|mvd rfl rfl<|stw rfl<|lens rfl fun l162=>st rfl<|mvc cI (0:Int) rfl<|sq [q2 0 cc4 v0,q2 15 cc4 v0,q2 16 cI (v0.length:Int),q2 17 cI (0:Int)]<|
  xn<|wpC_blk<|lpR (fun (k164:Nat) (s163:Unit)=>[q2 0 cc4 v0,q2 15 cc4 v0,q2 16 cI (v0.length:Int),q2 17 cI (k164:Int)]) () rfl h
  (fun G238 s163 h=>ws<|rg<|st rfl<|b_lss (k := .i64) rfl rfl<|sq [q2 0 cc4 v0,q2 15 cc4 v0,q2 16 cI (v0.length:Int),q2 17 cI (v0.length:Int),q2 18 cB (decide ((v0.length:Int) < (v0.length:Int)))]<|
  xn<|ws<|wpC_kp<|cnd0 rfl (dlf _)<|wpC_exit<|xt<|xt<|xt<|xb<|kpN [] (by kernel_rfl)<|xn<|ws<|rg<|xa (sc cB true rfl)<|sq [q2 2 cB true]<|
  xn<|wpC_ret<|re<|fin h (r1 (ss rfl rfl)<|r0) rfl)
  (fun G238 nx236 k164 s163 x165 hk166 hx167 hn237 h=>ws<|rg<|st rfl<|b_lss (k := .i64) rfl rfl<|sq [q2 0 cc4 v0,q2 15 cc4 v0,q2 16 cI (v0.length:Int),q2 17 cI (k164:Int),q2 18 cB (decide ((k164:Int) < (v0.length:Int)))]<|
  xn<|ws<|wpC_kp<|cnd1 rfl (dlt hk166)<|wpC_skip<|kpN [q2 0 cc4 v0,q2 15 cc4 v0,q2 16 cI (v0.length:Int),q2 17 cI (k164:Int)] (by kernel_rfl)<|xn<|ws<|wpC_kp<|wpC_blk<|ws<|rg<|st rfl<|mvd rfl rfl<|st rfl<|ias rfl rfl (Int.natCast_nonneg _) hx167 rfl<|st rfl<|ldi rfl rfl rfl rfl<|x_all cc7 (⟨([]:List UInt8),(0:Int)⟩:XVariable) rfl<|xa (ss rfl rfl)<|x_stb (ss rfl rfl) rfl (Cd.h_sz _ _) rfl<|sq [q2 0 cc4 v0,q2 3 cI (k164:Int),q3 4 cc7 x165,q2 15 cc4 v0,q2 16 cI (v0.length:Int),q2 17 cI (k164:Int)]<|
  xn<|ws<|wpC_kp<|ws<|rg<|st rfl<|fab rfl rfl rfl rfl<|st rfl<|lda rfl rfl rfl rfl rfl rfl<|bnd h fun x286 e287 h=>st rfl<|o_call (a1 (c := cS) tS rfl a0) (con_impl_isWord e287) (.inl (so1 sB so0))<|st rfl<|o_nt rfl<|st rfl<|mvd rfl rfl<|ite_k h (fun b288 h=>gf rfl b288<|gf rfl b288<|gf rfl b288<|st rfl<|pick1 rfl b288 (cd := cB) (v := true) rfl rfl<|st rfl<|mvd rfl rfl<|gf rfl rfl<|gf rfl rfl<|gf rfl rfl<|st rfl<|pick1 rfl rfl (cd := cB) (v := true) rfl rfl<|sq [q2 0 cc4 v0,q2 3 cI (k164:Int),q3 4 cc7 x165,q2 15 cc4 v0,q2 16 cI (v0.length:Int),q2 17 cI (k164:Int),q2 35 cB true]<|
  xn<|cnd1 rfl rfl<|ws<|rg<|xa (sc cB false rfl)<|sq [q2 2 cB false]<|
  xn<|wpC_ret<|rt<|rt<|rb<|rt<|rt<|rt<|rb<|rt<|rt<|re<|fin h (r1 (ss rfl rfl)<|r0) rfl)
  (fun b288 h=>gt' rfl b288<|st rfl<|fab rfl rfl rfl rfl<|gt' rfl b288<|st rfl<|lda rfl rfl rfl rfl rfl rfl<|gt' rfl b288<|st rfl<|b_lss (k := .i64) rfl rfl<|st rfl<|pick0 rfl b288 (cd := cB) (v := (decide (x165.Levels < (2:Int)))) rfl rfl<|st rfl<|mvd rfl rfl<|ite_k h (fun b289 h=>gf rfl b289<|gf rfl b289<|gf rfl b289<|st rfl<|pick1 rfl b289 (cd := cB) (v := true) rfl rfl<|sq [q2 0 cc4 v0,q2 3 cI (k164:Int),q3 4 cc7 x165,q2 15 cc4 v0,q2 16 cI (v0.length:Int),q2 17 cI (k164:Int),q2 35 cB true]<|
  xn<|cnd1 rfl rfl<|ws<|rg<|xa (sc cB false rfl)<|sq [q2 2 cB false]<|
  xn<|wpC_ret<|rt<|rt<|rb<|rt<|rt<|rt<|rb<|rt<|rt<|re<|fin h (r1 (ss rfl rfl)<|r0) rfl)
  (fun b289 h=>gt' rfl b289<|st rfl<|fab rfl rfl rfl rfl<|gt' rfl b289<|st rfl<|lda rfl rfl rfl rfl rfl rfl<|gt' rfl b289<|st rfl<|b_gtr (k := .i64) rfl rfl<|st rfl<|pick0 rfl b289 (cd := cB) (v := (decide ((8:Int) < x165.Levels))) rfl rfl<|sq [q2 0 cc4 v0,q2 3 cI (k164:Int),q3 4 cc7 x165,q2 15 cc4 v0,q2 16 cI (v0.length:Int),q2 17 cI (k164:Int),q2 35 cB (decide ((8:Int) < x165.Levels))]<|
  xn<|cnd rfl h (fun b290 h=>ws<|rg<|xa (sc cB false rfl)<|sq [q2 2 cB false]<|
  xn<|wpC_ret<|rt<|rt<|rb<|rt<|rt<|rt<|rb<|rt<|rt<|re<|fin h (r1 (ss rfl rfl)<|r0) rfl)
  (fun b290 h=>wpC_skip<|kpN [q2 0 cc4 v0,q2 3 cI (k164:Int),q3 4 cc7 x165,q2 15 cc4 v0,q2 16 cI (v0.length:Int),q2 17 cI (k164:Int)] (by kernel_rfl)<|xn<|ws<|rg<|st rfl<|mvd rfl rfl<|st rfl<|mvd rfl rfl<|ck_k h fun i293 h=>st rfl<|o_sl rfl rfl lo0 (hi1 (k := .i64) rfl i293.1) i293.2<|stw rfl<|lens rfl fun l294=>st rfl<|mvc cI (0:Int) rfl<|sq [q2 0 cc4 v0,q3 4 cc7 x165,q2 15 cc4 v0,q2 16 cI (v0.length:Int),q2 17 cI (k164:Int),q2 38 cc4 ((v0.take ((k164:Int)).toNat).drop 0),q2 39 cI (((v0.take ((k164:Int)).toNat).drop 0).length:Int),q2 40 cI (0:Int)]<|
  xn<|wpC_blk<|lpR (fun (k296:Nat) (s295:Unit)=>[q2 0 cc4 v0,q3 4 cc7 x165,q2 15 cc4 v0,q2 16 cI (v0.length:Int),q2 17 cI (k164:Int),q2 38 cc4 ((v0.take ((k164:Int)).toNat).drop 0),q2 39 cI (((v0.take ((k164:Int)).toNat).drop 0).length:Int),q2 40 cI (k296:Int)]) () rfl h
  (fun G304 s295 h=>ws<|rg<|st rfl<|b_lss (k := .i64) rfl rfl<|sq [q2 0 cc4 v0,q3 4 cc7 x165,q2 15 cc4 v0,q2 16 cI (v0.length:Int),q2 17 cI (k164:Int),q2 38 cc4 ((v0.take ((k164:Int)).toNat).drop 0),q2 39 cI (((v0.take ((k164:Int)).toNat).drop 0).length:Int),q2 40 cI (((v0.take ((k164:Int)).toNat).drop 0).length:Int),q2 41 cB (decide ((((v0.take ((k164:Int)).toNat).drop 0).length:Int) < (((v0.take ((k164:Int)).toNat).drop 0).length:Int)))]<|
  xn<|ws<|wpC_kp<|cnd0 rfl (dlf _)<|wpC_exit<|xt<|xt<|xt<|xb<|xbb<|kpN [q2 0 cc4 v0,q2 15 cc4 v0,q2 16 cI (v0.length:Int),q2 17 cI (k164:Int)] (by kernel_rfl)<|xn<|rg<|st rfl<|b_inc rfl rfl l162 hk166<|st rfl<|mvd rfl rfl<|sq [q2 0 cc4 v0,q2 15 cc4 v0,q2 16 cI (v0.length:Int),q2 17 cI ((k164 + 1:Nat):Int)]<|
  xn<|hn237 () h)
  (fun G304 nx302 k296 s295 x297 hk298 hx299 hn303 h=>ws<|rg<|st rfl<|b_lss (k := .i64) rfl rfl<|sq [q2 0 cc4 v0,q3 4 cc7 x165,q2 15 cc4 v0,q2 16 cI (v0.length:Int),q2 17 cI (k164:Int),q2 38 cc4 ((v0.take ((k164:Int)).toNat).drop 0),q2 39 cI (((v0.take ((k164:Int)).toNat).drop 0).length:Int),q2 40 cI (k296:Int),q2 41 cB (decide ((k296:Int) < (((v0.take ((k164:Int)).toNat).drop 0).length:Int)))]<|
  xn<|ws<|wpC_kp<|cnd1 rfl (dlt hk298)<|wpC_skip<|kpN [q2 0 cc4 v0,q3 4 cc7 x165,q2 15 cc4 v0,q2 16 cI (v0.length:Int),q2 17 cI (k164:Int),q2 38 cc4 ((v0.take ((k164:Int)).toNat).drop 0),q2 39 cI (((v0.take ((k164:Int)).toNat).drop 0).length:Int),q2 40 cI (k296:Int)] (by kernel_rfl)<|xn<|ws<|wpC_kp<|wpC_blk<|ws<|rg<|st rfl<|ias rfl rfl (Int.natCast_nonneg _) hx299 rfl<|st rfl<|ldi rfl rfl rfl rfl<|x_all cc7 (⟨([]:List UInt8),(0:Int)⟩:XVariable) rfl<|x_stb (ss rfl rfl) rfl (Cd.h_sz _ _) rfl<|sq [q2 0 cc4 v0,q3 4 cc7 x165,q3 6 cc7 x297,q2 15 cc4 v0,q2 16 cI (v0.length:Int),q2 17 cI (k164:Int),q2 38 cc4 ((v0.take ((k164:Int)).toNat).drop 0),q2 39 cI (((v0.take ((k164:Int)).toNat).drop 0).length:Int),q2 40 cI (k296:Int)]<|
  xn<|ws<|rg<|st rfl<|fab rfl rfl rfl rfl<|st rfl<|lda rfl rfl rfl rfl rfl rfl<|st rfl<|fab rfl rfl rfl rfl<|st rfl<|lda rfl rfl rfl rfl rfl rfl<|st rfl<|b_seq rfl rfl<|sq [q2 0 cc4 v0,q3 4 cc7 x165,q2 15 cc4 v0,q2 16 cI (v0.length:Int),q2 17 cI (k164:Int),q2 38 cc4 ((v0.take ((k164:Int)).toNat).drop 0),q2 39 cI (((v0.take ((k164:Int)).toNat).drop 0).length:Int),q2 40 cI (k296:Int),q2 48 cB (decide (x297.Name = x165.Name))]<|
  xn<|cnd rfl h (fun b306 h=>ws<|rg<|xa (sc cB false rfl)<|sq [q2 2 cB false]<|
  xn<|wpC_ret<|rb<|rt<|rt<|rt<|rb<|rb<|rt<|rt<|rt<|rb<|rt<|rt<|re<|fin h (r1 (ss rfl rfl)<|r0) rfl)
  (fun b306 h=>wpC_skip<|xbb<|kpN [q2 0 cc4 v0,q3 4 cc7 x165,q2 15 cc4 v0,q2 16 cI (v0.length:Int),q2 17 cI (k164:Int),q2 38 cc4 ((v0.take ((k164:Int)).toNat).drop 0),q2 39 cI (((v0.take ((k164:Int)).toNat).drop 0).length:Int),q2 40 cI (k296:Int)] (by kernel_rfl)<|xn<|rg<|st rfl<|b_inc rfl rfl l294 hk298<|st rfl<|mvd rfl rfl<|sq [q2 0 cc4 v0,q3 4 cc7 x165,q2 15 cc4 v0,q2 16 cI (v0.length:Int),q2 17 cI (k164:Int),q2 38 cc4 ((v0.take ((k164:Int)).toNat).drop 0),q2 39 cI (((v0.take ((k164:Int)).toNat).drop 0).length:Int),q2 40 cI ((k296 + 1:Nat):Int)]<|
  xn<|hn303 () h))))))))

def rs_strings_genSplit (r : (List (List UInt8))) : List D := [(cLs cS rfl).enc r]
theorem splitK_pcs (c : UInt8) : ∀ (k : Nat) (s : List UInt8), s.count c = k → Go.Lib.splitK [c] 0 k s = pcs c s
  | 0, s, h => by
    have hi : Go.Lib.indexByte s c = -1 := by
      have hge := Go.Lib.indexByte_ge s c
      by_cases hi : Go.Lib.indexByte s c = -1
      · exact hi
      · obtain ⟨j, hj⟩ : ∃ j : Nat, Go.Lib.indexByte s c = j := ⟨(Go.Lib.indexByte s c).toNat, by omega⟩
        have := (Go.Lib.indexByte_some hj).1
        have hm : c ∈ s := List.mem_of_getElem? this
        have := List.count_pos_iff.2 hm
        omega
    simp only [Go.Lib.splitK, pcs]
    rw [pcs_miss hi]; rfl
  | k + 1, s, h => by
    have hge := Go.Lib.indexByte_ge s c
    have hi : Go.Lib.indexByte s c ≠ -1 := by
      intro hi
      have hn := Go.Lib.indexByte_none hi
      have hm : c ∈ s := List.count_pos_iff.1 (by omega)
      obtain ⟨j, hj⟩ := List.getElem?_of_mem hm
      exact hn j hj
    obtain ⟨j, hj⟩ : ∃ j : Nat, Go.Lib.indexByte s c = j := ⟨(Go.Lib.indexByte s c).toNat, by omega⟩
    obtain ⟨h1, h2⟩ := pcs_hit (cur := []) hj
    have h3 := Go.Lib.indexByte_some hj
    have e : Go.Lib.index s [c] = (j : Int) := by rw [Go.Lib.index_one]; exact hj
    have hne : ¬ ((j : Int) == -1) = true := by simp
    have hcnt : (s.drop (j + 1)).count c = k := by
      have hs : s = s.take j ++ c :: s.drop (j + 1) := by
        have : s[j]'h1 = c := by have := h3.1; rw [List.getElem?_eq_getElem h1] at this; exact Option.some.inj this
        rw [← this, List.getElem_cons_drop]; simp
      have h0 : (s.take j).count c = 0 := by
        rw [List.count_eq_zero]
        intro hm
        obtain ⟨i, hi'⟩ := List.getElem?_of_mem hm
        have hij : i < j := by have := (List.getElem?_eq_some_iff.1 hi').1; simp at this; omega
        rw [List.getElem?_take_of_lt hij] at hi'
        exact h3.2 i hij hi'
      rw [hs, List.count_append, List.count_cons_self, h0] at h
      omega
    simp only [Go.Lib.splitK, e, hne, if_false]
    rw [show (j : Int).toNat = j by omega, Nat.add_zero, show j + [c].length = j + 1 by rfl, splitK_pcs c k _ hcnt]
    simp only [pcs] at h2 ⊢
    rw [h2]; simp
theorem pcsA_len {c : UInt8} : ∀ (s cur : List UInt8), ∀ t ∈ pcsA c cur s, t.length ≤ cur.length + s.length
  | [], cur, t, h => by simp only [pcsA, List.mem_singleton] at h; subst h; simp
  | b :: s, cur, t, h => by
    simp only [pcsA] at h
    split at h
    · rcases List.mem_cons.1 h with e | h
      · subst e; simp
      · have := pcsA_len s [] t h; simp at this ⊢; omega
    · have := pcsA_len s (cur ++ [b]) t h; simp at this ⊢; omega
theorem reps_strs {w : World} {Z : Nat → Prop} : ∀ {l : List (List UInt8)}, (∀ t ∈ l, t.length ≤ maxLen) → RepXs w Z (l.map cS.enc) (l.map fun t => Value.string ⟨t.toArray⟩) (fun _ => 0)
  | [], _ => by simp [RepXs]
  | s :: l, h => by
    simp only [List.map_cons, RepXs]
    refine ⟨[_], _, fun _ => 0, fun _ => 0, rfl, fun _ => rfl, ?_, reps_strs fun t ht => h t (List.mem_cons_of_mem _ ht)⟩
    show RepX w Z (.str s) _ _
    simp only [RepX]
    exact ⟨trivial, h s (List.mem_cons_self ..), fun _ => trivial⟩
theorem split_info : (Tryz.prog.info? (Tryz.lays221_ren.t 9)).map (fun i => (i.zero, i.size, i.bytes)) = some (some (.string ByteArray.empty), 1, 16) := by kernel_rfl
theorem con_strings_genSplit {v0 : (List UInt8)} {v1 : (List UInt8)} {v2 v3 : Int} {r : (List (List UInt8))} (h : sh_strings_genSplit v0 v1 v2 v3 = some r) : Con Tryz.prog 72 [cS.enc v0, cS.enc v1, cI.enc v2, cI.enc v3] [] (rs_strings_genSplit r) := by
  unfold sh_strings_genSplit at h
  split at h
  · rename_i c
    split at h
    · rename_i hb
      obtain ⟨hb, rfl, rfl⟩ := hb
      cases h
      refine ⟨⟨Tryz.f72, _, Tryz.func72, rfl, by kernel_rfl⟩, ?_⟩
      intro w Z vs F hrep h1 h2 h3
      obtain ⟨x, vs2, f1, f2, rfl, e1, r1, y, vs3, f3, f4, rfl, e2, r2, x3, vs4, f5, f6, rfl, e3, r3, x4, vs5, f7, f8, rfl, e4, r4, rfl, e5⟩ := hrep
      obtain ⟨rfl, hl1, _⟩ := RepV.str r1
      obtain ⟨rfl, hl2, _⟩ := RepV.str r2
      obtain ⟨rfl, _⟩ := RepV.int r3
      obtain ⟨rfl, _⟩ := RepV.int r4
      have hsz : (⟨v0.toArray⟩ : ByteArray).size = v0.length := by simp [ByteArray.size]
      have hcB : Go.Lib.countB ⟨v0.toArray⟩ ⟨#[c]⟩ = v0.count c := by simp only [Go.Lib.countB]; exact Go.Lib.count_one c v0
      have hcle : v0.count c ≤ v0.length := List.count_le_length
      have hcore := Any.strings_genSplit_core Tryz.lays221 split_info ⟨v0.toArray⟩ ⟨#[c]⟩ 0 (-1) (v0.count c + 1) w (by rw [hsz]; omega) (by simp [ByteArray.size]) (Nat.zero_le _)
        (fun x cc hx => by
          have := Tryz.strings_Index_one x c (w.alloc (.cells cc (Tryz.lays221_ren.t 9)))
          rw [show Go.Lib.indexB x ⟨#[c]⟩ = Go.Lib.indexByte x.data.toList c from Go.Lib.index_one _ c]
          exact this)
        (by rw [hcB]; exact Tryz.strings_Count_one ⟨v0.toArray⟩ c w)
        (by decide) (by decide) (by rw [hcB, if_pos (by decide), hsz]; omega)
      refine hcore.mono ?_
      rintro e w' ⟨rfl, rfl⟩
      rw [Nat.add_sub_cancel]
      have hlen := Go.Lib.splitB_all ⟨#[c]⟩ (by simp [ByteArray.size]) 0 _ ⟨v0.toArray⟩ hcB
      have hdat := Go.Lib.splitB_data ⟨#[c]⟩ 0 (v0.count c) ⟨v0.toArray⟩
      have hK : Go.Lib.splitK [c] 0 (v0.count c) v0 = pcs c v0 := splitK_pcs c _ v0 rfl
      simp only [] at hdat
      have hdat : (Go.Lib.splitB ⟨#[c]⟩ 0 (v0.count c) ⟨v0.toArray⟩).map (·.data.toList) = pcs c v0 := hdat.trans hK
      generalize Go.Lib.splitB ⟨#[c]⟩ 0 (v0.count c) ⟨v0.toArray⟩ = L at *
      have hL : L.map Value.string = (pcs c v0).map fun t => Value.string ⟨t.toArray⟩ := by
        rw [← hdat, List.map_map]
        exact List.map_congr_left fun b _ => by simp
      have hpl : (pcs c v0).length = v0.count c + 1 := by rw [← hdat, List.length_map]; exact hlen
      have hcells : Go.Lib.cellsOf L (v0.count c + 1) = ((pcs c v0).map fun t => Value.string ⟨t.toArray⟩).toArray := by rw [← hlen, Go.Lib.cellsOf_full, hL]
      rw [hcells, hlen]
      have hmax : maxLen = 9223372036854775807 := rfl
      refine ⟨_, fun b => Z b ∨ b = w.heap.size, fun _ => 0, fun _ => 0, rfl, ⟨⟨rfl, ?_⟩, fun _ => rfl, fun _ => Nat.zero_le _, fun b hb => absurd hb (Nat.lt_irrefl 0), fun _ h => .inl h, fun b hb => ?_, fun _ _ => rfl, Fr.alloc _ _ _⟩⟩
      · show RepX _ _ (.slice false ((pcs c v0).map cS.enc)) _ _
        simp only [RepX]
        right
        refine ⟨by intro e; have := congrArg List.length e; rw [List.length_map, hpl] at this; simp at this, w.heap.size, 0, v0.count c + 1, (pcs c v0).map (fun t => Value.string ⟨t.toArray⟩), 1, fun _ => 0, ?_, by omega, by simp; omega, by simp, fun x hx => ?_, reps_strs fun t ht => ?_, .inl ⟨trivial, .inr rfl, by simp, by simp, fun j u hu => ?_⟩⟩
        · simp only [List.length_map, hpl]; rfl
        · obtain ⟨t, _, rfl⟩ := List.mem_map.1 hx; rfl
        · have := pcsA_len v0 [] t ht; simp at this; omega
        · rw [Nat.zero_add]
          have : (w.alloc (.cells ((pcs c v0).map fun t => Value.string ⟨t.toArray⟩).toArray (Tryz.lays221_ren.t 9))).heap[w.heap.size]? = some (.cells ((pcs c v0).map fun t => Value.string ⟨t.toArray⟩).toArray (Tryz.lays221_ren.t 9) (0, 0)) := by
            show (w.heap.push _)[w.heap.size]? = _; simp
          simp only [World.cell?, this]
          simpa using hu
      · rcases hb with hb | hb
        · exact .inl hb
        · right; rw [hb]; exact ⟨by show w.heap.size < (w.heap.push _).size; simp, .inl (Nat.le_refl _)⟩
    · cases h
  · cases h

def rs_strings_Split (r:(List (List UInt8))):List D := [cc10.enc r]
def m47:MC := .seq (.reg [q1 4 (.asg (.c (.slice true [])))] [0,1])
 (.seq (.reg [q1 5 (.mv (.t 0)),q1 6 (.mv (.t 1)),q1 7 (.call 72 [(.t 5),(.t 6),(.c (.int .i64 0)),(.c (.int .i64 (-1)))]),q1 4 (.asg (.t 7))] [4])
 (.ret))
theorem con_strings_Split {v0:(List UInt8)} {v1:(List UInt8)} {r:(List (List UInt8))} (h:sh_strings_Split v0 v1 = some r):Con Tryz.prog 47 [cS.enc v0,cS.enc v1] [] (rs_strings_Split r) := by
 delta sh_strings_Split at h
 refine top (out := none) (f := Tryz.f47) (m := m47) (rs := [.t 4]) (by kernel_rfl) rfl (by kernel_rfl) (by kernel_rfl) (by kernel_rfl) (by kernel_rfl) (by kernel_rfl) ?_
 exact
  ini [q2 0 cS v0,q2 1 cS v1] rfl<|ws<|rg<|xa (sc cc12 ([]:List (List UInt8)) rfl)<|sq [q2 0 cS v0,q2 1 cS v1]<|
  xn<|ws<|rg<|st rfl<|mvd rfl rfl<|st rfl<|mvd rfl rfl<|bnd h fun x3 e4 h=>st rfl<|o_call (a1 (c := cS) tS rfl (a1 (c := cS) tS rfl (a1 (c := cI) tK rfl (a1 (c := cI) tK rfl a0)))) (con_strings_genSplit e4) (.inr (hr1 rfl rfl (hr1 rfl rfl (hrc rfl (hrc rfl hr0)))))<|xa (ss rfl rfl)<|sq [q2 4 cc10 x3]<|
  xn<|wpC_ret<|re<|fin h (r1 (ss rfl rfl)<|r0) rfl

def rs_impl_nameIndex_1 (r:Bool):List D := [cB.enc r]
def m74:MC := .seq (.reg [q1 2 (.box (.t 0)),q1 3 (.asg (.c (.bool false)))] [1,2])
 (.seq (.reg [q1 4 (.fa 2 0 0),q1 5 (.ld 4 1 false),q1 6 (.ld 1 1 false),q1 7 (.bin .eql (.t 5) (.t 6)),q1 3 (.asg (.t 7))] [3])
 (.ret))
theorem con_impl_nameIndex_1 {v0:XVariable} {v1:(List UInt8)} {r:Bool} (h:sh_impl_nameIndex_1 v0 v1 = some r):Con Tryz.prog 74 [cc7.enc v0,(cP false cS).enc v1] [] (rs_impl_nameIndex_1 r) := by
 delta sh_impl_nameIndex_1 at h
 refine top (out := none) (f := Tryz.f74) (m := m74) (rs := [.t 3]) (by kernel_rfl) rfl (by kernel_rfl) (by kernel_rfl) (by kernel_rfl) (by kernel_rfl) (by kernel_rfl) ?_
 exact
  ini [q2 0 cc7 v0,(1,.ima (cS.enc v1))] rfl<|ws<|rg<|x_box (ss rfl rfl)<|xa (sc cB false rfl)<|sq [(1,.ima (cS.enc v1)),q3 2 cc7 v0]<|
  xn<|ws<|rg<|st rfl<|fab rfl rfl rfl rfl<|st rfl<|lda rfl rfl rfl rfl rfl rfl<|st rfl<|ldi rfl rfl rfl rfl<|st rfl<|b_seq rfl rfl<|xa (ss rfl rfl)<|sq [q2 3 cB (decide (v0.Name = v1))]<|
  xn<|wpC_ret<|re<|fin h (r1 (ss rfl rfl)<|r0) rfl
def rs_slices_IndexFunc_impl_Variable_impl_Variable_impl_nameIndex_1 (r:Int):List D := [cI.enc r]
def m73_74:MC := .seq (.reg [q1 4 (.asg (.c (.int .i64 0)))] [0,1])
 (.seq (.kp [] (.seq (.reg [q1 6 (.mv (.t 0)),q1 7 (.len false (.t 6)),q1 8 (.mv (.c (.int .i64 0)))] [0,1,7,8])
 (.blk 0 (.loop (.seq (.reg [q1 9 (.bin .lss (.t 8) (.t 7))] [0,1,7,8,9])
 (.seq (.kp [0,1,7,8] (.cond (.t 9) (.skip) (.exit 0)))
 (.seq (.kp [0,1,7,8] (.blk 1 (.seq (.reg [q1 10 (.mv (.t 8)),q1 5 (.asg (.t 10))] [0,1,5,7,8])
 (.seq (.reg [q1 11 (.mv (.t 1)),q1 12 (.mv (.t 0)),q1 13 (.mv (.t 5)),q1 14 (.ia 12 (.t 13) 2),q1 15 (.ld 14 2 true),q1 16 (.callf 11 [(false,(.t 15))])] [0,1,5,7,8,16])
 (.cond (.t 16) (.seq (.reg [q1 17 (.mv (.t 5)),q1 4 (.asg (.t 17))] [4])
 (.ret)) (.skip))))))
 (.reg [q1 18 (.bin .add (.t 8) (.c (.int .i64 1))),q1 8 (.mv (.t 18))] [0,1,7,8]))))))))
 (.seq (.reg [q1 4 (.asg (.c (.int .i64 (-1))))] [4])
 (.ret)))
theorem con_slices_IndexFunc_impl_Variable_impl_Variable_impl_nameIndex_1 {v0:(List XVariable)} {v1:(List UInt8)} {r:Int} (h:sh_slices_IndexFunc_impl_Variable_impl_Variable_impl_nameIndex_1 v0 v1 = some r):Con Tryz.prog 73 [cc4.enc v0,(cFn 74 (fun (v:(List UInt8))=>[.ptr false (cS.enc v)]) true (fun _=>(im1 rfl im0))).enc v1] [] (rs_slices_IndexFunc_impl_Variable_impl_Variable_impl_nameIndex_1 r) := by
 delta sh_slices_IndexFunc_impl_Variable_impl_Variable_impl_nameIndex_1 at h
 refine top (out := none) (f := Tryz.f73) (m := m73_74) (rs := [.t 4]) (by kernel_rfl) rfl (by kernel_rfl) (by kernel_rfl) (by kernel_rfl) (by kernel_rfl) (by kernel_rfl) ?_
 exact
  ini [q2 0 cc4 v0,q2 1 (cFn 74 (fun (v:(List UInt8))=>[.ptr false (cS.enc v)]) true (fun _=>(im1 rfl im0))) v1] rfl<|ws<|rg<|xa (sc cI (0:Int) rfl)<|sq [q2 0 cc4 v0,q2 1 (cFn 74 (fun (v:(List UInt8))=>[.ptr false (cS.enc v)]) true (fun _=>(im1 rfl im0))) v1]<|
  xn<|ws<|wpC_kp<|ws<|rg<|st rfl<|mvd rfl rfl<|stw rfl<|lens rfl fun l32=>st rfl<|mvc cI (0:Int) rfl<|sq [q2 0 cc4 v0,q2 1 (cFn 74 (fun (v:(List UInt8))=>[.ptr false (cS.enc v)]) true (fun _=>(im1 rfl im0))) v1,q2 7 cI (v0.length:Int),q2 8 cI (0:Int)]<|
  xn<|wpC_blk<|lpR (fun (k34:Nat) (s33:Unit)=>[q2 0 cc4 v0,q2 1 (cFn 74 (fun (v:(List UInt8))=>[.ptr false (cS.enc v)]) true (fun _=>(im1 rfl im0))) v1,q2 7 cI (v0.length:Int),q2 8 cI (k34:Int)]) () rfl h
  (fun G50 s33 h=>ws<|rg<|st rfl<|b_lss (k := .i64) rfl rfl<|sq [q2 0 cc4 v0,q2 1 (cFn 74 (fun (v:(List UInt8))=>[.ptr false (cS.enc v)]) true (fun _=>(im1 rfl im0))) v1,q2 7 cI (v0.length:Int),q2 8 cI (v0.length:Int),q2 9 cB (decide ((v0.length:Int) < (v0.length:Int)))]<|
  xn<|ws<|wpC_kp<|cnd0 rfl (dlf _)<|wpC_exit<|xt<|xt<|xt<|xb<|kpN [] (by kernel_rfl)<|xn<|ws<|rg<|xa (sc cI (-1:Int) rfl)<|sq [q2 4 cI (-1:Int)]<|
  xn<|wpC_ret<|re<|fin h (r1 (ss rfl rfl)<|r0) rfl)
  (fun G50 nx48 k34 s33 x35 hk36 hx37 hn49 h=>ws<|rg<|st rfl<|b_lss (k := .i64) rfl rfl<|sq [q2 0 cc4 v0,q2 1 (cFn 74 (fun (v:(List UInt8))=>[.ptr false (cS.enc v)]) true (fun _=>(im1 rfl im0))) v1,q2 7 cI (v0.length:Int),q2 8 cI (k34:Int),q2 9 cB (decide ((k34:Int) < (v0.length:Int)))]<|
  xn<|ws<|wpC_kp<|cnd1 rfl (dlt hk36)<|wpC_skip<|kpN [q2 0 cc4 v0,q2 1 (cFn 74 (fun (v:(List UInt8))=>[.ptr false (cS.enc v)]) true (fun _=>(im1 rfl im0))) v1,q2 7 cI (v0.length:Int),q2 8 cI (k34:Int)] (by kernel_rfl)<|xn<|ws<|wpC_kp<|wpC_blk<|ws<|rg<|st rfl<|mvd rfl rfl<|xa (ss rfl rfl)<|sq [q2 0 cc4 v0,q2 1 (cFn 74 (fun (v:(List UInt8))=>[.ptr false (cS.enc v)]) true (fun _=>(im1 rfl im0))) v1,q2 5 cI (k34:Int),q2 7 cI (v0.length:Int),q2 8 cI (k34:Int)]<|
  xn<|ws<|rg<|st rfl<|mvd rfl rfl<|st rfl<|mvd rfl rfl<|st rfl<|mvd rfl rfl<|st rfl<|ias rfl rfl (Int.natCast_nonneg _) hx37 rfl<|st rfl<|ldi rfl rfl rfl rfl<|bnd h fun x58 e59 h=>x_cf (cFn 74 (fun (v:(List UInt8))=>[.ptr false (cS.enc v)]) true (fun _=>(im1 rfl im0))) v1 (fad rfl rfl) k0 (m2 (tXVariable tS tK) rfl m0) rfl (con_impl_nameIndex_1 e59) (cls rfl cl0) (so1 sB so0)<|sq [q2 0 cc4 v0,q2 1 (cFn 74 (fun (v:(List UInt8))=>[.ptr false (cS.enc v)]) true (fun _=>(im1 rfl im0))) v1,q2 5 cI (k34:Int),q2 7 cI (v0.length:Int),q2 8 cI (k34:Int),q2 16 cB x58]<|
  xn<|cnd rfl h (fun b60 h=>ws<|rg<|st rfl<|mvd rfl rfl<|xa (ss rfl rfl)<|sq [q2 4 cI (k34:Int)]<|
  xn<|wpC_ret<|rb<|rt<|rt<|rt<|rb<|rt<|rt<|re<|fin h (r1 (ss rfl rfl)<|r0) rfl)
  (fun b60 h=>wpC_skip<|xbb<|kpN [q2 0 cc4 v0,q2 1 (cFn 74 (fun (v:(List UInt8))=>[.ptr false (cS.enc v)]) true (fun _=>(im1 rfl im0))) v1,q2 7 cI (v0.length:Int),q2 8 cI (k34:Int)] (by kernel_rfl)<|xn<|rg<|st rfl<|b_inc rfl rfl l32 hk36<|st rfl<|mvd rfl rfl<|sq [q2 0 cc4 v0,q2 1 (cFn 74 (fun (v:(List UInt8))=>[.ptr false (cS.enc v)]) true (fun _=>(im1 rfl im0))) v1,q2 7 cI (v0.length:Int),q2 8 cI ((k34 + 1:Nat):Int)]<|
  xn<|hn49 () h))

def rs_impl_nameIndex (r:Int):List D := [cI.enc r]
def m49:MC := .seq (.reg [q1 3 (.box (.t 1)),q1 4 (.asg (.c (.int .i64 0)))] [0,3])
 (.fzb 3 (.seq (.reg [q1 5 (.mv (.t 0)),q1 6 (.mkf 74 [(false,3)]),q1 7 (.call 73 [(.t 5),(.t 6)]),q1 4 (.asg (.t 7))] [4])
 (.ret)))
theorem con_impl_nameIndex {v0:(List XVariable)} {v1:(List UInt8)} {r:Int} (h:sh_impl_nameIndex v0 v1 = some r):Con Tryz.prog 49 [cc4.enc v0,cS.enc v1] [] (rs_impl_nameIndex r) := by
 delta sh_impl_nameIndex at h
 refine top (out := none) (f := Tryz.f49) (m := m49) (rs := [.t 4]) (by kernel_rfl) rfl (by kernel_rfl) (by kernel_rfl) (by kernel_rfl) (by kernel_rfl) (by kernel_rfl) ?_
 exact
  ini [q2 0 cc4 v0,q2 1 cS v1] rfl<|ws<|rg<|x_box (ss rfl rfl)<|xa (sc cI (0:Int) rfl)<|sq [q2 0 cc4 v0,q3 3 cS v1]<|
  xn<|fzb_s tS rfl<|ws<|rg<|st rfl<|mvd rfl rfl<|x_mkf (cFn 74 (fun (v:(List UInt8))=>[.ptr false (cS.enc v)]) true (fun _=>(im1 rfl im0))) v1 (cpi rfl cp0) rfl rfl<|bnd h fun x3 e4 h=>st rfl<|o_call (a1 (c := cc4) (tLs (tXVariable tS tK)) rfl (a1 (c := (cFn 74 (fun (v:(List UInt8))=>[.ptr false (cS.enc v)]) true (fun _=>(im1 rfl im0)))) (tFn (fun _=>(ti1 tS ti0))) rfl a0)) (con_slices_IndexFunc_impl_Variable_impl_Variable_impl_nameIndex_1 e4) (.inl (so1 sK so0))<|xa (ss rfl rfl)<|sq [q2 4 cI x3]<|
  xn<|wpC_ret<|re<|fin h (r1 (ss rfl rfl)<|r0) rfl

end AS.W
