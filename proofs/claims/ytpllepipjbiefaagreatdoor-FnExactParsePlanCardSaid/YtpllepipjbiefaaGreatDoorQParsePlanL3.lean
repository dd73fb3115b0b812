/- The program computes the plain functions. No condition. -/
import Derived.Test.YtpllepipjbiefaaGreatDoorQParsePlanS
import Derived.Test.YtpllepipjbiefaaGreatDoorProg
import Derived.Test.YtpllepipjbiefaaGreatDoorQParsePlanX
import Derived.Test.YtpllepipjbiefaaGreatDoorQParsePlanL2
set_option maxRecDepth 100000
set_option linter.unusedVariables false
set_option linter.unusedSimpArgs false
namespace AS.W
open Go Go.Proofs
def rs_impl_tableText (r:(List UInt8)):List D := [cS.enc r]
def m33:MC := .seq (.reg [q1 3 (.box (.t 1)),q1 4 (.asg (.c (.str [])))] [0,3])
 (.seq (.reg [q1 5 (.asg (.c (.str [99,111,117,110,116])))] [0,3,5])
 (.seq (.kp [0,3,5] (.seq (.reg [q1 12 (.fa 3 3 3),q1 13 (.ld 12 1 false),q1 14 (.bin .geq (.t 13) (.c (.int .i64 0)))] [0,3,5,14])
 (.cond (.t 14) (.reg [q1 15 (.mv (.t 0)),q1 16 (.fa 3 3 3),q1 17 (.ld 16 1 false),q1 18 (.ia 15 (.t 17) 2),q1 19 (.fa 18 0 0),q1 20 (.ld 19 1 false),q1 21 (.bin .add (.c (.str [115,117,109,32])) (.t 20)),q1 5 (.asg (.t 21))] [0,3,5]) (.skip))))
 (.seq (.reg [q1 22 (.mv (.t 5)),q1 23 (.fa 3 0 0),q1 24 (.ld 23 1 false),q1 25 (.call 56 [(.t 24)]),q1 26 (.bin .add (.c (.str [32,108,101,118,101,108,32])) (.t 25)),q1 27 (.bin .add (.t 22) (.t 26)),q1 5 (.asg (.t 27))] [0,3,5])
 (.seq (.kp [0,3,5] (.seq (.reg [q1 28 (.fa 3 1 1),q1 29 (.ld 28 1 false),q1 30 (.len false (.t 29)),q1 31 (.bin .gtr (.t 30) (.c (.int .i64 0)))] [0,3,5,31])
 (.cond (.t 31) (.seq (.reg [q1 6 (.asg (.c (.slice true [])))] [0,3,5,6])
 (.seq (.kp [0,3,5,6] (.seq (.reg [q1 32 (.fa 3 1 1),q1 33 (.ld 32 1 false),q1 34 (.len false (.t 33)),q1 35 (.mv (.c (.int .i64 0)))] [0,3,5,6,32,33,34,35])
 (.blk 0 (.loop (.seq (.reg [q1 36 (.bin .lss (.t 35) (.t 34))] [0,3,5,6,32,33,34,35,36])
 (.seq (.kp [0,3,5,6,32,33,34,35] (.cond (.t 36) (.skip) (.exit 0)))
 (.seq (.kp [0,3,5,6,32,33,34,35] (.blk 1 (.seq (.reg [q1 37 (.ia 33 (.t 35) 1),q1 38 (.ld 37 1 false),q1 8 (.asg (.t 38))] [0,3,5,6,8,32,33,34,35])
 (.reg [q1 39 (.mv (.t 6)),q1 40 (.mv (.t 0)),q1 41 (.mv (.t 8)),q1 42 (.ia 40 (.t 41) 2),q1 43 (.fa 42 0 0),q1 44 (.ld 43 1 false),q1 45 (.bsl [(.t 44)] 1),q1 46 (.app (.t 39) (.t 45) 1),q1 6 (.asg (.t 46))] [0,3,5,6,32,33,34,35]))))
 (.reg [q1 47 (.bin .add (.t 35) (.c (.int .i64 1))),q1 35 (.mv (.t 47))] [0,3,5,6,32,33,34,35]))))))))
 (.reg [q1 48 (.mv (.t 5)),q1 49 (.mv (.t 6)),q1 50 (.call 57 [(.t 49),(.c (.str [44]))]),q1 51 (.bin .add (.c (.str [32,98,121,32])) (.t 50)),q1 52 (.bin .add (.t 48) (.t 51)),q1 5 (.asg (.t 52))] [0,3,5]))) (.skip))))
 (.seq (.reg [q1 9 (.asg (.c (.str [32,119,104,101,114,101,32])))] [0,3,5,9])
 (.seq (.kp [5] (.seq (.reg [q1 53 (.fa 3 2 2),q1 54 (.ld 53 1 false),q1 55 (.len false (.t 54)),q1 56 (.mv (.c (.int .i64 0)))] [0,3,5,9,53,54,55,56])
 (.blk 2 (.loop (.seq (.reg [q1 57 (.bin .lss (.t 56) (.t 55))] [0,3,5,9,53,54,55,56,57])
 (.seq (.kp [0,3,5,9,53,54,55,56] (.cond (.t 57) (.skip) (.exit 2)))
 (.seq (.kp [0,3,5,9,53,54,55,56] (.blk 3 (.seq (.reg [q1 58 (.mv (.t 56)),q1 59 (.ia 54 (.t 56) 1),q1 60 (.ld 59 1 false),q1 10 (.asg (.t 58)),q1 11 (.asg (.t 60))] [0,3,5,9,10,11,53,54,55,56])
 (.seq (.reg [q1 61 (.mv (.t 11)),q1 62 (.bin .neq (.t 61) (.c (.int .i64 0)))] [0,3,5,9,10,11,53,54,55,56,62])
 (.cond (.t 62) (.seq (.drw [⟨0,q1 63 (.mv (.t 5)),[64,65,66,67,68,69,70,71,72,73,74,75]⟩,
  ⟨1,q1 64 (.mv (.t 9)),[63,65,66,67,68,69,70,71,72,73,74,75]⟩,
  ⟨2,q1 65 (.mv (.t 0)),[63,64,66,67,68,69,70,71,72,73,74,75]⟩,
  ⟨3,q1 66 (.mv (.t 10)),[63,64,65,67,68,69,70,71,72,73,74,75]⟩,
  ⟨4,q1 67 (.ia 65 (.t 66) 2),[63,64,68,69,70,71,72,73,74,75]⟩,
  ⟨5,q1 68 (.fa 67 0 0),[63,64,69,70,71,72,73,74,75]⟩,
  ⟨6,q1 69 (.ld 68 1 false),[63,64,70,71,72,73,74,75]⟩,
  ⟨7,q1 70 (.bin .add (.t 64) (.t 69)),[63,71,72,73,74,75]⟩,
  ⟨8,q1 71 (.bin .add (.t 70) (.c (.str [61]))),[63,72,73,74,75]⟩,
  ⟨9,q1 72 (.mv (.t 11)),[63,64,65,66,67,68,69,70,71,73,74,75]⟩,
  ⟨10,q1 73 (.call 58 [(.t 72)]),[63,64,65,66,67,68,69,70,71,74,75]⟩,
  ⟨11,q1 74 (.bin .add (.t 71) (.t 73)),[63,75]⟩,
  ⟨12,q1 75 (.bin .add (.t 63) (.t 74)),[]⟩]
  [(13,q1 5 (.asg (.t 75)))] [0,3,5,53,54,55,56])
 (.reg [q1 9 (.asg (.c (.str [32])))] [0,3,5,9,53,54,55,56])) (.skip))))))
 (.reg [q1 76 (.bin .add (.t 56) (.c (.int .i64 1))),q1 56 (.mv (.t 76))] [0,3,5,9,53,54,55,56]))))))))
 (.seq (.reg [q1 77 (.mv (.t 5)),q1 4 (.asg (.t 77))] [4])
 (.ret))))))))
theorem con_impl_tableText {v0:(List XVariable)} {v1:XTable} {r:(List UInt8)} (h:sh_impl_tableText v0 v1 = some r):Con Tryz.prog 33 [cc4.enc v0,cc1.enc v1] [] (rs_impl_tableText r) := by
 delta sh_impl_tableText at h
 refine top (out := none) (f := Tryz.f33) (m := m33) (rs := [.t 4]) (by kernel_rfl) rfl (by kernel_rfl) (by kernel_rfl) (by kernel_rfl) (by kernel_rfl) (by kernel_rfl) ?_
 exact
  ini [q2 0 cc4 v0,q2 1 cc1 v1] rfl<|ws<|rg<|x_box (ss rfl rfl)<|xa (sc cS ([]:List UInt8) rfl)<|sq [q2 0 cc4 v0,q3 3 cc1 v1]<|
  xn<|ws<|rg<|xa (sc cS ([99,111,117,110,116]:List UInt8) rfl)<|sq [q2 0 cc4 v0,q3 3 cc1 v1,q2 5 cS ([99,111,117,110,116]:List UInt8)]<|
  xn<|ws<|jw (fun (s6:(List UInt8))=>[q2 0 cc4 v0,q3 3 cc1 v1,q2 5 cS s6]) h (fun s6 h=>xn<|ws<|rg<|st rfl<|mvd rfl rfl<|st rfl<|fab rfl rfl rfl rfl<|st rfl<|lda rfl rfl rfl rfl rfl rfl<|bnd h fun x12 e13 h=>st rfl<|o_call (a1 (c := cI) tK rfl a0) (con_strconv_Itoa e13) (.inl (so1 sS so0))<|lnO_k h fun l14 h=>st rfl<|b_cat rfl rfl l14<|lnO_k h fun l15 h=>st rfl<|b_cat rfl rfl l15<|xa (ss rfl rfl)<|sq [q2 0 cc4 v0,q3 3 cc1 v1,q2 5 cS (s6 ++ (([32,108,101,118,101,108,32]:List UInt8) ++ x12))]<|
  xn<|ws<|jw (fun (s91:(List UInt8))=>[q2 0 cc4 v0,q3 3 cc1 v1,q2 5 cS s91]) h (fun s91 h=>xn<|ws<|rg<|xa (sc cS ([32,119,104,101,114,101,32]:List UInt8) rfl)<|sq [q2 0 cc4 v0,q3 3 cc1 v1,q2 5 cS s91,q2 9 cS ([32,119,104,101,114,101,32]:List UInt8)]<|
  xn<|ws<|wpC_kp<|ws<|rg<|st rfl<|fab rfl rfl rfl rfl<|st rfl<|lda rfl rfl rfl rfl rfl rfl<|stw rfl<|lens rfl fun l218=>st rfl<|mvc cI (0:Int) rfl<|sq [q2 0 cc4 v0,q3 3 cc1 v1,q2 5 cS s91,q2 9 cS ([32,119,104,101,114,101,32]:List UInt8),(53,.adr 3 [.fld 2]),q2 54 cc9 v1.Where,q2 55 cI (v1.Where.length:Int),q2 56 cI (0:Int)]<|
  xn<|wpC_blk<|lpR (fun (k220:Nat) (s219:((List UInt8) × (List UInt8)))=>[q2 0 cc4 v0,q3 3 cc1 v1,q2 5 cS s219.1,q2 9 cS s219.2,(53,.adr 3 [.fld 2]),q2 54 cc9 v1.Where,q2 55 cI (v1.Where.length:Int),q2 56 cI (k220:Int)]) (s91,([32,119,104,101,114,101,32]:List UInt8)) rfl h
  (fun G302 s219 h=>ws<|rg<|st rfl<|b_lss (k := .i64) rfl rfl<|sq [q2 0 cc4 v0,q3 3 cc1 v1,q2 5 cS s219.1,q2 9 cS s219.2,(53,.adr 3 [.fld 2]),q2 54 cc9 v1.Where,q2 55 cI (v1.Where.length:Int),q2 56 cI (v1.Where.length:Int),q2 57 cB (decide ((v1.Where.length:Int) < (v1.Where.length:Int)))]<|
  xn<|ws<|wpC_kp<|cnd0 rfl (dlf _)<|wpC_exit<|xt<|xt<|xt<|xb<|kpN [q2 5 cS s219.1] (by kernel_rfl)<|xn<|ws<|rg<|st rfl<|mvd rfl rfl<|xa (ss rfl rfl)<|sq [q2 4 cS s219.1]<|
  xn<|wpC_ret<|re<|fin h (r1 (ss rfl rfl)<|r0) rfl)
  (fun G302 nx300 k220 s219 x221 hk222 hx223 hn301 h=>ws<|rg<|st rfl<|b_lss (k := .i64) rfl rfl<|sq [q2 0 cc4 v0,q3 3 cc1 v1,q2 5 cS s219.1,q2 9 cS s219.2,(53,.adr 3 [.fld 2]),q2 54 cc9 v1.Where,q2 55 cI (v1.Where.length:Int),q2 56 cI (k220:Int),q2 57 cB (decide ((k220:Int) < (v1.Where.length:Int)))]<|
  xn<|ws<|wpC_kp<|cnd1 rfl (dlt hk222)<|wpC_skip<|kpN [q2 0 cc4 v0,q3 3 cc1 v1,q2 5 cS s219.1,q2 9 cS s219.2,(53,.adr 3 [.fld 2]),q2 54 cc9 v1.Where,q2 55 cI (v1.Where.length:Int),q2 56 cI (k220:Int)] (by kernel_rfl)<|xn<|ws<|wpC_kp<|wpC_blk<|ws<|rg<|st rfl<|mvd rfl rfl<|st rfl<|ias rfl rfl (Int.natCast_nonneg _) hx223 rfl<|st rfl<|ldi rfl rfl rfl rfl<|xa (ss rfl rfl)<|xa (ss rfl rfl)<|sq [q2 0 cc4 v0,q3 3 cc1 v1,q2 5 cS s219.1,q2 9 cS s219.2,q2 10 cI (k220:Int),q2 11 cI x221,(53,.adr 3 [.fld 2]),q2 54 cc9 v1.Where,q2 55 cI (v1.Where.length:Int),q2 56 cI (k220:Int)]<|
  xn<|ws<|rg<|st rfl<|mvd rfl rfl<|st rfl<|b_neq (k := .i64) rfl rfl<|sq [q2 0 cc4 v0,q3 3 cc1 v1,q2 5 cS s219.1,q2 9 cS s219.2,q2 10 cI (k220:Int),q2 11 cI x221,(53,.adr 3 [.fld 2]),q2 54 cc9 v1.Where,q2 55 cI (v1.Where.length:Int),q2 56 cI (k220:Int),q2 62 cB (decide (x221 ≠ (0:Int)))]<|
  xn<|cnd rfl h (fun b322 h=>ws<|drw_s<|pst rfl<|mvd rfl rfl ⟨rfl,pst rfl<|mvd rfl rfl ⟨rfl,pst rfl<|mvd rfl rfl ⟨rfl,pst rfl<|mvd rfl rfl ⟨rfl,getO_kp h fun x332 i333 g334 h=>pst rfl<|ias rfl rfl i333 g334 rfl ⟨rfl,pst rfl<|fai rfl rfl rfl rfl ⟨rfl,pst rfl<|ldi rfl rfl rfl rfl ⟨rfl,lnO_kp h fun l335 h=>pst rfl<|b_cat rfl rfl l335 ⟨rfl,lnO_kp h fun l336 h=>pst rfl<|b_cat rfl rfl l336 ⟨rfl,pst rfl<|mvd rfl rfl ⟨rfl,bndp h fun x337 e338 h=>pst rfl<|o_call (a1 (c := cI) tK rfl a0) (con_impl_setText e338) (.inl (so1 sS so0)) ⟨rfl,lnO_kp h fun l339 h=>pst rfl<|b_cat rfl rfl l339 ⟨rfl,lnO_kp h fun l340 h=>pst rfl<|b_cat rfl rfl l340 ⟨rfl,preN<|xa (ss rfl rfl)<|sq [q2 0 cc4 v0,q3 3 cc1 v1,q2 5 cS (s219.1 ++ (((s219.2 ++ x332.Name) ++ ([61]:List UInt8)) ++ x337)),(53,.adr 3 [.fld 2]),q2 54 cc9 v1.Where,q2 55 cI (v1.Where.length:Int),q2 56 cI (k220:Int)]<|
  xn<|rg<|xa (sc cS ([32]:List UInt8) rfl)<|sq [q2 0 cc4 v0,q3 3 cc1 v1,q2 5 cS (s219.1 ++ (((s219.2 ++ x332.Name) ++ ([61]:List UInt8)) ++ x337)),q2 9 cS ([32]:List UInt8),(53,.adr 3 [.fld 2]),q2 54 cc9 v1.Where,q2 55 cI (v1.Where.length:Int),q2 56 cI (k220:Int)]<|
  xbb<|kpN [q2 0 cc4 v0,q3 3 cc1 v1,q2 5 cS (s219.1 ++ (((s219.2 ++ x332.Name) ++ ([61]:List UInt8)) ++ x337)),q2 9 cS ([32]:List UInt8),(53,.adr 3 [.fld 2]),q2 54 cc9 v1.Where,q2 55 cI (v1.Where.length:Int),q2 56 cI (k220:Int)] (by kernel_rfl)<|xn<|rg<|st rfl<|b_inc rfl rfl l218 hk222<|st rfl<|mvd rfl rfl<|sq [q2 0 cc4 v0,q3 3 cc1 v1,q2 5 cS (s219.1 ++ (((s219.2 ++ x332.Name) ++ ([61]:List UInt8)) ++ x337)),q2 9 cS ([32]:List UInt8),(53,.adr 3 [.fld 2]),q2 54 cc9 v1.Where,q2 55 cI (v1.Where.length:Int),q2 56 cI ((k220 + 1:Nat):Int)]<|
  xn<|hn301 ((s219.1 ++ (((s219.2 ++ x332.Name) ++ ([61]:List UInt8)) ++ x337)),([32]:List UInt8)) h⟩⟩⟩⟩⟩⟩⟩⟩⟩⟩⟩⟩⟩)
  (fun b322 h=>wpC_skip<|xbb<|kpN [q2 0 cc4 v0,q3 3 cc1 v1,q2 5 cS s219.1,q2 9 cS s219.2,(53,.adr 3 [.fld 2]),q2 54 cc9 v1.Where,q2 55 cI (v1.Where.length:Int),q2 56 cI (k220:Int)] (by kernel_rfl)<|xn<|rg<|st rfl<|b_inc rfl rfl l218 hk222<|st rfl<|mvd rfl rfl<|sq [q2 0 cc4 v0,q3 3 cc1 v1,q2 5 cS s219.1,q2 9 cS s219.2,(53,.adr 3 [.fld 2]),q2 54 cc9 v1.Where,q2 55 cI (v1.Where.length:Int),q2 56 cI ((k220 + 1:Nat):Int)]<|
  xn<|hn301 (s219.1,s219.2) h)))
  fun s91' q92 h=>wpC_kp<|ws<|rg<|st rfl<|fab rfl rfl rfl rfl<|st rfl<|lda rfl rfl rfl rfl rfl rfl<|stw rfl<|lens rfl fun l342=>st rfl<|b_gtr (k := .i64) rfl rfl<|sq [q2 0 cc4 v0,q3 3 cc1 v1,q2 5 cS (s6 ++ (([32,108,101,118,101,108,32]:List UInt8) ++ x12)),q2 31 cB (decide ((0:Int) < (v1.Vars.length:Int)))]<|
  xn<|cnd rfl h (fun b343 h=>ws<|rg<|xa (sc cc12 ([]:List (List UInt8)) rfl)<|sq [q2 0 cc4 v0,q3 3 cc1 v1,q2 5 cS (s6 ++ (([32,108,101,118,101,108,32]:List UInt8) ++ x12)),q2 6 cc12 ([]:List (List UInt8))]<|
  xn<|ws<|wpC_kp<|ws<|rg<|st rfl<|fab rfl rfl rfl rfl<|st rfl<|lda rfl rfl rfl rfl rfl rfl<|stw rfl<|lens rfl fun l379=>st rfl<|mvc cI (0:Int) rfl<|sq [q2 0 cc4 v0,q3 3 cc1 v1,q2 5 cS (s6 ++ (([32,108,101,118,101,108,32]:List UInt8) ++ x12)),q2 6 cc12 ([]:List (List UInt8)),(32,.adr 3 [.fld 1]),q2 33 cc9 v1.Vars,q2 34 cI (v1.Vars.length:Int),q2 35 cI (0:Int)]<|
  xn<|wpC_blk<|lpR (fun (k381:Nat) (s380:(List (List UInt8)))=>[q2 0 cc4 v0,q3 3 cc1 v1,q2 5 cS (s6 ++ (([32,108,101,118,101,108,32]:List UInt8) ++ x12)),q2 6 cc12 s380,(32,.adr 3 [.fld 1]),q2 33 cc9 v1.Vars,q2 34 cI (v1.Vars.length:Int),q2 35 cI (k381:Int)]) ([]:List (List UInt8)) rfl h
  (fun G403 s380 h=>ws<|rg<|st rfl<|b_lss (k := .i64) rfl rfl<|sq [q2 0 cc4 v0,q3 3 cc1 v1,q2 5 cS (s6 ++ (([32,108,101,118,101,108,32]:List UInt8) ++ x12)),q2 6 cc12 s380,(32,.adr 3 [.fld 1]),q2 33 cc9 v1.Vars,q2 34 cI (v1.Vars.length:Int),q2 35 cI (v1.Vars.length:Int),q2 36 cB (decide ((v1.Vars.length:Int) < (v1.Vars.length:Int)))]<|
  xn<|ws<|wpC_kp<|cnd0 rfl (dlf _)<|wpC_exit<|xt<|xt<|xt<|xb<|kpN [q2 0 cc4 v0,q3 3 cc1 v1,q2 5 cS (s6 ++ (([32,108,101,118,101,108,32]:List UInt8) ++ x12)),q2 6 cc12 s380] (by kernel_rfl)<|xn<|rg<|st rfl<|mvd rfl rfl<|st rfl<|mvo rfl rfl<|bnd h fun x404 e405 h=>st rfl<|o_call (a1 (c := cc12) (tLo tS) rfl (a1 (c := cS) tS rfl a0)) (con_strings_Join e405) (.inl (so1 sS so0))<|lnO_k h fun l406 h=>st rfl<|b_cat rfl rfl l406<|lnO_k h fun l407 h=>st rfl<|b_cat rfl rfl l407<|xa (ss rfl rfl)<|sq [q2 0 cc4 v0,q3 3 cc1 v1,q2 5 cS ((s6 ++ (([32,108,101,118,101,108,32]:List UInt8) ++ x12)) ++ (([32,98,121,32]:List UInt8) ++ x404))]<|
  kpN [q2 0 cc4 v0,q3 3 cc1 v1,q2 5 cS ((s6 ++ (([32,108,101,118,101,108,32]:List UInt8) ++ x12)) ++ (([32,98,121,32]:List UInt8) ++ x404))] (by kernel_rfl)<|lfn (S := (fun (s91:(List UInt8))=>[q2 0 cc4 v0,q3 3 cc1 v1,q2 5 cS s91])) h q92 rfl)
  (fun G403 nx401 k381 s380 x382 hk383 hx384 hn402 h=>ws<|rg<|st rfl<|b_lss (k := .i64) rfl rfl<|sq [q2 0 cc4 v0,q3 3 cc1 v1,q2 5 cS (s6 ++ (([32,108,101,118,101,108,32]:List UInt8) ++ x12)),q2 6 cc12 s380,(32,.adr 3 [.fld 1]),q2 33 cc9 v1.Vars,q2 34 cI (v1.Vars.length:Int),q2 35 cI (k381:Int),q2 36 cB (decide ((k381:Int) < (v1.Vars.length:Int)))]<|
  xn<|ws<|wpC_kp<|cnd1 rfl (dlt hk383)<|wpC_skip<|kpN [q2 0 cc4 v0,q3 3 cc1 v1,q2 5 cS (s6 ++ (([32,108,101,118,101,108,32]:List UInt8) ++ x12)),q2 6 cc12 s380,(32,.adr 3 [.fld 1]),q2 33 cc9 v1.Vars,q2 34 cI (v1.Vars.length:Int),q2 35 cI (k381:Int)] (by kernel_rfl)<|xn<|ws<|wpC_kp<|wpC_blk<|ws<|rg<|st rfl<|ias rfl rfl (Int.natCast_nonneg _) hx384 rfl<|st rfl<|ldi rfl rfl rfl rfl<|xa (ss rfl rfl)<|sq [q2 0 cc4 v0,q3 3 cc1 v1,q2 5 cS (s6 ++ (([32,108,101,118,101,108,32]:List UInt8) ++ x12)),q2 6 cc12 s380,q2 8 cI x382,(32,.adr 3 [.fld 1]),q2 33 cc9 v1.Vars,q2 34 cI (v1.Vars.length:Int),q2 35 cI (k381:Int)]<|
  xn<|rg<|st rfl<|mvo rfl rfl<|st rfl<|mvd rfl rfl<|st rfl<|mvd rfl rfl<|getO_k h fun x412 i413 g414 h=>st rfl<|ias rfl rfl i413 g414 rfl<|st rfl<|fai rfl rfl rfl rfl<|st rfl<|ldi rfl rfl rfl rfl<|x_bsl cS [x412.Name] (t1 (ss rfl rfl) rfl t0) rfl rfl<|lnO_k h fun l415 h=>x_app (sr rfl rfl) (tow rfl rfl) l415 rfl<|xa (so rfl rfl)<|sq [q2 0 cc4 v0,q3 3 cc1 v1,q2 5 cS (s6 ++ (([32,108,101,118,101,108,32]:List UInt8) ++ x12)),q2 6 cc12 (s380 ++ [x412.Name]),(32,.adr 3 [.fld 1]),q2 33 cc9 v1.Vars,q2 34 cI (v1.Vars.length:Int),q2 35 cI (k381:Int)]<|
  xbb<|kpN [q2 0 cc4 v0,q3 3 cc1 v1,q2 5 cS (s6 ++ (([32,108,101,118,101,108,32]:List UInt8) ++ x12)),q2 6 cc12 (s380 ++ [x412.Name]),(32,.adr 3 [.fld 1]),q2 33 cc9 v1.Vars,q2 34 cI (v1.Vars.length:Int),q2 35 cI (k381:Int)] (by kernel_rfl)<|xn<|rg<|st rfl<|b_inc rfl rfl l379 hk383<|st rfl<|mvd rfl rfl<|sq [q2 0 cc4 v0,q3 3 cc1 v1,q2 5 cS (s6 ++ (([32,108,101,118,101,108,32]:List UInt8) ++ x12)),q2 6 cc12 (s380 ++ [x412.Name]),(32,.adr 3 [.fld 1]),q2 33 cc9 v1.Vars,q2 34 cI (v1.Vars.length:Int),q2 35 cI ((k381 + 1:Nat):Int)]<|
  xn<|hn402 (s380 ++ [x412.Name]) h))
  (fun b343 h=>wpC_skip<|kpN [q2 0 cc4 v0,q3 3 cc1 v1,q2 5 cS (s6 ++ (([32,108,101,118,101,108,32]:List UInt8) ++ x12))] (by kernel_rfl)<|lfn (S := (fun (s91:(List UInt8))=>[q2 0 cc4 v0,q3 3 cc1 v1,q2 5 cS s91])) h q92 rfl))
  fun s6' q7 h=>wpC_kp<|ws<|rg<|st rfl<|fab rfl rfl rfl rfl<|st rfl<|lda rfl rfl rfl rfl rfl rfl<|st rfl<|b_geq (k := .i64) rfl rfl<|sq [q2 0 cc4 v0,q3 3 cc1 v1,q2 5 cS ([99,111,117,110,116]:List UInt8),q2 14 cB (decide ((0:Int) ≤ v1.Sum))]<|
  xn<|cnd rfl h (fun b416 h=>rg<|st rfl<|mvd rfl rfl<|st rfl<|fab rfl rfl rfl rfl<|st rfl<|lda rfl rfl rfl rfl rfl rfl<|getO_k h fun x417 i418 g419 h=>st rfl<|ias rfl rfl i418 g419 rfl<|st rfl<|fai rfl rfl rfl rfl<|st rfl<|ldi rfl rfl rfl rfl<|lnO_k h fun l420 h=>st rfl<|b_cat rfl rfl l420<|xa (ss rfl rfl)<|sq [q2 0 cc4 v0,q3 3 cc1 v1,q2 5 cS (([115,117,109,32]:List UInt8) ++ x417.Name)]<|
  kpN [q2 0 cc4 v0,q3 3 cc1 v1,q2 5 cS (([115,117,109,32]:List UInt8) ++ x417.Name)] (by kernel_rfl)<|lfn (S := (fun (s6:(List UInt8))=>[q2 0 cc4 v0,q3 3 cc1 v1,q2 5 cS s6])) h q7 rfl)
  (fun b416 h=>wpC_skip<|kpN [q2 0 cc4 v0,q3 3 cc1 v1,q2 5 cS ([99,111,117,110,116]:List UInt8)] (by kernel_rfl)<|lfn (S := (fun (s6:(List UInt8))=>[q2 0 cc4 v0,q3 3 cc1 v1,q2 5 cS s6])) h q7 rfl)

def rs_impl_ParseTable (r:(XTable × Bool)):List D := [cc3.enc r.1,cB.enc r.2]
def m10:MC := .seq (.reg [q1 3 (.box (.t 0)),q1 6 (.alloc (.agg [.int .i64 0,.slice true [],.slice true [],.int .i64 0])),q1 7 (.asg (.c (.bool false)))] [1,2,3,6])
 (.seq (.kp [1,2,3,6] (.seq (.reg [q1 10 (.ld 3 1 true),q1 11 (.call 29 [(.t 10)]),q1 12 (.nt (.t 11)),q1 13 (.mv (.t 12)),
  ⟨some 14,.mv (.t 1),some (13,false)⟩,
  ⟨some 15,.call 30 [(.t 14)],some (13,false)⟩,
  ⟨some 16,.nt (.t 15),some (13,false)⟩,q1 17 (.pick (.t 13) (.c (.bool true)) (.t 16))] [1,2,3,6,17])
 (.cond (.t 17) (.seq (.reg [q1 18 (.bld [.int .i64 0,.slice true [],.slice true [],.int .i64 0] []),q0 (.st 6 (.t 18) 4),q1 7 (.asg (.c (.bool false)))] [6,7])
 (.ret)) (.skip))))
 (.seq (.reg [q1 20 (.mv (.t 1)),q1 21 (.mv (.t 2)),q1 22 (.call 31 [(.t 20),(.t 21)]),q1 19 (.mvt 22),q1 23 (.ext 19 0),q1 24 (.ext 19 1),q1 8 (.alloc (.agg [.int .i64 0,.slice true [],.slice true [],.int .i64 0])),q0 (.st 8 (.t 23) 4),q1 9 (.asg (.t 24))] [1,2,3,6,8,9])
 (.seq (.kp [6,8] (.seq (.reg [q1 25 (.mv (.t 9)),q1 26 (.nt (.t 25)),q1 27 (.mv (.t 26)),
  ⟨some 28,.ld 3 1 true,some (27,false)⟩,
  ⟨some 29,.mv (.t 1),some (27,false)⟩,
  ⟨some 30,.ld 8 4 true,some (27,false)⟩,
  ⟨some 31,.call 32 [(.t 28),(.t 29),(.t 30)],some (27,false)⟩,
  ⟨some 32,.nt (.t 31),some (27,false)⟩,q1 33 (.pick (.t 27) (.c (.bool true)) (.t 32)),q1 34 (.mv (.t 33)),
  ⟨some 35,.mv (.t 1),some (34,false)⟩,
  ⟨some 36,.ld 8 4 true,some (34,false)⟩,
  ⟨some 37,.call 33 [(.t 35),(.t 36)],some (34,false)⟩,
  ⟨some 38,.mv (.t 2),some (34,false)⟩,
  ⟨some 39,.bin .neq (.t 37) (.t 38),some (34,false)⟩,q1 40 (.pick (.t 34) (.c (.bool true)) (.t 39))] [6,8,40])
 (.cond (.t 40) (.seq (.reg [q1 41 (.bld [.int .i64 0,.slice true [],.slice true [],.int .i64 0] []),q0 (.st 6 (.t 41) 4),q1 7 (.asg (.c (.bool false)))] [6,7])
 (.ret)) (.skip))))
 (.seq (.reg [q1 42 (.ld 8 4 true),q0 (.st 6 (.t 42) 4),q1 7 (.asg (.c (.bool true)))] [6,7])
 (.ret)))))
theorem con_impl_ParseTable {v0:XGeo} {v1:(List XVariable)} {v2:(List UInt8)} {r:(XTable × Bool)} (h:sh_impl_ParseTable v0 v1 v2 = some r):Con Tryz.prog 10 [cc6.enc v0,cc4.enc v1,cS.enc v2] [] (rs_impl_ParseTable r) := by
 delta sh_impl_ParseTable at h
 refine top (out := none) (f := Tryz.f10) (m := m10) (rs := [.c 6 4 true,.t 7]) (by kernel_rfl) rfl (by kernel_rfl) (by kernel_rfl) (by kernel_rfl) (by kernel_rfl) (by kernel_rfl) ?_
 exact
  ini [q2 0 cc6 v0,q2 1 cc4 v1,q2 2 cS v2] rfl<|ws<|rg<|x_box (ss rfl rfl)<|x_all cc3 (⟨(0:Int),([]:List Int),([]:List Int),(0:Int)⟩:XTable) rfl<|xa (sc cB false rfl)<|sq [q2 1 cc4 v1,q2 2 cS v2,q3 3 cc6 v0,q3 6 cc3 (⟨(0:Int),([]:List Int),([]:List Int),(0:Int)⟩:XTable)]<|
  xn<|ws<|wpC_kp<|ws<|rg<|st rfl<|ldb rfl rfl rfl rfl<|bnd h fun x17 e18 h=>st rfl<|o_call (a1 (c := cc6) (tXGeo (tLs tK)) rfl a0) (con_impl_IsGeo e18) (.inl (so1 sB so0))<|st rfl<|o_nt rfl<|st rfl<|mvd rfl rfl<|ite_k h (fun b19 h=>gf rfl b19<|gf rfl b19<|gf rfl b19<|st rfl<|pick1 rfl b19 (cd := cB) (v := true) rfl rfl<|sq [q2 1 cc4 v1,q2 2 cS v2,q3 3 cc6 v0,q3 6 cc3 (⟨(0:Int),([]:List Int),([]:List Int),(0:Int)⟩:XTable),q2 17 cB true]<|
  xn<|cnd1 rfl rfl<|ws<|rg<|x_bld (cc3.enc (⟨(0:Int),([]:List Int),([]:List Int),(0:Int)⟩:XTable)) t0 rfl rfl<|x_stb (so rfl rfl) rfl (Cd.h_sz _ _) rfl<|xa (sc cB false rfl)<|sq [q3 6 cc3 (⟨(0:Int),([]:List Int),([]:List Int),(0:Int)⟩:XTable),q2 7 cB false]<|
  xn<|wpC_ret<|rt<|rt<|re<|fin h (r2 rfl rfl rfl<|r1 (ss rfl rfl)<|r0) rfl)
  (fun b19 h=>gt' rfl b19<|st rfl<|mvd rfl rfl<|gt' rfl b19<|bnd h fun x20 e21 h=>st rfl<|o_call (a1 (c := cc4) (tLs (tXVariable tS tK)) rfl a0) (con_impl_IsSchema e21) (.inl (so1 sB so0))<|gt' rfl b19<|st rfl<|o_nt rfl<|st rfl<|pick0 rfl b19 (cd := cB) (v := (!x20)) rfl rfl<|sq [q2 1 cc4 v1,q2 2 cS v2,q3 3 cc6 v0,q3 6 cc3 (⟨(0:Int),([]:List Int),([]:List Int),(0:Int)⟩:XTable),q2 17 cB (!x20)]<|
  xn<|cnd rfl h (fun b22 h=>ws<|rg<|x_bld (cc3.enc (⟨(0:Int),([]:List Int),([]:List Int),(0:Int)⟩:XTable)) t0 rfl rfl<|x_stb (so rfl rfl) rfl (Cd.h_sz _ _) rfl<|xa (sc cB false rfl)<|sq [q3 6 cc3 (⟨(0:Int),([]:List Int),([]:List Int),(0:Int)⟩:XTable),q2 7 cB false]<|
  xn<|wpC_ret<|rt<|rt<|re<|fin h (r2 rfl rfl rfl<|r1 (ss rfl rfl)<|r0) rfl)
  (fun b22 h=>wpC_skip<|kpN [q2 1 cc4 v1,q2 2 cS v2,q3 3 cc6 v0,q3 6 cc3 (⟨(0:Int),([]:List Int),([]:List Int),(0:Int)⟩:XTable)] (by kernel_rfl)<|xn<|ws<|rg<|st rfl<|mvd rfl rfl<|st rfl<|mvd rfl rfl<|bnd h fun x25 e26 h=>st rfl<|o_call (a1 (c := cc4) (tLs (tXVariable tS tK)) rfl (a1 (c := cS) tS rfl a0)) (con_impl_parseTable e26) (.inl (so1 (sXTable sK (sLo sK) (sLo sK) sK) (so1 sB so0)))<|x_mvt rfl<|x_ext rfl rfl<|x_ext rfl rfl<|x_all cc3 (⟨(0:Int),([]:List Int),([]:List Int),(0:Int)⟩:XTable) rfl<|x_stb (so rfl rfl) rfl (Cd.h_sz _ _) rfl<|xa (ss rfl rfl)<|sq [q2 1 cc4 v1,q2 2 cS v2,q3 3 cc6 v0,q3 6 cc3 (⟨(0:Int),([]:List Int),([]:List Int),(0:Int)⟩:XTable),q3 8 cc3 x25.1,q2 9 cB x25.2]<|
  xn<|ws<|wpC_kp<|ws<|rg<|st rfl<|mvd rfl rfl<|st rfl<|o_nt rfl<|st rfl<|mvd rfl rfl<|ite_k h (fun b46 h=>gf rfl b46<|gf rfl b46<|gf rfl b46<|gf rfl b46<|gf rfl b46<|st rfl<|pick1 rfl b46 (cd := cB) (v := true) rfl rfl<|st rfl<|mvd rfl rfl<|gf rfl rfl<|gf rfl rfl<|gf rfl rfl<|gf rfl rfl<|gf rfl rfl<|st rfl<|pick1 rfl rfl (cd := cB) (v := true) rfl rfl<|sq [q3 6 cc3 (⟨(0:Int),([]:List Int),([]:List Int),(0:Int)⟩:XTable),q3 8 cc3 x25.1,q2 40 cB true]<|
  xn<|cnd1 rfl rfl<|ws<|rg<|x_bld (cc3.enc (⟨(0:Int),([]:List Int),([]:List Int),(0:Int)⟩:XTable)) t0 rfl rfl<|x_stb (so rfl rfl) rfl (Cd.h_sz _ _) rfl<|xa (sc cB false rfl)<|sq [q3 6 cc3 (⟨(0:Int),([]:List Int),([]:List Int),(0:Int)⟩:XTable),q2 7 cB false]<|
  xn<|wpC_ret<|rt<|rt<|re<|fin h (r2 rfl rfl rfl<|r1 (ss rfl rfl)<|r0) rfl)
  (fun b46 h=>gt' rfl b46<|st rfl<|ldb rfl rfl rfl rfl<|gt' rfl b46<|st rfl<|mvd rfl rfl<|gt' rfl b46<|st rfl<|ldbo rfl rfl rfl rfl<|gt' rfl b46<|bnd h fun x47 e48 h=>st rfl<|o_call (a1 (c := cc6) (tXGeo (tLs tK)) rfl (a1 (c := cc4) (tLs (tXVariable tS tK)) rfl (a1 (c := cc3) (tXTable tK (tLo tK) (tLo tK) tK) rfl a0))) (con_impl_isTable e48) (.inl (so1 sB so0))<|gt' rfl b46<|st rfl<|o_nt rfl<|st rfl<|pick0 rfl b46 (cd := cB) (v := (!x47)) rfl rfl<|st rfl<|mvd rfl rfl<|ite_k h (fun b49 h=>gf rfl b49<|gf rfl b49<|gf rfl b49<|gf rfl b49<|gf rfl b49<|st rfl<|pick1 rfl b49 (cd := cB) (v := true) rfl rfl<|sq [q3 6 cc3 (⟨(0:Int),([]:List Int),([]:List Int),(0:Int)⟩:XTable),q3 8 cc3 x25.1,q2 40 cB true]<|
  xn<|cnd1 rfl rfl<|ws<|rg<|x_bld (cc3.enc (⟨(0:Int),([]:List Int),([]:List Int),(0:Int)⟩:XTable)) t0 rfl rfl<|x_stb (so rfl rfl) rfl (Cd.h_sz _ _) rfl<|xa (sc cB false rfl)<|sq [q3 6 cc3 (⟨(0:Int),([]:List Int),([]:List Int),(0:Int)⟩:XTable),q2 7 cB false]<|
  xn<|wpC_ret<|rt<|rt<|re<|fin h (r2 rfl rfl rfl<|r1 (ss rfl rfl)<|r0) rfl)
  (fun b49 h=>gt' rfl b49<|st rfl<|mvd rfl rfl<|gt' rfl b49<|st rfl<|ldbo rfl rfl rfl rfl<|gt' rfl b49<|bnd h fun x50 e51 h=>st rfl<|o_call (a1 (c := cc4) (tLs (tXVariable tS tK)) rfl (a1 (c := cc3) (tXTable tK (tLo tK) (tLo tK) tK) rfl a0)) (con_impl_tableText e51) (.inl (so1 sS so0))<|gt' rfl b49<|st rfl<|mvd rfl rfl<|gt' rfl b49<|st rfl<|b_sne rfl rfl<|st rfl<|pick0 rfl b49 (cd := cB) (v := (decide (x50 ≠ v2))) rfl rfl<|sq [q3 6 cc3 (⟨(0:Int),([]:List Int),([]:List Int),(0:Int)⟩:XTable),q3 8 cc3 x25.1,q2 40 cB (decide (x50 ≠ v2))]<|
  xn<|cnd rfl h (fun b52 h=>ws<|rg<|x_bld (cc3.enc (⟨(0:Int),([]:List Int),([]:List Int),(0:Int)⟩:XTable)) t0 rfl rfl<|x_stb (so rfl rfl) rfl (Cd.h_sz _ _) rfl<|xa (sc cB false rfl)<|sq [q3 6 cc3 (⟨(0:Int),([]:List Int),([]:List Int),(0:Int)⟩:XTable),q2 7 cB false]<|
  xn<|wpC_ret<|rt<|rt<|re<|fin h (r2 rfl rfl rfl<|r1 (ss rfl rfl)<|r0) rfl)
  (fun b52 h=>wpC_skip<|kpN [q3 6 cc3 (⟨(0:Int),([]:List Int),([]:List Int),(0:Int)⟩:XTable),q3 8 cc3 x25.1] (by kernel_rfl)<|xn<|ws<|rg<|st rfl<|ldbo rfl rfl rfl rfl<|x_stb (sb rfl rfl) rfl (Cd.h_sz _ _) rfl<|xa (sc cB true rfl)<|sq [q3 6 cc3 x25.1,q2 7 cB true]<|
  xn<|wpC_ret<|re<|fin h (r2 rfl rfl rfl<|r1 (ss rfl rfl)<|r0) rfl)))))

def rs_laws_eqIntS (r:Bool):List D := [cB.enc r]
def m34:MC := .seq (.reg [q1 4 (.asg (.c (.bool false)))] [0,1])
 (.seq (.kp [0,1] (.seq (.reg [q1 6 (.mv (.t 0)),q1 7 (.len false (.t 6)),q1 8 (.mv (.t 1)),q1 9 (.len false (.t 8)),q1 10 (.bin .neq (.t 7) (.t 9))] [0,1,10])
 (.cond (.t 10) (.seq (.reg [q1 4 (.asg (.c (.bool false)))] [4])
 (.ret)) (.skip))))
 (.seq (.kp [] (.seq (.reg [q1 5 (.asg (.c (.int .i64 0)))] [0,1,5])
 (.blk 0 (.loop (.seq (.kp [0,1,5] (.seq (.reg [q1 11 (.mv (.t 5)),q1 12 (.mv (.t 0)),q1 13 (.len false (.t 12)),q1 14 (.bin .lss (.t 11) (.t 13))] [0,1,5,14])
 (.cond (.t 14) (.skip) (.exit 0))))
 (.seq (.kp [0,1,5] (.blk 1 (.seq (.drw [⟨0,q1 17 (.mv (.t 0)),[18,19,20,21,22,23,24,25]⟩,
  ⟨1,q1 18 (.mv (.t 5)),[17,19,20,21,22,23,24,25]⟩,
  ⟨2,q1 19 (.ia 17 (.t 18) 1),[20,21,22,23,24,25]⟩,
  ⟨3,q1 20 (.ld 19 1 false),[21,22,23,24,25]⟩,
  ⟨4,q1 21 (.mv (.t 1)),[17,18,19,20,22,23,24,25]⟩,
  ⟨5,q1 22 (.mv (.t 5)),[17,18,19,20,21,23,24,25]⟩,
  ⟨6,q1 23 (.ia 21 (.t 22) 1),[17,18,19,20,24,25]⟩,
  ⟨7,q1 24 (.ld 23 1 false),[17,18,19,20,25]⟩,
  ⟨8,q1 25 (.bin .neq (.t 20) (.t 24)),[]⟩]
  [] [0,1,5,25])
 (.cond (.t 25) (.seq (.reg [q1 4 (.asg (.c (.bool false)))] [4])
 (.ret)) (.skip)))))
 (.reg [q1 15 (.mv (.t 5)),q1 16 (.bin .add (.t 15) (.c (.int .i64 1))),q1 5 (.asg (.t 16))] [0,1,5])))))))
 (.seq (.reg [q1 4 (.asg (.c (.bool true)))] [4])
 (.ret))))
theorem con_laws_eqIntS {v0:(List Int)} {v1:(List Int)} {r:Bool} (h:sh_laws_eqIntS v0 v1 = some r):Con Tryz.prog 34 [cc9.enc v0,cc9.enc v1] [] (rs_laws_eqIntS r) := by
 delta sh_laws_eqIntS at h
 refine top (out := none) (f := Tryz.f34) (m := m34) (rs := [.t 4]) (by kernel_rfl) rfl (by kernel_rfl) (by kernel_rfl) (by kernel_rfl) (by kernel_rfl) (by kernel_rfl) ?_
 exact
  ini [q2 0 cc9 v0,q2 1 cc9 v1] rfl<|ws<|rg<|xa (sc cB false rfl)<|sq [q2 0 cc9 v0,q2 1 cc9 v1]<|
  xn<|ws<|wpC_kp<|ws<|rg<|st rfl<|mvd rfl rfl<|stw rfl<|lens rfl fun l8=>st rfl<|mvd rfl rfl<|stw rfl<|lens rfl fun l9=>st rfl<|b_neq (k := .i64) rfl rfl<|sq [q2 0 cc9 v0,q2 1 cc9 v1,q2 10 cB (decide ((v0.length:Int) ≠ (v1.length:Int)))]<|
  xn<|cnd rfl h (fun b10 h=>ws<|rg<|xa (sc cB false rfl)<|sq [q2 4 cB false]<|
  xn<|wpC_ret<|rt<|rt<|re<|fin h (r1 (ss rfl rfl)<|r0) rfl)
  (fun b10 h=>wpC_skip<|kpN [q2 0 cc9 v0,q2 1 cc9 v1] (by kernel_rfl)<|xn<|ws<|wpC_kp<|ws<|rg<|xa (sc cI (0:Int) rfl)<|sq [q2 0 cc9 v0,q2 1 cc9 v1,q2 5 cI (0:Int)]<|
  xn<|wpC_blk<|lpF (fun (s118:Int)=>[q2 0 cc9 v0,q2 1 cc9 v1,q2 5 cI s118]) (0:Int) rfl h
  fun G191 nx189 s118 hn190 h=>ws<|wpC_kp<|ws<|rg<|st rfl<|mvd rfl rfl<|st rfl<|mvd rfl rfl<|stw rfl<|lens rfl fun l196=>st rfl<|b_lss (k := .i64) rfl rfl<|sq [q2 0 cc9 v0,q2 1 cc9 v1,q2 5 cI s118,q2 14 cB (decide (s118 < (v0.length:Int)))]<|
  xn<|cnd rfl h (fun b197 h=>wpC_skip<|kpN [q2 0 cc9 v0,q2 1 cc9 v1,q2 5 cI s118] (by kernel_rfl)<|xn<|ws<|wpC_kp<|wpC_blk<|ws<|drw_s<|pst rfl<|mvd rfl rfl ⟨rfl,pst rfl<|mvd rfl rfl ⟨rfl,getO_kp h fun x217 i218 g219 h=>pst rfl<|ias rfl rfl i218 g219 rfl ⟨rfl,pst rfl<|ldi rfl rfl rfl rfl ⟨rfl,pst rfl<|mvd rfl rfl ⟨rfl,pst rfl<|mvd rfl rfl ⟨rfl,getO_kp h fun x220 i221 g222 h=>pst rfl<|ias rfl rfl i221 g222 rfl ⟨rfl,pst rfl<|ldi rfl rfl rfl rfl ⟨rfl,pst rfl<|b_neq (k := .i64) rfl rfl ⟨rfl,preN<|sq [q2 0 cc9 v0,q2 1 cc9 v1,q2 5 cI s118,q2 25 cB (decide (x217 ≠ x220))]<|
  xn<|cnd rfl h (fun b223 h=>ws<|rg<|xa (sc cB false rfl)<|sq [q2 4 cB false]<|
  xn<|wpC_ret<|rb<|rt<|rt<|rt<|rb<|rt<|rt<|re<|fin h (r1 (ss rfl rfl)<|r0) rfl)
  (fun b223 h=>wpC_skip<|xbb<|kpN [q2 0 cc9 v0,q2 1 cc9 v1,q2 5 cI s118] (by kernel_rfl)<|xn<|rg<|st rfl<|mvd rfl rfl<|ckI_k h fun i224 h=>st rfl<|b_add (k := .i64) rfl rfl i224<|xa (ss rfl rfl)<|sq [q2 0 cc9 v0,q2 1 cc9 v1,q2 5 cI (s118 + (1:Int))]<|
  xn<|hn190 (s118 + (1:Int)) h)⟩⟩⟩⟩⟩⟩⟩⟩⟩)
  (fun b197 h=>wpC_exit<|xt<|xt<|xt<|xb<|kpN [] (by kernel_rfl)<|xn<|ws<|rg<|xa (sc cB true rfl)<|sq [q2 4 cB true]<|
  xn<|wpC_ret<|re<|fin h (r1 (ss rfl rfl)<|r0) rfl))

def rs_laws_eqTable (r:Bool):List D := [cB.enc r]
def m11:MC := .seq (.reg [q1 2 (.box (.t 0)),q1 3 (.box (.t 1)),q1 4 (.asg (.c (.bool false)))] [2,3])
 (.seq (.kp [2,3] (.seq (.reg [q1 5 (.fa 2 0 0),q1 6 (.ld 5 1 false),q1 7 (.fa 3 0 0),q1 8 (.ld 7 1 false),q1 9 (.bin .neq (.t 6) (.t 8))] [2,3,9])
 (.cond (.t 9) (.seq (.reg [q1 4 (.asg (.c (.bool false)))] [4])
 (.ret)) (.skip))))
 (.seq (.kp [2,3] (.seq (.reg [q1 10 (.fa 2 1 1),q1 11 (.ld 10 1 false),q1 12 (.fa 3 1 1),q1 13 (.ld 12 1 false),q1 14 (.call 34 [(.t 11),(.t 13)]),q1 15 (.nt (.t 14))] [2,3,15])
 (.cond (.t 15) (.seq (.reg [q1 4 (.asg (.c (.bool false)))] [4])
 (.ret)) (.skip))))
 (.seq (.kp [2,3] (.seq (.reg [q1 16 (.fa 2 2 2),q1 17 (.ld 16 1 false),q1 18 (.fa 3 2 2),q1 19 (.ld 18 1 false),q1 20 (.call 34 [(.t 17),(.t 19)]),q1 21 (.nt (.t 20))] [2,3,21])
 (.cond (.t 21) (.seq (.reg [q1 4 (.asg (.c (.bool false)))] [4])
 (.ret)) (.skip))))
 (.seq (.kp [] (.seq (.reg [q1 22 (.fa 2 3 3),q1 23 (.ld 22 1 false),q1 24 (.fa 3 3 3),q1 25 (.ld 24 1 false),q1 26 (.bin .neq (.t 23) (.t 25))] [26])
 (.cond (.t 26) (.seq (.reg [q1 4 (.asg (.c (.bool false)))] [4])
 (.ret)) (.skip))))
 (.seq (.reg [q1 4 (.asg (.c (.bool true)))] [4])
 (.ret))))))
theorem con_laws_eqTable {v0:XTable} {v1:XTable} {r:Bool} (h:sh_laws_eqTable v0 v1 = some r):Con Tryz.prog 11 [cc1.enc v0,cc1.enc v1] [] (rs_laws_eqTable r) := by
 delta sh_laws_eqTable at h
 refine top (out := none) (f := Tryz.f11) (m := m11) (rs := [.t 4]) (by kernel_rfl) rfl (by kernel_rfl) (by kernel_rfl) (by kernel_rfl) (by kernel_rfl) (by kernel_rfl) ?_
 exact
  ini [q2 0 cc1 v0,q2 1 cc1 v1] rfl<|ws<|rg<|x_box (ss rfl rfl)<|x_box (ss rfl rfl)<|xa (sc cB false rfl)<|sq [q3 2 cc1 v0,q3 3 cc1 v1]<|
  xn<|ws<|wpC_kp<|ws<|rg<|st rfl<|fab rfl rfl rfl rfl<|st rfl<|lda rfl rfl rfl rfl rfl rfl<|st rfl<|fab rfl rfl rfl rfl<|st rfl<|lda rfl rfl rfl rfl rfl rfl<|st rfl<|b_neq (k := .i64) rfl rfl<|sq [q3 2 cc1 v0,q3 3 cc1 v1,q2 9 cB (decide (v0.Level ≠ v1.Level))]<|
  xn<|cnd rfl h (fun b2 h=>ws<|rg<|xa (sc cB false rfl)<|sq [q2 4 cB false]<|
  xn<|wpC_ret<|rt<|rt<|re<|fin h (r1 (ss rfl rfl)<|r0) rfl)
  (fun b2 h=>wpC_skip<|kpN [q3 2 cc1 v0,q3 3 cc1 v1] (by kernel_rfl)<|xn<|ws<|wpC_kp<|ws<|rg<|st rfl<|fab rfl rfl rfl rfl<|st rfl<|lda rfl rfl rfl rfl rfl rfl<|st rfl<|fab rfl rfl rfl rfl<|st rfl<|lda rfl rfl rfl rfl rfl rfl<|bnd h fun x10 e11 h=>st rfl<|o_call (a1 (c := cc9) (tLs tK) rfl (a1 (c := cc9) (tLs tK) rfl a0)) (con_laws_eqIntS e11) (.inl (so1 sB so0))<|st rfl<|o_nt rfl<|sq [q3 2 cc1 v0,q3 3 cc1 v1,q2 15 cB (!x10)]<|
  xn<|cnd rfl h (fun b12 h=>ws<|rg<|xa (sc cB false rfl)<|sq [q2 4 cB false]<|
  xn<|wpC_ret<|rt<|rt<|re<|fin h (r1 (ss rfl rfl)<|r0) rfl)
  (fun b12 h=>wpC_skip<|kpN [q3 2 cc1 v0,q3 3 cc1 v1] (by kernel_rfl)<|xn<|ws<|wpC_kp<|ws<|rg<|st rfl<|fab rfl rfl rfl rfl<|st rfl<|lda rfl rfl rfl rfl rfl rfl<|st rfl<|fab rfl rfl rfl rfl<|st rfl<|lda rfl rfl rfl rfl rfl rfl<|bnd h fun x20 e21 h=>st rfl<|o_call (a1 (c := cc9) (tLs tK) rfl (a1 (c := cc9) (tLs tK) rfl a0)) (con_laws_eqIntS e21) (.inl (so1 sB so0))<|st rfl<|o_nt rfl<|sq [q3 2 cc1 v0,q3 3 cc1 v1,q2 21 cB (!x20)]<|
  xn<|cnd rfl h (fun b22 h=>ws<|rg<|xa (sc cB false rfl)<|sq [q2 4 cB false]<|
  xn<|wpC_ret<|rt<|rt<|re<|fin h (r1 (ss rfl rfl)<|r0) rfl)
  (fun b22 h=>wpC_skip<|kpN [q3 2 cc1 v0,q3 3 cc1 v1] (by kernel_rfl)<|xn<|ws<|wpC_kp<|ws<|rg<|st rfl<|fab rfl rfl rfl rfl<|st rfl<|lda rfl rfl rfl rfl rfl rfl<|st rfl<|fab rfl rfl rfl rfl<|st rfl<|lda rfl rfl rfl rfl rfl rfl<|st rfl<|b_neq (k := .i64) rfl rfl<|sq [q2 26 cB (decide (v0.Sum ≠ v1.Sum))]<|
  xn<|cnd rfl h (fun b24 h=>ws<|rg<|xa (sc cB false rfl)<|sq [q2 4 cB false]<|
  xn<|wpC_ret<|rt<|rt<|re<|fin h (r1 (ss rfl rfl)<|r0) rfl)
  (fun b24 h=>wpC_skip<|kpN [] (by kernel_rfl)<|xn<|ws<|rg<|xa (sc cB true rfl)<|sq [q2 4 cB true]<|
  xn<|wpC_ret<|re<|fin h (r1 (ss rfl rfl)<|r0) rfl))))

def rs_laws_eqGeo (r:Bool):List D := [cB.enc r]
def m12:MC := .seq (.reg [q1 2 (.box (.t 0)),q1 3 (.box (.t 1)),q1 4 (.asg (.c (.bool false)))] [2,3])
 (.seq (.kp [] (.seq (.reg [q1 5 (.fa 2 0 0),q1 6 (.ld 5 1 false),q1 7 (.fa 3 0 0),q1 8 (.ld 7 1 false),q1 9 (.call 34 [(.t 6),(.t 8)]),q1 10 (.nt (.t 9))] [10])
 (.cond (.t 10) (.seq (.reg [q1 4 (.asg (.c (.bool false)))] [4])
 (.ret)) (.skip))))
 (.seq (.reg [q1 4 (.asg (.c (.bool true)))] [4])
 (.ret)))
theorem con_laws_eqGeo {v0:XGeo} {v1:XGeo} {r:Bool} (h:sh_laws_eqGeo v0 v1 = some r):Con Tryz.prog 12 [cc6.enc v0,cc6.enc v1] [] (rs_laws_eqGeo r) := by
 delta sh_laws_eqGeo at h
 refine top (out := none) (f := Tryz.f12) (m := m12) (rs := [.t 4]) (by kernel_rfl) rfl (by kernel_rfl) (by kernel_rfl) (by kernel_rfl) (by kernel_rfl) (by kernel_rfl) ?_
 exact
  ini [q2 0 cc6 v0,q2 1 cc6 v1] rfl<|ws<|rg<|x_box (ss rfl rfl)<|x_box (ss rfl rfl)<|xa (sc cB false rfl)<|sq [q3 2 cc6 v0,q3 3 cc6 v1]<|
  xn<|ws<|wpC_kp<|ws<|rg<|st rfl<|fab rfl rfl rfl rfl<|st rfl<|lda rfl rfl rfl rfl rfl rfl<|st rfl<|fab rfl rfl rfl rfl<|st rfl<|lda rfl rfl rfl rfl rfl rfl<|bnd h fun x8 e9 h=>st rfl<|o_call (a1 (c := cc9) (tLs tK) rfl (a1 (c := cc9) (tLs tK) rfl a0)) (con_laws_eqIntS e9) (.inl (so1 sB so0))<|st rfl<|o_nt rfl<|sq [q2 10 cB (!x8)]<|
  xn<|cnd rfl h (fun b10 h=>ws<|rg<|xa (sc cB false rfl)<|sq [q2 4 cB false]<|
  xn<|wpC_ret<|rt<|rt<|re<|fin h (r1 (ss rfl rfl)<|r0) rfl)
  (fun b10 h=>wpC_skip<|kpN [] (by kernel_rfl)<|xn<|ws<|rg<|xa (sc cB true rfl)<|sq [q2 4 cB true]<|
  xn<|wpC_ret<|re<|fin h (r1 (ss rfl rfl)<|r0) rfl)

def rs_laws_eqVariable (r:Bool):List D := [cB.enc r]
def m35:MC := .seq (.reg [q1 2 (.box (.t 0)),q1 3 (.box (.t 1)),q1 4 (.asg (.c (.bool false)))] [2,3])
 (.seq (.kp [2,3] (.seq (.reg [q1 5 (.fa 2 0 0),q1 6 (.ld 5 1 false),q1 7 (.fa 3 0 0),q1 8 (.ld 7 1 false),q1 9 (.bin .neq (.t 6) (.t 8))] [2,3,9])
 (.cond (.t 9) (.seq (.reg [q1 4 (.asg (.c (.bool false)))] [4])
 (.ret)) (.skip))))
 (.seq (.kp [] (.seq (.reg [q1 10 (.fa 2 1 1),q1 11 (.ld 10 1 false),q1 12 (.fa 3 1 1),q1 13 (.ld 12 1 false),q1 14 (.bin .neq (.t 11) (.t 13))] [14])
 (.cond (.t 14) (.seq (.reg [q1 4 (.asg (.c (.bool false)))] [4])
 (.ret)) (.skip))))
 (.seq (.reg [q1 4 (.asg (.c (.bool true)))] [4])
 (.ret))))
theorem con_laws_eqVariable {v0:XVariable} {v1:XVariable} {r:Bool} (h:sh_laws_eqVariable v0 v1 = some r):Con Tryz.prog 35 [cc7.enc v0,cc7.enc v1] [] (rs_laws_eqVariable r) := by
 delta sh_laws_eqVariable at h
 refine top (out := none) (f := Tryz.f35) (m := m35) (rs := [.t 4]) (by kernel_rfl) rfl (by kernel_rfl) (by kernel_rfl) (by kernel_rfl) (by kernel_rfl) (by kernel_rfl) ?_
 exact
  ini [q2 0 cc7 v0,q2 1 cc7 v1] rfl<|ws<|rg<|x_box (ss rfl rfl)<|x_box (ss rfl rfl)<|xa (sc cB false rfl)<|sq [q3 2 cc7 v0,q3 3 cc7 v1]<|
  xn<|ws<|wpC_kp<|ws<|rg<|st rfl<|fab rfl rfl rfl rfl<|st rfl<|lda rfl rfl rfl rfl rfl rfl<|st rfl<|fab rfl rfl rfl rfl<|st rfl<|lda rfl rfl rfl rfl rfl rfl<|st rfl<|b_sne rfl rfl<|sq [q3 2 cc7 v0,q3 3 cc7 v1,q2 9 cB (decide (v0.Name ≠ v1.Name))]<|
  xn<|cnd rfl h (fun b2 h=>ws<|rg<|xa (sc cB false rfl)<|sq [q2 4 cB false]<|
  xn<|wpC_ret<|rt<|rt<|re<|fin h (r1 (ss rfl rfl)<|r0) rfl)
  (fun b2 h=>wpC_skip<|kpN [q3 2 cc7 v0,q3 3 cc7 v1] (by kernel_rfl)<|xn<|ws<|wpC_kp<|ws<|rg<|st rfl<|fab rfl rfl rfl rfl<|st rfl<|lda rfl rfl rfl rfl rfl rfl<|st rfl<|fab rfl rfl rfl rfl<|st rfl<|lda rfl rfl rfl rfl rfl rfl<|st rfl<|b_neq (k := .i64) rfl rfl<|sq [q2 14 cB (decide (v0.Levels ≠ v1.Levels))]<|
  xn<|cnd rfl h (fun b4 h=>ws<|rg<|xa (sc cB false rfl)<|sq [q2 4 cB false]<|
  xn<|wpC_ret<|rt<|rt<|re<|fin h (r1 (ss rfl rfl)<|r0) rfl)
  (fun b4 h=>wpC_skip<|kpN [] (by kernel_rfl)<|xn<|ws<|rg<|xa (sc cB true rfl)<|sq [q2 4 cB true]<|
  xn<|wpC_ret<|re<|fin h (r1 (ss rfl rfl)<|r0) rfl))

def rs_laws_eqVariableS (r:Bool):List D := [cB.enc r]
def m13:MC := .seq (.reg [q1 4 (.asg (.c (.bool false)))] [0,1])
 (.seq (.kp [0,1] (.seq (.reg [q1 6 (.mv (.t 0)),q1 7 (.len false (.t 6)),q1 8 (.mv (.t 1)),q1 9 (.len false (.t 8)),q1 10 (.bin .neq (.t 7) (.t 9))] [0,1,10])
 (.cond (.t 10) (.seq (.reg [q1 4 (.asg (.c (.bool false)))] [4])
 (.ret)) (.skip))))
 (.seq (.kp [] (.seq (.reg [q1 5 (.asg (.c (.int .i64 0)))] [0,1,5])
 (.blk 0 (.loop (.seq (.kp [0,1,5] (.seq (.reg [q1 11 (.mv (.t 5)),q1 12 (.mv (.t 0)),q1 13 (.len false (.t 12)),q1 14 (.bin .lss (.t 11) (.t 13))] [0,1,5,14])
 (.cond (.t 14) (.skip) (.exit 0))))
 (.seq (.kp [0,1,5] (.blk 1 (.seq (.drw [⟨0,q1 17 (.mv (.t 0)),[18,19,20,21,22,23,24,25,26]⟩,
  ⟨1,q1 18 (.mv (.t 5)),[17,19,20,21,22,23,24,25,26]⟩,
  ⟨2,q1 19 (.ia 17 (.t 18) 2),[20,21,22,23,24,25,26]⟩,
  ⟨3,q1 20 (.ld 19 2 true),[21,22,23,24,25,26]⟩,
  ⟨4,q1 21 (.mv (.t 1)),[17,18,19,20,22,23,24,25,26]⟩,
  ⟨5,q1 22 (.mv (.t 5)),[17,18,19,20,21,23,24,25,26]⟩,
  ⟨6,q1 23 (.ia 21 (.t 22) 2),[17,18,19,20,24,25,26]⟩,
  ⟨7,q1 24 (.ld 23 2 true),[17,18,19,20,25,26]⟩,
  ⟨8,q1 25 (.call 35 [(.t 20),(.t 24)]),[26]⟩,
  ⟨9,q1 26 (.nt (.t 25)),[]⟩]
  [] [0,1,5,26])
 (.cond (.t 26) (.seq (.reg [q1 4 (.asg (.c (.bool false)))] [4])
 (.ret)) (.skip)))))
 (.reg [q1 15 (.mv (.t 5)),q1 16 (.bin .add (.t 15) (.c (.int .i64 1))),q1 5 (.asg (.t 16))] [0,1,5])))))))
 (.seq (.reg [q1 4 (.asg (.c (.bool true)))] [4])
 (.ret))))
theorem con_laws_eqVariableS {v0:(List XVariable)} {v1:(List XVariable)} {r:Bool} (h:sh_laws_eqVariableS v0 v1 = some r):Con Tryz.prog 13 [cc4.enc v0,cc4.enc v1] [] (rs_laws_eqVariableS r) := by
 delta sh_laws_eqVariableS at h
 refine top (out := none) (f := Tryz.f13) (m := m13) (rs := [.t 4]) (by kernel_rfl) rfl (by kernel_rfl) (by kernel_rfl) (by kernel_rfl) (by kernel_rfl) (by kernel_rfl) ?_
 exact
  ini [q2 0 cc4 v0,q2 1 cc4 v1] rfl<|ws<|rg<|xa (sc cB false rfl)<|sq [q2 0 cc4 v0,q2 1 cc4 v1]<|
  xn<|ws<|wpC_kp<|ws<|rg<|st rfl<|mvd rfl rfl<|stw rfl<|lens rfl fun l8=>st rfl<|mvd rfl rfl<|stw rfl<|lens rfl fun l9=>st rfl<|b_neq (k := .i64) rfl rfl<|sq [q2 0 cc4 v0,q2 1 cc4 v1,q2 10 cB (decide ((v0.length:Int) ≠ (v1.length:Int)))]<|
  xn<|cnd rfl h (fun b10 h=>ws<|rg<|xa (sc cB false rfl)<|sq [q2 4 cB false]<|
  xn<|wpC_ret<|rt<|rt<|re<|fin h (r1 (ss rfl rfl)<|r0) rfl)
  (fun b10 h=>wpC_skip<|kpN [q2 0 cc4 v0,q2 1 cc4 v1] (by kernel_rfl)<|xn<|ws<|wpC_kp<|ws<|rg<|xa (sc cI (0:Int) rfl)<|sq [q2 0 cc4 v0,q2 1 cc4 v1,q2 5 cI (0:Int)]<|
  xn<|wpC_blk<|lpF (fun (s142:Int)=>[q2 0 cc4 v0,q2 1 cc4 v1,q2 5 cI s142]) (0:Int) rfl h
  fun G231 nx229 s142 hn230 h=>ws<|wpC_kp<|ws<|rg<|st rfl<|mvd rfl rfl<|st rfl<|mvd rfl rfl<|stw rfl<|lens rfl fun l236=>st rfl<|b_lss (k := .i64) rfl rfl<|sq [q2 0 cc4 v0,q2 1 cc4 v1,q2 5 cI s142,q2 14 cB (decide (s142 < (v0.length:Int)))]<|
  xn<|cnd rfl h (fun b237 h=>wpC_skip<|kpN [q2 0 cc4 v0,q2 1 cc4 v1,q2 5 cI s142] (by kernel_rfl)<|xn<|ws<|wpC_kp<|wpC_blk<|ws<|drw_s<|pst rfl<|mvd rfl rfl ⟨rfl,pst rfl<|mvd rfl rfl ⟨rfl,getO_kp h fun x263 i264 g265 h=>pst rfl<|ias rfl rfl i264 g265 rfl ⟨rfl,pst rfl<|ldi rfl rfl rfl rfl ⟨rfl,pst rfl<|mvd rfl rfl ⟨rfl,pst rfl<|mvd rfl rfl ⟨rfl,getO_kp h fun x266 i267 g268 h=>pst rfl<|ias rfl rfl i267 g268 rfl ⟨rfl,pst rfl<|ldi rfl rfl rfl rfl ⟨rfl,bndp h fun x269 e270 h=>pst rfl<|o_call (a1 (c := cc7) (tXVariable tS tK) rfl (a1 (c := cc7) (tXVariable tS tK) rfl a0)) (con_laws_eqVariable e270) (.inl (so1 sB so0)) ⟨rfl,pst rfl<|o_nt rfl ⟨rfl,preN<|sq [q2 0 cc4 v0,q2 1 cc4 v1,q2 5 cI s142,q2 26 cB (!x269)]<|
  xn<|cnd rfl h (fun b271 h=>ws<|rg<|xa (sc cB false rfl)<|sq [q2 4 cB false]<|
  xn<|wpC_ret<|rb<|rt<|rt<|rt<|rb<|rt<|rt<|re<|fin h (r1 (ss rfl rfl)<|r0) rfl)
  (fun b271 h=>wpC_skip<|xbb<|kpN [q2 0 cc4 v0,q2 1 cc4 v1,q2 5 cI s142] (by kernel_rfl)<|xn<|rg<|st rfl<|mvd rfl rfl<|ckI_k h fun i272 h=>st rfl<|b_add (k := .i64) rfl rfl i272<|xa (ss rfl rfl)<|sq [q2 0 cc4 v0,q2 1 cc4 v1,q2 5 cI (s142 + (1:Int))]<|
  xn<|hn230 (s142 + (1:Int)) h)⟩⟩⟩⟩⟩⟩⟩⟩⟩⟩)
  (fun b237 h=>wpC_exit<|xt<|xt<|xt<|xb<|kpN [] (by kernel_rfl)<|xn<|ws<|rg<|xa (sc cB true rfl)<|sq [q2 4 cB true]<|
  xn<|wpC_ret<|re<|fin h (r1 (ss rfl rfl)<|r0) rfl))

def os_laws_markIntS (r:((List Int) × Int)):D := cc11.enc r.1
def rs_laws_markIntS (r:((List Int) × Int)):List D := [cI.enc r.2]
def m36:MC := .seq (.reg [q1 4 (.asg (.c (.int .i64 0)))] [0,1])
 (.seq (.kp [0,1] (.seq (.reg [q1 5 (.asg (.c (.int .i64 0)))] [0,1,5])
 (.blk 0 (.loop (.seq (.kp [0,1,5] (.seq (.reg [q1 6 (.mv (.t 5)),q1 7 (.mv (.t 0)),q1 8 (.len false (.t 7)),q1 9 (.bin .lss (.t 6) (.t 8))] [0,1,5,9])
 (.cond (.t 9) (.skip) (.exit 0))))
 (.seq (.kp [0,1,5] (.blk 1 (.seq (.reg [q1 12 (.mv (.t 0)),q1 13 (.mv (.t 5)),q1 14 (.mv (.t 1)),q1 15 (.ia 12 (.t 13) 1),q0 (.st 15 (.t 14) 1)] [0,1,5])
 (.reg [q1 16 (.mv (.t 1)),q1 17 (.bin .add (.t 16) (.c (.int .i64 1))),q1 1 (.asg (.t 17))] [0,1,5]))))
 (.reg [q1 10 (.mv (.t 5)),q1 11 (.bin .add (.t 10) (.c (.int .i64 1))),q1 5 (.asg (.t 11))] [0,1,5])))))))
 (.seq (.reg [q1 18 (.mv (.t 1)),q1 4 (.asg (.t 18))] [0,4])
 (.ret)))
theorem con_laws_markIntS {v0:(List Int)} {v1:Int} {r:((List Int) × Int)} (h:sh_laws_markIntS v0 v1 = some r):Con Tryz.prog 36 [cc11.enc v0,cI.enc v1] (outsOf (some (0,os_laws_markIntS r))) (rs_laws_markIntS r) := by
 delta sh_laws_markIntS at h
 refine top (out := some (0,os_laws_markIntS r)) (f := Tryz.f36) (m := m36) (rs := [.t 4]) (by kernel_rfl) rfl (by kernel_rfl) (by kernel_rfl) (by kernel_rfl) (by kernel_rfl) (by kernel_rfl) ?_
 exact
  ini [q2 0 cc11 v0,q2 1 cI v1] rfl<|ws<|rg<|xa (sc cI (0:Int) rfl)<|sq [q2 0 cc11 v0,q2 1 cI v1]<|
  xn<|ws<|wpC_kp<|ws<|rg<|xa (sc cI (0:Int) rfl)<|sq [q2 0 cc11 v0,q2 1 cI v1,q2 5 cI (0:Int)]<|
  xn<|wpC_blk<|lpF (fun (s72:((List Int) × Int × Int))=>[q2 0 cc11 s72.1,q2 1 cI s72.2.1,q2 5 cI s72.2.2]) (v0,v1,(0:Int)) rfl h
  fun G121 nx119 s72 hn120 h=>ws<|wpC_kp<|ws<|rg<|st rfl<|mvd rfl rfl<|st rfl<|mvo rfl rfl<|stw rfl<|leno rfl fun l126=>st rfl<|b_lss (k := .i64) rfl rfl<|sq [q2 0 cc11 s72.1,q2 1 cI s72.2.1,q2 5 cI s72.2.2,q2 9 cB (decide (s72.2.2 < (s72.1.length:Int)))]<|
  xn<|cnd rfl h (fun b127 h=>wpC_skip<|kpN [q2 0 cc11 s72.1,q2 1 cI s72.2.1,q2 5 cI s72.2.2] (by kernel_rfl)<|xn<|ws<|wpC_kp<|wpC_blk<|ws<|rg<|st rfl<|mvo rfl rfl<|st rfl<|mvd rfl rfl<|st rfl<|mvd rfl rfl<|getO_k h fun x138 i139 g140 h=>st rfl<|iar rfl rfl rfl rfl i139 g140 rfl<|x_sta (cc11.enc (s72.1.set (s72.2.2).toNat s72.2.1)) (ss rfl rfl) rfl rfl (Ln.idx g140 Ln.nil) (Cd.h_sz cI _) rfl<|sq [q2 0 cc11 (s72.1.set (s72.2.2).toNat s72.2.1),q2 1 cI s72.2.1,q2 5 cI s72.2.2]<|
  xn<|rg<|st rfl<|mvd rfl rfl<|ckI_k h fun i141 h=>st rfl<|b_add (k := .i64) rfl rfl i141<|xa (ss rfl rfl)<|sq [q2 0 cc11 (s72.1.set (s72.2.2).toNat s72.2.1),q2 1 cI (s72.2.1 + (1:Int)),q2 5 cI s72.2.2]<|
  xbb<|kpN [q2 0 cc11 (s72.1.set (s72.2.2).toNat s72.2.1),q2 1 cI (s72.2.1 + (1:Int)),q2 5 cI s72.2.2] (by kernel_rfl)<|xn<|rg<|st rfl<|mvd rfl rfl<|ckI_k h fun i142 h=>st rfl<|b_add (k := .i64) rfl rfl i142<|xa (ss rfl rfl)<|sq [q2 0 cc11 (s72.1.set (s72.2.2).toNat s72.2.1),q2 1 cI (s72.2.1 + (1:Int)),q2 5 cI (s72.2.2 + (1:Int))]<|
  xn<|hn120 ((s72.1.set (s72.2.2).toNat s72.2.1),(s72.2.1 + (1:Int)),(s72.2.2 + (1:Int))) h)
  (fun b127 h=>wpC_exit<|xt<|xt<|xt<|xb<|kpN [q2 0 cc11 s72.1,q2 1 cI s72.2.1] (by kernel_rfl)<|xn<|ws<|rg<|st rfl<|mvd rfl rfl<|xa (ss rfl rfl)<|sq [q2 0 cc11 s72.1,q2 4 cI s72.2.1]<|
  xn<|wpC_ret<|re<|finO h (r1 (ss rfl rfl)<|r0) rfl rfl)

def os_laws_markGeo (r:(XGeo × Int)):D := cc8.enc r.1
def rs_laws_markGeo (r:(XGeo × Int)):List D := [cI.enc r.2]
def m14:MC := .seq (.reg [q1 2 (.boxm 0),q1 4 (.asg (.c (.int .i64 0)))] [0,1,2])
 (.seq (.reg [q1 5 (.fa 2 0 0),q1 6 (.ld 5 1 false),q1 7 (.mv (.t 1)),q1 8 (.callO 36 [(.t 6),(.t 7)]),q1 1 (.asg (.t 8))] [0,1])
 (.seq (.reg [q1 9 (.mv (.t 1)),q1 4 (.asg (.t 9))] [0,4])
 (.ret)))
theorem con_laws_markGeo {v0:XGeo} {v1:Int} {r:(XGeo × Int)} (h:sh_laws_markGeo v0 v1 = some r):Con Tryz.prog 14 [cc8.enc v0,cI.enc v1] (outsOf (some (0,os_laws_markGeo r))) (rs_laws_markGeo r) := by
 delta sh_laws_markGeo at h
 refine top (out := some (0,os_laws_markGeo r)) (f := Tryz.f14) (m := m14) (rs := [.t 4]) (by kernel_rfl) rfl (by kernel_rfl) (by kernel_rfl) (by kernel_rfl) (by kernel_rfl) (by kernel_rfl) ?_
 exact
  ini [q2 0 cc8 v0,q2 1 cI v1] rfl<|ws<|rg<|x_boxm rfl rfl<|xa (sc cI (0:Int) rfl)<|sq [q2 0 cc8 v0,q2 1 cI v1,(2,.mad 0 [])]<|
  xn<|ws<|rg<|st rfl<|fam rfl rfl rfl rfl rfl rfl<|st rfl<|ldmo rfl rfl rfl rfl rfl rfl<|st rfl<|mvd rfl rfl<|bnd h fun x3 e4 h=>x_clr (c := cc11) (c' := cc11) (cc8.enc (⟨x3.1⟩:XGeo)) (sLo sK) rfl (a1 (c := cI) tK rfl a0) rfl (Ln.fld rfl rfl Ln.nil rfl) (con_laws_markIntS e4) rfl rfl (so1 sK so0)<|xa (ss rfl rfl)<|sq [q2 0 cc8 (⟨x3.1⟩:XGeo),q2 1 cI x3.2]<|
  xn<|ws<|rg<|st rfl<|mvd rfl rfl<|xa (ss rfl rfl)<|sq [q2 0 cc8 (⟨x3.1⟩:XGeo),q2 4 cI x3.2]<|
  xn<|wpC_ret<|re<|finO h (r1 (ss rfl rfl)<|r0) rfl rfl

def rs_laws_markText (r:(List UInt8)):List D := [cS.enc r]
def m37:MC := .seq (.reg [q1 2 (.asg (.c (.str [])))] [0])
 (.seq (.kp [0] (.seq (.reg [q1 4 (.mv (.t 0)),q1 5 (.bin .leq (.t 4) (.c (.int .i64 0)))] [0,5])
 (.cond (.t 5) (.seq (.reg [q1 2 (.asg (.c (.str [109,48])))] [2])
 (.ret)) (.skip))))
 (.seq (.reg [q1 3 (.asg (.c (.str [])))] [0,3])
 (.seq (.kp [3] (.blk 0 (.loop (.kp [0,3] (.seq (.kp [0,3] (.seq (.reg [q1 6 (.mv (.t 0)),q1 7 (.bin .gtr (.t 6) (.c (.int .i64 0)))] [0,3,7])
 (.cond (.t 7) (.skip) (.exit 0))))
 (.blk 1 (.seq (.reg [q1 8 (.mv (.t 0)),q1 9 (.bin .rem (.t 8) (.c (.int .i64 10))),q1 10 (.bin .add (.c (.int .i64 48)) (.t 9)),q1 11 (.cvi .u8 (.t 10)),q1 12 (.bsl [(.t 11)] 1),q1 13 (.b2s (.t 12)),q1 14 (.mv (.t 3)),q1 15 (.bin .add (.t 13) (.t 14)),q1 3 (.asg (.t 15))] [0,3])
 (.reg [q1 16 (.mv (.t 0)),q1 17 (.bin .quo (.t 16) (.c (.int .i64 10))),q1 0 (.asg (.t 17))] [0,3]))))))))
 (.seq (.reg [q1 18 (.mv (.t 3)),q1 19 (.bin .add (.c (.str [109])) (.t 18)),q1 2 (.asg (.t 19))] [2])
 (.ret)))))
theorem con_laws_markText {v0:Int} {r:(List UInt8)} (h:sh_laws_markText v0 = some r):Con Tryz.prog 37 [cI.enc v0] [] (rs_laws_markText r) := by
 delta sh_laws_markText at h
 refine top (out := none) (f := Tryz.f37) (m := m37) (rs := [.t 2]) (by kernel_rfl) rfl (by kernel_rfl) (by kernel_rfl) (by kernel_rfl) (by kernel_rfl) (by kernel_rfl) ?_
 exact
  ini [q2 0 cI v0] rfl<|ws<|rg<|xa (sc cS ([]:List UInt8) rfl)<|sq [q2 0 cI v0]<|
  xn<|ws<|wpC_kp<|ws<|rg<|st rfl<|mvd rfl rfl<|st rfl<|b_leq (k := .i64) rfl rfl<|sq [q2 0 cI v0,q2 5 cB (decide (v0 ≤ (0:Int)))]<|
  xn<|cnd rfl h (fun b2 h=>ws<|rg<|xa (sc cS ([109,48]:List UInt8) rfl)<|sq [q2 2 cS ([109,48]:List UInt8)]<|
  xn<|wpC_ret<|rt<|rt<|re<|fin h (r1 (ss rfl rfl)<|r0) rfl)
  (fun b2 h=>wpC_skip<|kpN [q2 0 cI v0] (by kernel_rfl)<|xn<|ws<|rg<|xa (sc cS ([]:List UInt8) rfl)<|sq [q2 0 cI v0,q2 3 cS ([]:List UInt8)]<|
  xn<|ws<|wpC_kp<|wpC_blk<|lpF (fun (s59:(Int × (List UInt8)))=>[q2 0 cI s59.1,q2 3 cS s59.2]) (v0,([]:List UInt8)) rfl h
  fun G98 nx96 s59 hn97 h=>wpC_kp<|ws<|wpC_kp<|ws<|rg<|st rfl<|mvd rfl rfl<|st rfl<|b_gtr (k := .i64) rfl rfl<|sq [q2 0 cI s59.1,q2 3 cS s59.2,q2 7 cB (decide ((0:Int) < s59.1))]<|
  xn<|cnd rfl h (fun b100 h=>wpC_skip<|kpN [q2 0 cI s59.1,q2 3 cS s59.2] (by kernel_rfl)<|xn<|wpC_blk<|ws<|rg<|st rfl<|mvd rfl rfl<|ck_k h fun i107 h=>st rfl<|b_rem (k := .i64) rfl rfl i107<|ckI_k h fun i108 h=>st rfl<|b_add (k := .i64) rfl rfl i108<|ckU_k h fun i109 h=>st rfl<|o_cvi (k := .i64) (k' := .u8) rfl i109<|x_bsl cU [((48:Int) + (s59.1.tmod (10:Int)))] (t1 (ss rfl rfl) rfl t0) rfl rfl<|ck_k h fun i110 h=>st rfl<|o_b2s rfl rfl i110<|st rfl<|mvd rfl rfl<|lnO_k h fun l112 h=>st rfl<|b_cat rfl rfl l112<|xa (ss rfl rfl)<|sq [q2 0 cI s59.1,q2 3 cS ((bytesOf [((48:Int) + (s59.1.tmod (10:Int)))]) ++ s59.2)]<|
  xn<|rg<|st rfl<|mvd rfl rfl<|ck_k h fun i113 h=>ckI_k h fun i114 h=>st rfl<|b_quo (k := .i64) rfl rfl i113 i114<|xa (ss rfl rfl)<|sq [q2 0 cI (s59.1.tdiv (10:Int)),q2 3 cS ((bytesOf [((48:Int) + (s59.1.tmod (10:Int)))]) ++ s59.2)]<|
  xbb<|kpN [q2 0 cI (s59.1.tdiv (10:Int)),q2 3 cS ((bytesOf [((48:Int) + (s59.1.tmod (10:Int)))]) ++ s59.2)] (by kernel_rfl)<|xn<|hn97 ((s59.1.tdiv (10:Int)),((bytesOf [((48:Int) + (s59.1.tmod (10:Int)))]) ++ s59.2)) h)
  (fun b100 h=>wpC_exit<|xt<|xt<|xt<|xt<|xb<|kpN [q2 3 cS s59.2] (by kernel_rfl)<|xn<|ws<|rg<|st rfl<|mvd rfl rfl<|lnO_k h fun l116 h=>st rfl<|b_cat rfl rfl l116<|xa (ss rfl rfl)<|sq [q2 2 cS (([109]:List UInt8) ++ s59.2)]<|
  xn<|wpC_ret<|re<|fin h (r1 (ss rfl rfl)<|r0) rfl))

def os_laws_markVariableS (r:((List XVariable) × Int)):D := cc5.enc r.1
def rs_laws_markVariableS (r:((List XVariable) × Int)):List D := [cI.enc r.2]
def m15:MC := .seq (.reg [q1 4 (.asg (.c (.int .i64 0)))] [0,1])
 (.seq (.kp [0,1] (.seq (.reg [q1 5 (.asg (.c (.int .i64 0)))] [0,1,5])
 (.blk 0 (.loop (.seq (.kp [0,1,5] (.seq (.reg [q1 6 (.mv (.t 5)),q1 7 (.mv (.t 0)),q1 8 (.len false (.t 7)),q1 9 (.bin .lss (.t 6) (.t 8))] [0,1,5,9])
 (.cond (.t 9) (.skip) (.exit 0))))
 (.seq (.kp [0,1,5] (.blk 1 (.seq (.reg [q1 12 (.mv (.t 0)),q1 13 (.mv (.t 5)),q1 14 (.mv (.t 1)),q1 15 (.call 37 [(.t 14)]),q1 16 (.ia 12 (.t 13) 2),q1 17 (.fa 16 0 0),q0 (.st 17 (.t 15) 1)] [0,1,5])
 (.seq (.reg [q1 18 (.mv (.t 1)),q1 19 (.bin .add (.t 18) (.c (.int .i64 1))),q1 1 (.asg (.t 19))] [0,1,5])
 (.seq (.reg [q1 20 (.mv (.t 0)),q1 21 (.mv (.t 5)),q1 22 (.mv (.t 1)),q1 23 (.ia 20 (.t 21) 2),q1 24 (.fa 23 1 1),q0 (.st 24 (.t 22) 1)] [0,1,5])
 (.reg [q1 25 (.mv (.t 1)),q1 26 (.bin .add (.t 25) (.c (.int .i64 1))),q1 1 (.asg (.t 26))] [0,1,5]))))))
 (.reg [q1 10 (.mv (.t 5)),q1 11 (.bin .add (.t 10) (.c (.int .i64 1))),q1 5 (.asg (.t 11))] [0,1,5])))))))
 (.seq (.reg [q1 27 (.mv (.t 1)),q1 4 (.asg (.t 27))] [0,4])
 (.ret)))
theorem con_laws_markVariableS {v0:(List XVariable)} {v1:Int} {r:((List XVariable) × Int)} (h:sh_laws_markVariableS v0 v1 = some r):Con Tryz.prog 15 [cc5.enc v0,cI.enc v1] (outsOf (some (0,os_laws_markVariableS r))) (rs_laws_markVariableS r) := by
 delta sh_laws_markVariableS at h
 refine top (out := some (0,os_laws_markVariableS r)) (f := Tryz.f15) (m := m15) (rs := [.t 4]) (by kernel_rfl) rfl (by kernel_rfl) (by kernel_rfl) (by kernel_rfl) (by kernel_rfl) (by kernel_rfl) ?_
 exact
  ini [q2 0 cc5 v0,q2 1 cI v1] rfl<|ws<|rg<|xa (sc cI (0:Int) rfl)<|sq [q2 0 cc5 v0,q2 1 cI v1]<|
  xn<|ws<|wpC_kp<|ws<|rg<|xa (sc cI (0:Int) rfl)<|sq [q2 0 cc5 v0,q2 1 cI v1,q2 5 cI (0:Int)]<|
  xn<|wpC_blk<|lpF (fun (s144:((List XVariable) × Int × Int))=>[q2 0 cc5 s144.1,q2 1 cI s144.2.1,q2 5 cI s144.2.2]) (v0,v1,(0:Int)) rfl h
  fun G241 nx239 s144 hn240 h=>ws<|wpC_kp<|ws<|rg<|st rfl<|mvd rfl rfl<|st rfl<|mvo rfl rfl<|stw rfl<|leno rfl fun l246=>st rfl<|b_lss (k := .i64) rfl rfl<|sq [q2 0 cc5 s144.1,q2 1 cI s144.2.1,q2 5 cI s144.2.2,q2 9 cB (decide (s144.2.2 < (s144.1.length:Int)))]<|
  xn<|cnd rfl h (fun b247 h=>wpC_skip<|kpN [q2 0 cc5 s144.1,q2 1 cI s144.2.1,q2 5 cI s144.2.2] (by kernel_rfl)<|xn<|ws<|wpC_kp<|wpC_blk<|ws<|rg<|st rfl<|mvo rfl rfl<|st rfl<|mvd rfl rfl<|st rfl<|mvd rfl rfl<|bnd h fun x272 e273 h=>st rfl<|o_call (a1 (c := cI) tK rfl a0) (con_laws_markText e273) (.inl (so1 sS so0))<|getO_k h fun x274 i275 g276 h=>st rfl<|iar rfl rfl rfl rfl i275 g276 rfl<|st rfl<|faa rfl rfl (Gt.idx g276 Gt.nil) rfl rfl rfl<|x_sta (cc5.enc (s144.1.set (s144.2.2).toNat (⟨x272,x274.Levels⟩:XVariable))) (ss rfl rfl) rfl rfl (Ln.idx g276 (Ln.fld rfl rfl Ln.nil rfl)) (Cd.h_sz cS _) rfl<|sq [q2 0 cc5 (s144.1.set (s144.2.2).toNat (⟨x272,x274.Levels⟩:XVariable)),q2 1 cI s144.2.1,q2 5 cI s144.2.2]<|
  xn<|ws<|rg<|st rfl<|mvd rfl rfl<|ckI_k h fun i278 h=>st rfl<|b_add (k := .i64) rfl rfl i278<|xa (ss rfl rfl)<|sq [q2 0 cc5 (s144.1.set (s144.2.2).toNat (⟨x272,x274.Levels⟩:XVariable)),q2 1 cI (s144.2.1 + (1:Int)),q2 5 cI s144.2.2]<|
  xn<|ws<|rg<|st rfl<|mvo rfl rfl<|st rfl<|mvd rfl rfl<|st rfl<|mvd rfl rfl<|getO_k h fun x282 i283 g284 h=>st rfl<|iar rfl rfl rfl rfl i283 g284 rfl<|st rfl<|faa rfl rfl (Gt.idx g284 Gt.nil) rfl rfl rfl<|x_sta (cc5.enc ((s144.1.set (s144.2.2).toNat (⟨x272,x274.Levels⟩:XVariable)).set (s144.2.2).toNat (⟨x282.Name,(s144.2.1 + (1:Int))⟩:XVariable))) (ss rfl rfl) rfl rfl (Ln.idx g284 (Ln.fld rfl rfl Ln.nil rfl)) (Cd.h_sz cI _) rfl<|sq [q2 0 cc5 ((s144.1.set (s144.2.2).toNat (⟨x272,x274.Levels⟩:XVariable)).set (s144.2.2).toNat (⟨x282.Name,(s144.2.1 + (1:Int))⟩:XVariable)),q2 1 cI (s144.2.1 + (1:Int)),q2 5 cI s144.2.2]<|
  xn<|rg<|st rfl<|mvd rfl rfl<|ckI_k h fun i285 h=>st rfl<|b_add (k := .i64) rfl rfl i285<|xa (ss rfl rfl)<|sq [q2 0 cc5 ((s144.1.set (s144.2.2).toNat (⟨x272,x274.Levels⟩:XVariable)).set (s144.2.2).toNat (⟨x282.Name,(s144.2.1 + (1:Int))⟩:XVariable)),q2 1 cI ((s144.2.1 + (1:Int)) + (1:Int)),q2 5 cI s144.2.2]<|
  xbb<|kpN [q2 0 cc5 ((s144.1.set (s144.2.2).toNat (⟨x272,x274.Levels⟩:XVariable)).set (s144.2.2).toNat (⟨x282.Name,(s144.2.1 + (1:Int))⟩:XVariable)),q2 1 cI ((s144.2.1 + (1:Int)) + (1:Int)),q2 5 cI s144.2.2] (by kernel_rfl)<|xn<|rg<|st rfl<|mvd rfl rfl<|ckI_k h fun i286 h=>st rfl<|b_add (k := .i64) rfl rfl i286<|xa (ss rfl rfl)<|sq [q2 0 cc5 ((s144.1.set (s144.2.2).toNat (⟨x272,x274.Levels⟩:XVariable)).set (s144.2.2).toNat (⟨x282.Name,(s144.2.1 + (1:Int))⟩:XVariable)),q2 1 cI ((s144.2.1 + (1:Int)) + (1:Int)),q2 5 cI (s144.2.2 + (1:Int))]<|
  xn<|hn240 (((s144.1.set (s144.2.2).toNat (⟨x272,x274.Levels⟩:XVariable)).set (s144.2.2).toNat (⟨x282.Name,(s144.2.1 + (1:Int))⟩:XVariable)),((s144.2.1 + (1:Int)) + (1:Int)),(s144.2.2 + (1:Int))) h)
  (fun b247 h=>wpC_exit<|xt<|xt<|xt<|xb<|kpN [q2 0 cc5 s144.1,q2 1 cI s144.2.1] (by kernel_rfl)<|xn<|ws<|rg<|st rfl<|mvd rfl rfl<|xa (ss rfl rfl)<|sq [q2 0 cc5 s144.1,q2 4 cI s144.2.1]<|
  xn<|wpC_ret<|re<|finO h (r1 (ss rfl rfl)<|r0) rfl rfl)

def rs_laws_heldIntS (r:Int):List D := [cI.enc r]
def m38:MC := .seq (.reg [q1 4 (.asg (.c (.int .i64 0)))] [0,1])
 (.seq (.kp [1] (.seq (.reg [q1 5 (.asg (.c (.int .i64 0)))] [0,1,5])
 (.blk 0 (.loop (.seq (.kp [0,1,5] (.seq (.reg [q1 6 (.mv (.t 5)),q1 7 (.mv (.t 0)),q1 8 (.len false (.t 7)),q1 9 (.bin .lss (.t 6) (.t 8))] [0,1,5,9])
 (.cond (.t 9) (.skip) (.exit 0))))
 (.seq (.kp [0,1,5] (.blk 1 (.seq (.kp [0,1,5] (.seq (.reg [q1 12 (.mv (.t 0)),q1 13 (.mv (.t 5)),q1 14 (.ia 12 (.t 13) 1),q1 15 (.ld 14 1 false),q1 16 (.mv (.t 1)),q1 17 (.bin .neq (.t 15) (.t 16))] [0,1,5,17])
 (.cond (.t 17) (.seq (.reg [q1 4 (.asg (.c (.int .i64 (-1))))] [4])
 (.ret)) (.skip))))
 (.reg [q1 18 (.mv (.t 1)),q1 19 (.bin .add (.t 18) (.c (.int .i64 1))),q1 1 (.asg (.t 19))] [0,1,5]))))
 (.reg [q1 10 (.mv (.t 5)),q1 11 (.bin .add (.t 10) (.c (.int .i64 1))),q1 5 (.asg (.t 11))] [0,1,5])))))))
 (.seq (.reg [q1 20 (.mv (.t 1)),q1 4 (.asg (.t 20))] [4])
 (.ret)))
theorem con_laws_heldIntS {v0:(List Int)} {v1:Int} {r:Int} (h:sh_laws_heldIntS v0 v1 = some r):Con Tryz.prog 38 [cc9.enc v0,cI.enc v1] [] (rs_laws_heldIntS r) := by
 delta sh_laws_heldIntS at h
 refine top (out := none) (f := Tryz.f38) (m := m38) (rs := [.t 4]) (by kernel_rfl) rfl (by kernel_rfl) (by kernel_rfl) (by kernel_rfl) (by kernel_rfl) (by kernel_rfl) ?_
 exact
  ini [q2 0 cc9 v0,q2 1 cI v1] rfl<|ws<|rg<|xa (sc cI (0:Int) rfl)<|sq [q2 0 cc9 v0,q2 1 cI v1]<|
  xn<|ws<|wpC_kp<|ws<|rg<|xa (sc cI (0:Int) rfl)<|sq [q2 0 cc9 v0,q2 1 cI v1,q2 5 cI (0:Int)]<|
  xn<|wpC_blk<|lpF (fun (s120:(Int × Int))=>[q2 0 cc9 v0,q2 1 cI s120.1,q2 5 cI s120.2]) (v1,(0:Int)) rfl h
  fun G201 nx199 s120 hn200 h=>ws<|wpC_kp<|ws<|rg<|st rfl<|mvd rfl rfl<|st rfl<|mvd rfl rfl<|stw rfl<|lens rfl fun l206=>st rfl<|b_lss (k := .i64) rfl rfl<|sq [q2 0 cc9 v0,q2 1 cI s120.1,q2 5 cI s120.2,q2 9 cB (decide (s120.2 < (v0.length:Int)))]<|
  xn<|cnd rfl h (fun b207 h=>wpC_skip<|kpN [q2 0 cc9 v0,q2 1 cI s120.1,q2 5 cI s120.2] (by kernel_rfl)<|xn<|ws<|wpC_kp<|wpC_blk<|ws<|wpC_kp<|ws<|rg<|st rfl<|mvd rfl rfl<|st rfl<|mvd rfl rfl<|getO_k h fun x233 i234 g235 h=>st rfl<|ias rfl rfl i234 g235 rfl<|st rfl<|ldi rfl rfl rfl rfl<|st rfl<|mvd rfl rfl<|st rfl<|b_neq (k := .i64) rfl rfl<|sq [q2 0 cc9 v0,q2 1 cI s120.1,q2 5 cI s120.2,q2 17 cB (decide (x233 ≠ s120.1))]<|
  xn<|cnd rfl h (fun b236 h=>ws<|rg<|xa (sc cI (-1:Int) rfl)<|sq [q2 4 cI (-1:Int)]<|
  xn<|wpC_ret<|rt<|rt<|rb<|rt<|rt<|rt<|rb<|rt<|rt<|re<|fin h (r1 (ss rfl rfl)<|r0) rfl)
  (fun b236 h=>wpC_skip<|kpN [q2 0 cc9 v0,q2 1 cI s120.1,q2 5 cI s120.2] (by kernel_rfl)<|xn<|rg<|st rfl<|mvd rfl rfl<|ckI_k h fun i237 h=>st rfl<|b_add (k := .i64) rfl rfl i237<|xa (ss rfl rfl)<|sq [q2 0 cc9 v0,q2 1 cI (s120.1 + (1:Int)),q2 5 cI s120.2]<|
  xbb<|kpN [q2 0 cc9 v0,q2 1 cI (s120.1 + (1:Int)),q2 5 cI s120.2] (by kernel_rfl)<|xn<|rg<|st rfl<|mvd rfl rfl<|ckI_k h fun i238 h=>st rfl<|b_add (k := .i64) rfl rfl i238<|xa (ss rfl rfl)<|sq [q2 0 cc9 v0,q2 1 cI (s120.1 + (1:Int)),q2 5 cI (s120.2 + (1:Int))]<|
  xn<|hn200 ((s120.1 + (1:Int)),(s120.2 + (1:Int))) h))
  (fun b207 h=>wpC_exit<|xt<|xt<|xt<|xb<|kpN [q2 1 cI s120.1] (by kernel_rfl)<|xn<|ws<|rg<|st rfl<|mvd rfl rfl<|xa (ss rfl rfl)<|sq [q2 4 cI s120.1]<|
  xn<|wpC_ret<|re<|fin h (r1 (ss rfl rfl)<|r0) rfl)

def rs_spec_ParsePlan (r:((List XTable) × Int × Bool)):List D := [cc2.enc r.1,cI.enc r.2.1,cB.enc r.2.2]
def m18:MC := .seq (.reg [q1 3 (.box (.t 0)),q1 6 (.asg (.c (.slice true []))),q1 7 (.asg (.c (.int .i64 0))),q1 8 (.asg (.c (.bool false)))] [1,2,3])
 (.seq (.kp [1,2,3] (.seq (.reg [q1 15 (.ld 3 1 true),q1 16 (.mv (.t 1)),q1 17 (.call 25 [(.t 15),(.t 16)]),q1 18 (.nt (.t 17))] [1,2,3,18])
 (.cond (.t 18) (.seq (.reg [q1 6 (.asg (.c (.slice true []))),q1 7 (.asg (.c (.int .i64 0))),q1 8 (.asg (.c (.bool false)))] [6,7,8])
 (.ret)) (.skip))))
 (.seq (.reg [q1 9 (.asg (.c (.slice true [])))] [1,2,3,9])
 (.seq (.reg [q1 19 (.mv (.t 2)),q1 20 (.call 39 [(.t 19),(.c (.int .u8 10))]),q1 10 (.asg (.t 20))] [1,3,9,10])
 (.seq (.kp [9] (.seq (.reg [q1 21 (.mv (.t 10)),q1 22 (.len false (.t 21)),q1 23 (.mv (.c (.int .i64 0)))] [1,3,9,10,21,22,23])
 (.blk 0 (.loop (.seq (.reg [q1 24 (.bin .lss (.t 23) (.t 22))] [1,3,9,10,21,22,23,24])
 (.seq (.kp [1,3,9,10,21,22,23] (.cond (.t 24) (.skip) (.exit 0)))
 (.seq (.kp [1,3,9,10,21,22,23] (.blk 1 (.seq (.reg [q1 25 (.mv (.t 23)),q1 26 (.ia 21 (.t 23) 1),q1 27 (.ld 26 1 false),q1 11 (.asg (.t 25)),q1 12 (.asg (.t 27))] [1,3,9,10,11,12,21,22,23])
 (.seq (.kp [1,3,9,10,11,12,21,22,23] (.seq (.reg [q1 28 (.mv (.t 11)),q1 29 (.mv (.t 10)),q1 30 (.len false (.t 29)),q1 31 (.bin .sub (.t 30) (.c (.int .i64 1))),q1 32 (.bin .eql (.t 28) (.t 31))] [1,3,9,10,11,12,21,22,23,32])
 (.cond (.t 32) (.seq (.kp [9] (.seq (.reg [q1 33 (.mv (.t 12)),q1 34 (.bin .neq (.t 33) (.c (.str [])))] [9,11,34])
 (.cond (.t 34) (.seq (.reg [q1 35 (.mv (.t 11)),q1 36 (.bin .add (.t 35) (.c (.int .i64 1))),q1 6 (.asg (.c (.slice true []))),q1 7 (.asg (.t 36)),q1 8 (.asg (.c (.bool false)))] [6,7,8])
 (.ret)) (.skip))))
 (.exit 0)) (.skip))))
 (.seq (.reg [q1 38 (.ld 3 1 true),q1 39 (.mv (.t 1)),q1 40 (.mv (.t 12)),q1 41 (.call 26 [(.t 38),(.t 39),(.t 40)]),q1 37 (.mvt 41),q1 42 (.ext 37 0),q1 43 (.ext 37 1),q1 13 (.alloc (.agg [.int .i64 0,.slice true [],.slice true [],.int .i64 0])),q0 (.st 13 (.t 42) 4),q1 14 (.asg (.t 43))] [1,3,9,10,11,13,14,21,22,23])
 (.seq (.kp [1,3,9,10,13,21,22,23] (.seq (.reg [q1 44 (.mv (.t 14)),q1 45 (.nt (.t 44)),q1 46 (.mv (.t 45)),
  ⟨some 47,.mv (.t 11),some (46,false)⟩,
  ⟨some 48,.bin .eql (.t 47) (.c (.int .i64 20)),some (46,false)⟩,q1 49 (.pick (.t 46) (.c (.bool true)) (.t 48))] [1,3,9,10,11,13,21,22,23,49])
 (.cond (.t 49) (.seq (.reg [q1 50 (.mv (.t 11)),q1 51 (.bin .add (.t 50) (.c (.int .i64 1))),q1 6 (.asg (.c (.slice true []))),q1 7 (.asg (.t 51)),q1 8 (.asg (.c (.bool false)))] [6,7,8])
 (.ret)) (.skip))))
 (.reg [q1 52 (.mv (.t 9)),q1 53 (.ld 13 4 true),q1 54 (.bsl [(.t 53)] 4),q1 55 (.app (.t 52) (.t 54) 4),q1 9 (.asg (.t 55))] [1,3,9,10,21,22,23])))))))
 (.reg [q1 56 (.bin .add (.t 23) (.c (.int .i64 1))),q1 23 (.mv (.t 56))] [1,3,9,10,21,22,23]))))))))
 (.seq (.reg [q1 57 (.mv (.t 9)),q1 6 (.asg (.t 57)),q1 7 (.asg (.c (.int .i64 0))),q1 8 (.asg (.c (.bool true)))] [6,7,8])
 (.ret))))))
theorem con_spec_ParsePlan {v0:XGeo} {v1:(List XVariable)} {v2:(List UInt8)} {r:((List XTable) × Int × Bool)} (h:sh_spec_ParsePlan v0 v1 v2 = some r):Con Tryz.prog 18 [cc6.enc v0,cc4.enc v1,cS.enc v2] [] (rs_spec_ParsePlan r) := by
 delta sh_spec_ParsePlan at h
 refine top (out := none) (f := Tryz.f18) (m := m18) (rs := [.t 6,.t 7,.t 8]) (by kernel_rfl) rfl (by kernel_rfl) (by kernel_rfl) (by kernel_rfl) (by kernel_rfl) (by kernel_rfl) ?_
 exact
  ini [q2 0 cc6 v0,q2 1 cc4 v1,q2 2 cS v2] rfl<|ws<|rg<|x_box (ss rfl rfl)<|xa (sc cc2 ([]:List XTable) rfl)<|xa (sc cI (0:Int) rfl)<|xa (sc cB false rfl)<|sq [q2 1 cc4 v1,q2 2 cS v2,q3 3 cc6 v0]<|
  xn<|ws<|wpC_kp<|ws<|rg<|st rfl<|ldb rfl rfl rfl rfl<|st rfl<|mvd rfl rfl<|bnd h fun x8 e9 h=>st rfl<|o_call (a1 (c := cc6) (tXGeo (tLs tK)) rfl (a1 (c := cc4) (tLs (tXVariable tS tK)) rfl a0)) (con_spec_nInput e9) (.inl (so1 sB so0))<|st rfl<|o_nt rfl<|sq [q2 1 cc4 v1,q2 2 cS v2,q3 3 cc6 v0,q2 18 cB (!x8)]<|
  xn<|cnd rfl h (fun b10 h=>ws<|rg<|xa (sc cc2 ([]:List XTable) rfl)<|xa (sc cI (0:Int) rfl)<|xa (sc cB false rfl)<|sq [q2 6 cc2 ([]:List XTable),q2 7 cI (0:Int),q2 8 cB false]<|
  xn<|wpC_ret<|rt<|rt<|re<|fin h (r1 (so rfl rfl)<|r1 (ss rfl rfl)<|r1 (ss rfl rfl)<|r0) rfl)
  (fun b10 h=>wpC_skip<|kpN [q2 1 cc4 v1,q2 2 cS v2,q3 3 cc6 v0] (by kernel_rfl)<|xn<|ws<|rg<|xa (sc cc2 ([]:List XTable) rfl)<|sq [q2 1 cc4 v1,q2 2 cS v2,q3 3 cc6 v0,q2 9 cc2 ([]:List XTable)]<|
  xn<|ws<|rg<|st rfl<|mvd rfl rfl<|bnd h fun x13 e14 h=>st rfl<|o_call (a1 (c := cS) tS rfl (a1 (c := cU) tK rfl a0)) (con_spec_l1Split e14) (.inl (so1 (sLo sS) so0))<|xa (so rfl rfl)<|sq [q2 1 cc4 v1,q3 3 cc6 v0,q2 9 cc2 ([]:List XTable),q2 10 cc12 x13]<|
  xn<|ws<|wpC_kp<|ws<|rg<|st rfl<|mvo rfl rfl<|stw rfl<|leno rfl fun l272=>st rfl<|mvc cI (0:Int) rfl<|sq [q2 1 cc4 v1,q3 3 cc6 v0,q2 9 cc2 ([]:List XTable),q2 10 cc12 x13,(21,.ref 10 []),q2 22 cI (x13.length:Int),q2 23 cI (0:Int)]<|
  xn<|wpC_blk<|lpR (fun (k274:Nat) (s273:(List XTable))=>[q2 1 cc4 v1,q3 3 cc6 v0,q2 9 cc2 s273,q2 10 cc12 x13,(21,.ref 10 []),q2 22 cI (x13.length:Int),q2 23 cI (k274:Int)]) ([]:List XTable) rfl h
  (fun G444 s273 h=>ws<|rg<|st rfl<|b_lss (k := .i64) rfl rfl<|sq [q2 1 cc4 v1,q3 3 cc6 v0,q2 9 cc2 s273,q2 10 cc12 x13,(21,.ref 10 []),q2 22 cI (x13.length:Int),q2 23 cI (x13.length:Int),q2 24 cB (decide ((x13.length:Int) < (x13.length:Int)))]<|
  xn<|ws<|wpC_kp<|cnd0 rfl (dlf _)<|wpC_exit<|xt<|xt<|xt<|xb<|kpN [q2 9 cc2 s273] (by kernel_rfl)<|xn<|ws<|rg<|st rfl<|mvo rfl rfl<|xa (sr rfl rfl)<|xa (sc cI (0:Int) rfl)<|xa (sc cB true rfl)<|sq [q2 6 cc2 s273,q2 7 cI (0:Int),q2 8 cB true]<|
  xn<|wpC_ret<|re<|fin h (r1 (so rfl rfl)<|r1 (ss rfl rfl)<|r1 (ss rfl rfl)<|r0) rfl)
  (fun G444 nx442 k274 s273 x275 hk276 hx277 hn443 h=>ws<|rg<|st rfl<|b_lss (k := .i64) rfl rfl<|sq [q2 1 cc4 v1,q3 3 cc6 v0,q2 9 cc2 s273,q2 10 cc12 x13,(21,.ref 10 []),q2 22 cI (x13.length:Int),q2 23 cI (k274:Int),q2 24 cB (decide ((k274:Int) < (x13.length:Int)))]<|
  xn<|ws<|wpC_kp<|cnd1 rfl (dlt hk276)<|wpC_skip<|kpN [q2 1 cc4 v1,q3 3 cc6 v0,q2 9 cc2 s273,q2 10 cc12 x13,(21,.ref 10 []),q2 22 cI (x13.length:Int),q2 23 cI (k274:Int)] (by kernel_rfl)<|xn<|ws<|wpC_kp<|wpC_blk<|ws<|rg<|st rfl<|mvd rfl rfl<|st rfl<|iar rfl rfl rfl rfl (Int.natCast_nonneg _) hx277 rfl<|st rfl<|lda rfl rfl (Gt.idx hx277 Gt.nil) rfl rfl rfl<|xa (ss rfl rfl)<|xa (ss rfl rfl)<|sq [q2 1 cc4 v1,q3 3 cc6 v0,q2 9 cc2 s273,q2 10 cc12 x13,q2 11 cI (k274:Int),q2 12 cS x275,(21,.ref 10 []),q2 22 cI (x13.length:Int),q2 23 cI (k274:Int)]<|
  xn<|ws<|wpC_kp<|ws<|rg<|st rfl<|mvd rfl rfl<|st rfl<|mvo rfl rfl<|stw rfl<|leno rfl fun l499=>ckI_k h fun i500 h=>st rfl<|b_sub (k := .i64) rfl rfl i500<|st rfl<|b_eql (k := .i64) rfl rfl<|sq [q2 1 cc4 v1,q3 3 cc6 v0,q2 9 cc2 s273,q2 10 cc12 x13,q2 11 cI (k274:Int),q2 12 cS x275,(21,.ref 10 []),q2 22 cI (x13.length:Int),q2 23 cI (k274:Int),q2 32 cB (decide ((k274:Int) = ((x13.length:Int) - (1:Int))))]<|
  xn<|cnd rfl h (fun b501 h=>ws<|wpC_kp<|ws<|rg<|st rfl<|mvd rfl rfl<|st rfl<|b_sne rfl rfl<|sq [q2 9 cc2 s273,q2 11 cI (k274:Int),q2 34 cB (decide (x275 ≠ ([]:List UInt8)))]<|
  xn<|cnd rfl h (fun b505 h=>ws<|rg<|st rfl<|mvd rfl rfl<|ckI_k h fun i507 h=>st rfl<|b_add (k := .i64) rfl rfl i507<|xa (sc cc2 ([]:List XTable) rfl)<|xa (ss rfl rfl)<|xa (sc cB false rfl)<|sq [q2 6 cc2 ([]:List XTable),q2 7 cI ((k274:Int) + (1:Int)),q2 8 cB false]<|
  xn<|wpC_ret<|rt<|rt<|rt<|rt<|rb<|rt<|rt<|rt<|rb<|rt<|rt<|re<|fin h (r1 (so rfl rfl)<|r1 (ss rfl rfl)<|r1 (ss rfl rfl)<|r0) rfl)
  (fun b505 h=>wpC_skip<|kpN [q2 9 cc2 s273] (by kernel_rfl)<|xn<|wpC_exit<|xt<|xt<|xbn rfl<|xt<|xt<|xt<|xb<|kpN [q2 9 cc2 s273] (by kernel_rfl)<|xn<|ws<|rg<|st rfl<|mvo rfl rfl<|xa (sr rfl rfl)<|xa (sc cI (0:Int) rfl)<|xa (sc cB true rfl)<|sq [q2 6 cc2 s273,q2 7 cI (0:Int),q2 8 cB true]<|
  xn<|wpC_ret<|re<|fin h (r1 (so rfl rfl)<|r1 (ss rfl rfl)<|r1 (ss rfl rfl)<|r0) rfl))
  (fun b501 h=>wpC_skip<|kpN [q2 1 cc4 v1,q3 3 cc6 v0,q2 9 cc2 s273,q2 10 cc12 x13,q2 11 cI (k274:Int),q2 12 cS x275,(21,.ref 10 []),q2 22 cI (x13.length:Int),q2 23 cI (k274:Int)] (by kernel_rfl)<|xn<|ws<|rg<|st rfl<|ldb rfl rfl rfl rfl<|st rfl<|mvd rfl rfl<|st rfl<|mvd rfl rfl<|bnd h fun x510 e511 h=>st rfl<|o_call (a1 (c := cc6) (tXGeo (tLs tK)) rfl (a1 (c := cc4) (tLs (tXVariable tS tK)) rfl (a1 (c := cS) tS rfl a0))) (con_spec_nParse e511) (.inl (so1 (sXTable sK (sLo sK) (sLo sK) sK) (so1 sB so0)))<|x_mvt rfl<|x_ext rfl rfl<|x_ext rfl rfl<|x_all cc3 (⟨(0:Int),([]:List Int),([]:List Int),(0:Int)⟩:XTable) rfl<|x_stb (so rfl rfl) rfl (Cd.h_sz _ _) rfl<|xa (ss rfl rfl)<|sq [q2 1 cc4 v1,q3 3 cc6 v0,q2 9 cc2 s273,q2 10 cc12 x13,q2 11 cI (k274:Int),q3 13 cc3 x510.1,q2 14 cB x510.2,(21,.ref 10 []),q2 22 cI (x13.length:Int),q2 23 cI (k274:Int)]<|
  xn<|ws<|wpC_kp<|ws<|jw (fun (s520:Bool)=>[q2 1 cc4 v1,q3 3 cc6 v0,q2 9 cc2 s273,q2 10 cc12 x13,q2 11 cI (k274:Int),q3 13 cc3 x510.1,(21,.ref 10 []),q2 22 cI (x13.length:Int),q2 23 cI (k274:Int),q2 49 cB s520]) h (fun s520 h=>xn<|cnd rfl h (fun b522 h=>ws<|rg<|st rfl<|mvd rfl rfl<|ckI_k h fun i524 h=>st rfl<|b_add (k := .i64) rfl rfl i524<|xa (sc cc2 ([]:List XTable) rfl)<|xa (ss rfl rfl)<|xa (sc cB false rfl)<|sq [q2 6 cc2 ([]:List XTable),q2 7 cI ((k274:Int) + (1:Int)),q2 8 cB false]<|
  xn<|wpC_ret<|rt<|rt<|rb<|rt<|rt<|rt<|rb<|rt<|rt<|re<|fin h (r1 (so rfl rfl)<|r1 (ss rfl rfl)<|r1 (ss rfl rfl)<|r0) rfl)
  (fun b522 h=>wpC_skip<|kpN [q2 1 cc4 v1,q3 3 cc6 v0,q2 9 cc2 s273,q2 10 cc12 x13,q3 13 cc3 x510.1,(21,.ref 10 []),q2 22 cI (x13.length:Int),q2 23 cI (k274:Int)] (by kernel_rfl)<|xn<|rg<|st rfl<|mvo rfl rfl<|st rfl<|ldbo rfl rfl rfl rfl<|x_bsl cc3 [x510.1] (t1 (sb rfl rfl) rfl t0) rfl rfl<|lnO_k h fun l525 h=>x_app (sr rfl rfl) (to1 rfl rfl) l525 rfl<|xa (so rfl rfl)<|sq [q2 1 cc4 v1,q3 3 cc6 v0,q2 9 cc2 (s273 ++ [x510.1]),q2 10 cc12 x13,(21,.ref 10 []),q2 22 cI (x13.length:Int),q2 23 cI (k274:Int)]<|
  xbb<|kpN [q2 1 cc4 v1,q3 3 cc6 v0,q2 9 cc2 (s273 ++ [x510.1]),q2 10 cc12 x13,(21,.ref 10 []),q2 22 cI (x13.length:Int),q2 23 cI (k274:Int)] (by kernel_rfl)<|xn<|rg<|st rfl<|b_inc rfl rfl l272 hk276<|st rfl<|mvd rfl rfl<|sq [q2 1 cc4 v1,q3 3 cc6 v0,q2 9 cc2 (s273 ++ [x510.1]),q2 10 cc12 x13,(21,.ref 10 []),q2 22 cI (x13.length:Int),q2 23 cI ((k274 + 1:Nat):Int)]<|
  xn<|hn443 (s273 ++ [x510.1]) h))
  fun s520' q521 h=>rg<|st rfl<|mvd rfl rfl<|st rfl<|o_nt rfl<|st rfl<|mvd rfl rfl<|ite_k h (fun b526 h=>gf rfl b526<|gf rfl b526<|st rfl<|pick1 rfl b526 (cd := cB) (v := true) rfl rfl<|sq [q2 1 cc4 v1,q3 3 cc6 v0,q2 9 cc2 s273,q2 10 cc12 x13,q2 11 cI (k274:Int),q3 13 cc3 x510.1,(21,.ref 10 []),q2 22 cI (x13.length:Int),q2 23 cI (k274:Int),q2 49 cB true]<|
  lfn (S := (fun (s520:Bool)=>[q2 1 cc4 v1,q3 3 cc6 v0,q2 9 cc2 s273,q2 10 cc12 x13,q2 11 cI (k274:Int),q3 13 cc3 x510.1,(21,.ref 10 []),q2 22 cI (x13.length:Int),q2 23 cI (k274:Int),q2 49 cB s520])) h q521 rfl)
  (fun b526 h=>gt' rfl b526<|st rfl<|mvd rfl rfl<|gt' rfl b526<|st rfl<|b_eql (k := .i64) rfl rfl<|st rfl<|pick0 rfl b526 (cd := cB) (v := (decide ((k274:Int) = (20:Int)))) rfl rfl<|sq [q2 1 cc4 v1,q3 3 cc6 v0,q2 9 cc2 s273,q2 10 cc12 x13,q2 11 cI (k274:Int),q3 13 cc3 x510.1,(21,.ref 10 []),q2 22 cI (x13.length:Int),q2 23 cI (k274:Int),q2 49 cB (decide ((k274:Int) = (20:Int)))]<|
  lfn (S := (fun (s520:Bool)=>[q2 1 cc4 v1,q3 3 cc6 v0,q2 9 cc2 s273,q2 10 cc12 x13,q2 11 cI (k274:Int),q3 13 cc3 x510.1,(21,.ref 10 []),q2 22 cI (x13.length:Int),q2 23 cI (k274:Int),q2 49 cB s520])) h q521 rfl))))

def rs_impl_ParsePlan (r:((List XTable) × Int × Bool)):List D := [cc2.enc r.1,cI.enc r.2.1,cB.enc r.2.2]
def m19:MC := .seq (.reg [q1 3 (.box (.t 0)),q1 6 (.asg (.c (.slice true []))),q1 7 (.asg (.c (.int .i64 0))),q1 8 (.asg (.c (.bool false)))] [1,2,3])
 (.seq (.kp [1,2,3] (.seq (.reg [q1 15 (.ld 3 1 true),q1 16 (.call 29 [(.t 15)]),q1 17 (.nt (.t 16)),q1 18 (.mv (.t 17)),
  ⟨some 19,.mv (.t 1),some (18,false)⟩,
  ⟨some 20,.call 30 [(.t 19)],some (18,false)⟩,
  ⟨some 21,.nt (.t 20),some (18,false)⟩,q1 22 (.pick (.t 18) (.c (.bool true)) (.t 21))] [1,2,3,22])
 (.cond (.t 22) (.seq (.reg [q1 6 (.asg (.c (.slice true []))),q1 7 (.asg (.c (.int .i64 0))),q1 8 (.asg (.c (.bool false)))] [6,7,8])
 (.ret)) (.skip))))
 (.seq (.reg [q1 9 (.asg (.c (.slice true [])))] [1,2,3,9])
 (.seq (.kp [9] (.blk 0 (.loop (.kp [1,2,3,9] (.seq (.kp [1,2,3,9] (.seq (.reg [q1 23 (.mv (.t 2)),q1 24 (.bin .neq (.t 23) (.c (.str [])))] [1,2,3,9,24])
 (.cond (.t 24) (.skip) (.exit 0))))
 (.blk 1 (.seq (.reg [q1 26 (.mv (.t 2)),q1 27 (.call 40 [(.t 26),(.c (.str [10]))]),q1 25 (.mvt 27),q1 28 (.ext 25 0),q1 29 (.ext 25 1),q1 30 (.ext 25 2),q1 10 (.asg (.t 28)),q1 11 (.asg (.t 29)),q1 12 (.asg (.t 30))] [1,3,9,10,11,12])
 (.seq (.reg [q1 32 (.ld 3 1 true),q1 33 (.mv (.t 1)),q1 34 (.mv (.t 10)),q1 35 (.call 10 [(.t 32),(.t 33),(.t 34)]),q1 31 (.mvt 35),q1 36 (.ext 31 0),q1 37 (.ext 31 1),q1 13 (.alloc (.agg [.int .i64 0,.slice true [],.slice true [],.int .i64 0])),q0 (.st 13 (.t 36) 4),q1 14 (.asg (.t 37))] [1,3,9,11,12,13,14])
 (.seq (.kp [1,3,9,11,13] (.seq (.reg [q1 38 (.mv (.t 12)),q1 39 (.nt (.t 38)),q1 40 (.mv (.t 39)),
  ⟨some 41,.mv (.t 14),some (40,false)⟩,
  ⟨some 42,.nt (.t 41),some (40,false)⟩,q1 43 (.pick (.t 40) (.c (.bool true)) (.t 42)),q1 44 (.mv (.t 43)),
  ⟨some 45,.mv (.t 9),some (44,false)⟩,
  ⟨some 46,.len false (.t 45),some (44,false)⟩,
  ⟨some 47,.bin .eql (.t 46) (.c (.int .i64 20)),some (44,false)⟩,q1 48 (.pick (.t 44) (.c (.bool true)) (.t 47))] [1,3,9,11,13,48])
 (.cond (.t 48) (.seq (.reg [q1 49 (.mv (.t 9)),q1 50 (.len false (.t 49)),q1 51 (.bin .add (.t 50) (.c (.int .i64 1))),q1 6 (.asg (.c (.slice true []))),q1 7 (.asg (.t 51)),q1 8 (.asg (.c (.bool false)))] [6,7,8])
 (.ret)) (.skip))))
 (.seq (.reg [q1 52 (.mv (.t 9)),q1 53 (.ld 13 4 true),q1 54 (.bsl [(.t 53)] 4),q1 55 (.app (.t 52) (.t 54) 4),q1 9 (.asg (.t 55))] [1,3,9,11])
 (.reg [q1 56 (.mv (.t 11)),q1 2 (.asg (.t 56))] [1,2,3,9])))))))))))
 (.seq (.reg [q1 57 (.mv (.t 9)),q1 6 (.asg (.t 57)),q1 7 (.asg (.c (.int .i64 0))),q1 8 (.asg (.c (.bool true)))] [6,7,8])
 (.ret)))))
theorem con_impl_ParsePlan {v0:XGeo} {v1:(List XVariable)} {v2:(List UInt8)} {r:((List XTable) × Int × Bool)} (h:sh_impl_ParsePlan v0 v1 v2 = some r):Con Tryz.prog 19 [cc6.enc v0,cc4.enc v1,cS.enc v2] [] (rs_impl_ParsePlan r) := by
 delta sh_impl_ParsePlan at h
 refine top (out := none) (f := Tryz.f19) (m := m19) (rs := [.t 6,.t 7,.t 8]) (by kernel_rfl) rfl (by kernel_rfl) (by kernel_rfl) (by kernel_rfl) (by kernel_rfl) (by kernel_rfl) ?_
 exact
  ini [q2 0 cc6 v0,q2 1 cc4 v1,q2 2 cS v2] rfl<|ws<|rg<|x_box (ss rfl rfl)<|xa (sc cc2 ([]:List XTable) rfl)<|xa (sc cI (0:Int) rfl)<|xa (sc cB false rfl)<|sq [q2 1 cc4 v1,q2 2 cS v2,q3 3 cc6 v0]<|
  xn<|ws<|wpC_kp<|ws<|rg<|st rfl<|ldb rfl rfl rfl rfl<|bnd h fun x17 e18 h=>st rfl<|o_call (a1 (c := cc6) (tXGeo (tLs tK)) rfl a0) (con_impl_IsGeo e18) (.inl (so1 sB so0))<|st rfl<|o_nt rfl<|st rfl<|mvd rfl rfl<|ite_k h (fun b19 h=>gf rfl b19<|gf rfl b19<|gf rfl b19<|st rfl<|pick1 rfl b19 (cd := cB) (v := true) rfl rfl<|sq [q2 1 cc4 v1,q2 2 cS v2,q3 3 cc6 v0,q2 22 cB true]<|
  xn<|cnd1 rfl rfl<|ws<|rg<|xa (sc cc2 ([]:List XTable) rfl)<|xa (sc cI (0:Int) rfl)<|xa (sc cB false rfl)<|sq [q2 6 cc2 ([]:List XTable),q2 7 cI (0:Int),q2 8 cB false]<|
  xn<|wpC_ret<|rt<|rt<|re<|fin h (r1 (so rfl rfl)<|r1 (ss rfl rfl)<|r1 (ss rfl rfl)<|r0) rfl)
  (fun b19 h=>gt' rfl b19<|st rfl<|mvd rfl rfl<|gt' rfl b19<|bnd h fun x20 e21 h=>st rfl<|o_call (a1 (c := cc4) (tLs (tXVariable tS tK)) rfl a0) (con_impl_IsSchema e21) (.inl (so1 sB so0))<|gt' rfl b19<|st rfl<|o_nt rfl<|st rfl<|pick0 rfl b19 (cd := cB) (v := (!x20)) rfl rfl<|sq [q2 1 cc4 v1,q2 2 cS v2,q3 3 cc6 v0,q2 22 cB (!x20)]<|
  xn<|cnd rfl h (fun b22 h=>ws<|rg<|xa (sc cc2 ([]:List XTable) rfl)<|xa (sc cI (0:Int) rfl)<|xa (sc cB false rfl)<|sq [q2 6 cc2 ([]:List XTable),q2 7 cI (0:Int),q2 8 cB false]<|
  xn<|wpC_ret<|rt<|rt<|re<|fin h (r1 (so rfl rfl)<|r1 (ss rfl rfl)<|r1 (ss rfl rfl)<|r0) rfl)
  (fun b22 h=>wpC_skip<|kpN [q2 1 cc4 v1,q2 2 cS v2,q3 3 cc6 v0] (by kernel_rfl)<|xn<|ws<|rg<|xa (sc cc2 ([]:List XTable) rfl)<|sq [q2 1 cc4 v1,q2 2 cS v2,q3 3 cc6 v0,q2 9 cc2 ([]:List XTable)]<|
  xn<|ws<|wpC_kp<|wpC_blk<|lpF (fun (s145:((List UInt8) × (List XTable)))=>[q2 1 cc4 v1,q2 2 cS s145.1,q3 3 cc6 v0,q2 9 cc2 s145.2]) (v2,([]:List XTable)) rfl h
  fun G228 nx226 s145 hn227 h=>wpC_kp<|ws<|wpC_kp<|ws<|rg<|st rfl<|mvd rfl rfl<|st rfl<|b_sne rfl rfl<|sq [q2 1 cc4 v1,q2 2 cS s145.1,q3 3 cc6 v0,q2 9 cc2 s145.2,q2 24 cB (decide (s145.1 ≠ ([]:List UInt8)))]<|
  xn<|cnd rfl h (fun b230 h=>wpC_skip<|kpN [q2 1 cc4 v1,q2 2 cS s145.1,q3 3 cc6 v0,q2 9 cc2 s145.2] (by kernel_rfl)<|xn<|wpC_blk<|ws<|rg<|st rfl<|mvd rfl rfl<|bnd h fun x233 e234 h=>st rfl<|o_call (a1 (c := cS) tS rfl (a1 (c := cS) tS rfl a0)) (con_strings_Cut e234) (.inl (so1 sS (so1 sS (so1 sB so0))))<|x_mvt rfl<|x_ext rfl rfl<|x_ext rfl rfl<|x_ext rfl rfl<|xa (ss rfl rfl)<|xa (ss rfl rfl)<|xa (ss rfl rfl)<|sq [q2 1 cc4 v1,q3 3 cc6 v0,q2 9 cc2 s145.2,q2 10 cS x233.1,q2 11 cS x233.2.1,q2 12 cB x233.2.2]<|
  xn<|ws<|rg<|st rfl<|ldb rfl rfl rfl rfl<|st rfl<|mvd rfl rfl<|st rfl<|mvd rfl rfl<|bnd h fun x237 e238 h=>st rfl<|o_call (a1 (c := cc6) (tXGeo (tLs tK)) rfl (a1 (c := cc4) (tLs (tXVariable tS tK)) rfl (a1 (c := cS) tS rfl a0))) (con_impl_ParseTable e238) (.inl (so1 (sXTable sK (sLo sK) (sLo sK) sK) (so1 sB so0)))<|x_mvt rfl<|x_ext rfl rfl<|x_ext rfl rfl<|x_all cc3 (⟨(0:Int),([]:List Int),([]:List Int),(0:Int)⟩:XTable) rfl<|x_stb (so rfl rfl) rfl (Cd.h_sz _ _) rfl<|xa (ss rfl rfl)<|sq [q2 1 cc4 v1,q3 3 cc6 v0,q2 9 cc2 s145.2,q2 11 cS x233.2.1,q2 12 cB x233.2.2,q3 13 cc3 x237.1,q2 14 cB x237.2]<|
  xn<|ws<|wpC_kp<|ws<|jw (fun (s255:Bool)=>[q2 1 cc4 v1,q3 3 cc6 v0,q2 9 cc2 s145.2,q2 11 cS x233.2.1,q3 13 cc3 x237.1,q2 48 cB s255]) h (fun s255 h=>xn<|cnd rfl h (fun b257 h=>ws<|rg<|st rfl<|mvo rfl rfl<|stw rfl<|leno rfl fun l260=>ckI_k h fun i261 h=>st rfl<|b_add (k := .i64) rfl rfl i261<|xa (sc cc2 ([]:List XTable) rfl)<|xa (ss rfl rfl)<|xa (sc cB false rfl)<|sq [q2 6 cc2 ([]:List XTable),q2 7 cI ((s145.2.length:Int) + (1:Int)),q2 8 cB false]<|
  xn<|wpC_ret<|rt<|rt<|rb<|rt<|rt<|rb<|rt<|rt<|re<|fin h (r1 (so rfl rfl)<|r1 (ss rfl rfl)<|r1 (ss rfl rfl)<|r0) rfl)
  (fun b257 h=>wpC_skip<|kpN [q2 1 cc4 v1,q3 3 cc6 v0,q2 9 cc2 s145.2,q2 11 cS x233.2.1,q3 13 cc3 x237.1] (by kernel_rfl)<|xn<|ws<|rg<|st rfl<|mvo rfl rfl<|st rfl<|ldbo rfl rfl rfl rfl<|x_bsl cc3 [x237.1] (t1 (sb rfl rfl) rfl t0) rfl rfl<|lnO_k h fun l263 h=>x_app (sr rfl rfl) (to1 rfl rfl) l263 rfl<|xa (so rfl rfl)<|sq [q2 1 cc4 v1,q3 3 cc6 v0,q2 9 cc2 (s145.2 ++ [x237.1]),q2 11 cS x233.2.1]<|
  xn<|rg<|st rfl<|mvd rfl rfl<|xa (ss rfl rfl)<|sq [q2 1 cc4 v1,q2 2 cS x233.2.1,q3 3 cc6 v0,q2 9 cc2 (s145.2 ++ [x237.1])]<|
  xbb<|kpN [q2 1 cc4 v1,q2 2 cS x233.2.1,q3 3 cc6 v0,q2 9 cc2 (s145.2 ++ [x237.1])] (by kernel_rfl)<|xn<|hn227 (x233.2.1,(s145.2 ++ [x237.1])) h))
  fun s255' q256 h=>rg<|st rfl<|mvd rfl rfl<|st rfl<|o_nt rfl<|st rfl<|mvd rfl rfl<|ite_k h (fun b264 h=>gf rfl b264<|gf rfl b264<|st rfl<|pick1 rfl b264 (cd := cB) (v := true) rfl rfl<|st rfl<|mvd rfl rfl<|gf rfl rfl<|gf rfl rfl<|gf rfl rfl<|st rfl<|pick1 rfl rfl (cd := cB) (v := true) rfl rfl<|sq [q2 1 cc4 v1,q3 3 cc6 v0,q2 9 cc2 s145.2,q2 11 cS x233.2.1,q3 13 cc3 x237.1,q2 48 cB true]<|
  lfn (S := (fun (s255:Bool)=>[q2 1 cc4 v1,q3 3 cc6 v0,q2 9 cc2 s145.2,q2 11 cS x233.2.1,q3 13 cc3 x237.1,q2 48 cB s255])) h q256 rfl)
  (fun b264 h=>gt' rfl b264<|st rfl<|mvd rfl rfl<|gt' rfl b264<|st rfl<|o_nt rfl<|st rfl<|pick0 rfl b264 (cd := cB) (v := (!x237.2)) rfl rfl<|st rfl<|mvd rfl rfl<|ite_k h (fun b265 h=>gf rfl b265<|gf rfl b265<|gf rfl b265<|st rfl<|pick1 rfl b265 (cd := cB) (v := true) rfl rfl<|sq [q2 1 cc4 v1,q3 3 cc6 v0,q2 9 cc2 s145.2,q2 11 cS x233.2.1,q3 13 cc3 x237.1,q2 48 cB true]<|
  lfn (S := (fun (s255:Bool)=>[q2 1 cc4 v1,q3 3 cc6 v0,q2 9 cc2 s145.2,q2 11 cS x233.2.1,q3 13 cc3 x237.1,q2 48 cB s255])) h q256 rfl)
  (fun b265 h=>gt' rfl b265<|st rfl<|mvo rfl rfl<|gt' rfl b265<|stw rfl<|leno rfl fun l266=>gt' rfl b265<|st rfl<|b_eql (k := .i64) rfl rfl<|st rfl<|pick0 rfl b265 (cd := cB) (v := (decide ((s145.2.length:Int) = (20:Int)))) rfl rfl<|sq [q2 1 cc4 v1,q3 3 cc6 v0,q2 9 cc2 s145.2,q2 11 cS x233.2.1,q3 13 cc3 x237.1,q2 48 cB (decide ((s145.2.length:Int) = (20:Int)))]<|
  lfn (S := (fun (s255:Bool)=>[q2 1 cc4 v1,q3 3 cc6 v0,q2 9 cc2 s145.2,q2 11 cS x233.2.1,q3 13 cc3 x237.1,q2 48 cB s255])) h q256 rfl)))
  (fun b230 h=>wpC_exit<|xt<|xt<|xt<|xt<|xb<|kpN [q2 9 cc2 s145.2] (by kernel_rfl)<|xn<|ws<|rg<|st rfl<|mvo rfl rfl<|xa (sr rfl rfl)<|xa (sc cI (0:Int) rfl)<|xa (sc cB true rfl)<|sq [q2 6 cc2 s145.2,q2 7 cI (0:Int),q2 8 cB true]<|
  xn<|wpC_ret<|re<|fin h (r1 (so rfl rfl)<|r1 (ss rfl rfl)<|r1 (ss rfl rfl)<|r0) rfl)))

def rs_laws_eqTableS (r:Bool):List D := [cB.enc r]
def m20:MC := .seq (.reg [q1 4 (.asg (.c (.bool false)))] [0,1])
 (.seq (.kp [0,1] (.seq (.reg [q1 6 (.mv (.t 0)),q1 7 (.len false (.t 6)),q1 8 (.mv (.t 1)),q1 9 (.len false (.t 8)),q1 10 (.bin .neq (.t 7) (.t 9))] [0,1,10])
 (.cond (.t 10) (.seq (.reg [q1 4 (.asg (.c (.bool false)))] [4])
 (.ret)) (.skip))))
 (.seq (.kp [] (.seq (.reg [q1 5 (.asg (.c (.int .i64 0)))] [0,1,5])
 (.blk 0 (.loop (.seq (.kp [0,1,5] (.seq (.reg [q1 11 (.mv (.t 5)),q1 12 (.mv (.t 0)),q1 13 (.len false (.t 12)),q1 14 (.bin .lss (.t 11) (.t 13))] [0,1,5,14])
 (.cond (.t 14) (.skip) (.exit 0))))
 (.seq (.kp [0,1,5] (.blk 1 (.seq (.drw [⟨0,q1 17 (.mv (.t 0)),[18,19,20,21,22,23,24,25,26]⟩,
  ⟨1,q1 18 (.mv (.t 5)),[17,19,20,21,22,23,24,25,26]⟩,
  ⟨2,q1 19 (.ia 17 (.t 18) 4),[20,21,22,23,24,25,26]⟩,
  ⟨3,q1 20 (.ld 19 4 true),[21,22,23,24,25,26]⟩,
  ⟨4,q1 21 (.mv (.t 1)),[17,18,19,20,22,23,24,25,26]⟩,
  ⟨5,q1 22 (.mv (.t 5)),[17,18,19,20,21,23,24,25,26]⟩,
  ⟨6,q1 23 (.ia 21 (.t 22) 4),[17,18,19,20,24,25,26]⟩,
  ⟨7,q1 24 (.ld 23 4 true),[17,18,19,20,25,26]⟩,
  ⟨8,q1 25 (.call 11 [(.t 20),(.t 24)]),[26]⟩,
  ⟨9,q1 26 (.nt (.t 25)),[]⟩]
  [] [0,1,5,26])
 (.cond (.t 26) (.seq (.reg [q1 4 (.asg (.c (.bool false)))] [4])
 (.ret)) (.skip)))))
 (.reg [q1 15 (.mv (.t 5)),q1 16 (.bin .add (.t 15) (.c (.int .i64 1))),q1 5 (.asg (.t 16))] [0,1,5])))))))
 (.seq (.reg [q1 4 (.asg (.c (.bool true)))] [4])
 (.ret))))
theorem con_laws_eqTableS {v0:(List XTable)} {v1:(List XTable)} {r:Bool} (h:sh_laws_eqTableS v0 v1 = some r):Con Tryz.prog 20 [cc0.enc v0,cc0.enc v1] [] (rs_laws_eqTableS r) := by
 delta sh_laws_eqTableS at h
 refine top (out := none) (f := Tryz.f20) (m := m20) (rs := [.t 4]) (by kernel_rfl) rfl (by kernel_rfl) (by kernel_rfl) (by kernel_rfl) (by kernel_rfl) (by kernel_rfl) ?_
 exact
  ini [q2 0 cc0 v0,q2 1 cc0 v1] rfl<|ws<|rg<|xa (sc cB false rfl)<|sq [q2 0 cc0 v0,q2 1 cc0 v1]<|
  xn<|ws<|wpC_kp<|ws<|rg<|st rfl<|mvd rfl rfl<|stw rfl<|lens rfl fun l8=>st rfl<|mvd rfl rfl<|stw rfl<|lens rfl fun l9=>st rfl<|b_neq (k := .i64) rfl rfl<|sq [q2 0 cc0 v0,q2 1 cc0 v1,q2 10 cB (decide ((v0.length:Int) ≠ (v1.length:Int)))]<|
  xn<|cnd rfl h (fun b10 h=>ws<|rg<|xa (sc cB false rfl)<|sq [q2 4 cB false]<|
  xn<|wpC_ret<|rt<|rt<|re<|fin h (r1 (ss rfl rfl)<|r0) rfl)
  (fun b10 h=>wpC_skip<|kpN [q2 0 cc0 v0,q2 1 cc0 v1] (by kernel_rfl)<|xn<|ws<|wpC_kp<|ws<|rg<|xa (sc cI (0:Int) rfl)<|sq [q2 0 cc0 v0,q2 1 cc0 v1,q2 5 cI (0:Int)]<|
  xn<|wpC_blk<|lpF (fun (s142:Int)=>[q2 0 cc0 v0,q2 1 cc0 v1,q2 5 cI s142]) (0:Int) rfl h
  fun G231 nx229 s142 hn230 h=>ws<|wpC_kp<|ws<|rg<|st rfl<|mvd rfl rfl<|st rfl<|mvd rfl rfl<|stw rfl<|lens rfl fun l236=>st rfl<|b_lss (k := .i64) rfl rfl<|sq [q2 0 cc0 v0,q2 1 cc0 v1,q2 5 cI s142,q2 14 cB (decide (s142 < (v0.length:Int)))]<|
  xn<|cnd rfl h (fun b237 h=>wpC_skip<|kpN [q2 0 cc0 v0,q2 1 cc0 v1,q2 5 cI s142] (by kernel_rfl)<|xn<|ws<|wpC_kp<|wpC_blk<|ws<|drw_s<|pst rfl<|mvd rfl rfl ⟨rfl,pst rfl<|mvd rfl rfl ⟨rfl,getO_kp h fun x263 i264 g265 h=>pst rfl<|ias rfl rfl i264 g265 rfl ⟨rfl,pst rfl<|ldi rfl rfl rfl rfl ⟨rfl,pst rfl<|mvd rfl rfl ⟨rfl,pst rfl<|mvd rfl rfl ⟨rfl,getO_kp h fun x266 i267 g268 h=>pst rfl<|ias rfl rfl i267 g268 rfl ⟨rfl,pst rfl<|ldi rfl rfl rfl rfl ⟨rfl,bndp h fun x269 e270 h=>pst rfl<|o_call (a1 (c := cc1) (tXTable tK (tLs tK) (tLs tK) tK) rfl (a1 (c := cc1) (tXTable tK (tLs tK) (tLs tK) tK) rfl a0)) (con_laws_eqTable e270) (.inl (so1 sB so0)) ⟨rfl,pst rfl<|o_nt rfl ⟨rfl,preN<|sq [q2 0 cc0 v0,q2 1 cc0 v1,q2 5 cI s142,q2 26 cB (!x269)]<|
  xn<|cnd rfl h (fun b271 h=>ws<|rg<|xa (sc cB false rfl)<|sq [q2 4 cB false]<|
  xn<|wpC_ret<|rb<|rt<|rt<|rt<|rb<|rt<|rt<|re<|fin h (r1 (ss rfl rfl)<|r0) rfl)
  (fun b271 h=>wpC_skip<|xbb<|kpN [q2 0 cc0 v0,q2 1 cc0 v1,q2 5 cI s142] (by kernel_rfl)<|xn<|rg<|st rfl<|mvd rfl rfl<|ckI_k h fun i272 h=>st rfl<|b_add (k := .i64) rfl rfl i272<|xa (ss rfl rfl)<|sq [q2 0 cc0 v0,q2 1 cc0 v1,q2 5 cI (s142 + (1:Int))]<|
  xn<|hn230 (s142 + (1:Int)) h)⟩⟩⟩⟩⟩⟩⟩⟩⟩⟩)
  (fun b237 h=>wpC_exit<|xt<|xt<|xt<|xb<|kpN [] (by kernel_rfl)<|xn<|ws<|rg<|xa (sc cB true rfl)<|sq [q2 4 cB true]<|
  xn<|wpC_ret<|re<|fin h (r1 (ss rfl rfl)<|r0) rfl))

def os_laws_markTableS (r:((List XTable) × Int)):D := cc2.enc r.1
def rs_laws_markTableS (r:((List XTable) × Int)):List D := [cI.enc r.2]
def m21:MC := .seq (.reg [q1 4 (.asg (.c (.int .i64 0)))] [0,1])
 (.seq (.kp [0,1] (.seq (.reg [q1 5 (.asg (.c (.int .i64 0)))] [0,1,5])
 (.blk 0 (.loop (.seq (.kp [0,1,5] (.seq (.reg [q1 6 (.mv (.t 5)),q1 7 (.mv (.t 0)),q1 8 (.len false (.t 7)),q1 9 (.bin .lss (.t 6) (.t 8))] [0,1,5,9])
 (.cond (.t 9) (.skip) (.exit 0))))
 (.seq (.kp [0,1,5] (.blk 1 (.seq (.reg [q1 12 (.mv (.t 0)),q1 13 (.mv (.t 5)),q1 14 (.mv (.t 1)),q1 15 (.ia 12 (.t 13) 4),q1 16 (.fa 15 0 0),q0 (.st 16 (.t 14) 1)] [0,1,5])
 (.seq (.reg [q1 17 (.mv (.t 1)),q1 18 (.bin .add (.t 17) (.c (.int .i64 1))),q1 1 (.asg (.t 18))] [0,1,5])
 (.seq (.reg [q1 19 (.mv (.t 0)),q1 20 (.mv (.t 5)),q1 21 (.ia 19 (.t 20) 4),q1 22 (.fa 21 1 1),q1 23 (.ld 22 1 false),q1 24 (.mv (.t 1)),q1 25 (.callO 36 [(.t 23),(.t 24)]),q1 1 (.asg (.t 25))] [0,1,5])
 (.seq (.reg [q1 26 (.mv (.t 0)),q1 27 (.mv (.t 5)),q1 28 (.ia 26 (.t 27) 4),q1 29 (.fa 28 2 2),q1 30 (.ld 29 1 false),q1 31 (.mv (.t 1)),q1 32 (.callO 36 [(.t 30),(.t 31)]),q1 1 (.asg (.t 32))] [0,1,5])
 (.seq (.reg [q1 33 (.mv (.t 0)),q1 34 (.mv (.t 5)),q1 35 (.mv (.t 1)),q1 36 (.ia 33 (.t 34) 4),q1 37 (.fa 36 3 3),q0 (.st 37 (.t 35) 1)] [0,1,5])
 (.reg [q1 38 (.mv (.t 1)),q1 39 (.bin .add (.t 38) (.c (.int .i64 1))),q1 1 (.asg (.t 39))] [0,1,5]))))))))
 (.reg [q1 10 (.mv (.t 5)),q1 11 (.bin .add (.t 10) (.c (.int .i64 1))),q1 5 (.asg (.t 11))] [0,1,5])))))))
 (.seq (.reg [q1 40 (.mv (.t 1)),q1 4 (.asg (.t 40))] [0,4])
 (.ret)))
theorem con_laws_markTableS {v0:(List XTable)} {v1:Int} {r:((List XTable) × Int)} (h:sh_laws_markTableS v0 v1 = some r):Con Tryz.prog 21 [cc2.enc v0,cI.enc v1] (outsOf (some (0,os_laws_markTableS r))) (rs_laws_markTableS r) := by
 delta sh_laws_markTableS at h
 refine top (out := some (0,os_laws_markTableS r)) (f := Tryz.f21) (m := m21) (rs := [.t 4]) (by kernel_rfl) rfl (by kernel_rfl) (by kernel_rfl) (by kernel_rfl) (by kernel_rfl) (by kernel_rfl) ?_
 exact
  ini [q2 0 cc2 v0,q2 1 cI v1] rfl<|ws<|rg<|xa (sc cI (0:Int) rfl)<|sq [q2 0 cc2 v0,q2 1 cI v1]<|
  xn<|ws<|wpC_kp<|ws<|rg<|xa (sc cI (0:Int) rfl)<|sq [q2 0 cc2 v0,q2 1 cI v1,q2 5 cI (0:Int)]<|
  xn<|wpC_blk<|lpF (fun (s240:((List XTable) × Int × Int))=>[q2 0 cc2 s240.1,q2 1 cI s240.2.1,q2 5 cI s240.2.2]) (v0,v1,(0:Int)) rfl h
  fun G401 nx399 s240 hn400 h=>ws<|wpC_kp<|ws<|rg<|st rfl<|mvd rfl rfl<|st rfl<|mvo rfl rfl<|stw rfl<|leno rfl fun l406=>st rfl<|b_lss (k := .i64) rfl rfl<|sq [q2 0 cc2 s240.1,q2 1 cI s240.2.1,q2 5 cI s240.2.2,q2 9 cB (decide (s240.2.2 < (s240.1.length:Int)))]<|
  xn<|cnd rfl h (fun b407 h=>wpC_skip<|kpN [q2 0 cc2 s240.1,q2 1 cI s240.2.1,q2 5 cI s240.2.2] (by kernel_rfl)<|xn<|ws<|wpC_kp<|wpC_blk<|ws<|rg<|st rfl<|mvo rfl rfl<|st rfl<|mvd rfl rfl<|st rfl<|mvd rfl rfl<|getO_k h fun x446 i447 g448 h=>st rfl<|iar rfl rfl rfl rfl i447 g448 rfl<|st rfl<|faa rfl rfl (Gt.idx g448 Gt.nil) rfl rfl rfl<|x_sta (cc2.enc (s240.1.set (s240.2.2).toNat (⟨s240.2.1,x446.Vars,x446.Where,x446.Sum⟩:XTable))) (ss rfl rfl) rfl rfl (Ln.idx g448 (Ln.fld rfl rfl Ln.nil rfl)) (Cd.h_sz cI _) rfl<|sq [q2 0 cc2 (s240.1.set (s240.2.2).toNat (⟨s240.2.1,x446.Vars,x446.Where,x446.Sum⟩:XTable)),q2 1 cI s240.2.1,q2 5 cI s240.2.2]<|
  xn<|ws<|rg<|st rfl<|mvd rfl rfl<|ckI_k h fun i450 h=>st rfl<|b_add (k := .i64) rfl rfl i450<|xa (ss rfl rfl)<|sq [q2 0 cc2 (s240.1.set (s240.2.2).toNat (⟨s240.2.1,x446.Vars,x446.Where,x446.Sum⟩:XTable)),q2 1 cI (s240.2.1 + (1:Int)),q2 5 cI s240.2.2]<|
  xn<|ws<|rg<|st rfl<|mvo rfl rfl<|st rfl<|mvd rfl rfl<|getO_k h fun x456 i457 g458 h=>st rfl<|iar rfl rfl rfl rfl i457 g458 rfl<|st rfl<|faa rfl rfl (Gt.idx g458 Gt.nil) rfl rfl rfl<|st rfl<|ldao rfl rfl (Gt.idx g458 (Gt.fld rfl rfl Gt.nil)) rfl rfl rfl<|st rfl<|mvd rfl rfl<|bnd h fun x459 e460 h=>x_clr (c := cc11) (c' := cc11) (cc2.enc ((s240.1.set (s240.2.2).toNat (⟨s240.2.1,x446.Vars,x446.Where,x446.Sum⟩:XTable)).set (s240.2.2).toNat (⟨x456.Level,x459.1,x456.Where,x456.Sum⟩:XTable))) (sLo sK) rfl (a1 (c := cI) tK rfl a0) rfl (Ln.idx g458 (Ln.fld rfl rfl Ln.nil rfl)) (con_laws_markIntS e460) rfl rfl (so1 sK so0)<|xa (ss rfl rfl)<|sq [q2 0 cc2 ((s240.1.set (s240.2.2).toNat (⟨s240.2.1,x446.Vars,x446.Where,x446.Sum⟩:XTable)).set (s240.2.2).toNat (⟨x456.Level,x459.1,x456.Where,x456.Sum⟩:XTable)),q2 1 cI x459.2,q2 5 cI s240.2.2]<|
  xn<|ws<|rg<|st rfl<|mvo rfl rfl<|st rfl<|mvd rfl rfl<|getO_k h fun x466 i467 g468 h=>st rfl<|iar rfl rfl rfl rfl i467 g468 rfl<|st rfl<|faa rfl rfl (Gt.idx g468 Gt.nil) rfl rfl rfl<|st rfl<|ldao rfl rfl (Gt.idx g468 (Gt.fld rfl rfl Gt.nil)) rfl rfl rfl<|st rfl<|mvd rfl rfl<|bnd h fun x469 e470 h=>x_clr (c := cc11) (c' := cc11) (cc2.enc (((s240.1.set (s240.2.2).toNat (⟨s240.2.1,x446.Vars,x446.Where,x446.Sum⟩:XTable)).set (s240.2.2).toNat (⟨x456.Level,x459.1,x456.Where,x456.Sum⟩:XTable)).set (s240.2.2).toNat (⟨x466.Level,x466.Vars,x469.1,x466.Sum⟩:XTable))) (sLo sK) rfl (a1 (c := cI) tK rfl a0) rfl (Ln.idx g468 (Ln.fld rfl rfl Ln.nil rfl)) (con_laws_markIntS e470) rfl rfl (so1 sK so0)<|xa (ss rfl rfl)<|sq [q2 0 cc2 (((s240.1.set (s240.2.2).toNat (⟨s240.2.1,x446.Vars,x446.Where,x446.Sum⟩:XTable)).set (s240.2.2).toNat (⟨x456.Level,x459.1,x456.Where,x456.Sum⟩:XTable)).set (s240.2.2).toNat (⟨x466.Level,x466.Vars,x469.1,x466.Sum⟩:XTable)),q2 1 cI x469.2,q2 5 cI s240.2.2]<|
  xn<|ws<|rg<|st rfl<|mvo rfl rfl<|st rfl<|mvd rfl rfl<|st rfl<|mvd rfl rfl<|getO_k h fun x474 i475 g476 h=>st rfl<|iar rfl rfl rfl rfl i475 g476 rfl<|st rfl<|faa rfl rfl (Gt.idx g476 Gt.nil) rfl rfl rfl<|x_sta (cc2.enc ((((s240.1.set (s240.2.2).toNat (⟨s240.2.1,x446.Vars,x446.Where,x446.Sum⟩:XTable)).set (s240.2.2).toNat (⟨x456.Level,x459.1,x456.Where,x456.Sum⟩:XTable)).set (s240.2.2).toNat (⟨x466.Level,x466.Vars,x469.1,x466.Sum⟩:XTable)).set (s240.2.2).toNat (⟨x474.Level,x474.Vars,x474.Where,x469.2⟩:XTable))) (ss rfl rfl) rfl rfl (Ln.idx g476 (Ln.fld rfl rfl Ln.nil rfl)) (Cd.h_sz cI _) rfl<|sq [q2 0 cc2 ((((s240.1.set (s240.2.2).toNat (⟨s240.2.1,x446.Vars,x446.Where,x446.Sum⟩:XTable)).set (s240.2.2).toNat (⟨x456.Level,x459.1,x456.Where,x456.Sum⟩:XTable)).set (s240.2.2).toNat (⟨x466.Level,x466.Vars,x469.1,x466.Sum⟩:XTable)).set (s240.2.2).toNat (⟨x474.Level,x474.Vars,x474.Where,x469.2⟩:XTable)),q2 1 cI x469.2,q2 5 cI s240.2.2]<|
  xn<|rg<|st rfl<|mvd rfl rfl<|ckI_k h fun i477 h=>st rfl<|b_add (k := .i64) rfl rfl i477<|xa (ss rfl rfl)<|sq [q2 0 cc2 ((((s240.1.set (s240.2.2).toNat (⟨s240.2.1,x446.Vars,x446.Where,x446.Sum⟩:XTable)).set (s240.2.2).toNat (⟨x456.Level,x459.1,x456.Where,x456.Sum⟩:XTable)).set (s240.2.2).toNat (⟨x466.Level,x466.Vars,x469.1,x466.Sum⟩:XTable)).set (s240.2.2).toNat (⟨x474.Level,x474.Vars,x474.Where,x469.2⟩:XTable)),q2 1 cI (x469.2 + (1:Int)),q2 5 cI s240.2.2]<|
  xbb<|kpN [q2 0 cc2 ((((s240.1.set (s240.2.2).toNat (⟨s240.2.1,x446.Vars,x446.Where,x446.Sum⟩:XTable)).set (s240.2.2).toNat (⟨x456.Level,x459.1,x456.Where,x456.Sum⟩:XTable)).set (s240.2.2).toNat (⟨x466.Level,x466.Vars,x469.1,x466.Sum⟩:XTable)).set (s240.2.2).toNat (⟨x474.Level,x474.Vars,x474.Where,x469.2⟩:XTable)),q2 1 cI (x469.2 + (1:Int)),q2 5 cI s240.2.2] (by kernel_rfl)<|xn<|rg<|st rfl<|mvd rfl rfl<|ckI_k h fun i478 h=>st rfl<|b_add (k := .i64) rfl rfl i478<|xa (ss rfl rfl)<|sq [q2 0 cc2 ((((s240.1.set (s240.2.2).toNat (⟨s240.2.1,x446.Vars,x446.Where,x446.Sum⟩:XTable)).set (s240.2.2).toNat (⟨x456.Level,x459.1,x456.Where,x456.Sum⟩:XTable)).set (s240.2.2).toNat (⟨x466.Level,x466.Vars,x469.1,x466.Sum⟩:XTable)).set (s240.2.2).toNat (⟨x474.Level,x474.Vars,x474.Where,x469.2⟩:XTable)),q2 1 cI (x469.2 + (1:Int)),q2 5 cI (s240.2.2 + (1:Int))]<|
  xn<|hn400 (((((s240.1.set (s240.2.2).toNat (⟨s240.2.1,x446.Vars,x446.Where,x446.Sum⟩:XTable)).set (s240.2.2).toNat (⟨x456.Level,x459.1,x456.Where,x456.Sum⟩:XTable)).set (s240.2.2).toNat (⟨x466.Level,x466.Vars,x469.1,x466.Sum⟩:XTable)).set (s240.2.2).toNat (⟨x474.Level,x474.Vars,x474.Where,x469.2⟩:XTable)),(x469.2 + (1:Int)),(s240.2.2 + (1:Int))) h)
  (fun b407 h=>wpC_exit<|xt<|xt<|xt<|xb<|kpN [q2 0 cc2 s240.1,q2 1 cI s240.2.1] (by kernel_rfl)<|xn<|ws<|rg<|st rfl<|mvd rfl rfl<|xa (ss rfl rfl)<|sq [q2 0 cc2 s240.1,q2 4 cI s240.2.1]<|
  xn<|wpC_ret<|re<|finO h (r1 (ss rfl rfl)<|r0) rfl rfl)

def rs_laws_heldTableS (r:Int):List D := [cI.enc r]
def m22:MC := .seq (.reg [q1 4 (.asg (.c (.int .i64 0)))] [0,1])
 (.seq (.kp [1] (.seq (.reg [q1 5 (.asg (.c (.int .i64 0)))] [0,1,5])
 (.blk 0 (.loop (.seq (.kp [0,1,5] (.seq (.reg [q1 6 (.mv (.t 5)),q1 7 (.mv (.t 0)),q1 8 (.len false (.t 7)),q1 9 (.bin .lss (.t 6) (.t 8))] [0,1,5,9])
 (.cond (.t 9) (.skip) (.exit 0))))
 (.seq (.kp [0,1,5] (.blk 1 (.seq (.kp [0,1,5] (.seq (.reg [q1 12 (.mv (.t 0)),q1 13 (.mv (.t 5)),q1 14 (.ia 12 (.t 13) 4),q1 15 (.fa 14 0 0),q1 16 (.ld 15 1 false),q1 17 (.mv (.t 1)),q1 18 (.bin .neq (.t 16) (.t 17))] [0,1,5,18])
 (.cond (.t 18) (.seq (.reg [q1 4 (.asg (.c (.int .i64 (-1))))] [4])
 (.ret)) (.skip))))
 (.seq (.reg [q1 19 (.mv (.t 1)),q1 20 (.bin .add (.t 19) (.c (.int .i64 1))),q1 1 (.asg (.t 20))] [0,1,5])
 (.seq (.reg [q1 21 (.mv (.t 0)),q1 22 (.mv (.t 5)),q1 23 (.ia 21 (.t 22) 4),q1 24 (.fa 23 1 1),q1 25 (.ld 24 1 false),q1 26 (.mv (.t 1)),q1 27 (.call 38 [(.t 25),(.t 26)]),q1 1 (.asg (.t 27))] [0,1,5])
 (.seq (.kp [0,1,5] (.seq (.reg [q1 28 (.mv (.t 1)),q1 29 (.bin .lss (.t 28) (.c (.int .i64 0)))] [0,1,5,29])
 (.cond (.t 29) (.seq (.reg [q1 4 (.asg (.c (.int .i64 (-1))))] [4])
 (.ret)) (.skip))))
 (.seq (.reg [q1 30 (.mv (.t 0)),q1 31 (.mv (.t 5)),q1 32 (.ia 30 (.t 31) 4),q1 33 (.fa 32 2 2),q1 34 (.ld 33 1 false),q1 35 (.mv (.t 1)),q1 36 (.call 38 [(.t 34),(.t 35)]),q1 1 (.asg (.t 36))] [0,1,5])
 (.seq (.kp [0,1,5] (.seq (.reg [q1 37 (.mv (.t 1)),q1 38 (.bin .lss (.t 37) (.c (.int .i64 0)))] [0,1,5,38])
 (.cond (.t 38) (.seq (.reg [q1 4 (.asg (.c (.int .i64 (-1))))] [4])
 (.ret)) (.skip))))
 (.seq (.kp [0,1,5] (.seq (.reg [q1 39 (.mv (.t 0)),q1 40 (.mv (.t 5)),q1 41 (.ia 39 (.t 40) 4),q1 42 (.fa 41 3 3),q1 43 (.ld 42 1 false),q1 44 (.mv (.t 1)),q1 45 (.bin .neq (.t 43) (.t 44))] [0,1,5,45])
 (.cond (.t 45) (.seq (.reg [q1 4 (.asg (.c (.int .i64 (-1))))] [4])
 (.ret)) (.skip))))
 (.reg [q1 46 (.mv (.t 1)),q1 47 (.bin .add (.t 46) (.c (.int .i64 1))),q1 1 (.asg (.t 47))] [0,1,5]))))))))))
 (.reg [q1 10 (.mv (.t 5)),q1 11 (.bin .add (.t 10) (.c (.int .i64 1))),q1 5 (.asg (.t 11))] [0,1,5])))))))
 (.seq (.reg [q1 48 (.mv (.t 1)),q1 4 (.asg (.t 48))] [4])
 (.ret)))
theorem con_laws_heldTableS {v0:(List XTable)} {v1:Int} {r:Int} (h:sh_laws_heldTableS v0 v1 = some r):Con Tryz.prog 22 [cc0.enc v0,cI.enc v1] [] (rs_laws_heldTableS r) := by
 delta sh_laws_heldTableS at h
 refine top (out := none) (f := Tryz.f22) (m := m22) (rs := [.t 4]) (by kernel_rfl) rfl (by kernel_rfl) (by kernel_rfl) (by kernel_rfl) (by kernel_rfl) (by kernel_rfl) ?_
 exact
  ini [q2 0 cc0 v0,q2 1 cI v1] rfl<|ws<|rg<|xa (sc cI (0:Int) rfl)<|sq [q2 0 cc0 v0,q2 1 cI v1]<|
  xn<|ws<|wpC_kp<|ws<|rg<|xa (sc cI (0:Int) rfl)<|sq [q2 0 cc0 v0,q2 1 cI v1,q2 5 cI (0:Int)]<|
  xn<|wpC_blk<|lpF (fun (s216:(Int × Int))=>[q2 0 cc0 v0,q2 1 cI s216.1,q2 5 cI s216.2]) (v1,(0:Int)) rfl h
  fun G361 nx359 s216 hn360 h=>ws<|wpC_kp<|ws<|rg<|st rfl<|mvd rfl rfl<|st rfl<|mvd rfl rfl<|stw rfl<|lens rfl fun l366=>st rfl<|b_lss (k := .i64) rfl rfl<|sq [q2 0 cc0 v0,q2 1 cI s216.1,q2 5 cI s216.2,q2 9 cB (decide (s216.2 < (v0.length:Int)))]<|
  xn<|cnd rfl h (fun b367 h=>wpC_skip<|kpN [q2 0 cc0 v0,q2 1 cI s216.1,q2 5 cI s216.2] (by kernel_rfl)<|xn<|ws<|wpC_kp<|wpC_blk<|ws<|wpC_kp<|ws<|rg<|st rfl<|mvd rfl rfl<|st rfl<|mvd rfl rfl<|getO_k h fun x409 i410 g411 h=>st rfl<|ias rfl rfl i410 g411 rfl<|st rfl<|fai rfl rfl rfl rfl<|st rfl<|ldi rfl rfl rfl rfl<|st rfl<|mvd rfl rfl<|st rfl<|b_neq (k := .i64) rfl rfl<|sq [q2 0 cc0 v0,q2 1 cI s216.1,q2 5 cI s216.2,q2 18 cB (decide (x409.Level ≠ s216.1))]<|
  xn<|cnd rfl h (fun b412 h=>ws<|rg<|xa (sc cI (-1:Int) rfl)<|sq [q2 4 cI (-1:Int)]<|
  xn<|wpC_ret<|rt<|rt<|rb<|rt<|rt<|rt<|rb<|rt<|rt<|re<|fin h (r1 (ss rfl rfl)<|r0) rfl)
  (fun b412 h=>wpC_skip<|kpN [q2 0 cc0 v0,q2 1 cI s216.1,q2 5 cI s216.2] (by kernel_rfl)<|xn<|ws<|rg<|st rfl<|mvd rfl rfl<|ckI_k h fun i414 h=>st rfl<|b_add (k := .i64) rfl rfl i414<|xa (ss rfl rfl)<|sq [q2 0 cc0 v0,q2 1 cI (s216.1 + (1:Int)),q2 5 cI s216.2]<|
  xn<|ws<|rg<|st rfl<|mvd rfl rfl<|st rfl<|mvd rfl rfl<|st rfl<|ias rfl rfl i410 g411 rfl<|st rfl<|fai rfl rfl rfl rfl<|st rfl<|ldi rfl rfl rfl rfl<|st rfl<|mvd rfl rfl<|bnd h fun x417 e418 h=>st rfl<|o_call (a1 (c := cc9) (tLs tK) rfl (a1 (c := cI) tK rfl a0)) (con_laws_heldIntS e418) (.inl (so1 sK so0))<|xa (ss rfl rfl)<|sq [q2 0 cc0 v0,q2 1 cI x417,q2 5 cI s216.2]<|
  xn<|ws<|wpC_kp<|ws<|rg<|st rfl<|mvd rfl rfl<|st rfl<|b_lss (k := .i64) rfl rfl<|sq [q2 0 cc0 v0,q2 1 cI x417,q2 5 cI s216.2,q2 29 cB (decide (x417 < (0:Int)))]<|
  xn<|cnd rfl h (fun b420 h=>ws<|rg<|xa (sc cI (-1:Int) rfl)<|sq [q2 4 cI (-1:Int)]<|
  xn<|wpC_ret<|rt<|rt<|rb<|rt<|rt<|rt<|rb<|rt<|rt<|re<|fin h (r1 (ss rfl rfl)<|r0) rfl)
  (fun b420 h=>wpC_skip<|kpN [q2 0 cc0 v0,q2 1 cI x417,q2 5 cI s216.2] (by kernel_rfl)<|xn<|ws<|rg<|st rfl<|mvd rfl rfl<|st rfl<|mvd rfl rfl<|st rfl<|ias rfl rfl i410 g411 rfl<|st rfl<|fai rfl rfl rfl rfl<|st rfl<|ldi rfl rfl rfl rfl<|st rfl<|mvd rfl rfl<|bnd h fun x423 e424 h=>st rfl<|o_call (a1 (c := cc9) (tLs tK) rfl (a1 (c := cI) tK rfl a0)) (con_laws_heldIntS e424) (.inl (so1 sK so0))<|xa (ss rfl rfl)<|sq [q2 0 cc0 v0,q2 1 cI x423,q2 5 cI s216.2]<|
  xn<|ws<|wpC_kp<|ws<|rg<|st rfl<|mvd rfl rfl<|st rfl<|b_lss (k := .i64) rfl rfl<|sq [q2 0 cc0 v0,q2 1 cI x423,q2 5 cI s216.2,q2 38 cB (decide (x423 < (0:Int)))]<|
  xn<|cnd rfl h (fun b426 h=>ws<|rg<|xa (sc cI (-1:Int) rfl)<|sq [q2 4 cI (-1:Int)]<|
  xn<|wpC_ret<|rt<|rt<|rb<|rt<|rt<|rt<|rb<|rt<|rt<|re<|fin h (r1 (ss rfl rfl)<|r0) rfl)
  (fun b426 h=>wpC_skip<|kpN [q2 0 cc0 v0,q2 1 cI x423,q2 5 cI s216.2] (by kernel_rfl)<|xn<|ws<|wpC_kp<|ws<|rg<|st rfl<|mvd rfl rfl<|st rfl<|mvd rfl rfl<|st rfl<|ias rfl rfl i410 g411 rfl<|st rfl<|fai rfl rfl rfl rfl<|st rfl<|ldi rfl rfl rfl rfl<|st rfl<|mvd rfl rfl<|st rfl<|b_neq (k := .i64) rfl rfl<|sq [q2 0 cc0 v0,q2 1 cI x423,q2 5 cI s216.2,q2 45 cB (decide (x409.Sum ≠ x423))]<|
  xn<|cnd rfl h (fun b428 h=>ws<|rg<|xa (sc cI (-1:Int) rfl)<|sq [q2 4 cI (-1:Int)]<|
  xn<|wpC_ret<|rt<|rt<|rb<|rt<|rt<|rt<|rb<|rt<|rt<|re<|fin h (r1 (ss rfl rfl)<|r0) rfl)
  (fun b428 h=>wpC_skip<|kpN [q2 0 cc0 v0,q2 1 cI x423,q2 5 cI s216.2] (by kernel_rfl)<|xn<|rg<|st rfl<|mvd rfl rfl<|ckI_k h fun i429 h=>st rfl<|b_add (k := .i64) rfl rfl i429<|xa (ss rfl rfl)<|sq [q2 0 cc0 v0,q2 1 cI (x423 + (1:Int)),q2 5 cI s216.2]<|
  xbb<|kpN [q2 0 cc0 v0,q2 1 cI (x423 + (1:Int)),q2 5 cI s216.2] (by kernel_rfl)<|xn<|rg<|st rfl<|mvd rfl rfl<|ckI_k h fun i430 h=>st rfl<|b_add (k := .i64) rfl rfl i430<|xa (ss rfl rfl)<|sq [q2 0 cc0 v0,q2 1 cI (x423 + (1:Int)),q2 5 cI (s216.2 + (1:Int))]<|
  xn<|hn360 ((x423 + (1:Int)),(s216.2 + (1:Int))) h)))))
  (fun b367 h=>wpC_exit<|xt<|xt<|xt<|xb<|kpN [q2 1 cI s216.1] (by kernel_rfl)<|xn<|ws<|rg<|st rfl<|mvd rfl rfl<|xa (ss rfl rfl)<|sq [q2 4 cI s216.1]<|
  xn<|wpC_ret<|re<|fin h (r1 (ss rfl rfl)<|r0) rfl)

end AS.W
