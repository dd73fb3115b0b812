/- The program computes the plain functions. No condition. -/
import Derived.Test.YtpllepipjbiefaaGreatDoorQParsePlanS
import Derived.Test.YtpllepipjbiefaaGreatDoorProg
import Derived.Test.YtpllepipjbiefaaGreatDoorQParsePlanX
set_option maxRecDepth 100000
set_option linter.unusedVariables false
set_option linter.unusedSimpArgs false
namespace AS.W
open Go Go.Proofs
abbrev q1 (d : Nat) (k : MK) : MOp := ⟨some d, k, none⟩
abbrev q0 (k : MK) : MOp := ⟨none, k, none⟩
abbrev q2 {α : Type} (n : Nat) (c : Cd α) (a : α) : Nat × SV := (n, .d (c.enc a))
abbrev q3 {α : Type} (n : Nat) (c : Cd α) (a : α) : Nat × SV := (n, .box (c.enc a))
theorem sq {P : Program} {T : Nat → SV} {Q : MX → (Nat → SV) → Prop} {ks : List Nat} (L : TL) (h : Q .nrm (gl L)) (e : kG T ks ks = L := by kernel_rfl) : SQ P [] T fun T' => Q .nrm (ofL (keepL T' ks ks)) := seqN L e h
abbrev ws := @wpC_seq
abbrev rg := @reg_s
abbrev xa := @x_asg
abbrev cc11 := (cLo cI)
abbrev cc12 := (cLo cS)
abbrev cc9 := (cLs cI rfl)
abbrev cc10 := (cLs cS rfl)
abbrev cc8 := (cXGeo (cLo cI))
abbrev cc7 := (cXVariable cS cI)
abbrev cc6 := (cXGeo (cLs cI rfl))
abbrev cc5 := (cLo (cXVariable cS cI))
abbrev cc4 := (cLs (cXVariable cS cI) rfl)
abbrev cc3 := (cXTable cI (cLo cI) (cLo cI) cI)
abbrev cc2 := (cLo (cXTable cI (cLo cI) (cLo cI) cI))
abbrev cc1 := (cXTable cI (cLs cI rfl) (cLs cI rfl) cI)
abbrev cc0 := (cLs (cXTable cI (cLs cI rfl) (cLs cI rfl) cI) rfl)
def rs_laws_szIntS (r:Int):List D := [cI.enc r]
def m23:MC := .seq (.reg [q1 4 (.asg (.c (.int .i64 0)))] [0,1])
 (.seq (.reg [q1 5 (.mv (.t 1)),q1 6 (.mv (.t 0)),q1 7 (.len false (.t 6)),q1 8 (.bin .sub (.t 5) (.t 7)),q1 1 (.asg (.t 8))] [1])
 (.seq (.kp [1] (.seq (.reg [q1 9 (.mv (.t 1)),q1 10 (.bin .lss (.t 9) (.c (.int .i64 0)))] [1,10])
 (.cond (.t 10) (.seq (.reg [q1 4 (.asg (.c (.int .i64 (-1))))] [4])
 (.ret)) (.skip))))
 (.seq (.reg [q1 11 (.mv (.t 1)),q1 4 (.asg (.t 11))] [4])
 (.ret))))
theorem con_laws_szIntS {v0:(List Int)} {v1:Int} {r:Int} (h:sh_laws_szIntS v0 v1 = some r):Con Tryz.prog 23 [cc9.enc v0,cI.enc v1] [] (rs_laws_szIntS r) := by
 delta sh_laws_szIntS at h
 refine top (out := none) (f := Tryz.f23) (m := m23) (rs := [.t 4]) (by kernel_rfl) rfl (by kernel_rfl) (by kernel_rfl) (by kernel_rfl) (by kernel_rfl) (by kernel_rfl) ?_
 exact
  ini [q2 0 cc9 v0,q2 1 cI v1] rfl<|ws<|rg<|xa (sc cI (0:Int) rfl)<|sq [q2 0 cc9 v0,q2 1 cI v1]<|
  xn<|ws<|rg<|st rfl<|mvd rfl rfl<|st rfl<|mvd rfl rfl<|stw rfl<|lens rfl fun l3=>ckI_k h fun i4 h=>st rfl<|b_sub (k := .i64) rfl rfl i4<|xa (ss rfl rfl)<|sq [q2 1 cI (v1 - (v0.length:Int))]<|
  xn<|ws<|wpC_kp<|ws<|rg<|st rfl<|mvd rfl rfl<|st rfl<|b_lss (k := .i64) rfl rfl<|sq [q2 1 cI (v1 - (v0.length:Int)),q2 10 cB (decide ((v1 - (v0.length:Int)) < (0:Int)))]<|
  xn<|cnd rfl h (fun b6 h=>ws<|rg<|xa (sc cI (-1:Int) rfl)<|sq [q2 4 cI (-1:Int)]<|
  xn<|wpC_ret<|rt<|rt<|re<|fin h (r1 (ss rfl rfl)<|r0) rfl)
  (fun b6 h=>wpC_skip<|kpN [q2 1 cI (v1 - (v0.length:Int))] (by kernel_rfl)<|xn<|ws<|rg<|st rfl<|mvd rfl rfl<|xa (ss rfl rfl)<|sq [q2 4 cI (v1 - (v0.length:Int))]<|
  xn<|wpC_ret<|re<|fin h (r1 (ss rfl rfl)<|r0) rfl)

def rs_laws_szGeo (r:Int):List D := [cI.enc r]
def m5:MC := .seq (.reg [q1 2 (.box (.t 0)),q1 4 (.asg (.c (.int .i64 0)))] [1,2])
 (.seq (.reg [q1 5 (.fa 2 0 0),q1 6 (.ld 5 1 false),q1 7 (.mv (.t 1)),q1 8 (.call 23 [(.t 6),(.t 7)]),q1 1 (.asg (.t 8))] [1])
 (.seq (.kp [1] (.seq (.reg [q1 9 (.mv (.t 1)),q1 10 (.bin .lss (.t 9) (.c (.int .i64 0)))] [1,10])
 (.cond (.t 10) (.seq (.reg [q1 4 (.asg (.c (.int .i64 (-1))))] [4])
 (.ret)) (.skip))))
 (.seq (.reg [q1 11 (.mv (.t 1)),q1 4 (.asg (.t 11))] [4])
 (.ret))))
theorem con_laws_szGeo {v0:XGeo} {v1:Int} {r:Int} (h:sh_laws_szGeo v0 v1 = some r):Con Tryz.prog 5 [cc6.enc v0,cI.enc v1] [] (rs_laws_szGeo r) := by
 delta sh_laws_szGeo at h
 refine top (out := none) (f := Tryz.f5) (m := m5) (rs := [.t 4]) (by kernel_rfl) rfl (by kernel_rfl) (by kernel_rfl) (by kernel_rfl) (by kernel_rfl) (by kernel_rfl) ?_
 exact
  ini [q2 0 cc6 v0,q2 1 cI v1] rfl<|ws<|rg<|x_box (ss rfl rfl)<|xa (sc cI (0:Int) rfl)<|sq [q2 1 cI v1,q3 2 cc6 v0]<|
  xn<|ws<|rg<|st rfl<|fab rfl rfl rfl rfl<|st rfl<|lda rfl rfl rfl rfl rfl rfl<|st rfl<|mvd rfl rfl<|bnd h fun x3 e4 h=>st rfl<|o_call (a1 (c := cc9) (tLs tK) rfl (a1 (c := cI) tK rfl a0)) (con_laws_szIntS e4) (.inl (so1 sK so0))<|xa (ss rfl rfl)<|sq [q2 1 cI x3]<|
  xn<|ws<|wpC_kp<|ws<|rg<|st rfl<|mvd rfl rfl<|st rfl<|b_lss (k := .i64) rfl rfl<|sq [q2 1 cI x3,q2 10 cB (decide (x3 < (0:Int)))]<|
  xn<|cnd rfl h (fun b6 h=>ws<|rg<|xa (sc cI (-1:Int) rfl)<|sq [q2 4 cI (-1:Int)]<|
  xn<|wpC_ret<|rt<|rt<|re<|fin h (r1 (ss rfl rfl)<|r0) rfl)
  (fun b6 h=>wpC_skip<|kpN [q2 1 cI x3] (by kernel_rfl)<|xn<|ws<|rg<|st rfl<|mvd rfl rfl<|xa (ss rfl rfl)<|sq [q2 4 cI x3]<|
  xn<|wpC_ret<|re<|fin h (r1 (ss rfl rfl)<|r0) rfl)

def rs_laws_szVariable (r:Int):List D := [cI.enc r]
def m24:MC := .seq (.reg [q1 2 (.box (.t 0)),q1 4 (.asg (.c (.int .i64 0)))] [1,2])
 (.seq (.reg [q1 5 (.mv (.t 1)),q1 6 (.fa 2 0 0),q1 7 (.ld 6 1 false),q1 8 (.len true (.t 7)),q1 9 (.bin .sub (.t 5) (.t 8)),q1 1 (.asg (.t 9))] [1])
 (.seq (.kp [1] (.seq (.reg [q1 10 (.mv (.t 1)),q1 11 (.bin .lss (.t 10) (.c (.int .i64 0)))] [1,11])
 (.cond (.t 11) (.seq (.reg [q1 4 (.asg (.c (.int .i64 (-1))))] [4])
 (.ret)) (.skip))))
 (.seq (.reg [q1 12 (.mv (.t 1)),q1 4 (.asg (.t 12))] [4])
 (.ret))))
theorem con_laws_szVariable {v0:XVariable} {v1:Int} {r:Int} (h:sh_laws_szVariable v0 v1 = some r):Con Tryz.prog 24 [cc7.enc v0,cI.enc v1] [] (rs_laws_szVariable r) := by
 delta sh_laws_szVariable at h
 refine top (out := none) (f := Tryz.f24) (m := m24) (rs := [.t 4]) (by kernel_rfl) rfl (by kernel_rfl) (by kernel_rfl) (by kernel_rfl) (by kernel_rfl) (by kernel_rfl) ?_
 exact
  ini [q2 0 cc7 v0,q2 1 cI v1] rfl<|ws<|rg<|x_box (ss rfl rfl)<|xa (sc cI (0:Int) rfl)<|sq [q2 1 cI v1,q3 2 cc7 v0]<|
  xn<|ws<|rg<|st rfl<|mvd rfl rfl<|st rfl<|fab rfl rfl rfl rfl<|st rfl<|lda rfl rfl rfl rfl rfl rfl<|stw rfl<|lent rfl fun l3=>ckI_k h fun i4 h=>st rfl<|b_sub (k := .i64) rfl rfl i4<|xa (ss rfl rfl)<|sq [q2 1 cI (v1 - (v0.Name.length:Int))]<|
  xn<|ws<|wpC_kp<|ws<|rg<|st rfl<|mvd rfl rfl<|st rfl<|b_lss (k := .i64) rfl rfl<|sq [q2 1 cI (v1 - (v0.Name.length:Int)),q2 11 cB (decide ((v1 - (v0.Name.length:Int)) < (0:Int)))]<|
  xn<|cnd rfl h (fun b6 h=>ws<|rg<|xa (sc cI (-1:Int) rfl)<|sq [q2 4 cI (-1:Int)]<|
  xn<|wpC_ret<|rt<|rt<|re<|fin h (r1 (ss rfl rfl)<|r0) rfl)
  (fun b6 h=>wpC_skip<|kpN [q2 1 cI (v1 - (v0.Name.length:Int))] (by kernel_rfl)<|xn<|ws<|rg<|st rfl<|mvd rfl rfl<|xa (ss rfl rfl)<|sq [q2 4 cI (v1 - (v0.Name.length:Int))]<|
  xn<|wpC_ret<|re<|fin h (r1 (ss rfl rfl)<|r0) rfl)

def rs_laws_szVariableS (r:Int):List D := [cI.enc r]
def m6:MC := .seq (.reg [q1 4 (.asg (.c (.int .i64 0)))] [0,1])
 (.seq (.reg [q1 6 (.mv (.t 1)),q1 7 (.mv (.t 0)),q1 8 (.len false (.t 7)),q1 9 (.bin .sub (.t 6) (.t 8)),q1 1 (.asg (.t 9))] [0,1])
 (.seq (.kp [0,1] (.seq (.reg [q1 10 (.mv (.t 1)),q1 11 (.bin .lss (.t 10) (.c (.int .i64 0)))] [0,1,11])
 (.cond (.t 11) (.seq (.reg [q1 4 (.asg (.c (.int .i64 (-1))))] [4])
 (.ret)) (.skip))))
 (.seq (.kp [1] (.seq (.reg [q1 5 (.asg (.c (.int .i64 0)))] [0,1,5])
 (.blk 0 (.loop (.seq (.kp [0,1,5] (.seq (.reg [q1 12 (.mv (.t 5)),q1 13 (.mv (.t 0)),q1 14 (.len false (.t 13)),q1 15 (.bin .lss (.t 12) (.t 14))] [0,1,5,15])
 (.cond (.t 15) (.skip) (.exit 0))))
 (.seq (.kp [0,1,5] (.blk 1 (.seq (.reg [q1 18 (.mv (.t 0)),q1 19 (.mv (.t 5)),q1 20 (.ia 18 (.t 19) 2),q1 21 (.ld 20 2 true),q1 22 (.mv (.t 1)),q1 23 (.call 24 [(.t 21),(.t 22)]),q1 1 (.asg (.t 23))] [0,1,5])
 (.seq (.reg [q1 24 (.mv (.t 1)),q1 25 (.bin .lss (.t 24) (.c (.int .i64 0)))] [0,1,5,25])
 (.cond (.t 25) (.seq (.reg [q1 4 (.asg (.c (.int .i64 (-1))))] [4])
 (.ret)) (.skip))))))
 (.reg [q1 16 (.mv (.t 5)),q1 17 (.bin .add (.t 16) (.c (.int .i64 1))),q1 5 (.asg (.t 17))] [0,1,5])))))))
 (.seq (.reg [q1 26 (.mv (.t 1)),q1 4 (.asg (.t 26))] [4])
 (.ret)))))
theorem con_laws_szVariableS {v0:(List XVariable)} {v1:Int} {r:Int} (h:sh_laws_szVariableS v0 v1 = some r):Con Tryz.prog 6 [cc4.enc v0,cI.enc v1] [] (rs_laws_szVariableS r) := by
 delta sh_laws_szVariableS at h
 refine top (out := none) (f := Tryz.f6) (m := m6) (rs := [.t 4]) (by kernel_rfl) rfl (by kernel_rfl) (by kernel_rfl) (by kernel_rfl) (by kernel_rfl) (by kernel_rfl) ?_
 exact
  ini [q2 0 cc4 v0,q2 1 cI v1] rfl<|ws<|rg<|xa (sc cI (0:Int) rfl)<|sq [q2 0 cc4 v0,q2 1 cI v1]<|
  xn<|ws<|rg<|st rfl<|mvd rfl rfl<|st rfl<|mvd rfl rfl<|stw rfl<|lens rfl fun l3=>ckI_k h fun i4 h=>st rfl<|b_sub (k := .i64) rfl rfl i4<|xa (ss rfl rfl)<|sq [q2 0 cc4 v0,q2 1 cI (v1 - (v0.length:Int))]<|
  xn<|ws<|wpC_kp<|ws<|rg<|st rfl<|mvd rfl rfl<|st rfl<|b_lss (k := .i64) rfl rfl<|sq [q2 0 cc4 v0,q2 1 cI (v1 - (v0.length:Int)),q2 11 cB (decide ((v1 - (v0.length:Int)) < (0:Int)))]<|
  xn<|cnd rfl h (fun b6 h=>ws<|rg<|xa (sc cI (-1:Int) rfl)<|sq [q2 4 cI (-1:Int)]<|
  xn<|wpC_ret<|rt<|rt<|re<|fin h (r1 (ss rfl rfl)<|r0) rfl)
  (fun b6 h=>wpC_skip<|kpN [q2 0 cc4 v0,q2 1 cI (v1 - (v0.length:Int))] (by kernel_rfl)<|xn<|ws<|wpC_kp<|ws<|rg<|xa (sc cI (0:Int) rfl)<|sq [q2 0 cc4 v0,q2 1 cI (v1 - (v0.length:Int)),q2 5 cI (0:Int)]<|
  xn<|wpC_blk<|lpF (fun (s102:(Int × Int))=>[q2 0 cc4 v0,q2 1 cI s102.1,q2 5 cI s102.2]) ((v1 - (v0.length:Int)),(0:Int)) rfl h
  fun G167 nx165 s102 hn166 h=>ws<|wpC_kp<|ws<|rg<|st rfl<|mvd rfl rfl<|st rfl<|mvd rfl rfl<|stw rfl<|lens rfl fun l172=>st rfl<|b_lss (k := .i64) rfl rfl<|sq [q2 0 cc4 v0,q2 1 cI s102.1,q2 5 cI s102.2,q2 15 cB (decide (s102.2 < (v0.length:Int)))]<|
  xn<|cnd rfl h (fun b173 h=>wpC_skip<|kpN [q2 0 cc4 v0,q2 1 cI s102.1,q2 5 cI s102.2] (by kernel_rfl)<|xn<|ws<|wpC_kp<|wpC_blk<|ws<|rg<|st rfl<|mvd rfl rfl<|st rfl<|mvd rfl rfl<|getO_k h fun x190 i191 g192 h=>st rfl<|ias rfl rfl i191 g192 rfl<|st rfl<|ldi rfl rfl rfl rfl<|st rfl<|mvd rfl rfl<|bnd h fun x193 e194 h=>st rfl<|o_call (a1 (c := cc7) (tXVariable tS tK) rfl (a1 (c := cI) tK rfl a0)) (con_laws_szVariable e194) (.inl (so1 sK so0))<|xa (ss rfl rfl)<|sq [q2 0 cc4 v0,q2 1 cI x193,q2 5 cI s102.2]<|
  xn<|ws<|rg<|st rfl<|mvd rfl rfl<|st rfl<|b_lss (k := .i64) rfl rfl<|sq [q2 0 cc4 v0,q2 1 cI x193,q2 5 cI s102.2,q2 25 cB (decide (x193 < (0:Int)))]<|
  xn<|cnd rfl h (fun b195 h=>ws<|rg<|xa (sc cI (-1:Int) rfl)<|sq [q2 4 cI (-1:Int)]<|
  xn<|wpC_ret<|rb<|rt<|rt<|rt<|rb<|rt<|rt<|re<|fin h (r1 (ss rfl rfl)<|r0) rfl)
  (fun b195 h=>wpC_skip<|xbb<|kpN [q2 0 cc4 v0,q2 1 cI x193,q2 5 cI s102.2] (by kernel_rfl)<|xn<|rg<|st rfl<|mvd rfl rfl<|ckI_k h fun i196 h=>st rfl<|b_add (k := .i64) rfl rfl i196<|xa (ss rfl rfl)<|sq [q2 0 cc4 v0,q2 1 cI x193,q2 5 cI (s102.2 + (1:Int))]<|
  xn<|hn166 (x193,(s102.2 + (1:Int))) h))
  (fun b173 h=>wpC_exit<|xt<|xt<|xt<|xb<|kpN [q2 1 cI s102.1] (by kernel_rfl)<|xn<|ws<|rg<|st rfl<|mvd rfl rfl<|xa (ss rfl rfl)<|sq [q2 4 cI s102.1]<|
  xn<|wpC_ret<|re<|fin h (r1 (ss rfl rfl)<|r0) rfl))

def rs_laws_toIntS (r:(List Int)):List D := [cc11.enc r]
def m27:MC := .seq (.reg [q1 2 (.asg (.c (.slice true [])))] [0])
 (.seq (.reg [q1 5 (.mv (.t 0)),q1 6 (.len false (.t 5)),q1 7 (.mk (.int .i64 0) (.t 6)),q1 3 (.asg (.t 7))] [0,3])
 (.seq (.kp [3] (.seq (.reg [q1 4 (.asg (.c (.int .i64 0)))] [0,3,4])
 (.blk 0 (.loop (.seq (.kp [0,3,4] (.seq (.reg [q1 8 (.mv (.t 4)),q1 9 (.mv (.t 0)),q1 10 (.len false (.t 9)),q1 11 (.bin .lss (.t 8) (.t 10))] [0,3,4,11])
 (.cond (.t 11) (.skip) (.exit 0))))
 (.seq (.kp [0,3,4] (.blk 1 (.reg [q1 14 (.mv (.t 3)),q1 15 (.mv (.t 4)),q1 16 (.mv (.t 0)),q1 17 (.mv (.t 4)),q1 18 (.ia 16 (.t 17) 1),q1 19 (.ld 18 1 false),q1 20 (.ia 14 (.t 15) 1),q0 (.st 20 (.t 19) 1)] [0,3,4])))
 (.reg [q1 12 (.mv (.t 4)),q1 13 (.bin .add (.t 12) (.c (.int .i64 1))),q1 4 (.asg (.t 13))] [0,3,4])))))))
 (.seq (.reg [q1 21 (.mv (.t 3)),q1 2 (.asg (.t 21))] [2])
 (.ret))))
theorem con_laws_toIntS {v0:(List Int)} {r:(List Int)} (h:sh_laws_toIntS v0 = some r):Con Tryz.prog 27 [cc9.enc v0] [] (rs_laws_toIntS r) := by
 delta sh_laws_toIntS at h
 refine top (out := none) (f := Tryz.f27) (m := m27) (rs := [.t 2]) (by kernel_rfl) rfl (by kernel_rfl) (by kernel_rfl) (by kernel_rfl) (by kernel_rfl) (by kernel_rfl) ?_
 exact
  ini [q2 0 cc9 v0] rfl<|ws<|rg<|xa (sc cc11 ([]:List Int) rfl)<|sq [q2 0 cc9 v0]<|
  xn<|ws<|rg<|st rfl<|mvd rfl rfl<|stw rfl<|lens rfl fun l4=>mkO_k h fun i5 l6 h=>st rfl<|o_mk (c := cI) (a0 := (0:Int)) rfl (k := .i64) rfl i5 l6<|xa (so rfl rfl)<|sq [q2 0 cc9 v0,q2 3 cc11 (List.replicate ((v0.length:Int)).toNat (0:Int))]<|
  xn<|ws<|wpC_kp<|ws<|rg<|xa (sc cI (0:Int) rfl)<|sq [q2 0 cc9 v0,q2 3 cc11 (List.replicate ((v0.length:Int)).toNat (0:Int)),q2 4 cI (0:Int)]<|
  xn<|wpC_blk<|lpF (fun (s72:((List Int) × Int))=>[q2 0 cc9 v0,q2 3 cc11 s72.1,q2 4 cI s72.2]) ((List.replicate ((v0.length:Int)).toNat (0:Int)),(0:Int)) rfl h
  fun G117 nx115 s72 hn116 h=>ws<|wpC_kp<|ws<|rg<|st rfl<|mvd rfl rfl<|st rfl<|mvd rfl rfl<|stw rfl<|lens rfl fun l122=>st rfl<|b_lss (k := .i64) rfl rfl<|sq [q2 0 cc9 v0,q2 3 cc11 s72.1,q2 4 cI s72.2,q2 11 cB (decide (s72.2 < (v0.length:Int)))]<|
  xn<|cnd rfl h (fun b123 h=>wpC_skip<|kpN [q2 0 cc9 v0,q2 3 cc11 s72.1,q2 4 cI s72.2] (by kernel_rfl)<|xn<|ws<|wpC_kp<|wpC_blk<|rg<|st rfl<|mvo rfl rfl<|st rfl<|mvd rfl rfl<|st rfl<|mvd rfl rfl<|st rfl<|mvd rfl rfl<|getO_k h fun x130 i131 g132 h=>st rfl<|ias rfl rfl i131 g132 rfl<|st rfl<|ldi rfl rfl rfl rfl<|getO_k h fun x133 i134 g135 h=>st rfl<|iar rfl rfl rfl rfl i134 g135 rfl<|x_sta (cc11.enc (s72.1.set (s72.2).toNat x130)) (ss rfl rfl) rfl rfl (Ln.idx g135 Ln.nil) (Cd.h_sz cI _) rfl<|sq [q2 0 cc9 v0,q2 3 cc11 (s72.1.set (s72.2).toNat x130),q2 4 cI s72.2]<|
  xbb<|kpN [q2 0 cc9 v0,q2 3 cc11 (s72.1.set (s72.2).toNat x130),q2 4 cI s72.2] (by kernel_rfl)<|xn<|rg<|st rfl<|mvd rfl rfl<|ckI_k h fun i136 h=>st rfl<|b_add (k := .i64) rfl rfl i136<|xa (ss rfl rfl)<|sq [q2 0 cc9 v0,q2 3 cc11 (s72.1.set (s72.2).toNat x130),q2 4 cI (s72.2 + (1:Int))]<|
  xn<|hn116 ((s72.1.set (s72.2).toNat x130),(s72.2 + (1:Int))) h)
  (fun b123 h=>wpC_exit<|xt<|xt<|xt<|xb<|kpN [q2 3 cc11 s72.1] (by kernel_rfl)<|xn<|ws<|rg<|st rfl<|mvo rfl rfl<|xa (sr rfl rfl)<|sq [q2 2 cc11 s72.1]<|
  xn<|wpC_ret<|re<|fin h (r1 (so rfl rfl)<|r0) rfl)

def rs_laws_toGeo (r:XGeo):List D := [cc8.enc r]
def m8:MC := .seq (.reg [q1 1 (.box (.t 0)),q1 2 (.alloc (.agg [.slice true []]))] [1,2])
 (.seq (.reg [q1 3 (.alloc (.agg [.slice true []]))] [1,2,3])
 (.seq (.reg [q1 4 (.fa 1 0 0),q1 5 (.ld 4 1 false),q1 6 (.call 27 [(.t 5)]),q1 7 (.fa 3 0 0),q0 (.st 7 (.t 6) 1)] [2,3])
 (.seq (.reg [q1 8 (.ld 3 1 true),q0 (.st 2 (.t 8) 1)] [2])
 (.ret))))
theorem con_laws_toGeo {v0:XGeo} {r:XGeo} (h:sh_laws_toGeo v0 = some r):Con Tryz.prog 8 [cc6.enc v0] [] (rs_laws_toGeo r) := by
 delta sh_laws_toGeo at h
 refine top (out := none) (f := Tryz.f8) (m := m8) (rs := [.c 2 1 true]) (by kernel_rfl) rfl (by kernel_rfl) (by kernel_rfl) (by kernel_rfl) (by kernel_rfl) (by kernel_rfl) ?_
 exact
  ini [q2 0 cc6 v0] rfl<|ws<|rg<|x_box (ss rfl rfl)<|x_all cc8 (⟨([]:List Int)⟩:XGeo) rfl<|sq [q3 1 cc6 v0,q3 2 cc8 (⟨([]:List Int)⟩:XGeo)]<|
  xn<|ws<|rg<|x_all cc8 (⟨([]:List Int)⟩:XGeo) rfl<|sq [q3 1 cc6 v0,q3 2 cc8 (⟨([]:List Int)⟩:XGeo),q3 3 cc8 (⟨([]:List Int)⟩:XGeo)]<|
  xn<|ws<|rg<|st rfl<|fab rfl rfl rfl rfl<|st rfl<|lda rfl rfl rfl rfl rfl rfl<|bnd h fun x3 e4 h=>st rfl<|o_call (a1 (c := cc9) (tLs tK) rfl a0) (con_laws_toIntS e4) (.inl (so1 (sLo sK) so0))<|st rfl<|fab rfl rfl rfl rfl<|x_sta (cc8.enc (⟨x3⟩:XGeo)) (so rfl rfl) rfl rfl (Ln.fld rfl rfl Ln.nil rfl) (Cd.h_sz cc11 _) rfl<|sq [q3 2 cc8 (⟨([]:List Int)⟩:XGeo),q3 3 cc8 (⟨x3⟩:XGeo)]<|
  xn<|ws<|rg<|st rfl<|ldbo rfl rfl rfl rfl<|x_stb (sb rfl rfl) rfl (Cd.h_sz _ _) rfl<|sq [q3 2 cc8 (⟨x3⟩:XGeo)]<|
  xn<|wpC_ret<|re<|fin h (r2 rfl rfl rfl<|r0) rfl

def rs_laws_toGeo_fz (r:XGeo):List D := [cc6.enc r]
theorem con_laws_toGeo_fz {v0:XGeo} {r:XGeo} (h:sh_laws_toGeo v0 = some r):Con Tryz.prog 8 [cc6.enc v0] [] (rs_laws_toGeo_fz r) := con_fz (tXGeo (tLo tK)) (con_laws_toGeo h)

def rs_laws_toVariable (r:XVariable):List D := [cc7.enc r]
def m28:MC := .seq (.reg [q1 1 (.box (.t 0)),q1 2 (.alloc (.agg [.str [],.int .i64 0]))] [1,2])
 (.seq (.reg [q1 3 (.alloc (.agg [.str [],.int .i64 0]))] [1,2,3])
 (.seq (.reg [q1 4 (.fa 1 0 0),q1 5 (.ld 4 1 false),q1 6 (.fa 3 0 0),q0 (.st 6 (.t 5) 1)] [1,2,3])
 (.seq (.reg [q1 7 (.fa 1 1 1),q1 8 (.ld 7 1 false),q1 9 (.fa 3 1 1),q0 (.st 9 (.t 8) 1)] [2,3])
 (.seq (.reg [q1 10 (.ld 3 2 true),q0 (.st 2 (.t 10) 2)] [2])
 (.ret)))))
theorem con_laws_toVariable {v0:XVariable} {r:XVariable} (h:sh_laws_toVariable v0 = some r):Con Tryz.prog 28 [cc7.enc v0] [] (rs_laws_toVariable r) := by
 delta sh_laws_toVariable at h
 refine top (out := none) (f := Tryz.f28) (m := m28) (rs := [.c 2 2 true]) (by kernel_rfl) rfl (by kernel_rfl) (by kernel_rfl) (by kernel_rfl) (by kernel_rfl) (by kernel_rfl) ?_
 exact
  ini [q2 0 cc7 v0] rfl<|ws<|rg<|x_box (ss rfl rfl)<|x_all cc7 (⟨([]:List UInt8),(0:Int)⟩:XVariable) rfl<|sq [q3 1 cc7 v0,q3 2 cc7 (⟨([]:List UInt8),(0:Int)⟩:XVariable)]<|
  xn<|ws<|rg<|x_all cc7 (⟨([]:List UInt8),(0:Int)⟩:XVariable) rfl<|sq [q3 1 cc7 v0,q3 2 cc7 (⟨([]:List UInt8),(0:Int)⟩:XVariable),q3 3 cc7 (⟨([]:List UInt8),(0:Int)⟩:XVariable)]<|
  xn<|ws<|rg<|st rfl<|fab rfl rfl rfl rfl<|st rfl<|lda rfl rfl rfl rfl rfl rfl<|st rfl<|fab rfl rfl rfl rfl<|x_sta (cc7.enc (⟨v0.Name,(0:Int)⟩:XVariable)) (ss rfl rfl) rfl rfl (Ln.fld rfl rfl Ln.nil rfl) (Cd.h_sz cS _) rfl<|sq [q3 1 cc7 v0,q3 2 cc7 (⟨([]:List UInt8),(0:Int)⟩:XVariable),q3 3 cc7 (⟨v0.Name,(0:Int)⟩:XVariable)]<|
  xn<|ws<|rg<|st rfl<|fab rfl rfl rfl rfl<|st rfl<|lda rfl rfl rfl rfl rfl rfl<|st rfl<|fab rfl rfl rfl rfl<|x_sta (cc7.enc (⟨v0.Name,v0.Levels⟩:XVariable)) (ss rfl rfl) rfl rfl (Ln.fld rfl rfl Ln.nil rfl) (Cd.h_sz cI _) rfl<|sq [q3 2 cc7 (⟨([]:List UInt8),(0:Int)⟩:XVariable),q3 3 cc7 (⟨v0.Name,v0.Levels⟩:XVariable)]<|
  xn<|ws<|rg<|st rfl<|ldb rfl rfl rfl rfl<|x_stb (ss rfl rfl) rfl (Cd.h_sz _ _) rfl<|sq [q3 2 cc7 (⟨v0.Name,v0.Levels⟩:XVariable)]<|
  xn<|wpC_ret<|re<|fin h (r2 rfl rfl rfl<|r0) rfl

def rs_laws_toVariableS (r:(List XVariable)):List D := [cc5.enc r]
def m9:MC := .seq (.reg [q1 2 (.asg (.c (.slice true [])))] [0])
 (.seq (.reg [q1 5 (.mv (.t 0)),q1 6 (.len false (.t 5)),q1 7 (.mk (.agg [.str [],.int .i64 0]) (.t 6)),q1 3 (.asg (.t 7))] [0,3])
 (.seq (.kp [3] (.seq (.reg [q1 4 (.asg (.c (.int .i64 0)))] [0,3,4])
 (.blk 0 (.loop (.seq (.kp [0,3,4] (.seq (.reg [q1 8 (.mv (.t 4)),q1 9 (.mv (.t 0)),q1 10 (.len false (.t 9)),q1 11 (.bin .lss (.t 8) (.t 10))] [0,3,4,11])
 (.cond (.t 11) (.skip) (.exit 0))))
 (.seq (.kp [0,3,4] (.blk 1 (.reg [q1 14 (.mv (.t 3)),q1 15 (.mv (.t 4)),q1 16 (.mv (.t 0)),q1 17 (.mv (.t 4)),q1 18 (.ia 16 (.t 17) 2),q1 19 (.ld 18 2 true),q1 20 (.call 28 [(.t 19)]),q1 21 (.ia 14 (.t 15) 2),q0 (.st 21 (.t 20) 2)] [0,3,4])))
 (.reg [q1 12 (.mv (.t 4)),q1 13 (.bin .add (.t 12) (.c (.int .i64 1))),q1 4 (.asg (.t 13))] [0,3,4])))))))
 (.seq (.reg [q1 22 (.mv (.t 3)),q1 2 (.asg (.t 22))] [2])
 (.ret))))
theorem con_laws_toVariableS {v0:(List XVariable)} {r:(List XVariable)} (h:sh_laws_toVariableS v0 = some r):Con Tryz.prog 9 [cc4.enc v0] [] (rs_laws_toVariableS r) := by
 delta sh_laws_toVariableS at h
 refine top (out := none) (f := Tryz.f9) (m := m9) (rs := [.t 2]) (by kernel_rfl) rfl (by kernel_rfl) (by kernel_rfl) (by kernel_rfl) (by kernel_rfl) (by kernel_rfl) ?_
 exact
  ini [q2 0 cc4 v0] rfl<|ws<|rg<|xa (sc cc5 ([]:List XVariable) rfl)<|sq [q2 0 cc4 v0]<|
  xn<|ws<|rg<|st rfl<|mvd rfl rfl<|stw rfl<|lens rfl fun l4=>mkO_k h fun i5 l6 h=>st rfl<|o_mk (c := cc7) (a0 := (⟨([]:List UInt8),(0:Int)⟩:XVariable)) rfl (k := .i64) rfl i5 l6<|xa (so rfl rfl)<|sq [q2 0 cc4 v0,q2 3 cc5 (List.replicate ((v0.length:Int)).toNat (⟨([]:List UInt8),(0:Int)⟩:XVariable))]<|
  xn<|ws<|wpC_kp<|ws<|rg<|xa (sc cI (0:Int) rfl)<|sq [q2 0 cc4 v0,q2 3 cc5 (List.replicate ((v0.length:Int)).toNat (⟨([]:List UInt8),(0:Int)⟩:XVariable)),q2 4 cI (0:Int)]<|
  xn<|wpC_blk<|lpF (fun (s84:((List XVariable) × Int))=>[q2 0 cc4 v0,q2 3 cc5 s84.1,q2 4 cI s84.2]) ((List.replicate ((v0.length:Int)).toNat (⟨([]:List UInt8),(0:Int)⟩:XVariable)),(0:Int)) rfl h
  fun G137 nx135 s84 hn136 h=>ws<|wpC_kp<|ws<|rg<|st rfl<|mvd rfl rfl<|st rfl<|mvd rfl rfl<|stw rfl<|lens rfl fun l142=>st rfl<|b_lss (k := .i64) rfl rfl<|sq [q2 0 cc4 v0,q2 3 cc5 s84.1,q2 4 cI s84.2,q2 11 cB (decide (s84.2 < (v0.length:Int)))]<|
  xn<|cnd rfl h (fun b143 h=>wpC_skip<|kpN [q2 0 cc4 v0,q2 3 cc5 s84.1,q2 4 cI s84.2] (by kernel_rfl)<|xn<|ws<|wpC_kp<|wpC_blk<|rg<|st rfl<|mvo rfl rfl<|st rfl<|mvd rfl rfl<|st rfl<|mvd rfl rfl<|st rfl<|mvd rfl rfl<|getO_k h fun x152 i153 g154 h=>st rfl<|ias rfl rfl i153 g154 rfl<|st rfl<|ldi rfl rfl rfl rfl<|bnd h fun x155 e156 h=>st rfl<|o_call (a1 (c := cc7) (tXVariable tS tK) rfl a0) (con_laws_toVariable e156) (.inl (so1 (sXVariable sS sK) so0))<|getO_k h fun x157 i158 g159 h=>st rfl<|iar rfl rfl rfl rfl i158 g159 rfl<|x_sta (cc5.enc (s84.1.set (s84.2).toNat x155)) (ss rfl rfl) rfl rfl (Ln.idx g159 Ln.nil) (Cd.h_sz cc7 _) rfl<|sq [q2 0 cc4 v0,q2 3 cc5 (s84.1.set (s84.2).toNat x155),q2 4 cI s84.2]<|
  xbb<|kpN [q2 0 cc4 v0,q2 3 cc5 (s84.1.set (s84.2).toNat x155),q2 4 cI s84.2] (by kernel_rfl)<|xn<|rg<|st rfl<|mvd rfl rfl<|ckI_k h fun i160 h=>st rfl<|b_add (k := .i64) rfl rfl i160<|xa (ss rfl rfl)<|sq [q2 0 cc4 v0,q2 3 cc5 (s84.1.set (s84.2).toNat x155),q2 4 cI (s84.2 + (1:Int))]<|
  xn<|hn136 ((s84.1.set (s84.2).toNat x155),(s84.2 + (1:Int))) h)
  (fun b143 h=>wpC_exit<|xt<|xt<|xt<|xb<|kpN [q2 3 cc5 s84.1] (by kernel_rfl)<|xn<|ws<|rg<|st rfl<|mvo rfl rfl<|xa (sr rfl rfl)<|sq [q2 2 cc5 s84.1]<|
  xn<|wpC_ret<|re<|fin h (r1 (so rfl rfl)<|r0) rfl)

def rs_laws_toVariableS_fz (r:(List XVariable)):List D := [cc4.enc r]
theorem con_laws_toVariableS_fz {v0:(List XVariable)} {r:(List XVariable)} (h:sh_laws_toVariableS v0 = some r):Con Tryz.prog 9 [cc4.enc v0] [] (rs_laws_toVariableS_fz r) := con_fz (tLo (tXVariable tS tK)) (con_laws_toVariableS h)

def rs_spec_l1In (r:Bool):List D := [cB.enc r]
def m60:MC := .seq (.reg [q1 6 (.asg (.c (.bool false)))] [0,1,2])
 (.seq (.reg [q1 7 (.mv (.t 0)),q1 8 (.mv (.t 1)),q1 9 (.bin .geq (.t 7) (.t 8)),q1 10 (.mv (.t 9)),
  ⟨some 11,.mv (.t 0),some (10,true)⟩,
  ⟨some 12,.mv (.t 2),some (10,true)⟩,
  ⟨some 13,.bin .leq (.t 11) (.t 12),some (10,true)⟩,q1 14 (.pick (.t 10) (.t 13) (.c (.bool false))),q1 6 (.asg (.t 14))] [6])
 (.ret))
theorem con_spec_l1In {v0:Int} {v1:Int} {v2:Int} {r:Bool} (h:sh_spec_l1In v0 v1 v2 = some r):Con Tryz.prog 60 [cI.enc v0,cI.enc v1,cI.enc v2] [] (rs_spec_l1In r) := by
 delta sh_spec_l1In at h
 refine top (out := none) (f := Tryz.f60) (m := m60) (rs := [.t 6]) (by kernel_rfl) rfl (by kernel_rfl) (by kernel_rfl) (by kernel_rfl) (by kernel_rfl) (by kernel_rfl) ?_
 exact
  ini [q2 0 cI v0,q2 1 cI v1,q2 2 cI v2] rfl<|ws<|rg<|xa (sc cB false rfl)<|sq [q2 0 cI v0,q2 1 cI v1,q2 2 cI v2]<|
  xn<|ws<|rg<|st rfl<|mvd rfl rfl<|st rfl<|mvd rfl rfl<|st rfl<|b_geq (k := .i64) rfl rfl<|st rfl<|mvd rfl rfl<|ite_k h (fun b2 h=>gt' rfl b2<|st rfl<|mvd rfl rfl<|gt' rfl b2<|st rfl<|mvd rfl rfl<|gt' rfl b2<|st rfl<|b_leq (k := .i64) rfl rfl<|st rfl<|pick1 rfl b2 (cd := cB) (v := (decide (v0 ≤ v2))) rfl rfl<|xa (ss rfl rfl)<|sq [q2 6 cB (decide (v0 ≤ v2))]<|
  xn<|wpC_ret<|re<|fin h (r1 (ss rfl rfl)<|r0) rfl)
  (fun b2 h=>gf rfl b2<|gf rfl b2<|gf rfl b2<|st rfl<|pick0 rfl b2 (cd := cB) (v := false) rfl rfl<|xa (ss rfl rfl)<|sq [q2 6 cB false]<|
  xn<|wpC_ret<|re<|fin h (r1 (ss rfl rfl)<|r0) rfl)

def rs_spec_gGood (r:Bool):List D := [cB.enc r]
def m41:MC := .seq (.reg [q1 1 (.box (.t 0)),q1 2 (.asg (.c (.bool false)))] [1])
 (.seq (.kp [1] (.seq (.reg [q1 5 (.fa 1 0 0),q1 6 (.ld 5 1 false),q1 7 (.len false (.t 6)),q1 8 (.call 60 [(.t 7),(.c (.int .i64 1)),(.c (.int .i64 30))]),q1 9 (.nt (.t 8)),q1 10 (.mv (.t 9)),
  ⟨some 11,.fa 1 0 0,some (10,false)⟩,
  ⟨some 12,.ld 11 1 false,some (10,false)⟩,
  ⟨some 13,.ia 12 (.c (.int .i64 0)) 1,some (10,false)⟩,
  ⟨some 14,.ld 13 1 false,some (10,false)⟩,
  ⟨some 15,.bin .neq (.t 14) (.c (.int .i64 (-1))),some (10,false)⟩,q1 16 (.pick (.t 10) (.c (.bool true)) (.t 15))] [1,16])
 (.cond (.t 16) (.seq (.reg [q1 2 (.asg (.c (.bool false)))] [2])
 (.ret)) (.skip))))
 (.seq (.kp [] (.seq (.reg [q1 17 (.fa 1 0 0),q1 18 (.ld 17 1 false),q1 19 (.len false (.t 18)),q1 20 (.mv (.c (.int .i64 0)))] [1,17,18,19,20])
 (.blk 0 (.loop (.seq (.reg [q1 21 (.bin .lss (.t 20) (.t 19))] [1,17,18,19,20,21])
 (.seq (.kp [1,17,18,19,20] (.cond (.t 21) (.skip) (.exit 0)))
 (.seq (.kp [1,17,18,19,20] (.blk 1 (.seq (.reg [q1 22 (.mv (.t 20)),q1 23 (.ia 18 (.t 20) 1),q1 24 (.ld 23 1 false),q1 3 (.asg (.t 22)),q1 4 (.asg (.t 24))] [1,3,4,17,18,19,20])
 (.seq (.reg [q1 25 (.mv (.t 3)),q1 26 (.bin .gtr (.t 25) (.c (.int .i64 0))),q1 27 (.mv (.t 26)),
  ⟨some 28,.mv (.t 4),some (27,true)⟩,
  ⟨some 29,.mv (.t 3),some (27,true)⟩,
  ⟨some 30,.bin .sub (.t 29) (.c (.int .i64 1)),some (27,true)⟩,
  ⟨some 31,.call 60 [(.t 28),(.c (.int .i64 0)),(.t 30)],some (27,true)⟩,
  ⟨some 32,.nt (.t 31),some (27,true)⟩,q1 33 (.pick (.t 27) (.t 32) (.c (.bool false)))] [1,17,18,19,20,33])
 (.cond (.t 33) (.seq (.reg [q1 2 (.asg (.c (.bool false)))] [2])
 (.ret)) (.skip))))))
 (.reg [q1 34 (.bin .add (.t 20) (.c (.int .i64 1))),q1 20 (.mv (.t 34))] [1,17,18,19,20]))))))))
 (.seq (.reg [q1 2 (.asg (.c (.bool true)))] [2])
 (.ret))))
theorem con_spec_gGood {v0:XGeo} {r:Bool} (h:sh_spec_gGood v0 = some r):Con Tryz.prog 41 [cc6.enc v0] [] (rs_spec_gGood r) := by
 delta sh_spec_gGood at h
 refine top (out := none) (f := Tryz.f41) (m := m41) (rs := [.t 2]) (by kernel_rfl) rfl (by kernel_rfl) (by kernel_rfl) (by kernel_rfl) (by kernel_rfl) (by kernel_rfl) ?_
 exact
  ini [q2 0 cc6 v0] rfl<|ws<|rg<|x_box (ss rfl rfl)<|xa (sc cB false rfl)<|sq [q3 1 cc6 v0]<|
  xn<|ws<|wpC_kp<|ws<|rg<|st rfl<|fab rfl rfl rfl rfl<|st rfl<|lda rfl rfl rfl rfl rfl rfl<|stw rfl<|lens rfl fun l23=>bnd h fun x24 e25 h=>st rfl<|o_call (a1 (c := cI) tK rfl (a1 (c := cI) tK rfl (a1 (c := cI) tK rfl a0))) (con_spec_l1In e25) (.inl (so1 sB so0))<|st rfl<|o_nt rfl<|st rfl<|mvd rfl rfl<|ite_k h (fun b26 h=>gf rfl b26<|gf rfl b26<|gf rfl b26<|gf rfl b26<|gf rfl b26<|st rfl<|pick1 rfl b26 (cd := cB) (v := true) rfl rfl<|sq [q3 1 cc6 v0,q2 16 cB true]<|
  xn<|cnd1 rfl rfl<|ws<|rg<|xa (sc cB false rfl)<|sq [q2 2 cB false]<|
  xn<|wpC_ret<|rt<|rt<|re<|fin h (r1 (ss rfl rfl)<|r0) rfl)
  (fun b26 h=>gt' rfl b26<|st rfl<|fab rfl rfl rfl rfl<|gt' rfl b26<|st rfl<|lda rfl rfl rfl rfl rfl rfl<|gt' rfl b26<|getO_k h fun x27 i28 g29 h=>st rfl<|ias rfl rfl i28 g29 rfl<|gt' rfl b26<|st rfl<|ldi rfl rfl rfl rfl<|gt' rfl b26<|st rfl<|b_neq (k := .i64) rfl rfl<|st rfl<|pick0 rfl b26 (cd := cB) (v := (decide (x27 ≠ (-1:Int)))) rfl rfl<|sq [q3 1 cc6 v0,q2 16 cB (decide (x27 ≠ (-1:Int)))]<|
  xn<|cnd rfl h (fun b30 h=>ws<|rg<|xa (sc cB false rfl)<|sq [q2 2 cB false]<|
  xn<|wpC_ret<|rt<|rt<|re<|fin h (r1 (ss rfl rfl)<|r0) rfl)
  (fun b30 h=>wpC_skip<|kpN [q3 1 cc6 v0] (by kernel_rfl)<|xn<|ws<|wpC_kp<|ws<|rg<|st rfl<|fab rfl rfl rfl rfl<|st rfl<|lda rfl rfl rfl rfl rfl rfl<|stw rfl<|lens rfl fun l78=>st rfl<|mvc cI (0:Int) rfl<|sq [q3 1 cc6 v0,(17,.adr 1 [.fld 0]),q2 18 cc9 v0.Parents,q2 19 cI (v0.Parents.length:Int),q2 20 cI (0:Int)]<|
  xn<|wpC_blk<|lpR (fun (k80:Nat) (s79:Unit)=>[q3 1 cc6 v0,(17,.adr 1 [.fld 0]),q2 18 cc9 v0.Parents,q2 19 cI (v0.Parents.length:Int),q2 20 cI (k80:Int)]) () rfl h
  (fun G104 s79 h=>ws<|rg<|st rfl<|b_lss (k := .i64) rfl rfl<|sq [q3 1 cc6 v0,(17,.adr 1 [.fld 0]),q2 18 cc9 v0.Parents,q2 19 cI (v0.Parents.length:Int),q2 20 cI (v0.Parents.length:Int),q2 21 cB (decide ((v0.Parents.length:Int) < (v0.Parents.length:Int)))]<|
  xn<|ws<|wpC_kp<|cnd0 rfl (dlf _)<|wpC_exit<|xt<|xt<|xt<|xb<|kpN [] (by kernel_rfl)<|xn<|ws<|rg<|xa (sc cB true rfl)<|sq [q2 2 cB true]<|
  xn<|wpC_ret<|re<|fin h (r1 (ss rfl rfl)<|r0) rfl)
  (fun G104 nx102 k80 s79 x81 hk82 hx83 hn103 h=>ws<|rg<|st rfl<|b_lss (k := .i64) rfl rfl<|sq [q3 1 cc6 v0,(17,.adr 1 [.fld 0]),q2 18 cc9 v0.Parents,q2 19 cI (v0.Parents.length:Int),q2 20 cI (k80:Int),q2 21 cB (decide ((k80:Int) < (v0.Parents.length:Int)))]<|
  xn<|ws<|wpC_kp<|cnd1 rfl (dlt hk82)<|wpC_skip<|kpN [q3 1 cc6 v0,(17,.adr 1 [.fld 0]),q2 18 cc9 v0.Parents,q2 19 cI (v0.Parents.length:Int),q2 20 cI (k80:Int)] (by kernel_rfl)<|xn<|ws<|wpC_kp<|wpC_blk<|ws<|rg<|st rfl<|mvd rfl rfl<|st rfl<|ias rfl rfl (Int.natCast_nonneg _) hx83 rfl<|st rfl<|ldi rfl rfl rfl rfl<|xa (ss rfl rfl)<|xa (ss rfl rfl)<|sq [q3 1 cc6 v0,q2 3 cI (k80:Int),q2 4 cI x81,(17,.adr 1 [.fld 0]),q2 18 cc9 v0.Parents,q2 19 cI (v0.Parents.length:Int),q2 20 cI (k80:Int)]<|
  xn<|ws<|rg<|st rfl<|mvd rfl rfl<|st rfl<|b_gtr (k := .i64) rfl rfl<|st rfl<|mvd rfl rfl<|ite_k h (fun b118 h=>gt' rfl b118<|st rfl<|mvd rfl rfl<|gt' rfl b118<|st rfl<|mvd rfl rfl<|gt' rfl b118<|ckI_k h fun i119 h=>st rfl<|b_sub (k := .i64) rfl rfl i119<|gt' rfl b118<|bnd h fun x120 e121 h=>st rfl<|o_call (a1 (c := cI) tK rfl (a1 (c := cI) tK rfl (a1 (c := cI) tK rfl a0))) (con_spec_l1In e121) (.inl (so1 sB so0))<|gt' rfl b118<|st rfl<|o_nt rfl<|st rfl<|pick1 rfl b118 (cd := cB) (v := (!x120)) rfl rfl<|sq [q3 1 cc6 v0,(17,.adr 1 [.fld 0]),q2 18 cc9 v0.Parents,q2 19 cI (v0.Parents.length:Int),q2 20 cI (k80:Int),q2 33 cB (!x120)]<|
  xn<|cnd rfl h (fun b122 h=>ws<|rg<|xa (sc cB false rfl)<|sq [q2 2 cB false]<|
  xn<|wpC_ret<|rb<|rt<|rt<|rt<|rb<|rt<|rt<|re<|fin h (r1 (ss rfl rfl)<|r0) rfl)
  (fun b122 h=>wpC_skip<|xbb<|kpN [q3 1 cc6 v0,(17,.adr 1 [.fld 0]),q2 18 cc9 v0.Parents,q2 19 cI (v0.Parents.length:Int),q2 20 cI (k80:Int)] (by kernel_rfl)<|xn<|rg<|st rfl<|b_inc rfl rfl l78 hk82<|st rfl<|mvd rfl rfl<|sq [q3 1 cc6 v0,(17,.adr 1 [.fld 0]),q2 18 cc9 v0.Parents,q2 19 cI (v0.Parents.length:Int),q2 20 cI ((k80 + 1:Nat):Int)]<|
  xn<|hn103 () h))
  (fun b118 h=>gf rfl b118<|gf rfl b118<|gf rfl b118<|gf rfl b118<|gf rfl b118<|st rfl<|pick0 rfl b118 (cd := cB) (v := false) rfl rfl<|sq [q3 1 cc6 v0,(17,.adr 1 [.fld 0]),q2 18 cc9 v0.Parents,q2 19 cI (v0.Parents.length:Int),q2 20 cI (k80:Int),q2 33 cB false]<|
  xn<|cnd0 rfl rfl<|wpC_skip<|xbb<|kpN [q3 1 cc6 v0,(17,.adr 1 [.fld 0]),q2 18 cc9 v0.Parents,q2 19 cI (v0.Parents.length:Int),q2 20 cI (k80:Int)] (by kernel_rfl)<|xn<|rg<|st rfl<|b_inc rfl rfl l78 hk82<|st rfl<|mvd rfl rfl<|sq [q3 1 cc6 v0,(17,.adr 1 [.fld 0]),q2 18 cc9 v0.Parents,q2 19 cI (v0.Parents.length:Int),q2 20 cI ((k80 + 1:Nat):Int)]<|
  xn<|hn103 () h))))

def rs_spec_sName (r:Bool):List D := [cB.enc r]
def m61:MC := .seq (.reg [q1 2 (.asg (.c (.bool false)))] [0])
 (.seq (.kp [0] (.seq (.reg [q1 3 (.asg (.c (.int .i64 0)))] [0,3])
 (.blk 0 (.loop (.seq (.kp [0,3] (.seq (.reg [q1 4 (.mv (.t 3)),q1 5 (.mv (.t 0)),q1 6 (.len true (.t 5)),q1 7 (.bin .lss (.t 4) (.t 6))] [0,3,7])
 (.cond (.t 7) (.skip) (.exit 0))))
 (.seq (.kp [0,3] (.blk 1 (.seq (.reg [q1 10 (.mv (.t 0)),q1 11 (.mv (.t 3)),q1 12 (.ix (.t 10) (.t 11)),q1 13 (.bin .lss (.t 12) (.c (.int .u8 97))),q1 14 (.mv (.t 13)),
  ⟨some 15,.mv (.t 0),some (14,false)⟩,
  ⟨some 16,.mv (.t 3),some (14,false)⟩,
  ⟨some 17,.ix (.t 15) (.t 16),some (14,false)⟩,
  ⟨some 18,.bin .gtr (.t 17) (.c (.int .u8 122)),some (14,false)⟩,q1 19 (.pick (.t 14) (.c (.bool true)) (.t 18))] [0,3,19])
 (.cond (.t 19) (.seq (.reg [q1 2 (.asg (.c (.bool false)))] [2])
 (.ret)) (.skip)))))
 (.reg [q1 8 (.mv (.t 3)),q1 9 (.bin .add (.t 8) (.c (.int .i64 1))),q1 3 (.asg (.t 9))] [0,3])))))))
 (.seq (.reg [q1 20 (.mv (.t 0)),q1 21 (.len true (.t 20)),q1 22 (.call 60 [(.t 21),(.c (.int .i64 1)),(.c (.int .i64 8))]),q1 2 (.asg (.t 22))] [2])
 (.ret)))
theorem con_spec_sName {v0:(List UInt8)} {r:Bool} (h:sh_spec_sName v0 = some r):Con Tryz.prog 61 [cS.enc v0] [] (rs_spec_sName r) := by
 delta sh_spec_sName at h
 refine top (out := none) (f := Tryz.f61) (m := m61) (rs := [.t 2]) (by kernel_rfl) rfl (by kernel_rfl) (by kernel_rfl) (by kernel_rfl) (by kernel_rfl) (by kernel_rfl) ?_
 exact
  ini [q2 0 cS v0] rfl<|ws<|rg<|xa (sc cB false rfl)<|sq [q2 0 cS v0]<|
  xn<|ws<|wpC_kp<|ws<|rg<|xa (sc cI (0:Int) rfl)<|sq [q2 0 cS v0,q2 3 cI (0:Int)]<|
  xn<|wpC_blk<|lpF (fun (s84:Int)=>[q2 0 cS v0,q2 3 cI s84]) (0:Int) rfl h
  fun G141 nx139 s84 hn140 h=>ws<|wpC_kp<|ws<|rg<|st rfl<|mvd rfl rfl<|st rfl<|mvd rfl rfl<|stw rfl<|lent rfl fun l146=>st rfl<|b_lss (k := .i64) rfl rfl<|sq [q2 0 cS v0,q2 3 cI s84,q2 7 cB (decide (s84 < (v0.length:Int)))]<|
  xn<|cnd rfl h (fun b147 h=>wpC_skip<|kpN [q2 0 cS v0,q2 3 cI s84] (by kernel_rfl)<|xn<|ws<|wpC_kp<|wpC_blk<|ws<|rg<|st rfl<|mvd rfl rfl<|st rfl<|mvd rfl rfl<|getO_k h fun x161 i162 g163 h=>st rfl<|o_ix (k := .i64) rfl rfl i162 g163<|st rfl<|b_lss (k := .u8) rfl rfl<|st rfl<|mvd rfl rfl<|ite_k h (fun b164 h=>gf rfl b164<|gf rfl b164<|gf rfl b164<|gf rfl b164<|st rfl<|pick1 rfl b164 (cd := cB) (v := true) rfl rfl<|sq [q2 0 cS v0,q2 3 cI s84,q2 19 cB true]<|
  xn<|cnd1 rfl rfl<|ws<|rg<|xa (sc cB false rfl)<|sq [q2 2 cB false]<|
  xn<|wpC_ret<|rb<|rt<|rt<|rt<|rb<|rt<|rt<|re<|fin h (r1 (ss rfl rfl)<|r0) rfl)
  (fun b164 h=>gt' rfl b164<|st rfl<|mvd rfl rfl<|gt' rfl b164<|st rfl<|mvd rfl rfl<|gt' rfl b164<|st rfl<|o_ix (k := .i64) rfl rfl i162 g163<|gt' rfl b164<|st rfl<|b_gtr (k := .u8) rfl rfl<|st rfl<|pick0 rfl b164 (cd := cB) (v := (decide ((122:Int) < (x161.toNat:Int)))) rfl rfl<|sq [q2 0 cS v0,q2 3 cI s84,q2 19 cB (decide ((122:Int) < (x161.toNat:Int)))]<|
  xn<|cnd rfl h (fun b165 h=>ws<|rg<|xa (sc cB false rfl)<|sq [q2 2 cB false]<|
  xn<|wpC_ret<|rb<|rt<|rt<|rt<|rb<|rt<|rt<|re<|fin h (r1 (ss rfl rfl)<|r0) rfl)
  (fun b165 h=>wpC_skip<|xbb<|kpN [q2 0 cS v0,q2 3 cI s84] (by kernel_rfl)<|xn<|rg<|st rfl<|mvd rfl rfl<|ckI_k h fun i166 h=>st rfl<|b_add (k := .i64) rfl rfl i166<|xa (ss rfl rfl)<|sq [q2 0 cS v0,q2 3 cI (s84 + (1:Int))]<|
  xn<|hn140 (s84 + (1:Int)) h)))
  (fun b147 h=>wpC_exit<|xt<|xt<|xt<|xb<|kpN [q2 0 cS v0] (by kernel_rfl)<|xn<|ws<|rg<|st rfl<|mvd rfl rfl<|stw rfl<|lent rfl fun l170=>bnd h fun x171 e172 h=>st rfl<|o_call (a1 (c := cI) tK rfl (a1 (c := cI) tK rfl (a1 (c := cI) tK rfl a0))) (con_spec_l1In e172) (.inl (so1 sB so0))<|xa (ss rfl rfl)<|sq [q2 2 cB x171]<|
  xn<|wpC_ret<|re<|fin h (r1 (ss rfl rfl)<|r0) rfl)

def rs_spec_sFind (r:Int):List D := [cI.enc r]
def m62:MC := .seq (.reg [q1 4 (.asg (.c (.int .i64 0)))] [0,1])
 (.seq (.kp [] (.seq (.reg [q1 7 (.mv (.t 0)),q1 8 (.len false (.t 7)),q1 9 (.mv (.c (.int .i64 0)))] [0,1,7,8,9])
 (.blk 0 (.loop (.seq (.reg [q1 10 (.bin .lss (.t 9) (.t 8))] [0,1,7,8,9,10])
 (.seq (.kp [0,1,7,8,9] (.cond (.t 10) (.skip) (.exit 0)))
 (.seq (.kp [0,1,7,8,9] (.blk 1 (.seq (.reg [q1 11 (.mv (.t 9)),q1 12 (.ia 7 (.t 9) 2),q1 13 (.ld 12 2 true),q1 6 (.alloc (.agg [.str [],.int .i64 0])),q1 5 (.asg (.t 11)),q0 (.st 6 (.t 13) 2)] [0,1,5,6,7,8,9])
 (.seq (.reg [q1 14 (.fa 6 0 0),q1 15 (.ld 14 1 false),q1 16 (.mv (.t 1)),q1 17 (.bin .eql (.t 15) (.t 16))] [0,1,5,7,8,9,17])
 (.cond (.t 17) (.seq (.reg [q1 18 (.mv (.t 5)),q1 4 (.asg (.t 18))] [4])
 (.ret)) (.skip))))))
 (.reg [q1 19 (.bin .add (.t 9) (.c (.int .i64 1))),q1 9 (.mv (.t 19))] [0,1,7,8,9]))))))))
 (.seq (.reg [q1 4 (.asg (.c (.int .i64 (-1))))] [4])
 (.ret)))
theorem con_spec_sFind {v0:(List XVariable)} {v1:(List UInt8)} {r:Int} (h:sh_spec_sFind v0 v1 = some r):Con Tryz.prog 62 [cc4.enc v0,cS.enc v1] [] (rs_spec_sFind r) := by
 delta sh_spec_sFind at h
 refine top (out := none) (f := Tryz.f62) (m := m62) (rs := [.t 4]) (by kernel_rfl) rfl (by kernel_rfl) (by kernel_rfl) (by kernel_rfl) (by kernel_rfl) (by kernel_rfl) ?_
 exact
  ini [q2 0 cc4 v0,q2 1 cS v1] rfl<|ws<|rg<|xa (sc cI (0:Int) rfl)<|sq [q2 0 cc4 v0,q2 1 cS v1]<|
  xn<|ws<|wpC_kp<|ws<|rg<|st rfl<|mvd rfl rfl<|stw rfl<|lens rfl fun l16=>st rfl<|mvc cI (0:Int) rfl<|sq [q2 0 cc4 v0,q2 1 cS v1,q2 7 cc4 v0,q2 8 cI (v0.length:Int),q2 9 cI (0:Int)]<|
  xn<|wpC_blk<|lpR (fun (k18:Nat) (s17:Unit)=>[q2 0 cc4 v0,q2 1 cS v1,q2 7 cc4 v0,q2 8 cI (v0.length:Int),q2 9 cI (k18:Int)]) () rfl h
  (fun G26 s17 h=>ws<|rg<|st rfl<|b_lss (k := .i64) rfl rfl<|sq [q2 0 cc4 v0,q2 1 cS v1,q2 7 cc4 v0,q2 8 cI (v0.length:Int),q2 9 cI (v0.length:Int),q2 10 cB (decide ((v0.length:Int) < (v0.length:Int)))]<|
  xn<|ws<|wpC_kp<|cnd0 rfl (dlf _)<|wpC_exit<|xt<|xt<|xt<|xb<|kpN [] (by kernel_rfl)<|xn<|ws<|rg<|xa (sc cI (-1:Int) rfl)<|sq [q2 4 cI (-1:Int)]<|
  xn<|wpC_ret<|re<|fin h (r1 (ss rfl rfl)<|r0) rfl)
  (fun G26 nx24 k18 s17 x19 hk20 hx21 hn25 h=>ws<|rg<|st rfl<|b_lss (k := .i64) rfl rfl<|sq [q2 0 cc4 v0,q2 1 cS v1,q2 7 cc4 v0,q2 8 cI (v0.length:Int),q2 9 cI (k18:Int),q2 10 cB (decide ((k18:Int) < (v0.length:Int)))]<|
  xn<|ws<|wpC_kp<|cnd1 rfl (dlt hk20)<|wpC_skip<|kpN [q2 0 cc4 v0,q2 1 cS v1,q2 7 cc4 v0,q2 8 cI (v0.length:Int),q2 9 cI (k18:Int)] (by kernel_rfl)<|xn<|ws<|wpC_kp<|wpC_blk<|ws<|rg<|st rfl<|mvd rfl rfl<|st rfl<|ias rfl rfl (Int.natCast_nonneg _) hx21 rfl<|st rfl<|ldi rfl rfl rfl rfl<|x_all cc7 (⟨([]:List UInt8),(0:Int)⟩:XVariable) rfl<|xa (ss rfl rfl)<|x_stb (ss rfl rfl) rfl (Cd.h_sz _ _) rfl<|sq [q2 0 cc4 v0,q2 1 cS v1,q2 5 cI (k18:Int),q3 6 cc7 x19,q2 7 cc4 v0,q2 8 cI (v0.length:Int),q2 9 cI (k18:Int)]<|
  xn<|ws<|rg<|st rfl<|fab rfl rfl rfl rfl<|st rfl<|lda rfl rfl rfl rfl rfl rfl<|st rfl<|mvd rfl rfl<|st rfl<|b_seq rfl rfl<|sq [q2 0 cc4 v0,q2 1 cS v1,q2 5 cI (k18:Int),q2 7 cc4 v0,q2 8 cI (v0.length:Int),q2 9 cI (k18:Int),q2 17 cB (decide (x19.Name = v1))]<|
  xn<|cnd rfl h (fun b28 h=>ws<|rg<|st rfl<|mvd rfl rfl<|xa (ss rfl rfl)<|sq [q2 4 cI (k18:Int)]<|
  xn<|wpC_ret<|rb<|rt<|rt<|rt<|rb<|rt<|rt<|re<|fin h (r1 (ss rfl rfl)<|r0) rfl)
  (fun b28 h=>wpC_skip<|xbb<|kpN [q2 0 cc4 v0,q2 1 cS v1,q2 7 cc4 v0,q2 8 cI (v0.length:Int),q2 9 cI (k18:Int)] (by kernel_rfl)<|xn<|rg<|st rfl<|b_inc rfl rfl l16 hk20<|st rfl<|mvd rfl rfl<|sq [q2 0 cc4 v0,q2 1 cS v1,q2 7 cc4 v0,q2 8 cI (v0.length:Int),q2 9 cI ((k18 + 1:Nat):Int)]<|
  xn<|hn25 () h))

def rs_spec_sGood (r:Bool):List D := [cB.enc r]
def m42:MC := .seq (.reg [q1 2 (.asg (.c (.bool false)))] [0])
 (.seq (.kp [0] (.seq (.reg [q1 5 (.mv (.t 0)),q1 6 (.len false (.t 5)),q1 7 (.call 60 [(.t 6),(.c (.int .i64 1)),(.c (.int .i64 6))]),q1 8 (.nt (.t 7))] [0,8])
 (.cond (.t 8) (.seq (.reg [q1 2 (.asg (.c (.bool false)))] [2])
 (.ret)) (.skip))))
 (.seq (.kp [] (.seq (.reg [q1 9 (.mv (.t 0)),q1 10 (.len false (.t 9)),q1 11 (.mv (.c (.int .i64 0)))] [0,9,10,11])
 (.blk 0 (.loop (.seq (.reg [q1 12 (.bin .lss (.t 11) (.t 10))] [0,9,10,11,12])
 (.seq (.kp [0,9,10,11] (.cond (.t 12) (.skip) (.exit 0)))
 (.seq (.kp [0,9,10,11] (.blk 1 (.seq (.reg [q1 13 (.mv (.t 11)),q1 14 (.ia 9 (.t 11) 2),q1 15 (.ld 14 2 true),q1 4 (.alloc (.agg [.str [],.int .i64 0])),q1 3 (.asg (.t 13)),q0 (.st 4 (.t 15) 2)] [0,3,4,9,10,11])
 (.seq (.drw [⟨0,q1 16 (.fa 4 0 0),[17,18,19,20,21,22,23,24,25,26,27,28,29,30,31,32,33,34]⟩,
  ⟨1,q1 17 (.ld 16 1 false),[18,19,20,21,22,23,24,25,26,27,28,29,30,31,32,33,34]⟩,
  ⟨2,q1 18 (.call 61 [(.t 17)]),[19,20,21,22,23,24,25,26,27,28,29,30,31,32,33,34]⟩,
  ⟨3,q1 19 (.nt (.t 18)),[20,21,22,23,24,25,26,27,28,29,30,31,32,33,34]⟩,
  ⟨4,q1 20 (.mv (.t 19)),[21,22,23,24,25,26,27,28,29,30,31,32,33,34]⟩,
  ⟨5,⟨some 21,.fa 4 1 1,some (20,false)⟩,[22,23,24,25,26,27,28,29,30,31,32,33,34]⟩,
  ⟨6,⟨some 22,.ld 21 1 false,some (20,false)⟩,[23,24,25,26,27,28,29,30,31,32,33,34]⟩,
  ⟨7,⟨some 23,.call 60 [(.t 22),(.c (.int .i64 2)),(.c (.int .i64 8))],some (20,false)⟩,[24,25,26,27,28,29,30,31,32,33,34]⟩,
  ⟨8,⟨some 24,.nt (.t 23),some (20,false)⟩,[25,26,27,28,29,30,31,32,33,34]⟩,
  ⟨9,q1 25 (.pick (.t 20) (.c (.bool true)) (.t 24)),[26,27,28,29,30,31,32,33,34]⟩,
  ⟨10,q1 26 (.mv (.t 25)),[27,28,29,30,31,32,33,34]⟩,
  ⟨11,⟨some 27,.mv (.t 0),some (26,false)⟩,[28,29,30,31,32,33,34]⟩,
  ⟨12,⟨some 28,.mv (.t 3),some (26,false)⟩,[27,29,30,31,32,33,34]⟩,
  ⟨13,⟨some 29,.sl (.t 27) none (some (.t 28)) 2,some (26,false)⟩,[30,31,32,33,34]⟩,
  ⟨14,⟨some 30,.fa 4 0 0,some (26,false)⟩,[27,28,29,31,32,33,34]⟩,
  ⟨15,⟨some 31,.ld 30 1 false,some (26,false)⟩,[27,28,29,32,33,34]⟩,
  ⟨16,⟨some 32,.call 62 [(.t 29),(.t 31)],some (26,false)⟩,[33,34]⟩,
  ⟨17,⟨some 33,.bin .geq (.t 32) (.c (.int .i64 0)),some (26,false)⟩,[34]⟩,
  ⟨18,q1 34 (.pick (.t 26) (.c (.bool true)) (.t 33)),[]⟩]
  [] [0,9,10,11,34])
 (.cond (.t 34) (.seq (.reg [q1 2 (.asg (.c (.bool false)))] [2])
 (.ret)) (.skip))))))
 (.reg [q1 35 (.bin .add (.t 11) (.c (.int .i64 1))),q1 11 (.mv (.t 35))] [0,9,10,11]))))))))
 (.seq (.reg [q1 2 (.asg (.c (.bool true)))] [2])
 (.ret))))
theorem con_spec_sGood {v0:(List XVariable)} {r:Bool} (h:sh_spec_sGood v0 = some r):Con Tryz.prog 42 [cc4.enc v0] [] (rs_spec_sGood r) := by
 delta sh_spec_sGood at h
 refine top (out := none) (f := Tryz.f42) (m := m42) (rs := [.t 2]) (by kernel_rfl) rfl (by kernel_rfl) (by kernel_rfl) (by kernel_rfl) (by kernel_rfl) (by kernel_rfl) ?_
 exact
  ini [q2 0 cc4 v0] rfl<|ws<|rg<|xa (sc cB false rfl)<|sq [q2 0 cc4 v0]<|
  xn<|ws<|wpC_kp<|ws<|rg<|st rfl<|mvd rfl rfl<|stw rfl<|lens rfl fun l11=>bnd h fun x12 e13 h=>st rfl<|o_call (a1 (c := cI) tK rfl (a1 (c := cI) tK rfl (a1 (c := cI) tK rfl a0))) (con_spec_l1In e13) (.inl (so1 sB so0))<|st rfl<|o_nt rfl<|sq [q2 0 cc4 v0,q2 8 cB (!x12)]<|
  xn<|cnd rfl h (fun b14 h=>ws<|rg<|xa (sc cB false rfl)<|sq [q2 2 cB false]<|
  xn<|wpC_ret<|rt<|rt<|re<|fin h (r1 (ss rfl rfl)<|r0) rfl)
  (fun b14 h=>wpC_skip<|kpN [q2 0 cc4 v0] (by kernel_rfl)<|xn<|ws<|wpC_kp<|ws<|rg<|st rfl<|mvd rfl rfl<|stw rfl<|lens rfl fun l102=>st rfl<|mvc cI (0:Int) rfl<|sq [q2 0 cc4 v0,q2 9 cc4 v0,q2 10 cI (v0.length:Int),q2 11 cI (0:Int)]<|
  xn<|wpC_blk<|lpR (fun (k104:Nat) (s103:Unit)=>[q2 0 cc4 v0,q2 9 cc4 v0,q2 10 cI (v0.length:Int),q2 11 cI (k104:Int)]) () rfl h
  (fun G148 s103 h=>ws<|rg<|st rfl<|b_lss (k := .i64) rfl rfl<|sq [q2 0 cc4 v0,q2 9 cc4 v0,q2 10 cI (v0.length:Int),q2 11 cI (v0.length:Int),q2 12 cB (decide ((v0.length:Int) < (v0.length:Int)))]<|
  xn<|ws<|wpC_kp<|cnd0 rfl (dlf _)<|wpC_exit<|xt<|xt<|xt<|xb<|kpN [] (by kernel_rfl)<|xn<|ws<|rg<|xa (sc cB true rfl)<|sq [q2 2 cB true]<|
  xn<|wpC_ret<|re<|fin h (r1 (ss rfl rfl)<|r0) rfl)
  (fun G148 nx146 k104 s103 x105 hk106 hx107 hn147 h=>ws<|rg<|st rfl<|b_lss (k := .i64) rfl rfl<|sq [q2 0 cc4 v0,q2 9 cc4 v0,q2 10 cI (v0.length:Int),q2 11 cI (k104:Int),q2 12 cB (decide ((k104:Int) < (v0.length:Int)))]<|
  xn<|ws<|wpC_kp<|cnd1 rfl (dlt hk106)<|wpC_skip<|kpN [q2 0 cc4 v0,q2 9 cc4 v0,q2 10 cI (v0.length:Int),q2 11 cI (k104:Int)] (by kernel_rfl)<|xn<|ws<|wpC_kp<|wpC_blk<|ws<|rg<|st rfl<|mvd rfl rfl<|st rfl<|ias rfl rfl (Int.natCast_nonneg _) hx107 rfl<|st rfl<|ldi rfl rfl rfl rfl<|x_all cc7 (⟨([]:List UInt8),(0:Int)⟩:XVariable) rfl<|xa (ss rfl rfl)<|x_stb (ss rfl rfl) rfl (Cd.h_sz _ _) rfl<|sq [q2 0 cc4 v0,q2 3 cI (k104:Int),q3 4 cc7 x105,q2 9 cc4 v0,q2 10 cI (v0.length:Int),q2 11 cI (k104:Int)]<|
  xn<|ws<|drw_s<|pst rfl<|fab rfl rfl rfl rfl ⟨rfl,pst rfl<|lda rfl rfl rfl rfl rfl rfl ⟨rfl,bndp h fun x177 e178 h=>pst rfl<|o_call (a1 (c := cS) tS rfl a0) (con_spec_sName e178) (.inl (so1 sB so0)) ⟨rfl,pst rfl<|o_nt rfl ⟨rfl,pst rfl<|mvd rfl rfl ⟨rfl,ite_kp h (fun b179 h=>pgf rfl rfl b179<|pgf rfl rfl b179<|pgf rfl rfl b179<|pgf rfl rfl b179<|pst rfl<|pick1 rfl b179 (cd := cB) (v := true) rfl rfl ⟨rfl,pst rfl<|mvd rfl rfl ⟨rfl,pgf rfl rfl rfl<|pgf rfl rfl rfl<|pgf rfl rfl rfl<|pgf rfl rfl rfl<|pgf rfl rfl rfl<|pgf rfl rfl rfl<|pgf rfl rfl rfl<|pst rfl<|pick1 rfl rfl (cd := cB) (v := true) rfl rfl ⟨rfl,preN<|sq [q2 0 cc4 v0,q2 9 cc4 v0,q2 10 cI (v0.length:Int),q2 11 cI (k104:Int),q2 34 cB true]<|
  xn<|cnd1 rfl rfl<|ws<|rg<|xa (sc cB false rfl)<|sq [q2 2 cB false]<|
  xn<|wpC_ret<|rb<|rt<|rt<|rt<|rb<|rt<|rt<|re<|fin h (r1 (ss rfl rfl)<|r0) rfl⟩⟩⟩)
  (fun b179 h=>pgt rfl b179<|pst rfl<|fab rfl rfl rfl rfl ⟨rfl,pgt rfl b179<|pst rfl<|lda rfl rfl rfl rfl rfl rfl ⟨rfl,pgt rfl b179<|bndp h fun x180 e181 h=>pst rfl<|o_call (a1 (c := cI) tK rfl (a1 (c := cI) tK rfl (a1 (c := cI) tK rfl a0))) (con_spec_l1In e181) (.inl (so1 sB so0)) ⟨rfl,pgt rfl b179<|pst rfl<|o_nt rfl ⟨rfl,pst rfl<|pick0 rfl b179 (cd := cB) (v := (!x180)) rfl rfl ⟨rfl,pst rfl<|mvd rfl rfl ⟨rfl,ite_kp h (fun b182 h=>pgf rfl rfl b182<|pgf rfl rfl b182<|pgf rfl rfl b182<|pgf rfl rfl b182<|pgf rfl rfl b182<|pgf rfl rfl b182<|pgf rfl rfl b182<|pst rfl<|pick1 rfl b182 (cd := cB) (v := true) rfl rfl ⟨rfl,preN<|sq [q2 0 cc4 v0,q2 9 cc4 v0,q2 10 cI (v0.length:Int),q2 11 cI (k104:Int),q2 34 cB true]<|
  xn<|cnd1 rfl rfl<|ws<|rg<|xa (sc cB false rfl)<|sq [q2 2 cB false]<|
  xn<|wpC_ret<|rb<|rt<|rt<|rt<|rb<|rt<|rt<|re<|fin h (r1 (ss rfl rfl)<|r0) rfl⟩)
  (fun b182 h=>pgt rfl b182<|pst rfl<|mvd rfl rfl ⟨rfl,pgt rfl b182<|pst rfl<|mvd rfl rfl ⟨rfl,pgt rfl b182<|ck_kp h fun i183 h=>pst rfl<|o_sl rfl rfl lo0 (hi1 (k := .i64) rfl i183.1) i183.2 ⟨rfl,pgt rfl b182<|pst rfl<|fab rfl rfl rfl rfl ⟨rfl,pgt rfl b182<|pst rfl<|lda rfl rfl rfl rfl rfl rfl ⟨rfl,pgt rfl b182<|bndp h fun x184 e185 h=>pst rfl<|o_call (a1 (c := cc4) (tLs (tXVariable tS tK)) rfl (a1 (c := cS) tS rfl a0)) (con_spec_sFind e185) (.inl (so1 sK so0)) ⟨rfl,pgt rfl b182<|pst rfl<|b_geq (k := .i64) rfl rfl ⟨rfl,pst rfl<|pick0 rfl b182 (cd := cB) (v := (decide ((0:Int) ≤ x184))) rfl rfl ⟨rfl,preN<|sq [q2 0 cc4 v0,q2 9 cc4 v0,q2 10 cI (v0.length:Int),q2 11 cI (k104:Int),q2 34 cB (decide ((0:Int) ≤ x184))]<|
  xn<|cnd rfl h (fun b186 h=>ws<|rg<|xa (sc cB false rfl)<|sq [q2 2 cB false]<|
  xn<|wpC_ret<|rb<|rt<|rt<|rt<|rb<|rt<|rt<|re<|fin h (r1 (ss rfl rfl)<|r0) rfl)
  (fun b186 h=>wpC_skip<|xbb<|kpN [q2 0 cc4 v0,q2 9 cc4 v0,q2 10 cI (v0.length:Int),q2 11 cI (k104:Int)] (by kernel_rfl)<|xn<|rg<|st rfl<|b_inc rfl rfl l102 hk106<|st rfl<|mvd rfl rfl<|sq [q2 0 cc4 v0,q2 9 cc4 v0,q2 10 cI (v0.length:Int),q2 11 cI ((k104 + 1:Nat):Int)]<|
  xn<|hn147 () h)⟩⟩⟩⟩⟩⟩⟩⟩)⟩⟩⟩⟩⟩⟩)⟩⟩⟩⟩⟩))

def rs_spec_nInput (r:Bool):List D := [cB.enc r]
def m25:MC := .seq (.reg [q1 2 (.box (.t 0)),q1 4 (.asg (.c (.bool false)))] [1,2])
 (.seq (.reg [q1 5 (.ld 2 1 true),q1 6 (.call 41 [(.t 5)]),q1 7 (.mv (.t 6)),
  ⟨some 8,.mv (.t 1),some (7,true)⟩,
  ⟨some 9,.call 42 [(.t 8)],some (7,true)⟩,q1 10 (.pick (.t 7) (.t 9) (.c (.bool false))),q1 4 (.asg (.t 10))] [4])
 (.ret))
theorem con_spec_nInput {v0:XGeo} {v1:(List XVariable)} {r:Bool} (h:sh_spec_nInput v0 v1 = some r):Con Tryz.prog 25 [cc6.enc v0,cc4.enc v1] [] (rs_spec_nInput r) := by
 delta sh_spec_nInput at h
 refine top (out := none) (f := Tryz.f25) (m := m25) (rs := [.t 4]) (by kernel_rfl) rfl (by kernel_rfl) (by kernel_rfl) (by kernel_rfl) (by kernel_rfl) (by kernel_rfl) ?_
 exact
  ini [q2 0 cc6 v0,q2 1 cc4 v1] rfl<|ws<|rg<|x_box (ss rfl rfl)<|xa (sc cB false rfl)<|sq [q2 1 cc4 v1,q3 2 cc6 v0]<|
  xn<|ws<|rg<|st rfl<|ldb rfl rfl rfl rfl<|bnd h fun x6 e7 h=>st rfl<|o_call (a1 (c := cc6) (tXGeo (tLs tK)) rfl a0) (con_spec_gGood e7) (.inl (so1 sB so0))<|st rfl<|mvd rfl rfl<|ite_k h (fun b8 h=>gt' rfl b8<|st rfl<|mvd rfl rfl<|gt' rfl b8<|bnd h fun x9 e10 h=>st rfl<|o_call (a1 (c := cc4) (tLs (tXVariable tS tK)) rfl a0) (con_spec_sGood e10) (.inl (so1 sB so0))<|st rfl<|pick1 rfl b8 (cd := cB) (v := x9) rfl rfl<|xa (ss rfl rfl)<|sq [q2 4 cB x9]<|
  xn<|wpC_ret<|re<|fin h (r1 (ss rfl rfl)<|r0) rfl)
  (fun b8 h=>gf rfl b8<|gf rfl b8<|st rfl<|pick0 rfl b8 (cd := cB) (v := false) rfl rfl<|xa (ss rfl rfl)<|sq [q2 4 cB false]<|
  xn<|wpC_ret<|re<|fin h (r1 (ss rfl rfl)<|r0) rfl)

def rs_spec_l1Split (r:(List (List UInt8))):List D := [cc12.enc r]
def m39:MC := .seq (.reg [q1 4 (.asg (.c (.slice true [])))] [0,1])
 (.seq (.reg [q1 5 (.asg (.c (.slice true [])))] [0,1,5])
 (.seq (.reg [q1 6 (.asg (.c (.int .i64 0)))] [0,1,5,6])
 (.seq (.kp [0,5,6] (.seq (.reg [q1 7 (.asg (.c (.int .i64 0)))] [0,1,5,6,7])
 (.blk 0 (.loop (.seq (.kp [0,1,5,6,7] (.seq (.reg [q1 8 (.mv (.t 7)),q1 9 (.mv (.t 0)),q1 10 (.len true (.t 9)),q1 11 (.bin .lss (.t 8) (.t 10))] [0,1,5,6,7,11])
 (.cond (.t 11) (.skip) (.exit 0))))
 (.seq (.kp [0,1,5,6,7] (.blk 1 (.seq (.reg [q1 14 (.mv (.t 0)),q1 15 (.mv (.t 7)),q1 16 (.ix (.t 14) (.t 15)),q1 17 (.mv (.t 1)),q1 18 (.bin .eql (.t 16) (.t 17))] [0,1,5,6,7,18])
 (.cond (.t 18) (.seq (.reg [q1 19 (.mv (.t 5)),q1 20 (.mv (.t 0)),q1 21 (.mv (.t 6)),q1 22 (.mv (.t 7)),q1 23 (.sls (.t 20) (some (.t 21)) (some (.t 22))),q1 24 (.bsl [(.t 23)] 1),q1 25 (.app (.t 19) (.t 24) 1),q1 5 (.asg (.t 25))] [0,1,5,7])
 (.reg [q1 26 (.mv (.t 7)),q1 27 (.bin .add (.t 26) (.c (.int .i64 1))),q1 6 (.asg (.t 27))] [0,1,5,6,7])) (.skip)))))
 (.reg [q1 12 (.mv (.t 7)),q1 13 (.bin .add (.t 12) (.c (.int .i64 1))),q1 7 (.asg (.t 13))] [0,1,5,6,7])))))))
 (.seq (.reg [q1 28 (.mv (.t 5)),q1 29 (.mv (.t 0)),q1 30 (.mv (.t 6)),q1 31 (.sls (.t 29) (some (.t 30)) none),q1 32 (.bsl [(.t 31)] 1),q1 33 (.app (.t 28) (.t 32) 1),q1 4 (.asg (.t 33))] [4])
 (.ret)))))
theorem con_spec_l1Split {v0:(List UInt8)} {v1:Int} {r:(List (List UInt8))} (h:sh_spec_l1Split v0 v1 = some r):Con Tryz.prog 39 [cS.enc v0,cU.enc v1] [] (rs_spec_l1Split r) := by
 delta sh_spec_l1Split at h
 refine top (out := none) (f := Tryz.f39) (m := m39) (rs := [.t 4]) (by kernel_rfl) rfl (by kernel_rfl) (by kernel_rfl) (by kernel_rfl) (by kernel_rfl) (by kernel_rfl) ?_
 exact
  ini [q2 0 cS v0,q2 1 cU v1] rfl<|ws<|rg<|xa (sc cc12 ([]:List (List UInt8)) rfl)<|sq [q2 0 cS v0,q2 1 cU v1]<|
  xn<|ws<|rg<|xa (sc cc12 ([]:List (List UInt8)) rfl)<|sq [q2 0 cS v0,q2 1 cU v1,q2 5 cc12 ([]:List (List UInt8))]<|
  xn<|ws<|rg<|xa (sc cI (0:Int) rfl)<|sq [q2 0 cS v0,q2 1 cU v1,q2 5 cc12 ([]:List (List UInt8)),q2 6 cI (0:Int)]<|
  xn<|ws<|wpC_kp<|ws<|rg<|xa (sc cI (0:Int) rfl)<|sq [q2 0 cS v0,q2 1 cU v1,q2 5 cc12 ([]:List (List UInt8)),q2 6 cI (0:Int),q2 7 cI (0:Int)]<|
  xn<|wpC_blk<|lpF (fun (s105:((List (List UInt8)) × Int × Int))=>[q2 0 cS v0,q2 1 cU v1,q2 5 cc12 s105.1,q2 6 cI s105.2.1,q2 7 cI s105.2.2]) (([]:List (List UInt8)),(0:Int),(0:Int)) rfl h
  fun G176 nx174 s105 hn175 h=>ws<|wpC_kp<|ws<|rg<|st rfl<|mvd rfl rfl<|st rfl<|mvd rfl rfl<|stw rfl<|lent rfl fun l181=>st rfl<|b_lss (k := .i64) rfl rfl<|sq [q2 0 cS v0,q2 1 cU v1,q2 5 cc12 s105.1,q2 6 cI s105.2.1,q2 7 cI s105.2.2,q2 11 cB (decide (s105.2.2 < (v0.length:Int)))]<|
  xn<|cnd rfl h (fun b182 h=>wpC_skip<|kpN [q2 0 cS v0,q2 1 cU v1,q2 5 cc12 s105.1,q2 6 cI s105.2.1,q2 7 cI s105.2.2] (by kernel_rfl)<|xn<|ws<|wpC_kp<|wpC_blk<|ws<|rg<|st rfl<|mvd rfl rfl<|st rfl<|mvd rfl rfl<|getO_k h fun x198 i199 g200 h=>st rfl<|o_ix (k := .i64) rfl rfl i199 g200<|st rfl<|mvd rfl rfl<|st rfl<|b_eql (k := .u8) rfl rfl<|sq [q2 0 cS v0,q2 1 cU v1,q2 5 cc12 s105.1,q2 6 cI s105.2.1,q2 7 cI s105.2.2,q2 18 cB (decide ((x198.toNat:Int) = v1))]<|
  xn<|cnd rfl h (fun b201 h=>ws<|rg<|st rfl<|mvo rfl rfl<|st rfl<|mvd rfl rfl<|st rfl<|mvd rfl rfl<|st rfl<|mvd rfl rfl<|ck_k h fun i204 h=>st rfl<|o_sls rfl (lo1 (k := .i64) rfl i204.1) (hi1 (k := .i64) rfl i204.2.1) i204.2.2<|x_bsl cS [((v0.take (s105.2.2).toNat).drop (s105.2.1).toNat)] (t1 (ss rfl rfl) rfl t0) rfl rfl<|lnO_k h fun l205 h=>x_app (sr rfl rfl) (tow rfl rfl) l205 rfl<|xa (so rfl rfl)<|sq [q2 0 cS v0,q2 1 cU v1,q2 5 cc12 (s105.1 ++ [((v0.take (s105.2.2).toNat).drop (s105.2.1).toNat)]),q2 7 cI s105.2.2]<|
  xn<|rg<|st rfl<|mvd rfl rfl<|ckI_k h fun i206 h=>st rfl<|b_add (k := .i64) rfl rfl i206<|xa (ss rfl rfl)<|sq [q2 0 cS v0,q2 1 cU v1,q2 5 cc12 (s105.1 ++ [((v0.take (s105.2.2).toNat).drop (s105.2.1).toNat)]),q2 6 cI (s105.2.2 + (1:Int)),q2 7 cI s105.2.2]<|
  xbb<|kpN [q2 0 cS v0,q2 1 cU v1,q2 5 cc12 (s105.1 ++ [((v0.take (s105.2.2).toNat).drop (s105.2.1).toNat)]),q2 6 cI (s105.2.2 + (1:Int)),q2 7 cI s105.2.2] (by kernel_rfl)<|xn<|rg<|st rfl<|mvd rfl rfl<|ckI_k h fun i207 h=>st rfl<|b_add (k := .i64) rfl rfl i207<|xa (ss rfl rfl)<|sq [q2 0 cS v0,q2 1 cU v1,q2 5 cc12 (s105.1 ++ [((v0.take (s105.2.2).toNat).drop (s105.2.1).toNat)]),q2 6 cI (s105.2.2 + (1:Int)),q2 7 cI (s105.2.2 + (1:Int))]<|
  xn<|hn175 ((s105.1 ++ [((v0.take (s105.2.2).toNat).drop (s105.2.1).toNat)]),(s105.2.2 + (1:Int)),(s105.2.2 + (1:Int))) h)
  (fun b201 h=>wpC_skip<|xbb<|kpN [q2 0 cS v0,q2 1 cU v1,q2 5 cc12 s105.1,q2 6 cI s105.2.1,q2 7 cI s105.2.2] (by kernel_rfl)<|xn<|rg<|st rfl<|mvd rfl rfl<|ckI_k h fun i208 h=>st rfl<|b_add (k := .i64) rfl rfl i208<|xa (ss rfl rfl)<|sq [q2 0 cS v0,q2 1 cU v1,q2 5 cc12 s105.1,q2 6 cI s105.2.1,q2 7 cI (s105.2.2 + (1:Int))]<|
  xn<|hn175 (s105.1,s105.2.1,(s105.2.2 + (1:Int))) h))
  (fun b182 h=>wpC_exit<|xt<|xt<|xt<|xb<|kpN [q2 0 cS v0,q2 5 cc12 s105.1,q2 6 cI s105.2.1] (by kernel_rfl)<|xn<|ws<|rg<|st rfl<|mvo rfl rfl<|st rfl<|mvd rfl rfl<|st rfl<|mvd rfl rfl<|ck_k h fun i211 h=>st rfl<|o_sls rfl (lo1 (k := .i64) rfl i211.1) hi0 i211.2<|x_bsl cS [((v0.take v0.length).drop (s105.2.1).toNat)] (t1 (ss rfl rfl) rfl t0) rfl rfl<|lnO_k h fun l212 h=>x_app (sr rfl rfl) (tow rfl rfl) l212 rfl<|xa (so rfl rfl)<|sq [q2 4 cc12 (s105.1 ++ [((v0.take v0.length).drop (s105.2.1).toNat)])]<|
  xn<|wpC_ret<|re<|fin h (r1 (so rfl rfl)<|r0) rfl)

def rs_spec_l1Read (r:Int):List D := [cI.enc r]
def m64:MC := .seq (.reg [q1 2 (.asg (.c (.int .i64 0)))] [0])
 (.seq (.kp [0] (.seq (.reg [q1 5 (.mv (.t 0)),q1 6 (.len true (.t 5)),q1 7 (.call 60 [(.t 6),(.c (.int .i64 1)),(.c (.int .i64 6))]),q1 8 (.nt (.t 7)),q1 9 (.mv (.t 8)),
  ⟨some 10,.mv (.t 0),some (9,false)⟩,
  ⟨some 11,.ix (.t 10) (.c (.int .i64 0)),some (9,false)⟩,
  ⟨some 12,.bin .eql (.t 11) (.c (.int .u8 48)),some (9,false)⟩,
  ⟨some 13,.mv (.t 12),some (9,false)⟩,
  ⟨some 14,.mv (.t 0),some (13,true)⟩,
  ⟨some 15,.len true (.t 14),some (13,true)⟩,
  ⟨some 16,.bin .gtr (.t 15) (.c (.int .i64 1)),some (13,true)⟩,
  ⟨some 17,.pick (.t 13) (.t 16) (.c (.bool false)),some (9,false)⟩,q1 18 (.pick (.t 9) (.c (.bool true)) (.t 17))] [0,18])
 (.cond (.t 18) (.seq (.reg [q1 2 (.asg (.c (.int .i64 (-1))))] [2])
 (.ret)) (.skip))))
 (.seq (.reg [q1 3 (.asg (.c (.int .i64 0)))] [0,3])
 (.seq (.kp [3] (.seq (.reg [q1 4 (.asg (.c (.int .i64 0)))] [0,3,4])
 (.blk 0 (.loop (.seq (.kp [0,3,4] (.seq (.reg [q1 19 (.mv (.t 4)),q1 20 (.mv (.t 0)),q1 21 (.len true (.t 20)),q1 22 (.bin .lss (.t 19) (.t 21))] [0,3,4,22])
 (.cond (.t 22) (.skip) (.exit 0))))
 (.seq (.kp [0,3,4] (.blk 1 (.seq (.kp [0,3,4] (.seq (.reg [q1 25 (.mv (.t 0)),q1 26 (.mv (.t 4)),q1 27 (.ix (.t 25) (.t 26)),q1 28 (.bin .lss (.t 27) (.c (.int .u8 48))),q1 29 (.mv (.t 28)),
  ⟨some 30,.mv (.t 0),some (29,false)⟩,
  ⟨some 31,.mv (.t 4),some (29,false)⟩,
  ⟨some 32,.ix (.t 30) (.t 31),some (29,false)⟩,
  ⟨some 33,.bin .gtr (.t 32) (.c (.int .u8 57)),some (29,false)⟩,q1 34 (.pick (.t 29) (.c (.bool true)) (.t 33))] [0,3,4,34])
 (.cond (.t 34) (.seq (.reg [q1 2 (.asg (.c (.int .i64 (-1))))] [2])
 (.ret)) (.skip))))
 (.reg [q1 35 (.mv (.t 3)),q1 36 (.bin .mul (.c (.int .i64 10)) (.t 35)),q1 37 (.mv (.t 0)),q1 38 (.mv (.t 4)),q1 39 (.ix (.t 37) (.t 38)),q1 40 (.bin .sub (.t 39) (.c (.int .u8 48))),q1 41 (.cvi .i64 (.t 40)),q1 42 (.bin .add (.t 36) (.t 41)),q1 3 (.asg (.t 42))] [0,3,4]))))
 (.reg [q1 23 (.mv (.t 4)),q1 24 (.bin .add (.t 23) (.c (.int .i64 1))),q1 4 (.asg (.t 24))] [0,3,4])))))))
 (.seq (.reg [q1 43 (.mv (.t 3)),q1 2 (.asg (.t 43))] [2])
 (.ret)))))
theorem con_spec_l1Read {v0:(List UInt8)} {r:Int} (h:sh_spec_l1Read v0 = some r):Con Tryz.prog 64 [cS.enc v0] [] (rs_spec_l1Read r) := by
 delta sh_spec_l1Read at h
 refine top (out := none) (f := Tryz.f64) (m := m64) (rs := [.t 2]) (by kernel_rfl) rfl (by kernel_rfl) (by kernel_rfl) (by kernel_rfl) (by kernel_rfl) (by kernel_rfl) ?_
 exact
  ini [q2 0 cS v0] rfl<|ws<|rg<|xa (sc cI (0:Int) rfl)<|sq [q2 0 cS v0]<|
  xn<|sqj (fun (s20:Unit)=>[q2 0 cS v0]) h (fun s20 h=>ws<|rg<|xa (sc cI (0:Int) rfl)<|sq [q2 0 cS v0,q2 3 cI (0:Int)]<|
  xn<|ws<|wpC_kp<|ws<|rg<|xa (sc cI (0:Int) rfl)<|sq [q2 0 cS v0,q2 3 cI (0:Int),q2 4 cI (0:Int)]<|
  xn<|wpC_blk<|lpF (fun (s184:(Int × Int))=>[q2 0 cS v0,q2 3 cI s184.1,q2 4 cI s184.2]) ((0:Int),(0:Int)) rfl h
  fun G293 nx291 s184 hn292 h=>ws<|wpC_kp<|ws<|rg<|st rfl<|mvd rfl rfl<|st rfl<|mvd rfl rfl<|stw rfl<|lent rfl fun l298=>st rfl<|b_lss (k := .i64) rfl rfl<|sq [q2 0 cS v0,q2 3 cI s184.1,q2 4 cI s184.2,q2 22 cB (decide (s184.2 < (v0.length:Int)))]<|
  xn<|cnd rfl h (fun b299 h=>wpC_skip<|kpN [q2 0 cS v0,q2 3 cI s184.1,q2 4 cI s184.2] (by kernel_rfl)<|xn<|ws<|wpC_kp<|wpC_blk<|ws<|wpC_kp<|ws<|rg<|st rfl<|mvd rfl rfl<|st rfl<|mvd rfl rfl<|getO_k h fun x335 i336 g337 h=>st rfl<|o_ix (k := .i64) rfl rfl i336 g337<|st rfl<|b_lss (k := .u8) rfl rfl<|st rfl<|mvd rfl rfl<|ite_k h (fun b338 h=>gf rfl b338<|gf rfl b338<|gf rfl b338<|gf rfl b338<|st rfl<|pick1 rfl b338 (cd := cB) (v := true) rfl rfl<|sq [q2 0 cS v0,q2 3 cI s184.1,q2 4 cI s184.2,q2 34 cB true]<|
  xn<|cnd1 rfl rfl<|ws<|rg<|xa (sc cI (-1:Int) rfl)<|sq [q2 2 cI (-1:Int)]<|
  xn<|wpC_ret<|rt<|rt<|rb<|rt<|rt<|rt<|rb<|rt<|rt<|re<|fin h (r1 (ss rfl rfl)<|r0) rfl)
  (fun b338 h=>gt' rfl b338<|st rfl<|mvd rfl rfl<|gt' rfl b338<|st rfl<|mvd rfl rfl<|gt' rfl b338<|st rfl<|o_ix (k := .i64) rfl rfl i336 g337<|gt' rfl b338<|st rfl<|b_gtr (k := .u8) rfl rfl<|st rfl<|pick0 rfl b338 (cd := cB) (v := (decide ((57:Int) < (x335.toNat:Int)))) rfl rfl<|sq [q2 0 cS v0,q2 3 cI s184.1,q2 4 cI s184.2,q2 34 cB (decide ((57:Int) < (x335.toNat:Int)))]<|
  xn<|cnd rfl h (fun b339 h=>ws<|rg<|xa (sc cI (-1:Int) rfl)<|sq [q2 2 cI (-1:Int)]<|
  xn<|wpC_ret<|rt<|rt<|rb<|rt<|rt<|rt<|rb<|rt<|rt<|re<|fin h (r1 (ss rfl rfl)<|r0) rfl)
  (fun b339 h=>wpC_skip<|kpN [q2 0 cS v0,q2 3 cI s184.1,q2 4 cI s184.2] (by kernel_rfl)<|xn<|rg<|st rfl<|mvd rfl rfl<|ckI_k h fun i340 h=>st rfl<|b_mul (k := .i64) rfl rfl i340<|st rfl<|mvd rfl rfl<|st rfl<|mvd rfl rfl<|st rfl<|o_ix (k := .i64) rfl rfl i336 g337<|ckU_k h fun i341 h=>st rfl<|b_sub (k := .u8) rfl rfl i341<|ckI_k h fun i342 h=>st rfl<|o_cvi (k := .u8) (k' := .i64) rfl i342<|ckI_k h fun i343 h=>st rfl<|b_add (k := .i64) rfl rfl i343<|xa (ss rfl rfl)<|sq [q2 0 cS v0,q2 3 cI (((10:Int) * s184.1) + ((x335.toNat:Int) - (48:Int))),q2 4 cI s184.2]<|
  xbb<|kpN [q2 0 cS v0,q2 3 cI (((10:Int) * s184.1) + ((x335.toNat:Int) - (48:Int))),q2 4 cI s184.2] (by kernel_rfl)<|xn<|rg<|st rfl<|mvd rfl rfl<|ckI_k h fun i344 h=>st rfl<|b_add (k := .i64) rfl rfl i344<|xa (ss rfl rfl)<|sq [q2 0 cS v0,q2 3 cI (((10:Int) * s184.1) + ((x335.toNat:Int) - (48:Int))),q2 4 cI (s184.2 + (1:Int))]<|
  xn<|hn292 ((((10:Int) * s184.1) + ((x335.toNat:Int) - (48:Int))),(s184.2 + (1:Int))) h)))
  (fun b299 h=>wpC_exit<|xt<|xt<|xt<|xb<|kpN [q2 3 cI s184.1] (by kernel_rfl)<|xn<|ws<|rg<|st rfl<|mvd rfl rfl<|xa (ss rfl rfl)<|sq [q2 2 cI s184.1]<|
  xn<|wpC_ret<|re<|fin h (r1 (ss rfl rfl)<|r0) rfl))
  fun m22 h=>wpC_kp<|ws<|rg<|st rfl<|mvd rfl rfl<|stw rfl<|lent rfl fun l354=>bnd h fun x355 e356 h=>st rfl<|o_call (a1 (c := cI) tK rfl (a1 (c := cI) tK rfl (a1 (c := cI) tK rfl a0))) (con_spec_l1In e356) (.inl (so1 sB so0))<|st rfl<|o_nt rfl<|st rfl<|mvd rfl rfl<|ite_k h (fun b357 h=>gf rfl b357<|gf rfl b357<|gf rfl b357<|gf rfl b357<|gu rfl<|gu rfl<|gu rfl<|gf rfl b357<|st rfl<|pick1 rfl b357 (cd := cB) (v := true) rfl rfl<|sq [q2 0 cS v0,q2 18 cB true]<|
  xn<|cnd1 rfl rfl<|ws<|rg<|xa (sc cI (-1:Int) rfl)<|sq [q2 2 cI (-1:Int)]<|
  xn<|wpC_ret<|rt<|rt<|re<|fin h (r1 (ss rfl rfl)<|r0) rfl)
  (fun b357 h=>gt' rfl b357<|st rfl<|mvd rfl rfl<|gt' rfl b357<|getO_k h fun x358 i359 g360 h=>st rfl<|o_ix (k := .i64) rfl rfl i359 g360<|gt' rfl b357<|st rfl<|b_eql (k := .u8) rfl rfl<|gt' rfl b357<|st rfl<|mvd rfl rfl<|ite_k h (fun b361 h=>gt' rfl b361<|st rfl<|mvd rfl rfl<|gt' rfl b361<|stw rfl<|lent rfl fun l362=>gt' rfl b361<|st rfl<|b_gtr (k := .i64) rfl rfl<|gt' rfl b357<|st rfl<|pick1 rfl b361 (cd := cB) (v := (decide ((1:Int) < (v0.length:Int)))) rfl rfl<|st rfl<|pick0 rfl b357 (cd := cB) (v := (decide ((1:Int) < (v0.length:Int)))) rfl rfl<|sq [q2 0 cS v0,q2 18 cB (decide ((1:Int) < (v0.length:Int)))]<|
  xn<|cnd rfl h (fun b363 h=>ws<|rg<|xa (sc cI (-1:Int) rfl)<|sq [q2 2 cI (-1:Int)]<|
  xn<|wpC_ret<|rt<|rt<|re<|fin h (r1 (ss rfl rfl)<|r0) rfl)
  (fun b363 h=>wpC_skip<|kpN [q2 0 cS v0] (by kernel_rfl)<|m22 () h))
  (fun b361 h=>gf rfl b361<|gf rfl b361<|gf rfl b361<|gt' rfl b357<|st rfl<|pick0 rfl b361 (cd := cB) (v := false) rfl rfl<|st rfl<|pick0 rfl b357 (cd := cB) (v := false) rfl rfl<|sq [q2 0 cS v0,q2 18 cB false]<|
  xn<|cnd0 rfl rfl<|wpC_skip<|kpN [q2 0 cS v0] (by kernel_rfl)<|m22 () h))

def os_spec_nSet (r:(XTable × Unit)):D := (cP true cc3).enc r.1
def rs_spec_nSet (r:(XTable × Unit)):List D := []
def m63:MC := .seq (.reg [q1 11 (.mv (.t 2)),q1 12 (.call 39 [(.t 11),(.c (.int .u8 61))]),q1 6 (.asg (.t 12))] [0,1,6])
 (.seq (.reg [q1 13 (.mv (.t 0)),q1 14 (.mv (.t 6)),q1 15 (.ia 14 (.c (.int .i64 0)) 1),q1 16 (.ld 15 1 false),q1 17 (.call 62 [(.t 13),(.t 16)]),q1 7 (.asg (.t 17))] [0,1,6,7])
 (.seq (.kp [0,1,6,7] (.seq (.reg [q1 18 (.mv (.t 6)),q1 19 (.len false (.t 18)),q1 20 (.bin .neq (.t 19) (.c (.int .i64 2))),q1 21 (.mv (.t 20)),
  ⟨some 22,.mv (.t 7),some (21,false)⟩,
  ⟨some 23,.bin .lss (.t 22) (.c (.int .i64 0)),some (21,false)⟩,q1 24 (.pick (.t 21) (.c (.bool true)) (.t 23))] [0,1,6,7,24])
 (.cond (.t 24) (.ret) (.skip))))
 (.seq (.reg [q1 25 (.mv (.t 6)),q1 26 (.ia 25 (.c (.int .i64 1)) 1),q1 27 (.ld 26 1 false),q1 28 (.call 39 [(.t 27),(.c (.int .u8 44))]),q1 29 (.len false (.t 28)),q1 30 (.mv (.c (.int .i64 0)))] [0,1,7,28,29,30])
 (.blk 0 (.loop (.seq (.reg [q1 31 (.bin .lss (.t 30) (.t 29))] [0,1,7,28,29,30,31])
 (.seq (.kp [0,1,7,28,29,30] (.cond (.t 31) (.skip) (.exit 0)))
 (.seq (.kp [0,1,7,28,29,30] (.blk 1 (.seq (.reg [q1 32 (.ia 28 (.t 30) 1),q1 33 (.ld 32 1 false),q1 9 (.asg (.t 33))] [0,1,7,9,28,29,30])
 (.seq (.reg [q1 34 (.mv (.t 9)),q1 35 (.call 64 [(.t 34)]),q1 10 (.asg (.t 35))] [0,1,7,10,28,29,30])
 (.seq (.reg [q1 36 (.mv (.t 10)),q1 37 (.mv (.t 0)),q1 38 (.mv (.t 7)),q1 39 (.ia 37 (.t 38) 2),q1 40 (.fa 39 1 1),q1 41 (.ld 40 1 false),q1 42 (.bin .sub (.t 41) (.c (.int .i64 1))),q1 43 (.call 60 [(.t 36),(.c (.int .i64 0)),(.t 42)])] [0,1,7,10,28,29,30,43])
 (.cond (.t 43) (.reg [q1 44 (.pm 1),q1 45 (.pm 44),q1 46 (.fa 45 2 2),q1 47 (.ld 46 1 false),q1 48 (.mv (.t 7)),q1 49 (.ia 47 (.t 48) 1),q1 50 (.ld 49 1 false),q1 51 (.mv (.t 10)),q1 52 (.cvi .u64 (.t 51)),q1 53 (.bin .shl (.c (.int .i64 1)) (.t 52)),q1 54 (.bin .or (.t 50) (.t 53)),q1 55 (.ia 47 (.t 48) 1),q0 (.st 55 (.t 54) 1)] [0,1,7,28,29,30]) (.skip)))))))
 (.reg [q1 56 (.bin .add (.t 30) (.c (.int .i64 1))),q1 30 (.mv (.t 56))] [0,1,7,28,29,30])))))))))
theorem con_spec_nSet {v0:(List XVariable)} {v1:XTable} {v2:(List UInt8)} {r:(XTable × Unit)} (h:sh_spec_nSet v0 v1 v2 = some r):Con Tryz.prog 63 [cc4.enc v0,(cP true cc3).enc v1,cS.enc v2] (outsOf (some (1,os_spec_nSet r))) (rs_spec_nSet r) := by
 delta sh_spec_nSet at h
 refine top (out := some (1,os_spec_nSet r)) (f := Tryz.f63) (m := m63) (rs := []) (by kernel_rfl) rfl (by kernel_rfl) (by kernel_rfl) (by kernel_rfl) (by kernel_rfl) (by kernel_rfl) ?_
 exact
  ini [q2 0 cc4 v0,q3 1 cc3 v1,q2 2 cS v2] rfl<|ws<|rg<|st rfl<|mvd rfl rfl<|bnd h fun x3 e4 h=>st rfl<|o_call (a1 (c := cS) tS rfl (a1 (c := cU) tK rfl a0)) (con_spec_l1Split e4) (.inl (so1 (sLo sS) so0))<|xa (so rfl rfl)<|sq [q2 0 cc4 v0,q3 1 cc3 v1,q2 6 cc12 x3]<|
  xn<|ws<|rg<|st rfl<|mvd rfl rfl<|st rfl<|mvo rfl rfl<|getO_k h fun x10 i11 g12 h=>st rfl<|iar rfl rfl rfl rfl i11 g12 rfl<|st rfl<|lda rfl rfl (Gt.idx g12 Gt.nil) rfl rfl rfl<|bnd h fun x13 e14 h=>st rfl<|o_call (a1 (c := cc4) (tLs (tXVariable tS tK)) rfl (a1 (c := cS) tS rfl a0)) (con_spec_sFind e14) (.inl (so1 sK so0))<|xa (ss rfl rfl)<|sq [q2 0 cc4 v0,q3 1 cc3 v1,q2 6 cc12 x3,q2 7 cI x13]<|
  xn<|ws<|wpC_kp<|ws<|rg<|st rfl<|mvo rfl rfl<|stw rfl<|leno rfl fun l22=>st rfl<|b_neq (k := .i64) rfl rfl<|st rfl<|mvd rfl rfl<|ite_k h (fun b23 h=>gf rfl b23<|gf rfl b23<|st rfl<|pick1 rfl b23 (cd := cB) (v := true) rfl rfl<|sq [q2 0 cc4 v0,q3 1 cc3 v1,q2 6 cc12 x3,q2 7 cI x13,q2 24 cB true]<|
  xn<|cnd1 rfl rfl<|wpC_ret<|rt<|rt<|re<|finO h r0 rfl rfl)
  (fun b23 h=>gt' rfl b23<|st rfl<|mvd rfl rfl<|gt' rfl b23<|st rfl<|b_lss (k := .i64) rfl rfl<|st rfl<|pick0 rfl b23 (cd := cB) (v := (decide (x13 < (0:Int)))) rfl rfl<|sq [q2 0 cc4 v0,q3 1 cc3 v1,q2 6 cc12 x3,q2 7 cI x13,q2 24 cB (decide (x13 < (0:Int)))]<|
  xn<|cnd rfl h (fun b24 h=>wpC_ret<|rt<|rt<|re<|finO h r0 rfl rfl)
  (fun b24 h=>wpC_skip<|kpN [q2 0 cc4 v0,q3 1 cc3 v1,q2 6 cc12 x3,q2 7 cI x13] (by kernel_rfl)<|xn<|ws<|rg<|st rfl<|mvo rfl rfl<|getO_k h fun x31 i32 g33 h=>st rfl<|iar rfl rfl rfl rfl i32 g33 rfl<|st rfl<|lda rfl rfl (Gt.idx g33 Gt.nil) rfl rfl rfl<|bnd h fun x34 e35 h=>st rfl<|o_call (a1 (c := cS) tS rfl (a1 (c := cU) tK rfl a0)) (con_spec_l1Split e35) (.inl (so1 (sLo sS) so0))<|stw rfl<|leno rfl fun l36=>st rfl<|mvc cI (0:Int) rfl<|sq [q2 0 cc4 v0,q3 1 cc3 v1,q2 7 cI x13,q2 28 cc12 x34,q2 29 cI (x34.length:Int),q2 30 cI (0:Int)]<|
  xn<|wpC_blk<|lpR (fun (k38:Nat) (s37:XTable)=>[q2 0 cc4 v0,q3 1 cc3 s37,q2 7 cI x13,q2 28 cc12 x34,q2 29 cI (x34.length:Int),q2 30 cI (k38:Int)]) v1 rfl h
  (fun G152 s37 h=>ws<|rg<|st rfl<|b_lss (k := .i64) rfl rfl<|sq [q2 0 cc4 v0,q3 1 cc3 s37,q2 7 cI x13,q2 28 cc12 x34,q2 29 cI (x34.length:Int),q2 30 cI (x34.length:Int),q2 31 cB (decide ((x34.length:Int) < (x34.length:Int)))]<|
  xn<|ws<|wpC_kp<|cnd0 rfl (dlf _)<|wpC_exit<|xt<|xt<|xt<|xb<|ren<|finO h r0 rfl rfl)
  (fun G152 nx150 k38 s37 x39 hk40 hx41 hn151 h=>ws<|rg<|st rfl<|b_lss (k := .i64) rfl rfl<|sq [q2 0 cc4 v0,q3 1 cc3 s37,q2 7 cI x13,q2 28 cc12 x34,q2 29 cI (x34.length:Int),q2 30 cI (k38:Int),q2 31 cB (decide ((k38:Int) < (x34.length:Int)))]<|
  xn<|ws<|wpC_kp<|cnd1 rfl (dlt hk40)<|wpC_skip<|kpN [q2 0 cc4 v0,q3 1 cc3 s37,q2 7 cI x13,q2 28 cc12 x34,q2 29 cI (x34.length:Int),q2 30 cI (k38:Int)] (by kernel_rfl)<|xn<|ws<|wpC_kp<|wpC_blk<|ws<|rg<|st rfl<|iao rfl rfl (Int.natCast_nonneg _) hx41 rfl<|st rfl<|lda rfl rfl (Gt.idx hx41 Gt.nil) rfl rfl rfl<|xa (ss rfl rfl)<|sq [q2 0 cc4 v0,q3 1 cc3 s37,q2 7 cI x13,q2 9 cS x39,q2 28 cc12 x34,q2 29 cI (x34.length:Int),q2 30 cI (k38:Int)]<|
  xn<|ws<|rg<|st rfl<|mvd rfl rfl<|bnd h fun x182 e183 h=>st rfl<|o_call (a1 (c := cS) tS rfl a0) (con_spec_l1Read e183) (.inl (so1 sK so0))<|xa (ss rfl rfl)<|sq [q2 0 cc4 v0,q3 1 cc3 s37,q2 7 cI x13,q2 10 cI x182,q2 28 cc12 x34,q2 29 cI (x34.length:Int),q2 30 cI (k38:Int)]<|
  xn<|ws<|rg<|st rfl<|mvd rfl rfl<|st rfl<|mvd rfl rfl<|st rfl<|mvd rfl rfl<|getO_k h fun x190 i191 g192 h=>st rfl<|ias rfl rfl i191 g192 rfl<|st rfl<|fai rfl rfl rfl rfl<|st rfl<|ldi rfl rfl rfl rfl<|ckI_k h fun i193 h=>st rfl<|b_sub (k := .i64) rfl rfl i193<|bnd h fun x194 e195 h=>st rfl<|o_call (a1 (c := cI) tK rfl (a1 (c := cI) tK rfl (a1 (c := cI) tK rfl a0))) (con_spec_l1In e195) (.inl (so1 sB so0))<|sq [q2 0 cc4 v0,q3 1 cc3 s37,q2 7 cI x13,q2 10 cI x182,q2 28 cc12 x34,q2 29 cI (x34.length:Int),q2 30 cI (k38:Int),q2 43 cB x194]<|
  xn<|cnd rfl h (fun b196 h=>rg<|st rfl<|pmb rfl<|st rfl<|pma rfl<|st rfl<|faa rfl rfl rfl rfl rfl rfl<|st rfl<|ldao rfl rfl rfl rfl rfl rfl<|st rfl<|mvd rfl rfl<|getO_k h fun x197 i198 g199 h=>st rfl<|iar rfl rfl rfl rfl i198 g199 rfl<|st rfl<|lda rfl rfl (Gt.fld rfl rfl (Gt.idx g199 Gt.nil)) rfl rfl rfl<|st rfl<|mvd rfl rfl<|ckK_k h fun i200 h=>st rfl<|o_cvi (k := .i64) (k' := .u64) rfl i200<|ck_k h fun i201 h=>ckI_k h fun i202 h=>st rfl<|b_shl (k := .i64) (k' := .u64) rfl rfl i201 rfl i202<|ck_k h fun i203 h=>ckK_k h fun i204 h=>ck_k h fun i205 h=>ckK_k h fun i206 h=>st rfl<|b_or (k := .i64) rfl rfl ⟨i203,i204⟩ ⟨i205,i206⟩<|st rfl<|iar rfl rfl rfl rfl i198 g199 rfl<|x_sta (cc3.enc (⟨s37.Level,s37.Vars,(s37.Where.set (x13).toNat ((x197.toNat ||| ((1:Int) * 2 ^ (x182).toNat).toNat:Nat):Int)),s37.Sum⟩:XTable)) (ss rfl rfl) rfl rfl (Ln.fld rfl rfl (Ln.idx g199 Ln.nil) rfl) (Cd.h_sz cI _) rfl<|sq [q2 0 cc4 v0,q3 1 cc3 (⟨s37.Level,s37.Vars,(s37.Where.set (x13).toNat ((x197.toNat ||| ((1:Int) * 2 ^ (x182).toNat).toNat:Nat):Int)),s37.Sum⟩:XTable),q2 7 cI x13,q2 28 cc12 x34,q2 29 cI (x34.length:Int),q2 30 cI (k38:Int)]<|
  xbb<|kpN [q2 0 cc4 v0,q3 1 cc3 (⟨s37.Level,s37.Vars,(s37.Where.set (x13).toNat ((x197.toNat ||| ((1:Int) * 2 ^ (x182).toNat).toNat:Nat):Int)),s37.Sum⟩:XTable),q2 7 cI x13,q2 28 cc12 x34,q2 29 cI (x34.length:Int),q2 30 cI (k38:Int)] (by kernel_rfl)<|xn<|rg<|st rfl<|b_inc rfl rfl l36 hk40<|st rfl<|mvd rfl rfl<|sq [q2 0 cc4 v0,q3 1 cc3 (⟨s37.Level,s37.Vars,(s37.Where.set (x13).toNat ((x197.toNat ||| ((1:Int) * 2 ^ (x182).toNat).toNat:Nat):Int)),s37.Sum⟩:XTable),q2 7 cI x13,q2 28 cc12 x34,q2 29 cI (x34.length:Int),q2 30 cI ((k38 + 1:Nat):Int)]<|
  xn<|hn151 (⟨s37.Level,s37.Vars,(s37.Where.set (x13).toNat ((x197.toNat ||| ((1:Int) * 2 ^ (x182).toNat).toNat:Nat):Int)),s37.Sum⟩:XTable) h)
  (fun b196 h=>wpC_skip<|xbb<|kpN [q2 0 cc4 v0,q3 1 cc3 s37,q2 7 cI x13,q2 28 cc12 x34,q2 29 cI (x34.length:Int),q2 30 cI (k38:Int)] (by kernel_rfl)<|xn<|rg<|st rfl<|b_inc rfl rfl l36 hk40<|st rfl<|mvd rfl rfl<|sq [q2 0 cc4 v0,q3 1 cc3 s37,q2 7 cI x13,q2 28 cc12 x34,q2 29 cI (x34.length:Int),q2 30 cI ((k38 + 1:Nat):Int)]<|
  xn<|hn151 s37 h))))

def rs_spec_nGuess (r:XTable):List D := [cc3.enc r]
def m43:MC := .seq (.reg [q1 4 (.alloc (.agg [.int .i64 0,.slice true [],.slice true [],.int .i64 0]))] [0,1,4])
 (.seq (.reg [q1 12 (.mv (.t 0)),q1 13 (.len false (.t 12)),q1 14 (.mk (.int .i64 0) (.t 13)),q1 15 (.bld [.int .i64 0,.slice true [],.slice true [],.int .i64 0] [(2,(.t 14)),(3,(.c (.int .i64 (-1))))]),q1 5 (.alloc (.agg [.int .i64 0,.slice true [],.slice true [],.int .i64 0])),q0 (.st 5 (.t 15) 4)] [0,1,4,5])
 (.seq (.reg [q1 16 (.mv (.t 1)),q1 17 (.call 39 [(.t 16),(.c (.int .u8 32))]),q1 6 (.asg (.t 17))] [0,4,5,6])
 (.seq (.reg [q1 7 (.asg (.c (.bool false)))] [0,4,5,6,7])
 (.seq (.kp [4,5] (.seq (.reg [q1 8 (.asg (.c (.int .i64 0)))] [0,4,5,6,7,8])
 (.blk 0 (.loop (.seq (.kp [0,4,5,6,7,8] (.seq (.reg [q1 18 (.mv (.t 8)),q1 19 (.mv (.t 6)),q1 20 (.len false (.t 19)),q1 21 (.bin .lss (.t 18) (.t 20))] [0,4,5,6,7,8,21])
 (.cond (.t 21) (.skip) (.exit 0))))
 (.seq (.kp [0,4,5,6,7,8] (.blk 1 (.seq (.reg [q1 24 (.mv (.t 8)),q1 25 (.mv (.t 6)),q1 26 (.len false (.t 25)),q1 27 (.bin .sub (.t 26) (.c (.int .i64 1))),q1 28 (.bin .eql (.t 24) (.t 27)),q1 9 (.asg (.t 28))] [0,4,5,6,7,8,9])
 (.blk 2 (.seq (.reg [q1 30 (.mv (.t 7)),q1 29 (.asg (.t 30))] [0,4,5,6,7,8,9,29])
 (.cond (.t 29) (.reg [q1 31 (.mv (.t 0)),q1 32 (.mv (.t 6)),q1 33 (.mv (.t 8)),q1 34 (.ia 32 (.t 33) 1),q1 35 (.ld 34 1 false),q1 36 (.callB 63 [(.t 31)] 5 [(.t 35)])] [0,4,5,6,7,8]) (.seq (.reg [q1 38 (.mv (.t 6)),q1 39 (.mv (.t 8)),q1 40 (.ia 38 (.t 39) 1),q1 41 (.ld 40 1 false),q1 42 (.bin .eql (.t 41) (.c (.str [119,104,101,114,101]))),q1 37 (.asg (.t 42))] [0,4,5,6,7,8,9,37])
 (.cond (.t 37) (.reg [q1 7 (.asg (.c (.bool true)))] [0,4,5,6,7,8]) (.seq (.reg [q1 44 (.mv (.t 6)),q1 45 (.mv (.t 8)),q1 46 (.ia 44 (.t 45) 1),q1 47 (.ld 46 1 false),q1 48 (.bin .eql (.t 47) (.c (.str [115,117,109]))),q1 49 (.mv (.t 48)),
  ⟨some 50,.mv (.t 9),some (49,true)⟩,
  ⟨some 51,.nt (.t 50),some (49,true)⟩,q1 52 (.pick (.t 49) (.t 51) (.c (.bool false))),q1 43 (.asg (.t 52))] [0,4,5,6,7,8,9,43])
 (.cond (.t 43) (.seq (.reg [q1 53 (.mv (.t 8)),q1 54 (.bin .add (.t 53) (.c (.int .i64 1))),q1 8 (.asg (.t 54))] [0,4,5,6,7,8])
 (.reg [q1 55 (.mv (.t 0)),q1 56 (.mv (.t 6)),q1 57 (.mv (.t 8)),q1 58 (.ia 56 (.t 57) 1),q1 59 (.ld 58 1 false),q1 60 (.call 62 [(.t 55),(.t 59)]),q1 61 (.fa 5 3 3),q0 (.st 61 (.t 60) 1)] [0,4,5,6,7,8])) (.seq (.reg [q1 63 (.mv (.t 6)),q1 64 (.mv (.t 8)),q1 65 (.ia 63 (.t 64) 1),q1 66 (.ld 65 1 false),q1 67 (.bin .eql (.t 66) (.c (.str [108,101,118,101,108]))),q1 68 (.mv (.t 67)),
  ⟨some 69,.mv (.t 9),some (68,true)⟩,
  ⟨some 70,.nt (.t 69),some (68,true)⟩,q1 71 (.pick (.t 68) (.t 70) (.c (.bool false))),q1 62 (.asg (.t 71))] [0,4,5,6,7,8,9,62])
 (.cond (.t 62) (.seq (.reg [q1 72 (.mv (.t 8)),q1 73 (.bin .add (.t 72) (.c (.int .i64 1))),q1 8 (.asg (.t 73))] [0,4,5,6,7,8])
 (.reg [q1 74 (.mv (.t 6)),q1 75 (.mv (.t 8)),q1 76 (.ia 74 (.t 75) 1),q1 77 (.ld 76 1 false),q1 78 (.call 64 [(.t 77)]),q1 79 (.fa 5 0 0),q0 (.st 79 (.t 78) 1)] [0,4,5,6,7,8])) (.seq (.reg [q1 81 (.mv (.t 6)),q1 82 (.mv (.t 8)),q1 83 (.ia 81 (.t 82) 1),q1 84 (.ld 83 1 false),q1 85 (.bin .eql (.t 84) (.c (.str [98,121]))),q1 86 (.mv (.t 85)),
  ⟨some 87,.mv (.t 9),some (86,true)⟩,
  ⟨some 88,.nt (.t 87),some (86,true)⟩,q1 89 (.pick (.t 86) (.t 88) (.c (.bool false))),q1 80 (.asg (.t 89))] [0,4,5,6,7,8,80])
 (.cond (.t 80) (.seq (.reg [q1 90 (.mv (.t 8)),q1 91 (.bin .add (.t 90) (.c (.int .i64 1))),q1 8 (.asg (.t 91))] [0,4,5,6,7,8])
 (.seq (.reg [q1 92 (.mv (.t 6)),q1 93 (.mv (.t 8)),q1 94 (.ia 92 (.t 93) 1),q1 95 (.ld 94 1 false),q1 96 (.call 39 [(.t 95),(.c (.int .u8 44))]),q1 97 (.len false (.t 96)),q1 98 (.mv (.c (.int .i64 0)))] [0,4,5,6,7,8,96,97,98])
 (.blk 3 (.loop (.seq (.reg [q1 99 (.bin .lss (.t 98) (.t 97))] [0,4,5,6,7,8,96,97,98,99])
 (.seq (.kp [0,4,5,6,7,8,96,97,98] (.cond (.t 99) (.skip) (.exit 3)))
 (.seq (.kp [0,4,5,6,7,8,96,97,98] (.blk 4 (.seq (.reg [q1 100 (.ia 96 (.t 98) 1),q1 101 (.ld 100 1 false),q1 11 (.asg (.t 101))] [0,4,5,6,7,8,11,96,97,98])
 (.drw [⟨0,q1 102 (.fa 5 1 1),[103,104,105,106,107]⟩,
  ⟨1,q1 103 (.ld 102 1 false),[104,105,106,107]⟩,
  ⟨2,q1 104 (.mv (.t 0)),[102,103,105,106,107]⟩,
  ⟨3,q1 105 (.mv (.t 11)),[102,103,104,106,107]⟩,
  ⟨4,q1 106 (.call 62 [(.t 104),(.t 105)]),[102,103,107]⟩,
  ⟨5,q1 107 (.bsl [(.t 106)] 1),[102,103]⟩]
  [(6,q1 108 (.app (.t 103) (.t 107) 1)),
  (7,q1 109 (.fa 5 1 1)),
  (8,q0 (.st 109 (.t 108) 1))] [0,4,5,6,7,8,96,97,98]))))
 (.reg [q1 110 (.bin .add (.t 98) (.c (.int .i64 1))),q1 98 (.mv (.t 110))] [0,4,5,6,7,8,96,97,98])))))))) (.skip)))))))))))))))
 (.reg [q1 22 (.mv (.t 8)),q1 23 (.bin .add (.t 22) (.c (.int .i64 1))),q1 8 (.asg (.t 23))] [0,4,5,6,7,8])))))))
 (.seq (.reg [q1 111 (.ld 5 4 true),q0 (.st 4 (.t 111) 4)] [4])
 (.ret))))))
theorem con_spec_nGuess {v0:(List XVariable)} {v1:(List UInt8)} {r:XTable} (h:sh_spec_nGuess v0 v1 = some r):Con Tryz.prog 43 [cc4.enc v0,cS.enc v1] [] (rs_spec_nGuess r) := by
 delta sh_spec_nGuess at h
 refine top (out := none) (f := Tryz.f43) (m := m43) (rs := [.c 4 4 true]) (by kernel_rfl) rfl (by kernel_rfl) (by kernel_rfl) (by kernel_rfl) (by kernel_rfl) (by kernel_rfl) ?_
 exact
  ini [q2 0 cc4 v0,q2 1 cS v1] rfl<|ws<|rg<|x_all cc3 (⟨(0:Int),([]:List Int),([]:List Int),(0:Int)⟩:XTable) rfl<|sq [q2 0 cc4 v0,q2 1 cS v1,q3 4 cc3 (⟨(0:Int),([]:List Int),([]:List Int),(0:Int)⟩:XTable)]<|
  xn<|ws<|rg<|st rfl<|mvd rfl rfl<|stw rfl<|lens rfl fun l4=>mkO_k h fun i5 l6 h=>st rfl<|o_mk (c := cI) (a0 := (0:Int)) rfl (k := .i64) rfl i5 l6<|x_bld (cc3.enc (⟨(0:Int),([]:List Int),(List.replicate ((v0.length:Int)).toNat (0:Int)),(-1:Int)⟩:XTable)) (t1 (so rfl rfl) rfl (t1 (sc cI (-1:Int) rfl) rfl t0)) rfl rfl<|x_all cc3 (⟨(0:Int),([]:List Int),([]:List Int),(0:Int)⟩:XTable) rfl<|x_stb (so rfl rfl) rfl (Cd.h_sz _ _) rfl<|sq [q2 0 cc4 v0,q2 1 cS v1,q3 4 cc3 (⟨(0:Int),([]:List Int),([]:List Int),(0:Int)⟩:XTable),q3 5 cc3 (⟨(0:Int),([]:List Int),(List.replicate ((v0.length:Int)).toNat (0:Int)),(-1:Int)⟩:XTable)]<|
  xn<|ws<|rg<|st rfl<|mvd rfl rfl<|bnd h fun x9 e10 h=>st rfl<|o_call (a1 (c := cS) tS rfl (a1 (c := cU) tK rfl a0)) (con_spec_l1Split e10) (.inl (so1 (sLo sS) so0))<|xa (so rfl rfl)<|sq [q2 0 cc4 v0,q3 4 cc3 (⟨(0:Int),([]:List Int),([]:List Int),(0:Int)⟩:XTable),q3 5 cc3 (⟨(0:Int),([]:List Int),(List.replicate ((v0.length:Int)).toNat (0:Int)),(-1:Int)⟩:XTable),q2 6 cc12 x9]<|
  xn<|ws<|rg<|xa (sc cB false rfl)<|sq [q2 0 cc4 v0,q3 4 cc3 (⟨(0:Int),([]:List Int),([]:List Int),(0:Int)⟩:XTable),q3 5 cc3 (⟨(0:Int),([]:List Int),(List.replicate ((v0.length:Int)).toNat (0:Int)),(-1:Int)⟩:XTable),q2 6 cc12 x9,q2 7 cB false]<|
  xn<|ws<|wpC_kp<|ws<|rg<|xa (sc cI (0:Int) rfl)<|sq [q2 0 cc4 v0,q3 4 cc3 (⟨(0:Int),([]:List Int),([]:List Int),(0:Int)⟩:XTable),q3 5 cc3 (⟨(0:Int),([]:List Int),(List.replicate ((v0.length:Int)).toNat (0:Int)),(-1:Int)⟩:XTable),q2 6 cc12 x9,q2 7 cB false,q2 8 cI (0:Int)]<|
  xn<|wpC_blk<|lpF (fun (s550:(XTable × Bool × Int))=>[q2 0 cc4 v0,q3 4 cc3 (⟨(0:Int),([]:List Int),([]:List Int),(0:Int)⟩:XTable),q3 5 cc3 s550.1,q2 6 cc12 x9,q2 7 cB s550.2.1,q2 8 cI s550.2.2]) ((⟨(0:Int),([]:List Int),(List.replicate ((v0.length:Int)).toNat (0:Int)),(-1:Int)⟩:XTable),false,(0:Int)) rfl h
  fun G907 nx905 s550 hn906 h=>ws<|wpC_kp<|ws<|rg<|st rfl<|mvd rfl rfl<|st rfl<|mvo rfl rfl<|stw rfl<|leno rfl fun l912=>st rfl<|b_lss (k := .i64) rfl rfl<|sq [q2 0 cc4 v0,q3 4 cc3 (⟨(0:Int),([]:List Int),([]:List Int),(0:Int)⟩:XTable),q3 5 cc3 s550.1,q2 6 cc12 x9,q2 7 cB s550.2.1,q2 8 cI s550.2.2,q2 21 cB (decide (s550.2.2 < (x9.length:Int)))]<|
  xn<|cnd rfl h (fun b913 h=>wpC_skip<|kpN [q2 0 cc4 v0,q3 4 cc3 (⟨(0:Int),([]:List Int),([]:List Int),(0:Int)⟩:XTable),q3 5 cc3 s550.1,q2 6 cc12 x9,q2 7 cB s550.2.1,q2 8 cI s550.2.2] (by kernel_rfl)<|xn<|ws<|jw (fun (s1000:(XTable × Bool × Int))=>[q2 0 cc4 v0,q3 4 cc3 (⟨(0:Int),([]:List Int),([]:List Int),(0:Int)⟩:XTable),q3 5 cc3 s1000.1,q2 6 cc12 x9,q2 7 cB s1000.2.1,q2 8 cI s1000.2.2]) h (fun s1000 h=>xn<|rg<|st rfl<|mvd rfl rfl<|ckI_k h fun i1002 h=>st rfl<|b_add (k := .i64) rfl rfl i1002<|xa (ss rfl rfl)<|sq [q2 0 cc4 v0,q3 4 cc3 (⟨(0:Int),([]:List Int),([]:List Int),(0:Int)⟩:XTable),q3 5 cc3 s1000.1,q2 6 cc12 x9,q2 7 cB s1000.2.1,q2 8 cI (s1000.2.2 + (1:Int))]<|
  xn<|hn906 (s1000.1,s1000.2.1,(s1000.2.2 + (1:Int))) h)
  fun s1000' q1001 h=>wpC_kp<|wpC_blk<|ws<|rg<|st rfl<|mvd rfl rfl<|st rfl<|mvo rfl rfl<|stw rfl<|leno rfl fun l1005=>ckI_k h fun i1006 h=>st rfl<|b_sub (k := .i64) rfl rfl i1006<|st rfl<|b_eql (k := .i64) rfl rfl<|xa (ss rfl rfl)<|sq [q2 0 cc4 v0,q3 4 cc3 (⟨(0:Int),([]:List Int),([]:List Int),(0:Int)⟩:XTable),q3 5 cc3 s550.1,q2 6 cc12 x9,q2 7 cB s550.2.1,q2 8 cI s550.2.2,q2 9 cB (decide (s550.2.2 = ((x9.length:Int) - (1:Int))))]<|
  xn<|wpC_blk<|ws<|rg<|st rfl<|mvd rfl rfl<|xa (ss rfl rfl)<|sq [q2 0 cc4 v0,q3 4 cc3 (⟨(0:Int),([]:List Int),([]:List Int),(0:Int)⟩:XTable),q3 5 cc3 s550.1,q2 6 cc12 x9,q2 7 cB s550.2.1,q2 8 cI s550.2.2,q2 9 cB (decide (s550.2.2 = ((x9.length:Int) - (1:Int)))),q2 29 cB s550.2.1]<|
  xn<|cnd rfl h (fun b1007 h=>rg<|st rfl<|mvd rfl rfl<|st rfl<|mvo rfl rfl<|st rfl<|mvd rfl rfl<|getO_k h fun x1008 i1009 g1010 h=>st rfl<|iar rfl rfl rfl rfl i1009 g1010 rfl<|st rfl<|lda rfl rfl (Gt.idx g1010 Gt.nil) rfl rfl rfl<|bnd h fun x1011 e1012 h=>x_cb (sXTable sK (sLo sK) (sLo sK) sK) rfl (a1 (c := cc4) (tLs (tXVariable tS tK)) rfl a0) (a1 (c := cS) tS rfl a0) rfl (con_spec_nSet e1012) so0<|sq [q2 0 cc4 v0,q3 4 cc3 (⟨(0:Int),([]:List Int),([]:List Int),(0:Int)⟩:XTable),q3 5 cc3 x1011.1,q2 6 cc12 x9,q2 7 cB s550.2.1,q2 8 cI s550.2.2]<|
  xbb<|xbb<|kpN [q2 0 cc4 v0,q3 4 cc3 (⟨(0:Int),([]:List Int),([]:List Int),(0:Int)⟩:XTable),q3 5 cc3 x1011.1,q2 6 cc12 x9,q2 7 cB s550.2.1,q2 8 cI s550.2.2] (by kernel_rfl)<|lfn (S := (fun (s1000:(XTable × Bool × Int))=>[q2 0 cc4 v0,q3 4 cc3 (⟨(0:Int),([]:List Int),([]:List Int),(0:Int)⟩:XTable),q3 5 cc3 s1000.1,q2 6 cc12 x9,q2 7 cB s1000.2.1,q2 8 cI s1000.2.2])) h q1001 rfl)
  (fun b1007 h=>ws<|rg<|st rfl<|mvo rfl rfl<|st rfl<|mvd rfl rfl<|getO_k h fun x1016 i1017 g1018 h=>st rfl<|iar rfl rfl rfl rfl i1017 g1018 rfl<|st rfl<|lda rfl rfl (Gt.idx g1018 Gt.nil) rfl rfl rfl<|st rfl<|b_seq rfl rfl<|xa (ss rfl rfl)<|sq [q2 0 cc4 v0,q3 4 cc3 (⟨(0:Int),([]:List Int),([]:List Int),(0:Int)⟩:XTable),q3 5 cc3 s550.1,q2 6 cc12 x9,q2 7 cB s550.2.1,q2 8 cI s550.2.2,q2 9 cB (decide (s550.2.2 = ((x9.length:Int) - (1:Int)))),q2 37 cB (decide (x1016 = ([119,104,101,114,101]:List UInt8)))]<|
  xn<|cnd rfl h (fun b1019 h=>rg<|xa (sc cB true rfl)<|sq [q2 0 cc4 v0,q3 4 cc3 (⟨(0:Int),([]:List Int),([]:List Int),(0:Int)⟩:XTable),q3 5 cc3 s550.1,q2 6 cc12 x9,q2 7 cB true,q2 8 cI s550.2.2]<|
  xbb<|xbb<|kpN [q2 0 cc4 v0,q3 4 cc3 (⟨(0:Int),([]:List Int),([]:List Int),(0:Int)⟩:XTable),q3 5 cc3 s550.1,q2 6 cc12 x9,q2 7 cB true,q2 8 cI s550.2.2] (by kernel_rfl)<|lfn (S := (fun (s1000:(XTable × Bool × Int))=>[q2 0 cc4 v0,q3 4 cc3 (⟨(0:Int),([]:List Int),([]:List Int),(0:Int)⟩:XTable),q3 5 cc3 s1000.1,q2 6 cc12 x9,q2 7 cB s1000.2.1,q2 8 cI s1000.2.2])) h q1001 rfl)
  (fun b1019 h=>ws<|jw (fun (s1021:Bool)=>[q2 0 cc4 v0,q3 4 cc3 (⟨(0:Int),([]:List Int),([]:List Int),(0:Int)⟩:XTable),q3 5 cc3 s550.1,q2 6 cc12 x9,q2 7 cB s550.2.1,q2 8 cI s550.2.2,q2 9 cB (decide (s550.2.2 = ((x9.length:Int) - (1:Int)))),q2 43 cB s1021]) h (fun s1021 h=>xn<|cnd rfl h (fun b1023 h=>ws<|rg<|st rfl<|mvd rfl rfl<|ckI_k h fun i1025 h=>st rfl<|b_add (k := .i64) rfl rfl i1025<|xa (ss rfl rfl)<|sq [q2 0 cc4 v0,q3 4 cc3 (⟨(0:Int),([]:List Int),([]:List Int),(0:Int)⟩:XTable),q3 5 cc3 s550.1,q2 6 cc12 x9,q2 7 cB s550.2.1,q2 8 cI (s550.2.2 + (1:Int))]<|
  xn<|rg<|st rfl<|mvd rfl rfl<|st rfl<|mvo rfl rfl<|st rfl<|mvd rfl rfl<|getO_k h fun x1026 i1027 g1028 h=>st rfl<|iar rfl rfl rfl rfl i1027 g1028 rfl<|st rfl<|lda rfl rfl (Gt.idx g1028 Gt.nil) rfl rfl rfl<|bnd h fun x1029 e1030 h=>st rfl<|o_call (a1 (c := cc4) (tLs (tXVariable tS tK)) rfl (a1 (c := cS) tS rfl a0)) (con_spec_sFind e1030) (.inl (so1 sK so0))<|st rfl<|fab rfl rfl rfl rfl<|x_sta (cc3.enc (⟨s550.1.Level,s550.1.Vars,s550.1.Where,x1029⟩:XTable)) (ss rfl rfl) rfl rfl (Ln.fld rfl rfl Ln.nil rfl) (Cd.h_sz cI _) rfl<|sq [q2 0 cc4 v0,q3 4 cc3 (⟨(0:Int),([]:List Int),([]:List Int),(0:Int)⟩:XTable),q3 5 cc3 (⟨s550.1.Level,s550.1.Vars,s550.1.Where,x1029⟩:XTable),q2 6 cc12 x9,q2 7 cB s550.2.1,q2 8 cI (s550.2.2 + (1:Int))]<|
  xbb<|xbb<|kpN [q2 0 cc4 v0,q3 4 cc3 (⟨(0:Int),([]:List Int),([]:List Int),(0:Int)⟩:XTable),q3 5 cc3 (⟨s550.1.Level,s550.1.Vars,s550.1.Where,x1029⟩:XTable),q2 6 cc12 x9,q2 7 cB s550.2.1,q2 8 cI (s550.2.2 + (1:Int))] (by kernel_rfl)<|lfn (S := (fun (s1000:(XTable × Bool × Int))=>[q2 0 cc4 v0,q3 4 cc3 (⟨(0:Int),([]:List Int),([]:List Int),(0:Int)⟩:XTable),q3 5 cc3 s1000.1,q2 6 cc12 x9,q2 7 cB s1000.2.1,q2 8 cI s1000.2.2])) h q1001 rfl)
  (fun b1023 h=>ws<|jw (fun (s1032:Bool)=>[q2 0 cc4 v0,q3 4 cc3 (⟨(0:Int),([]:List Int),([]:List Int),(0:Int)⟩:XTable),q3 5 cc3 s550.1,q2 6 cc12 x9,q2 7 cB s550.2.1,q2 8 cI s550.2.2,q2 9 cB (decide (s550.2.2 = ((x9.length:Int) - (1:Int)))),q2 62 cB s1032]) h (fun s1032 h=>xn<|cnd rfl h (fun b1034 h=>ws<|rg<|st rfl<|mvd rfl rfl<|ckI_k h fun i1036 h=>st rfl<|b_add (k := .i64) rfl rfl i1036<|xa (ss rfl rfl)<|sq [q2 0 cc4 v0,q3 4 cc3 (⟨(0:Int),([]:List Int),([]:List Int),(0:Int)⟩:XTable),q3 5 cc3 s550.1,q2 6 cc12 x9,q2 7 cB s550.2.1,q2 8 cI (s550.2.2 + (1:Int))]<|
  xn<|rg<|st rfl<|mvo rfl rfl<|st rfl<|mvd rfl rfl<|getO_k h fun x1037 i1038 g1039 h=>st rfl<|iar rfl rfl rfl rfl i1038 g1039 rfl<|st rfl<|lda rfl rfl (Gt.idx g1039 Gt.nil) rfl rfl rfl<|bnd h fun x1040 e1041 h=>st rfl<|o_call (a1 (c := cS) tS rfl a0) (con_spec_l1Read e1041) (.inl (so1 sK so0))<|st rfl<|fab rfl rfl rfl rfl<|x_sta (cc3.enc (⟨x1040,s550.1.Vars,s550.1.Where,s550.1.Sum⟩:XTable)) (ss rfl rfl) rfl rfl (Ln.fld rfl rfl Ln.nil rfl) (Cd.h_sz cI _) rfl<|sq [q2 0 cc4 v0,q3 4 cc3 (⟨(0:Int),([]:List Int),([]:List Int),(0:Int)⟩:XTable),q3 5 cc3 (⟨x1040,s550.1.Vars,s550.1.Where,s550.1.Sum⟩:XTable),q2 6 cc12 x9,q2 7 cB s550.2.1,q2 8 cI (s550.2.2 + (1:Int))]<|
  xbb<|xbb<|kpN [q2 0 cc4 v0,q3 4 cc3 (⟨(0:Int),([]:List Int),([]:List Int),(0:Int)⟩:XTable),q3 5 cc3 (⟨x1040,s550.1.Vars,s550.1.Where,s550.1.Sum⟩:XTable),q2 6 cc12 x9,q2 7 cB s550.2.1,q2 8 cI (s550.2.2 + (1:Int))] (by kernel_rfl)<|lfn (S := (fun (s1000:(XTable × Bool × Int))=>[q2 0 cc4 v0,q3 4 cc3 (⟨(0:Int),([]:List Int),([]:List Int),(0:Int)⟩:XTable),q3 5 cc3 s1000.1,q2 6 cc12 x9,q2 7 cB s1000.2.1,q2 8 cI s1000.2.2])) h q1001 rfl)
  (fun b1034 h=>ws<|jw (fun (s1043:Bool)=>[q2 0 cc4 v0,q3 4 cc3 (⟨(0:Int),([]:List Int),([]:List Int),(0:Int)⟩:XTable),q3 5 cc3 s550.1,q2 6 cc12 x9,q2 7 cB s550.2.1,q2 8 cI s550.2.2,q2 80 cB s1043]) h (fun s1043 h=>xn<|cnd rfl h (fun b1045 h=>ws<|rg<|st rfl<|mvd rfl rfl<|ckI_k h fun i1047 h=>st rfl<|b_add (k := .i64) rfl rfl i1047<|xa (ss rfl rfl)<|sq [q2 0 cc4 v0,q3 4 cc3 (⟨(0:Int),([]:List Int),([]:List Int),(0:Int)⟩:XTable),q3 5 cc3 s550.1,q2 6 cc12 x9,q2 7 cB s550.2.1,q2 8 cI (s550.2.2 + (1:Int))]<|
  xn<|ws<|rg<|st rfl<|mvo rfl rfl<|st rfl<|mvd rfl rfl<|getO_k h fun x1054 i1055 g1056 h=>st rfl<|iar rfl rfl rfl rfl i1055 g1056 rfl<|st rfl<|lda rfl rfl (Gt.idx g1056 Gt.nil) rfl rfl rfl<|bnd h fun x1057 e1058 h=>st rfl<|o_call (a1 (c := cS) tS rfl (a1 (c := cU) tK rfl a0)) (con_spec_l1Split e1058) (.inl (so1 (sLo sS) so0))<|stw rfl<|leno rfl fun l1059=>st rfl<|mvc cI (0:Int) rfl<|sq [q2 0 cc4 v0,q3 4 cc3 (⟨(0:Int),([]:List Int),([]:List Int),(0:Int)⟩:XTable),q3 5 cc3 s550.1,q2 6 cc12 x9,q2 7 cB s550.2.1,q2 8 cI (s550.2.2 + (1:Int)),q2 96 cc12 x1057,q2 97 cI (x1057.length:Int),q2 98 cI (0:Int)]<|
  xn<|wpC_blk<|lpR (fun (k1061:Nat) (s1060:XTable)=>[q2 0 cc4 v0,q3 4 cc3 (⟨(0:Int),([]:List Int),([]:List Int),(0:Int)⟩:XTable),q3 5 cc3 s1060,q2 6 cc12 x9,q2 7 cB s550.2.1,q2 8 cI (s550.2.2 + (1:Int)),q2 96 cc12 x1057,q2 97 cI (x1057.length:Int),q2 98 cI (k1061:Int)]) s550.1 rfl h
  (fun G1079 s1060 h=>ws<|rg<|st rfl<|b_lss (k := .i64) rfl rfl<|sq [q2 0 cc4 v0,q3 4 cc3 (⟨(0:Int),([]:List Int),([]:List Int),(0:Int)⟩:XTable),q3 5 cc3 s1060,q2 6 cc12 x9,q2 7 cB s550.2.1,q2 8 cI (s550.2.2 + (1:Int)),q2 96 cc12 x1057,q2 97 cI (x1057.length:Int),q2 98 cI (x1057.length:Int),q2 99 cB (decide ((x1057.length:Int) < (x1057.length:Int)))]<|
  xn<|ws<|wpC_kp<|cnd0 rfl (dlf _)<|wpC_exit<|xt<|xt<|xt<|xb<|xbb<|xbb<|kpN [q2 0 cc4 v0,q3 4 cc3 (⟨(0:Int),([]:List Int),([]:List Int),(0:Int)⟩:XTable),q3 5 cc3 s1060,q2 6 cc12 x9,q2 7 cB s550.2.1,q2 8 cI (s550.2.2 + (1:Int))] (by kernel_rfl)<|lfn (S := (fun (s1000:(XTable × Bool × Int))=>[q2 0 cc4 v0,q3 4 cc3 (⟨(0:Int),([]:List Int),([]:List Int),(0:Int)⟩:XTable),q3 5 cc3 s1000.1,q2 6 cc12 x9,q2 7 cB s1000.2.1,q2 8 cI s1000.2.2])) h q1001 rfl)
  (fun G1079 nx1077 k1061 s1060 x1062 hk1063 hx1064 hn1078 h=>ws<|rg<|st rfl<|b_lss (k := .i64) rfl rfl<|sq [q2 0 cc4 v0,q3 4 cc3 (⟨(0:Int),([]:List Int),([]:List Int),(0:Int)⟩:XTable),q3 5 cc3 s1060,q2 6 cc12 x9,q2 7 cB s550.2.1,q2 8 cI (s550.2.2 + (1:Int)),q2 96 cc12 x1057,q2 97 cI (x1057.length:Int),q2 98 cI (k1061:Int),q2 99 cB (decide ((k1061:Int) < (x1057.length:Int)))]<|
  xn<|ws<|wpC_kp<|cnd1 rfl (dlt hk1063)<|wpC_skip<|kpN [q2 0 cc4 v0,q3 4 cc3 (⟨(0:Int),([]:List Int),([]:List Int),(0:Int)⟩:XTable),q3 5 cc3 s1060,q2 6 cc12 x9,q2 7 cB s550.2.1,q2 8 cI (s550.2.2 + (1:Int)),q2 96 cc12 x1057,q2 97 cI (x1057.length:Int),q2 98 cI (k1061:Int)] (by kernel_rfl)<|xn<|ws<|wpC_kp<|wpC_blk<|ws<|rg<|st rfl<|iao rfl rfl (Int.natCast_nonneg _) hx1064 rfl<|st rfl<|lda rfl rfl (Gt.idx hx1064 Gt.nil) rfl rfl rfl<|xa (ss rfl rfl)<|sq [q2 0 cc4 v0,q3 4 cc3 (⟨(0:Int),([]:List Int),([]:List Int),(0:Int)⟩:XTable),q3 5 cc3 s1060,q2 6 cc12 x9,q2 7 cB s550.2.1,q2 8 cI (s550.2.2 + (1:Int)),q2 11 cS x1062,q2 96 cc12 x1057,q2 97 cI (x1057.length:Int),q2 98 cI (k1061:Int)]<|
  xn<|drw_s<|pst rfl<|fab rfl rfl rfl rfl ⟨rfl,pst rfl<|ldao rfl rfl rfl rfl rfl rfl ⟨rfl,pst rfl<|mvd rfl rfl ⟨rfl,pst rfl<|mvd rfl rfl ⟨rfl,bndp h fun x1083 e1084 h=>pst rfl<|o_call (a1 (c := cc4) (tLs (tXVariable tS tK)) rfl (a1 (c := cS) tS rfl a0)) (con_spec_sFind e1084) (.inl (so1 sK so0)) ⟨rfl,pst rfl<|p_bsl cI [x1083] (e1 rfl rfl rfl e0) rfl rfl ⟨rfl,preN<|lnO_k h fun l1085 h=>x_app (sp ((cXTable cI (cH (α := (List Int))) cc11 cI).enc (⟨s1060.Level,s1060.Vars,s1060.Where,s1060.Sum⟩:XTable)) rfl rfl (Ln.fld rfl rfl Ln.nil rfl)) (tow rfl rfl) l1085 rfl<|st rfl<|fab rfl rfl rfl rfl<|x_sta (cc3.enc (⟨s1060.Level,(s1060.Vars ++ [x1083]),s1060.Where,s1060.Sum⟩:XTable)) (so rfl rfl) rfl rfl (Ln.fld rfl rfl Ln.nil rfl) (Cd.h_sz (cH (α := (List Int))) _) rfl<|sq [q2 0 cc4 v0,q3 4 cc3 (⟨(0:Int),([]:List Int),([]:List Int),(0:Int)⟩:XTable),q3 5 cc3 (⟨s1060.Level,(s1060.Vars ++ [x1083]),s1060.Where,s1060.Sum⟩:XTable),q2 6 cc12 x9,q2 7 cB s550.2.1,q2 8 cI (s550.2.2 + (1:Int)),q2 96 cc12 x1057,q2 97 cI (x1057.length:Int),q2 98 cI (k1061:Int)]<|
  xbb<|kpN [q2 0 cc4 v0,q3 4 cc3 (⟨(0:Int),([]:List Int),([]:List Int),(0:Int)⟩:XTable),q3 5 cc3 (⟨s1060.Level,(s1060.Vars ++ [x1083]),s1060.Where,s1060.Sum⟩:XTable),q2 6 cc12 x9,q2 7 cB s550.2.1,q2 8 cI (s550.2.2 + (1:Int)),q2 96 cc12 x1057,q2 97 cI (x1057.length:Int),q2 98 cI (k1061:Int)] (by kernel_rfl)<|xn<|rg<|st rfl<|b_inc rfl rfl l1059 hk1063<|st rfl<|mvd rfl rfl<|sq [q2 0 cc4 v0,q3 4 cc3 (⟨(0:Int),([]:List Int),([]:List Int),(0:Int)⟩:XTable),q3 5 cc3 (⟨s1060.Level,(s1060.Vars ++ [x1083]),s1060.Where,s1060.Sum⟩:XTable),q2 6 cc12 x9,q2 7 cB s550.2.1,q2 8 cI (s550.2.2 + (1:Int)),q2 96 cc12 x1057,q2 97 cI (x1057.length:Int),q2 98 cI ((k1061 + 1:Nat):Int)]<|
  xn<|hn1078 (⟨s1060.Level,(s1060.Vars ++ [x1083]),s1060.Where,s1060.Sum⟩:XTable) h⟩⟩⟩⟩⟩⟩))
  (fun b1045 h=>wpC_skip<|xbb<|xbb<|kpN [q2 0 cc4 v0,q3 4 cc3 (⟨(0:Int),([]:List Int),([]:List Int),(0:Int)⟩:XTable),q3 5 cc3 s550.1,q2 6 cc12 x9,q2 7 cB s550.2.1,q2 8 cI s550.2.2] (by kernel_rfl)<|lfn (S := (fun (s1000:(XTable × Bool × Int))=>[q2 0 cc4 v0,q3 4 cc3 (⟨(0:Int),([]:List Int),([]:List Int),(0:Int)⟩:XTable),q3 5 cc3 s1000.1,q2 6 cc12 x9,q2 7 cB s1000.2.1,q2 8 cI s1000.2.2])) h q1001 rfl))
  fun s1043' q1044 h=>rg<|st rfl<|mvo rfl rfl<|st rfl<|mvd rfl rfl<|st rfl<|iar rfl rfl rfl rfl i1017 g1018 rfl<|st rfl<|lda rfl rfl (Gt.idx g1018 Gt.nil) rfl rfl rfl<|st rfl<|b_seq rfl rfl<|st rfl<|mvd rfl rfl<|ite_k h (fun b1086 h=>gt' rfl b1086<|st rfl<|mvd rfl rfl<|gt' rfl b1086<|st rfl<|o_nt rfl<|st rfl<|pick1 rfl b1086 (cd := cB) (v := (!(decide (s550.2.2 = ((x9.length:Int) - (1:Int)))))) rfl rfl<|xa (ss rfl rfl)<|sq [q2 0 cc4 v0,q3 4 cc3 (⟨(0:Int),([]:List Int),([]:List Int),(0:Int)⟩:XTable),q3 5 cc3 s550.1,q2 6 cc12 x9,q2 7 cB s550.2.1,q2 8 cI s550.2.2,q2 80 cB (!(decide (s550.2.2 = ((x9.length:Int) - (1:Int)))))]<|
  lfn (S := (fun (s1043:Bool)=>[q2 0 cc4 v0,q3 4 cc3 (⟨(0:Int),([]:List Int),([]:List Int),(0:Int)⟩:XTable),q3 5 cc3 s550.1,q2 6 cc12 x9,q2 7 cB s550.2.1,q2 8 cI s550.2.2,q2 80 cB s1043])) h q1044 rfl)
  (fun b1086 h=>gf rfl b1086<|gf rfl b1086<|st rfl<|pick0 rfl b1086 (cd := cB) (v := false) rfl rfl<|xa (ss rfl rfl)<|sq [q2 0 cc4 v0,q3 4 cc3 (⟨(0:Int),([]:List Int),([]:List Int),(0:Int)⟩:XTable),q3 5 cc3 s550.1,q2 6 cc12 x9,q2 7 cB s550.2.1,q2 8 cI s550.2.2,q2 80 cB false]<|
  lfn (S := (fun (s1043:Bool)=>[q2 0 cc4 v0,q3 4 cc3 (⟨(0:Int),([]:List Int),([]:List Int),(0:Int)⟩:XTable),q3 5 cc3 s550.1,q2 6 cc12 x9,q2 7 cB s550.2.1,q2 8 cI s550.2.2,q2 80 cB s1043])) h q1044 rfl)))
  fun s1032' q1033 h=>rg<|st rfl<|mvo rfl rfl<|st rfl<|mvd rfl rfl<|st rfl<|iar rfl rfl rfl rfl i1017 g1018 rfl<|st rfl<|lda rfl rfl (Gt.idx g1018 Gt.nil) rfl rfl rfl<|st rfl<|b_seq rfl rfl<|st rfl<|mvd rfl rfl<|ite_k h (fun b1087 h=>gt' rfl b1087<|st rfl<|mvd rfl rfl<|gt' rfl b1087<|st rfl<|o_nt rfl<|st rfl<|pick1 rfl b1087 (cd := cB) (v := (!(decide (s550.2.2 = ((x9.length:Int) - (1:Int)))))) rfl rfl<|xa (ss rfl rfl)<|sq [q2 0 cc4 v0,q3 4 cc3 (⟨(0:Int),([]:List Int),([]:List Int),(0:Int)⟩:XTable),q3 5 cc3 s550.1,q2 6 cc12 x9,q2 7 cB s550.2.1,q2 8 cI s550.2.2,q2 9 cB (decide (s550.2.2 = ((x9.length:Int) - (1:Int)))),q2 62 cB (!(decide (s550.2.2 = ((x9.length:Int) - (1:Int)))))]<|
  lfn (S := (fun (s1032:Bool)=>[q2 0 cc4 v0,q3 4 cc3 (⟨(0:Int),([]:List Int),([]:List Int),(0:Int)⟩:XTable),q3 5 cc3 s550.1,q2 6 cc12 x9,q2 7 cB s550.2.1,q2 8 cI s550.2.2,q2 9 cB (decide (s550.2.2 = ((x9.length:Int) - (1:Int)))),q2 62 cB s1032])) h q1033 rfl)
  (fun b1087 h=>gf rfl b1087<|gf rfl b1087<|st rfl<|pick0 rfl b1087 (cd := cB) (v := false) rfl rfl<|xa (ss rfl rfl)<|sq [q2 0 cc4 v0,q3 4 cc3 (⟨(0:Int),([]:List Int),([]:List Int),(0:Int)⟩:XTable),q3 5 cc3 s550.1,q2 6 cc12 x9,q2 7 cB s550.2.1,q2 8 cI s550.2.2,q2 9 cB (decide (s550.2.2 = ((x9.length:Int) - (1:Int)))),q2 62 cB false]<|
  lfn (S := (fun (s1032:Bool)=>[q2 0 cc4 v0,q3 4 cc3 (⟨(0:Int),([]:List Int),([]:List Int),(0:Int)⟩:XTable),q3 5 cc3 s550.1,q2 6 cc12 x9,q2 7 cB s550.2.1,q2 8 cI s550.2.2,q2 9 cB (decide (s550.2.2 = ((x9.length:Int) - (1:Int)))),q2 62 cB s1032])) h q1033 rfl)))
  fun s1021' q1022 h=>rg<|st rfl<|mvo rfl rfl<|st rfl<|mvd rfl rfl<|st rfl<|iar rfl rfl rfl rfl i1017 g1018 rfl<|st rfl<|lda rfl rfl (Gt.idx g1018 Gt.nil) rfl rfl rfl<|st rfl<|b_seq rfl rfl<|st rfl<|mvd rfl rfl<|ite_k h (fun b1088 h=>gt' rfl b1088<|st rfl<|mvd rfl rfl<|gt' rfl b1088<|st rfl<|o_nt rfl<|st rfl<|pick1 rfl b1088 (cd := cB) (v := (!(decide (s550.2.2 = ((x9.length:Int) - (1:Int)))))) rfl rfl<|xa (ss rfl rfl)<|sq [q2 0 cc4 v0,q3 4 cc3 (⟨(0:Int),([]:List Int),([]:List Int),(0:Int)⟩:XTable),q3 5 cc3 s550.1,q2 6 cc12 x9,q2 7 cB s550.2.1,q2 8 cI s550.2.2,q2 9 cB (decide (s550.2.2 = ((x9.length:Int) - (1:Int)))),q2 43 cB (!(decide (s550.2.2 = ((x9.length:Int) - (1:Int)))))]<|
  lfn (S := (fun (s1021:Bool)=>[q2 0 cc4 v0,q3 4 cc3 (⟨(0:Int),([]:List Int),([]:List Int),(0:Int)⟩:XTable),q3 5 cc3 s550.1,q2 6 cc12 x9,q2 7 cB s550.2.1,q2 8 cI s550.2.2,q2 9 cB (decide (s550.2.2 = ((x9.length:Int) - (1:Int)))),q2 43 cB s1021])) h q1022 rfl)
  (fun b1088 h=>gf rfl b1088<|gf rfl b1088<|st rfl<|pick0 rfl b1088 (cd := cB) (v := false) rfl rfl<|xa (ss rfl rfl)<|sq [q2 0 cc4 v0,q3 4 cc3 (⟨(0:Int),([]:List Int),([]:List Int),(0:Int)⟩:XTable),q3 5 cc3 s550.1,q2 6 cc12 x9,q2 7 cB s550.2.1,q2 8 cI s550.2.2,q2 9 cB (decide (s550.2.2 = ((x9.length:Int) - (1:Int)))),q2 43 cB false]<|
  lfn (S := (fun (s1021:Bool)=>[q2 0 cc4 v0,q3 4 cc3 (⟨(0:Int),([]:List Int),([]:List Int),(0:Int)⟩:XTable),q3 5 cc3 s550.1,q2 6 cc12 x9,q2 7 cB s550.2.1,q2 8 cI s550.2.2,q2 9 cB (decide (s550.2.2 = ((x9.length:Int) - (1:Int)))),q2 43 cB s1021])) h q1022 rfl))))
  (fun b913 h=>wpC_exit<|xt<|xt<|xt<|xb<|kpN [q3 4 cc3 (⟨(0:Int),([]:List Int),([]:List Int),(0:Int)⟩:XTable),q3 5 cc3 s550.1] (by kernel_rfl)<|xn<|ws<|rg<|st rfl<|ldbo rfl rfl rfl rfl<|x_stb (sb rfl rfl) rfl (Cd.h_sz _ _) rfl<|sq [q3 4 cc3 s550.1]<|
  xn<|wpC_ret<|re<|fin h (r2 rfl rfl rfl<|r0) rfl)

def rs_spec_gDepth (r:Int):List D := [cI.enc r]
def m86:MC := .seq (.reg [q1 2 (.box (.t 0)),q1 4 (.asg (.c (.int .i64 0)))] [1,2])
 (.seq (.reg [q1 5 (.asg (.c (.int .i64 0)))] [1,2,5])
 (.seq (.kp [5] (.blk 0 (.loop (.kp [1,2,5] (.seq (.kp [1,2,5] (.seq (.reg [q1 6 (.fa 2 0 0),q1 7 (.ld 6 1 false),q1 8 (.mv (.t 1)),q1 9 (.ia 7 (.t 8) 1),q1 10 (.ld 9 1 false),q1 11 (.bin .geq (.t 10) (.c (.int .i64 0)))] [1,2,5,11])
 (.cond (.t 11) (.skip) (.exit 0))))
 (.blk 1 (.seq (.reg [q1 12 (.fa 2 0 0),q1 13 (.ld 12 1 false),q1 14 (.mv (.t 1)),q1 15 (.ia 13 (.t 14) 1),q1 16 (.ld 15 1 false),q1 1 (.asg (.t 16))] [1,2,5])
 (.reg [q1 17 (.mv (.t 5)),q1 18 (.bin .add (.t 17) (.c (.int .i64 1))),q1 5 (.asg (.t 18))] [1,2,5]))))))))
 (.seq (.reg [q1 19 (.mv (.t 5)),q1 4 (.asg (.t 19))] [4])
 (.ret))))
theorem con_spec_gDepth {v0:XGeo} {v1:Int} {r:Int} (h:sh_spec_gDepth v0 v1 = some r):Con Tryz.prog 86 [cc6.enc v0,cI.enc v1] [] (rs_spec_gDepth r) := by
 delta sh_spec_gDepth at h
 refine top (out := none) (f := Tryz.f86) (m := m86) (rs := [.t 4]) (by kernel_rfl) rfl (by kernel_rfl) (by kernel_rfl) (by kernel_rfl) (by kernel_rfl) (by kernel_rfl) ?_
 exact
  ini [q2 0 cc6 v0,q2 1 cI v1] rfl<|ws<|rg<|x_box (ss rfl rfl)<|xa (sc cI (0:Int) rfl)<|sq [q2 1 cI v1,q3 2 cc6 v0]<|
  xn<|ws<|rg<|xa (sc cI (0:Int) rfl)<|sq [q2 1 cI v1,q3 2 cc6 v0,q2 5 cI (0:Int)]<|
  xn<|ws<|wpC_kp<|wpC_blk<|lpF (fun (s54:(Int × Int))=>[q2 1 cI s54.1,q3 2 cc6 v0,q2 5 cI s54.2]) (v1,(0:Int)) rfl h
  fun G91 nx89 s54 hn90 h=>wpC_kp<|ws<|wpC_kp<|ws<|rg<|st rfl<|fab rfl rfl rfl rfl<|st rfl<|lda rfl rfl rfl rfl rfl rfl<|st rfl<|mvd rfl rfl<|getO_k h fun x102 i103 g104 h=>st rfl<|ias rfl rfl i103 g104 rfl<|st rfl<|ldi rfl rfl rfl rfl<|st rfl<|b_geq (k := .i64) rfl rfl<|sq [q2 1 cI s54.1,q3 2 cc6 v0,q2 5 cI s54.2,q2 11 cB (decide ((0:Int) ≤ x102))]<|
  xn<|cnd rfl h (fun b105 h=>wpC_skip<|kpN [q2 1 cI s54.1,q3 2 cc6 v0,q2 5 cI s54.2] (by kernel_rfl)<|xn<|wpC_blk<|ws<|rg<|st rfl<|fab rfl rfl rfl rfl<|st rfl<|lda rfl rfl rfl rfl rfl rfl<|st rfl<|mvd rfl rfl<|st rfl<|ias rfl rfl i103 g104 rfl<|st rfl<|ldi rfl rfl rfl rfl<|xa (ss rfl rfl)<|sq [q2 1 cI x102,q3 2 cc6 v0,q2 5 cI s54.2]<|
  xn<|rg<|st rfl<|mvd rfl rfl<|ckI_k h fun i106 h=>st rfl<|b_add (k := .i64) rfl rfl i106<|xa (ss rfl rfl)<|sq [q2 1 cI x102,q3 2 cc6 v0,q2 5 cI (s54.2 + (1:Int))]<|
  xbb<|kpN [q2 1 cI x102,q3 2 cc6 v0,q2 5 cI (s54.2 + (1:Int))] (by kernel_rfl)<|xn<|hn90 (x102,(s54.2 + (1:Int))) h)
  (fun b105 h=>wpC_exit<|xt<|xt<|xt<|xt<|xb<|kpN [q2 5 cI s54.2] (by kernel_rfl)<|xn<|ws<|rg<|st rfl<|mvd rfl rfl<|xa (ss rfl rfl)<|sq [q2 4 cI s54.2]<|
  xn<|wpC_ret<|re<|fin h (r1 (ss rfl rfl)<|r0) rfl)

def rs_spec_gLevel (r:(List Int)):List D := [cc11.enc r]
def m65:MC := .seq (.reg [q1 2 (.box (.t 0)),q1 4 (.asg (.c (.slice true [])))] [1,2])
 (.seq (.reg [q1 5 (.asg (.c (.slice true [])))] [1,2,5])
 (.seq (.kp [5] (.seq (.reg [q1 7 (.fa 2 0 0),q1 8 (.ld 7 1 false),q1 9 (.len false (.t 8)),q1 10 (.mv (.c (.int .i64 0)))] [1,2,5,9,10])
 (.blk 0 (.loop (.seq (.reg [q1 11 (.bin .lss (.t 10) (.t 9))] [1,2,5,9,10,11])
 (.seq (.kp [1,2,5,9,10] (.cond (.t 11) (.skip) (.exit 0)))
 (.seq (.kp [1,2,5,9,10] (.blk 1 (.seq (.reg [q1 12 (.mv (.t 10)),q1 6 (.asg (.t 12))] [1,2,5,6,9,10])
 (.seq (.reg [q1 13 (.ld 2 1 true),q1 14 (.mv (.t 6)),q1 15 (.call 86 [(.t 13),(.t 14)]),q1 16 (.mv (.t 1)),q1 17 (.bin .eql (.t 15) (.t 16))] [1,2,5,6,9,10,17])
 (.cond (.t 17) (.reg [q1 18 (.mv (.t 5)),q1 19 (.mv (.t 6)),q1 20 (.bsl [(.t 19)] 1),q1 21 (.app (.t 18) (.t 20) 1),q1 5 (.asg (.t 21))] [1,2,5,9,10]) (.skip))))))
 (.reg [q1 22 (.bin .add (.t 10) (.c (.int .i64 1))),q1 10 (.mv (.t 22))] [1,2,5,9,10]))))))))
 (.seq (.reg [q1 23 (.mv (.t 5)),q1 4 (.asg (.t 23))] [4])
 (.ret))))
theorem con_spec_gLevel {v0:XGeo} {v1:Int} {r:(List Int)} (h:sh_spec_gLevel v0 v1 = some r):Con Tryz.prog 65 [cc6.enc v0,cI.enc v1] [] (rs_spec_gLevel r) := by
 delta sh_spec_gLevel at h
 refine top (out := none) (f := Tryz.f65) (m := m65) (rs := [.t 4]) (by kernel_rfl) rfl (by kernel_rfl) (by kernel_rfl) (by kernel_rfl) (by kernel_rfl) (by kernel_rfl) ?_
 exact
  ini [q2 0 cc6 v0,q2 1 cI v1] rfl<|ws<|rg<|x_box (ss rfl rfl)<|xa (sc cc11 ([]:List Int) rfl)<|sq [q2 1 cI v1,q3 2 cc6 v0]<|
  xn<|ws<|rg<|xa (sc cc11 ([]:List Int) rfl)<|sq [q2 1 cI v1,q3 2 cc6 v0,q2 5 cc11 ([]:List Int)]<|
  xn<|ws<|wpC_kp<|ws<|rg<|st rfl<|fab rfl rfl rfl rfl<|st rfl<|lda rfl rfl rfl rfl rfl rfl<|stw rfl<|lens rfl fun l48=>st rfl<|mvc cI (0:Int) rfl<|sq [q2 1 cI v1,q3 2 cc6 v0,q2 5 cc11 ([]:List Int),q2 9 cI (v0.Parents.length:Int),q2 10 cI (0:Int)]<|
  xn<|wpC_blk<|lpR (fun (k50:Nat) (s49:(List Int))=>[q2 1 cI v1,q3 2 cc6 v0,q2 5 cc11 s49,q2 9 cI (v0.Parents.length:Int),q2 10 cI (k50:Int)]) ([]:List Int) rfl h
  (fun G80 s49 h=>ws<|rg<|st rfl<|b_lss (k := .i64) rfl rfl<|sq [q2 1 cI v1,q3 2 cc6 v0,q2 5 cc11 s49,q2 9 cI (v0.Parents.length:Int),q2 10 cI (v0.Parents.length:Int),q2 11 cB (decide ((v0.Parents.length:Int) < (v0.Parents.length:Int)))]<|
  xn<|ws<|wpC_kp<|cnd0 rfl (dlf _)<|wpC_exit<|xt<|xt<|xt<|xb<|kpN [q2 5 cc11 s49] (by kernel_rfl)<|xn<|ws<|rg<|st rfl<|mvo rfl rfl<|xa (sr rfl rfl)<|sq [q2 4 cc11 s49]<|
  xn<|wpC_ret<|re<|fin h (r1 (so rfl rfl)<|r0) rfl)
  (fun G80 nx78 k50 s49 x51 hk52 hx53 hn79 h=>ws<|rg<|st rfl<|b_lss (k := .i64) rfl rfl<|sq [q2 1 cI v1,q3 2 cc6 v0,q2 5 cc11 s49,q2 9 cI (v0.Parents.length:Int),q2 10 cI (k50:Int),q2 11 cB (decide ((k50:Int) < (v0.Parents.length:Int)))]<|
  xn<|ws<|wpC_kp<|cnd1 rfl (dlt hk52)<|wpC_skip<|kpN [q2 1 cI v1,q3 2 cc6 v0,q2 5 cc11 s49,q2 9 cI (v0.Parents.length:Int),q2 10 cI (k50:Int)] (by kernel_rfl)<|xn<|ws<|wpC_kp<|wpC_blk<|ws<|rg<|st rfl<|mvd rfl rfl<|xa (ss rfl rfl)<|sq [q2 1 cI v1,q3 2 cc6 v0,q2 5 cc11 s49,q2 6 cI (k50:Int),q2 9 cI (v0.Parents.length:Int),q2 10 cI (k50:Int)]<|
  xn<|ws<|rg<|st rfl<|ldb rfl rfl rfl rfl<|st rfl<|mvd rfl rfl<|bnd h fun x89 e90 h=>st rfl<|o_call (a1 (c := cc6) (tXGeo (tLs tK)) rfl (a1 (c := cI) tK rfl a0)) (con_spec_gDepth e90) (.inl (so1 sK so0))<|st rfl<|mvd rfl rfl<|st rfl<|b_eql (k := .i64) rfl rfl<|sq [q2 1 cI v1,q3 2 cc6 v0,q2 5 cc11 s49,q2 6 cI (k50:Int),q2 9 cI (v0.Parents.length:Int),q2 10 cI (k50:Int),q2 17 cB (decide (x89 = v1))]<|
  xn<|cnd rfl h (fun b91 h=>rg<|st rfl<|mvo rfl rfl<|st rfl<|mvd rfl rfl<|x_bsl cI [(k50:Int)] (t1 (ss rfl rfl) rfl t0) rfl rfl<|lnO_k h fun l92 h=>x_app (sr rfl rfl) (tow rfl rfl) l92 rfl<|xa (so rfl rfl)<|sq [q2 1 cI v1,q3 2 cc6 v0,q2 5 cc11 (s49 ++ [(k50:Int)]),q2 9 cI (v0.Parents.length:Int),q2 10 cI (k50:Int)]<|
  xbb<|kpN [q2 1 cI v1,q3 2 cc6 v0,q2 5 cc11 (s49 ++ [(k50:Int)]),q2 9 cI (v0.Parents.length:Int),q2 10 cI (k50:Int)] (by kernel_rfl)<|xn<|rg<|st rfl<|b_inc rfl rfl l48 hk52<|st rfl<|mvd rfl rfl<|sq [q2 1 cI v1,q3 2 cc6 v0,q2 5 cc11 (s49 ++ [(k50:Int)]),q2 9 cI (v0.Parents.length:Int),q2 10 cI ((k50 + 1:Nat):Int)]<|
  xn<|hn79 (s49 ++ [(k50:Int)]) h)
  (fun b91 h=>wpC_skip<|xbb<|kpN [q2 1 cI v1,q3 2 cc6 v0,q2 5 cc11 s49,q2 9 cI (v0.Parents.length:Int),q2 10 cI (k50:Int)] (by kernel_rfl)<|xn<|rg<|st rfl<|b_inc rfl rfl l48 hk52<|st rfl<|mvd rfl rfl<|sq [q2 1 cI v1,q3 2 cc6 v0,q2 5 cc11 s49,q2 9 cI (v0.Parents.length:Int),q2 10 cI ((k50 + 1:Nat):Int)]<|
  xn<|hn79 s49 h))
end AS.W
