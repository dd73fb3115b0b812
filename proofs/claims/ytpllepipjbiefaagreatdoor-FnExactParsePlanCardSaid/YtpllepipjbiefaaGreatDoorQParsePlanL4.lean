/- The program computes the plain functions. No condition. -/
import Derived.Test.YtpllepipjbiefaaGreatDoorQParsePlanS
import Derived.Test.YtpllepipjbiefaaGreatDoorProg
import Derived.Test.YtpllepipjbiefaaGreatDoorQParsePlanX
import Derived.Test.YtpllepipjbiefaaGreatDoorQParsePlanL3
set_option maxRecDepth 100000
set_option linter.unusedVariables false
set_option linter.unusedSimpArgs false
namespace AS.W
open Go Go.Proofs
def rs_laws_FnExactParsePlan (r:Bool):List D := [cB.enc r]
def m4:MC := .seq (.reg [q1 3 (.box (.t 0)),q1 6 (.asg (.c (.bool false)))] [1,2,3])
 (.seq (.kp [1,2,3] (.seq (.reg [q1 22 (.mv (.t 2)),q1 23 (.len true (.t 22)),q1 24 (.bin .gtr (.t 23) (.c (.int .i64 1048576)))] [1,2,3,24])
 (.cond (.t 24) (.seq (.reg [q1 6 (.asg (.c (.bool true)))] [6])
 (.ret)) (.skip))))
 (.seq (.reg [q1 7 (.asg (.c (.int .i64 1048576)))] [1,2,3,7])
 (.seq (.reg [q1 25 (.ld 3 1 true),q1 26 (.mv (.t 7)),q1 27 (.call 5 [(.t 25),(.t 26)]),q1 7 (.asg (.t 27))] [1,2,3,7])
 (.seq (.kp [1,2,3,7] (.seq (.reg [q1 28 (.mv (.t 7)),q1 29 (.bin .lss (.t 28) (.c (.int .i64 0)))] [1,2,3,7,29])
 (.cond (.t 29) (.seq (.reg [q1 6 (.asg (.c (.bool true)))] [6])
 (.ret)) (.skip))))
 (.seq (.reg [q1 30 (.mv (.t 1)),q1 31 (.mv (.t 7)),q1 32 (.call 6 [(.t 30),(.t 31)]),q1 7 (.asg (.t 32))] [1,2,3,7])
 (.seq (.kp [1,2,3] (.seq (.reg [q1 33 (.mv (.t 7)),q1 34 (.bin .lss (.t 33) (.c (.int .i64 0)))] [1,2,3,34])
 (.cond (.t 34) (.seq (.reg [q1 6 (.asg (.c (.bool true)))] [6])
 (.ret)) (.skip))))
 (.seq (.reg [q1 36 (.ld 3 1 true),q1 37 (.call 8 [(.t 36)]),q1 38 (.mv (.t 1)),q1 39 (.call 9 [(.t 38)]),q1 40 (.mv (.t 2)),q1 41 (.call 18 [(.t 37),(.t 39),(.t 40)]),q1 35 (.mvt 41),q1 42 (.ext 35 0),q1 43 (.ext 35 1),q1 44 (.ext 35 2),q1 8 (.asg (.t 42)),q1 9 (.asg (.t 43)),q1 10 (.asg (.t 44))] [1,2,3,8,9,10])
 (.seq (.reg [q1 45 (.ld 3 1 true),q1 46 (.call 8 [(.t 45)]),q1 11 (.alloc (.agg [.slice true []])),q0 (.st 11 (.t 46) 1)] [1,2,3,8,9,10,11])
 (.seq (.reg [q1 47 (.mv (.t 1)),q1 48 (.call 9 [(.t 47)]),q1 12 (.asg (.t 48))] [1,2,3,8,9,10,11,12])
 (.seq (.reg [q1 50 (.ld 11 1 true),q1 51 (.mv (.t 12)),q1 52 (.mv (.t 2)),q1 53 (.call 19 [(.t 50),(.t 51),(.t 52)]),q1 49 (.mvt 53),q1 54 (.ext 49 0),q1 55 (.ext 49 1),q1 56 (.ext 49 2),q1 13 (.asg (.t 54)),q1 14 (.asg (.t 55)),q1 15 (.asg (.t 56))] [1,2,3,8,9,10,11,12,13,14,15])
 (.seq (.kp [1,2,3,8,9,10,11,12,13,14,15] (.seq (.reg [q1 57 (.mv (.t 13)),q1 58 (.mv (.t 8)),q1 59 (.call 20 [(.t 57),(.t 58)]),q1 60 (.nt (.t 59)),q1 61 (.mv (.t 60)),
  ⟨some 62,.mv (.t 14),some (61,false)⟩,
  ⟨some 63,.mv (.t 9),some (61,false)⟩,
  ⟨some 64,.bin .neq (.t 62) (.t 63),some (61,false)⟩,q1 65 (.pick (.t 61) (.c (.bool true)) (.t 64)),q1 66 (.mv (.t 65)),
  ⟨some 67,.mv (.t 15),some (66,false)⟩,
  ⟨some 68,.mv (.t 10),some (66,false)⟩,
  ⟨some 69,.eqb true (.t 67) (.t 68),some (66,false)⟩,q1 70 (.pick (.t 66) (.c (.bool true)) (.t 69))] [1,2,3,8,9,10,11,12,13,14,15,70])
 (.cond (.t 70) (.seq (.reg [q1 6 (.asg (.c (.bool false)))] [6])
 (.ret)) (.skip))))
 (.seq (.kp [1,2,3,8,9,10,11,12,13,14,15] (.seq (.drw [⟨0,q1 71 (.ld 11 1 true),[72,73,74,75]⟩,
  ⟨1,q1 72 (.ld 3 1 true),[71,73,74,75]⟩,
  ⟨2,q1 73 (.call 8 [(.t 72)]),[71,74,75]⟩,
  ⟨3,q1 74 (.call 12 [(.t 71),(.t 73)]),[75]⟩,
  ⟨4,q1 75 (.nt (.t 74)),[]⟩]
  [] [1,2,3,8,9,10,11,12,13,14,15,75])
 (.cond (.t 75) (.seq (.reg [q1 6 (.asg (.c (.bool false)))] [6])
 (.ret)) (.skip))))
 (.seq (.kp [1,2,3,8,9,10,11,12,13,14,15] (.seq (.reg [q1 76 (.mv (.t 12)),q1 77 (.mv (.t 1)),q1 78 (.call 9 [(.t 77)]),q1 79 (.call 13 [(.t 76),(.t 78)]),q1 80 (.nt (.t 79))] [1,2,3,8,9,10,11,12,13,14,15,80])
 (.cond (.t 80) (.seq (.reg [q1 6 (.asg (.c (.bool false)))] [6])
 (.ret)) (.skip))))
 (.seq (.reg [q1 16 (.asg (.c (.int .i64 1)))] [1,2,3,8,9,10,11,12,13,14,15,16])
 (.seq (.reg [q1 81 (.ld 11 1 true),q1 82 (.mv (.t 16)),q1 83 (.callO 14 [(.t 81),(.t 82)]),q1 16 (.asg (.t 83))] [1,2,3,8,9,10,12,13,14,15,16])
 (.seq (.reg [q1 84 (.mv (.t 12)),q1 85 (.mv (.t 16)),q1 86 (.callO 15 [(.t 84),(.t 85)]),q1 16 (.asg (.t 86))] [1,2,3,8,9,10,13,14,15,16])
 (.seq (.kp [1,2,3,8,9,10,13] (.seq (.reg [q1 87 (.mv (.t 16)),q1 88 (.bin .lss (.t 87) (.c (.int .i64 0))),q1 89 (.mv (.t 88)),
  ⟨some 90,.mv (.t 13),some (89,false)⟩,
  ⟨some 91,.mv (.t 8),some (89,false)⟩,
  ⟨some 92,.call 20 [(.t 90),(.t 91)],some (89,false)⟩,
  ⟨some 93,.nt (.t 92),some (89,false)⟩,q1 94 (.pick (.t 89) (.c (.bool true)) (.t 93)),q1 95 (.mv (.t 94)),
  ⟨some 96,.mv (.t 14),some (95,false)⟩,
  ⟨some 97,.mv (.t 9),some (95,false)⟩,
  ⟨some 98,.bin .neq (.t 96) (.t 97),some (95,false)⟩,q1 99 (.pick (.t 95) (.c (.bool true)) (.t 98)),q1 100 (.mv (.t 99)),
  ⟨some 101,.mv (.t 15),some (100,false)⟩,
  ⟨some 102,.mv (.t 10),some (100,false)⟩,
  ⟨some 103,.eqb true (.t 101) (.t 102),some (100,false)⟩,q1 104 (.pick (.t 100) (.c (.bool true)) (.t 103))] [1,2,3,8,9,10,13,104])
 (.cond (.t 104) (.seq (.reg [q1 6 (.asg (.c (.bool false)))] [6])
 (.ret)) (.skip))))
 (.seq (.reg [q1 17 (.asg (.c (.int .i64 1)))] [1,2,3,8,9,10,13,17])
 (.seq (.reg [q1 105 (.mv (.t 13)),q1 106 (.mv (.t 17)),q1 107 (.callO 21 [(.t 105),(.t 106)]),q1 17 (.asg (.t 107))] [1,2,3,8,9,10,13,17])
 (.seq (.reg [q1 18 (.asg (.c (.int .i64 1)))] [1,2,3,8,9,10,13,17,18])
 (.seq (.reg [q1 108 (.mv (.t 13)),q1 109 (.mv (.t 18)),q1 110 (.call 22 [(.t 108),(.t 109)]),q1 18 (.asg (.t 110))] [1,2,3,8,9,10,13,17,18])
 (.seq (.kp [1,2,3,8,9,10,13,17,18] (.seq (.reg [q1 111 (.mv (.t 18)),q1 112 (.bin .lss (.t 111) (.c (.int .i64 0)))] [1,2,3,8,9,10,13,17,18,112])
 (.cond (.t 112) (.seq (.reg [q1 6 (.asg (.c (.bool false)))] [6])
 (.ret)) (.skip))))
 (.seq (.kp [1,2,3,8,9,10,13,17] (.seq (.reg [q1 113 (.mv (.t 18)),q1 114 (.mv (.t 17)),q1 115 (.bin .neq (.t 113) (.t 114))] [1,2,3,8,9,10,13,17,115])
 (.cond (.t 115) (.seq (.reg [q1 6 (.asg (.c (.bool false)))] [6])
 (.ret)) (.skip))))
 (.seq (.reg [q1 117 (.ld 3 1 true),q1 118 (.call 8 [(.t 117)]),q1 119 (.mv (.t 1)),q1 120 (.call 9 [(.t 119)]),q1 121 (.mv (.t 2)),q1 122 (.call 19 [(.t 118),(.t 120),(.t 121)]),q1 116 (.mvt 122),q1 123 (.ext 116 0),q1 124 (.ext 116 1),q1 125 (.ext 116 2),q1 19 (.asg (.t 123)),q1 20 (.asg (.t 124)),q1 21 (.asg (.t 125))] [8,9,10,13,17,19,20,21])
 (.seq (.kp [13,17] (.seq (.reg [q1 126 (.mv (.t 19)),q1 127 (.mv (.t 8)),q1 128 (.call 20 [(.t 126),(.t 127)]),q1 129 (.nt (.t 128)),q1 130 (.mv (.t 129)),
  ⟨some 131,.mv (.t 20),some (130,false)⟩,
  ⟨some 132,.mv (.t 9),some (130,false)⟩,
  ⟨some 133,.bin .neq (.t 131) (.t 132),some (130,false)⟩,q1 134 (.pick (.t 130) (.c (.bool true)) (.t 133)),q1 135 (.mv (.t 134)),
  ⟨some 136,.mv (.t 21),some (135,false)⟩,
  ⟨some 137,.mv (.t 10),some (135,false)⟩,
  ⟨some 138,.eqb true (.t 136) (.t 137),some (135,false)⟩,q1 139 (.pick (.t 135) (.c (.bool true)) (.t 138))] [13,17,139])
 (.cond (.t 139) (.seq (.reg [q1 6 (.asg (.c (.bool false)))] [6])
 (.ret)) (.skip))))
 (.seq (.reg [q1 18 (.asg (.c (.int .i64 1)))] [13,17,18])
 (.seq (.reg [q1 140 (.mv (.t 13)),q1 141 (.mv (.t 18)),q1 142 (.call 22 [(.t 140),(.t 141)]),q1 18 (.asg (.t 142))] [17,18])
 (.seq (.kp [17,18] (.seq (.reg [q1 143 (.mv (.t 18)),q1 144 (.bin .lss (.t 143) (.c (.int .i64 0)))] [17,18,144])
 (.cond (.t 144) (.seq (.reg [q1 6 (.asg (.c (.bool false)))] [6])
 (.ret)) (.skip))))
 (.seq (.kp [] (.seq (.reg [q1 145 (.mv (.t 18)),q1 146 (.mv (.t 17)),q1 147 (.bin .neq (.t 145) (.t 146))] [147])
 (.cond (.t 147) (.seq (.reg [q1 6 (.asg (.c (.bool false)))] [6])
 (.ret)) (.skip))))
 (.seq (.reg [q1 6 (.asg (.c (.bool true)))] [6])
 (.ret)))))))))))))))))))))))))))))))
theorem con_laws_FnExactParsePlan {v0:XGeo} {v1:(List XVariable)} {v2:(List UInt8)} {r:Bool} (h:sh_laws_FnExactParsePlan v0 v1 v2 = some r):Con Tryz.prog 4 [cc6.enc v0,cc4.enc v1,cS.enc v2] [] (rs_laws_FnExactParsePlan r) := by
 delta sh_laws_FnExactParsePlan at h
 refine top (out := none) (f := Tryz.f4) (m := m4) (rs := [.t 6]) (by kernel_rfl) rfl (by kernel_rfl) (by kernel_rfl) (by kernel_rfl) (by kernel_rfl) (by kernel_rfl) ?_
 exact
  ini [q2 0 cc6 v0,q2 1 cc4 v1,q2 2 cS v2] rfl<|ws<|rg<|x_box (ss rfl rfl)<|xa (sc cB false rfl)<|sq [q2 1 cc4 v1,q2 2 cS v2,q3 3 cc6 v0]<|
  xn<|ws<|wpC_kp<|ws<|rg<|st rfl<|mvd rfl rfl<|stw rfl<|lent rfl fun l5=>st rfl<|b_gtr (k := .i64) rfl rfl<|sq [q2 1 cc4 v1,q2 2 cS v2,q3 3 cc6 v0,q2 24 cB (decide ((1048576:Int) < (v2.length:Int)))]<|
  xn<|cnd rfl h (fun b6 h=>ws<|rg<|xa (sc cB true rfl)<|sq [q2 6 cB true]<|
  xn<|wpC_ret<|rt<|rt<|re<|fin h (r1 (ss rfl rfl)<|r0) rfl)
  (fun b6 h=>wpC_skip<|kpN [q2 1 cc4 v1,q2 2 cS v2,q3 3 cc6 v0] (by kernel_rfl)<|xn<|ws<|rg<|xa (sc cI (1048576:Int) rfl)<|sq [q2 1 cc4 v1,q2 2 cS v2,q3 3 cc6 v0,q2 7 cI (1048576:Int)]<|
  xn<|ws<|rg<|st rfl<|ldb rfl rfl rfl rfl<|st rfl<|mvd rfl rfl<|bnd h fun x9 e10 h=>st rfl<|o_call (a1 (c := cc6) (tXGeo (tLs tK)) rfl (a1 (c := cI) tK rfl a0)) (con_laws_szGeo e10) (.inl (so1 sK so0))<|xa (ss rfl rfl)<|sq [q2 1 cc4 v1,q2 2 cS v2,q3 3 cc6 v0,q2 7 cI x9]<|
  xn<|ws<|wpC_kp<|ws<|rg<|st rfl<|mvd rfl rfl<|st rfl<|b_lss (k := .i64) rfl rfl<|sq [q2 1 cc4 v1,q2 2 cS v2,q3 3 cc6 v0,q2 7 cI x9,q2 29 cB (decide (x9 < (0:Int)))]<|
  xn<|cnd rfl h (fun b12 h=>ws<|rg<|xa (sc cB true rfl)<|sq [q2 6 cB true]<|
  xn<|wpC_ret<|rt<|rt<|re<|fin h (r1 (ss rfl rfl)<|r0) rfl)
  (fun b12 h=>wpC_skip<|kpN [q2 1 cc4 v1,q2 2 cS v2,q3 3 cc6 v0,q2 7 cI x9] (by kernel_rfl)<|xn<|ws<|rg<|st rfl<|mvd rfl rfl<|st rfl<|mvd rfl rfl<|bnd h fun x15 e16 h=>st rfl<|o_call (a1 (c := cc4) (tLs (tXVariable tS tK)) rfl (a1 (c := cI) tK rfl a0)) (con_laws_szVariableS e16) (.inl (so1 sK so0))<|xa (ss rfl rfl)<|sq [q2 1 cc4 v1,q2 2 cS v2,q3 3 cc6 v0,q2 7 cI x15]<|
  xn<|ws<|wpC_kp<|ws<|rg<|st rfl<|mvd rfl rfl<|st rfl<|b_lss (k := .i64) rfl rfl<|sq [q2 1 cc4 v1,q2 2 cS v2,q3 3 cc6 v0,q2 34 cB (decide (x15 < (0:Int)))]<|
  xn<|cnd rfl h (fun b18 h=>ws<|rg<|xa (sc cB true rfl)<|sq [q2 6 cB true]<|
  xn<|wpC_ret<|rt<|rt<|re<|fin h (r1 (ss rfl rfl)<|r0) rfl)
  (fun b18 h=>wpC_skip<|kpN [q2 1 cc4 v1,q2 2 cS v2,q3 3 cc6 v0] (by kernel_rfl)<|xn<|ws<|rg<|st rfl<|ldb rfl rfl rfl rfl<|bnd h fun x25 e26 h=>st rfl<|o_call (a1 (c := cc6) (tXGeo (tLs tK)) rfl a0) (con_laws_toGeo e26) (.inl (so1 (sXGeo (sLo sK)) so0))<|st rfl<|mvd rfl rfl<|bnd h fun x27 e28 h=>st rfl<|o_call (a1 (c := cc4) (tLs (tXVariable tS tK)) rfl a0) (con_laws_toVariableS e28) (.inl (so1 (sLo (sXVariable sS sK)) so0))<|st rfl<|mvd rfl rfl<|bnd h fun x29 e30 h=>st rfl<|o_call (a1 (c := cc8) (tXGeo (tLo tK)) rfl (a1 (c := cc5) (tLo (tXVariable tS tK)) rfl (a1 (c := cS) tS rfl a0))) (con_spec_ParsePlan e30) (.inl (so1 (sLo (sXTable sK (sLo sK) (sLo sK) sK)) (so1 sK (so1 sB so0))))<|x_mvt rfl<|x_ext rfl rfl<|x_ext rfl rfl<|x_ext rfl rfl<|xa (so rfl rfl)<|xa (ss rfl rfl)<|xa (ss rfl rfl)<|sq [q2 1 cc4 v1,q2 2 cS v2,q3 3 cc6 v0,q2 8 cc2 x29.1,q2 9 cI x29.2.1,q2 10 cB x29.2.2]<|
  xn<|ws<|rg<|st rfl<|ldb rfl rfl rfl rfl<|bnd h fun x33 e34 h=>st rfl<|o_call (a1 (c := cc6) (tXGeo (tLs tK)) rfl a0) (con_laws_toGeo e34) (.inl (so1 (sXGeo (sLo sK)) so0))<|x_all cc8 (⟨([]:List Int)⟩:XGeo) rfl<|x_stb (so rfl rfl) rfl (Cd.h_sz _ _) rfl<|sq [q2 1 cc4 v1,q2 2 cS v2,q3 3 cc6 v0,q2 8 cc2 x29.1,q2 9 cI x29.2.1,q2 10 cB x29.2.2,q3 11 cc8 x33]<|
  xn<|ws<|rg<|st rfl<|mvd rfl rfl<|bnd h fun x37 e38 h=>st rfl<|o_call (a1 (c := cc4) (tLs (tXVariable tS tK)) rfl a0) (con_laws_toVariableS e38) (.inl (so1 (sLo (sXVariable sS sK)) so0))<|xa (so rfl rfl)<|sq [q2 1 cc4 v1,q2 2 cS v2,q3 3 cc6 v0,q2 8 cc2 x29.1,q2 9 cI x29.2.1,q2 10 cB x29.2.2,q3 11 cc8 x33,q2 12 cc5 x37]<|
  xn<|ws<|rg<|st rfl<|ldbo rfl rfl rfl rfl<|st rfl<|mvo rfl rfl<|st rfl<|mvd rfl rfl<|bnd h fun x41 e42 h=>st rfl<|o_call (a1 (c := cc8) (tXGeo (tLo tK)) rfl (a1 (c := cc5) (tLo (tXVariable tS tK)) rfl (a1 (c := cS) tS rfl a0))) (con_impl_ParsePlan e42) (.inl (so1 (sLo (sXTable sK (sLo sK) (sLo sK) sK)) (so1 sK (so1 sB so0))))<|x_mvt rfl<|x_ext rfl rfl<|x_ext rfl rfl<|x_ext rfl rfl<|xa (so rfl rfl)<|xa (ss rfl rfl)<|xa (ss rfl rfl)<|sq [q2 1 cc4 v1,q2 2 cS v2,q3 3 cc6 v0,q2 8 cc2 x29.1,q2 9 cI x29.2.1,q2 10 cB x29.2.2,q3 11 cc8 x33,q2 12 cc5 x37,q2 13 cc2 x41.1,q2 14 cI x41.2.1,q2 15 cB x41.2.2]<|
  xn<|ws<|wpC_kp<|ws<|rg<|st rfl<|mvo rfl rfl<|st rfl<|mvo rfl rfl<|bnd h fun x56 e57 h=>st rfl<|o_call (a1 (c := cc2) (tLo (tXTable tK (tLo tK) (tLo tK) tK)) rfl (a1 (c := cc2) (tLo (tXTable tK (tLo tK) (tLo tK) tK)) rfl a0)) (con_laws_eqTableS e57) (.inl (so1 sB so0))<|st rfl<|o_nt rfl<|st rfl<|mvd rfl rfl<|ite_k h (fun b58 h=>gf rfl b58<|gf rfl b58<|gf rfl b58<|st rfl<|pick1 rfl b58 (cd := cB) (v := true) rfl rfl<|st rfl<|mvd rfl rfl<|gf rfl rfl<|gf rfl rfl<|gf rfl rfl<|st rfl<|pick1 rfl rfl (cd := cB) (v := true) rfl rfl<|sq [q2 1 cc4 v1,q2 2 cS v2,q3 3 cc6 v0,q2 8 cc2 x29.1,q2 9 cI x29.2.1,q2 10 cB x29.2.2,q3 11 cc8 x33,q2 12 cc5 x37,q2 13 cc2 x41.1,q2 14 cI x41.2.1,q2 15 cB x41.2.2,q2 70 cB true]<|
  xn<|cnd1 rfl rfl<|ws<|rg<|xa (sc cB false rfl)<|sq [q2 6 cB false]<|
  xn<|wpC_ret<|rt<|rt<|re<|fin h (r1 (ss rfl rfl)<|r0) rfl)
  (fun b58 h=>gt' rfl b58<|st rfl<|mvd rfl rfl<|gt' rfl b58<|st rfl<|mvd rfl rfl<|gt' rfl b58<|st rfl<|b_neq (k := .i64) rfl rfl<|st rfl<|pick0 rfl b58 (cd := cB) (v := (decide (x41.2.1 ≠ x29.2.1))) rfl rfl<|st rfl<|mvd rfl rfl<|ite_k h (fun b59 h=>gf rfl b59<|gf rfl b59<|gf rfl b59<|st rfl<|pick1 rfl b59 (cd := cB) (v := true) rfl rfl<|sq [q2 1 cc4 v1,q2 2 cS v2,q3 3 cc6 v0,q2 8 cc2 x29.1,q2 9 cI x29.2.1,q2 10 cB x29.2.2,q3 11 cc8 x33,q2 12 cc5 x37,q2 13 cc2 x41.1,q2 14 cI x41.2.1,q2 15 cB x41.2.2,q2 70 cB true]<|
  xn<|cnd1 rfl rfl<|ws<|rg<|xa (sc cB false rfl)<|sq [q2 6 cB false]<|
  xn<|wpC_ret<|rt<|rt<|re<|fin h (r1 (ss rfl rfl)<|r0) rfl)
  (fun b59 h=>gt' rfl b59<|st rfl<|mvd rfl rfl<|gt' rfl b59<|st rfl<|mvd rfl rfl<|gt' rfl b59<|st rfl<|eqb1 rfl rfl<|st rfl<|pick0 rfl b59 (cd := cB) (v := (x41.2.2 != x29.2.2)) rfl rfl<|sq [q2 1 cc4 v1,q2 2 cS v2,q3 3 cc6 v0,q2 8 cc2 x29.1,q2 9 cI x29.2.1,q2 10 cB x29.2.2,q3 11 cc8 x33,q2 12 cc5 x37,q2 13 cc2 x41.1,q2 14 cI x41.2.1,q2 15 cB x41.2.2,q2 70 cB (x41.2.2 != x29.2.2)]<|
  xn<|cnd rfl h (fun b60 h=>ws<|rg<|xa (sc cB false rfl)<|sq [q2 6 cB false]<|
  xn<|wpC_ret<|rt<|rt<|re<|fin h (r1 (ss rfl rfl)<|r0) rfl)
  (fun b60 h=>wpC_skip<|kpN [q2 1 cc4 v1,q2 2 cS v2,q3 3 cc6 v0,q2 8 cc2 x29.1,q2 9 cI x29.2.1,q2 10 cB x29.2.2,q3 11 cc8 x33,q2 12 cc5 x37,q2 13 cc2 x41.1,q2 14 cI x41.2.1,q2 15 cB x41.2.2] (by kernel_rfl)<|xn<|ws<|wpC_kp<|ws<|drw_s<|pst rfl<|ldbo rfl rfl rfl rfl ⟨rfl,pst rfl<|ldb rfl rfl rfl rfl ⟨rfl,bndp h fun x74 e75 h=>pst rfl<|o_call (a1 (c := cc6) (tXGeo (tLs tK)) rfl a0) (con_laws_toGeo e75) (.inl (so1 (sXGeo (sLo sK)) so0)) ⟨rfl,bndp h fun x76 e77 h=>pst rfl<|o_call (a1 (c := cc8) (tXGeo (tLo tK)) rfl (a1 (c := cc8) (tXGeo (tLo tK)) rfl a0)) (con_laws_eqGeo e77) (.inl (so1 sB so0)) ⟨rfl,pst rfl<|o_nt rfl ⟨rfl,preN<|sq [q2 1 cc4 v1,q2 2 cS v2,q3 3 cc6 v0,q2 8 cc2 x29.1,q2 9 cI x29.2.1,q2 10 cB x29.2.2,q3 11 cc8 x33,q2 12 cc5 x37,q2 13 cc2 x41.1,q2 14 cI x41.2.1,q2 15 cB x41.2.2,q2 75 cB (!x76)]<|
  xn<|cnd rfl h (fun b78 h=>ws<|rg<|xa (sc cB false rfl)<|sq [q2 6 cB false]<|
  xn<|wpC_ret<|rt<|rt<|re<|fin h (r1 (ss rfl rfl)<|r0) rfl)
  (fun b78 h=>wpC_skip<|kpN [q2 1 cc4 v1,q2 2 cS v2,q3 3 cc6 v0,q2 8 cc2 x29.1,q2 9 cI x29.2.1,q2 10 cB x29.2.2,q3 11 cc8 x33,q2 12 cc5 x37,q2 13 cc2 x41.1,q2 14 cI x41.2.1,q2 15 cB x41.2.2] (by kernel_rfl)<|xn<|ws<|wpC_kp<|ws<|rg<|st rfl<|mvo rfl rfl<|st rfl<|mvd rfl rfl<|bnd h fun x92 e93 h=>st rfl<|o_call (a1 (c := cc4) (tLs (tXVariable tS tK)) rfl a0) (con_laws_toVariableS e93) (.inl (so1 (sLo (sXVariable sS sK)) so0))<|bnd h fun x94 e95 h=>st rfl<|o_call (a1 (c := cc5) (tLo (tXVariable tS tK)) rfl (a1 (c := cc5) (tLo (tXVariable tS tK)) rfl a0)) (con_laws_eqVariableS e95) (.inl (so1 sB so0))<|st rfl<|o_nt rfl<|sq [q2 1 cc4 v1,q2 2 cS v2,q3 3 cc6 v0,q2 8 cc2 x29.1,q2 9 cI x29.2.1,q2 10 cB x29.2.2,q3 11 cc8 x33,q2 12 cc5 x37,q2 13 cc2 x41.1,q2 14 cI x41.2.1,q2 15 cB x41.2.2,q2 80 cB (!x94)]<|
  xn<|cnd rfl h (fun b96 h=>ws<|rg<|xa (sc cB false rfl)<|sq [q2 6 cB false]<|
  xn<|wpC_ret<|rt<|rt<|re<|fin h (r1 (ss rfl rfl)<|r0) rfl)
  (fun b96 h=>wpC_skip<|kpN [q2 1 cc4 v1,q2 2 cS v2,q3 3 cc6 v0,q2 8 cc2 x29.1,q2 9 cI x29.2.1,q2 10 cB x29.2.2,q3 11 cc8 x33,q2 12 cc5 x37,q2 13 cc2 x41.1,q2 14 cI x41.2.1,q2 15 cB x41.2.2] (by kernel_rfl)<|xn<|ws<|rg<|xa (sc cI (1:Int) rfl)<|sq [q2 1 cc4 v1,q2 2 cS v2,q3 3 cc6 v0,q2 8 cc2 x29.1,q2 9 cI x29.2.1,q2 10 cB x29.2.2,q3 11 cc8 x33,q2 12 cc5 x37,q2 13 cc2 x41.1,q2 14 cI x41.2.1,q2 15 cB x41.2.2,q2 16 cI (1:Int)]<|
  xn<|ws<|rg<|st rfl<|ldbo rfl rfl rfl rfl<|st rfl<|mvd rfl rfl<|bnd h fun x99 e100 h=>x_clr (c := cc8) (c' := cc8) (cc8.enc x99.1) (sXGeo (sLo sK)) rfl (a1 (c := cI) tK rfl a0) rfl Ln.nil (con_laws_markGeo e100) rfl rfl (so1 sK so0)<|xa (ss rfl rfl)<|sq [q2 1 cc4 v1,q2 2 cS v2,q3 3 cc6 v0,q2 8 cc2 x29.1,q2 9 cI x29.2.1,q2 10 cB x29.2.2,q2 12 cc5 x37,q2 13 cc2 x41.1,q2 14 cI x41.2.1,q2 15 cB x41.2.2,q2 16 cI x99.2]<|
  xn<|ws<|rg<|st rfl<|mvo rfl rfl<|st rfl<|mvd rfl rfl<|bnd h fun x103 e104 h=>x_clr (c := cc5) (c' := cc5) (cc5.enc x103.1) (sLo (sXVariable sS sK)) rfl (a1 (c := cI) tK rfl a0) rfl Ln.nil (con_laws_markVariableS e104) rfl rfl (so1 sK so0)<|xa (ss rfl rfl)<|sq [q2 1 cc4 v1,q2 2 cS v2,q3 3 cc6 v0,q2 8 cc2 x29.1,q2 9 cI x29.2.1,q2 10 cB x29.2.2,q2 13 cc2 x41.1,q2 14 cI x41.2.1,q2 15 cB x41.2.2,q2 16 cI x103.2]<|
  xn<|ws<|wpC_kp<|ws<|rg<|st rfl<|mvd rfl rfl<|st rfl<|b_lss (k := .i64) rfl rfl<|st rfl<|mvd rfl rfl<|ite_k h (fun b117 h=>gf rfl b117<|gf rfl b117<|gf rfl b117<|gf rfl b117<|st rfl<|pick1 rfl b117 (cd := cB) (v := true) rfl rfl<|st rfl<|mvd rfl rfl<|gf rfl rfl<|gf rfl rfl<|gf rfl rfl<|st rfl<|pick1 rfl rfl (cd := cB) (v := true) rfl rfl<|st rfl<|mvd rfl rfl<|gf rfl rfl<|gf rfl rfl<|gf rfl rfl<|st rfl<|pick1 rfl rfl (cd := cB) (v := true) rfl rfl<|sq [q2 1 cc4 v1,q2 2 cS v2,q3 3 cc6 v0,q2 8 cc2 x29.1,q2 9 cI x29.2.1,q2 10 cB x29.2.2,q2 13 cc2 x41.1,q2 104 cB true]<|
  xn<|cnd1 rfl rfl<|ws<|rg<|xa (sc cB false rfl)<|sq [q2 6 cB false]<|
  xn<|wpC_ret<|rt<|rt<|re<|fin h (r1 (ss rfl rfl)<|r0) rfl)
  (fun b117 h=>gt' rfl b117<|st rfl<|mvo rfl rfl<|gt' rfl b117<|st rfl<|mvo rfl rfl<|gt' rfl b117<|bnd h fun x118 e119 h=>st rfl<|o_call (a1 (c := cc2) (tLo (tXTable tK (tLo tK) (tLo tK) tK)) rfl (a1 (c := cc2) (tLo (tXTable tK (tLo tK) (tLo tK) tK)) rfl a0)) (con_laws_eqTableS e119) (.inl (so1 sB so0))<|gt' rfl b117<|st rfl<|o_nt rfl<|st rfl<|pick0 rfl b117 (cd := cB) (v := (!x118)) rfl rfl<|st rfl<|mvd rfl rfl<|ite_k h (fun b120 h=>gf rfl b120<|gf rfl b120<|gf rfl b120<|st rfl<|pick1 rfl b120 (cd := cB) (v := true) rfl rfl<|st rfl<|mvd rfl rfl<|gf rfl rfl<|gf rfl rfl<|gf rfl rfl<|st rfl<|pick1 rfl rfl (cd := cB) (v := true) rfl rfl<|sq [q2 1 cc4 v1,q2 2 cS v2,q3 3 cc6 v0,q2 8 cc2 x29.1,q2 9 cI x29.2.1,q2 10 cB x29.2.2,q2 13 cc2 x41.1,q2 104 cB true]<|
  xn<|cnd1 rfl rfl<|ws<|rg<|xa (sc cB false rfl)<|sq [q2 6 cB false]<|
  xn<|wpC_ret<|rt<|rt<|re<|fin h (r1 (ss rfl rfl)<|r0) rfl)
  (fun b120 h=>gt' rfl b120<|st rfl<|mvd rfl rfl<|gt' rfl b120<|st rfl<|mvd rfl rfl<|gt' rfl b120<|st rfl<|b_neq (k := .i64) rfl rfl<|st rfl<|pick0 rfl b120 (cd := cB) (v := (decide (x41.2.1 ≠ x29.2.1))) rfl rfl<|st rfl<|mvd rfl rfl<|gt' rfl b59<|st rfl<|mvd rfl rfl<|gt' rfl b59<|st rfl<|mvd rfl rfl<|gt' rfl b59<|st rfl<|eqb1 rfl rfl<|st rfl<|pick0 rfl b59 (cd := cB) (v := (x41.2.2 != x29.2.2)) rfl rfl<|sq [q2 1 cc4 v1,q2 2 cS v2,q3 3 cc6 v0,q2 8 cc2 x29.1,q2 9 cI x29.2.1,q2 10 cB x29.2.2,q2 13 cc2 x41.1,q2 104 cB (x41.2.2 != x29.2.2)]<|
  xn<|cnd0 rfl b60<|wpC_skip<|kpN [q2 1 cc4 v1,q2 2 cS v2,q3 3 cc6 v0,q2 8 cc2 x29.1,q2 9 cI x29.2.1,q2 10 cB x29.2.2,q2 13 cc2 x41.1] (by kernel_rfl)<|xn<|ws<|rg<|xa (sc cI (1:Int) rfl)<|sq [q2 1 cc4 v1,q2 2 cS v2,q3 3 cc6 v0,q2 8 cc2 x29.1,q2 9 cI x29.2.1,q2 10 cB x29.2.2,q2 13 cc2 x41.1,q2 17 cI (1:Int)]<|
  xn<|ws<|rg<|st rfl<|mvo rfl rfl<|st rfl<|mvd rfl rfl<|bnd h fun x123 e124 h=>x_clr (c := cc2) (c' := cc2) (cc2.enc x123.1) (sLo (sXTable sK (sLo sK) (sLo sK) sK)) rfl (a1 (c := cI) tK rfl a0) rfl Ln.nil (con_laws_markTableS e124) rfl rfl (so1 sK so0)<|xa (ss rfl rfl)<|sq [q2 1 cc4 v1,q2 2 cS v2,q3 3 cc6 v0,q2 8 cc2 x29.1,q2 9 cI x29.2.1,q2 10 cB x29.2.2,q2 13 cc2 x123.1,q2 17 cI x123.2]<|
  xn<|ws<|rg<|xa (sc cI (1:Int) rfl)<|sq [q2 1 cc4 v1,q2 2 cS v2,q3 3 cc6 v0,q2 8 cc2 x29.1,q2 9 cI x29.2.1,q2 10 cB x29.2.2,q2 13 cc2 x123.1,q2 17 cI x123.2,q2 18 cI (1:Int)]<|
  xn<|ws<|rg<|st rfl<|mvo rfl rfl<|st rfl<|mvd rfl rfl<|bnd h fun x127 e128 h=>st rfl<|o_call (a1 (c := cc2) (tLo (tXTable tK (tLo tK) (tLo tK) tK)) rfl (a1 (c := cI) tK rfl a0)) (con_laws_heldTableS e128) (.inl (so1 sK so0))<|xa (ss rfl rfl)<|sq [q2 1 cc4 v1,q2 2 cS v2,q3 3 cc6 v0,q2 8 cc2 x29.1,q2 9 cI x29.2.1,q2 10 cB x29.2.2,q2 13 cc2 x123.1,q2 17 cI x123.2,q2 18 cI x127]<|
  xn<|ws<|wpC_kp<|ws<|rg<|st rfl<|mvd rfl rfl<|st rfl<|b_lss (k := .i64) rfl rfl<|sq [q2 1 cc4 v1,q2 2 cS v2,q3 3 cc6 v0,q2 8 cc2 x29.1,q2 9 cI x29.2.1,q2 10 cB x29.2.2,q2 13 cc2 x123.1,q2 17 cI x123.2,q2 18 cI x127,q2 112 cB (decide (x127 < (0:Int)))]<|
  xn<|cnd rfl h (fun b130 h=>ws<|rg<|xa (sc cB false rfl)<|sq [q2 6 cB false]<|
  xn<|wpC_ret<|rt<|rt<|re<|fin h (r1 (ss rfl rfl)<|r0) rfl)
  (fun b130 h=>wpC_skip<|kpN [q2 1 cc4 v1,q2 2 cS v2,q3 3 cc6 v0,q2 8 cc2 x29.1,q2 9 cI x29.2.1,q2 10 cB x29.2.2,q2 13 cc2 x123.1,q2 17 cI x123.2,q2 18 cI x127] (by kernel_rfl)<|xn<|ws<|wpC_kp<|ws<|rg<|st rfl<|mvd rfl rfl<|st rfl<|mvd rfl rfl<|st rfl<|b_neq (k := .i64) rfl rfl<|sq [q2 1 cc4 v1,q2 2 cS v2,q3 3 cc6 v0,q2 8 cc2 x29.1,q2 9 cI x29.2.1,q2 10 cB x29.2.2,q2 13 cc2 x123.1,q2 17 cI x123.2,q2 115 cB (decide (x127 ≠ x123.2))]<|
  xn<|cnd rfl h (fun b132 h=>ws<|rg<|xa (sc cB false rfl)<|sq [q2 6 cB false]<|
  xn<|wpC_ret<|rt<|rt<|re<|fin h (r1 (ss rfl rfl)<|r0) rfl)
  (fun b132 h=>wpC_skip<|kpN [q2 1 cc4 v1,q2 2 cS v2,q3 3 cc6 v0,q2 8 cc2 x29.1,q2 9 cI x29.2.1,q2 10 cB x29.2.2,q2 13 cc2 x123.1,q2 17 cI x123.2] (by kernel_rfl)<|xn<|ws<|rg<|st rfl<|ldb rfl rfl rfl rfl<|bnd h fun x139 e140 h=>st rfl<|o_call (a1 (c := cc6) (tXGeo (tLs tK)) rfl a0) (con_laws_toGeo e140) (.inl (so1 (sXGeo (sLo sK)) so0))<|st rfl<|mvd rfl rfl<|bnd h fun x141 e142 h=>st rfl<|o_call (a1 (c := cc4) (tLs (tXVariable tS tK)) rfl a0) (con_laws_toVariableS e142) (.inl (so1 (sLo (sXVariable sS sK)) so0))<|st rfl<|mvd rfl rfl<|bnd h fun x143 e144 h=>st rfl<|o_call (a1 (c := cc8) (tXGeo (tLo tK)) rfl (a1 (c := cc5) (tLo (tXVariable tS tK)) rfl (a1 (c := cS) tS rfl a0))) (con_impl_ParsePlan e144) (.inl (so1 (sLo (sXTable sK (sLo sK) (sLo sK) sK)) (so1 sK (so1 sB so0))))<|x_mvt rfl<|x_ext rfl rfl<|x_ext rfl rfl<|x_ext rfl rfl<|xa (so rfl rfl)<|xa (ss rfl rfl)<|xa (ss rfl rfl)<|sq [q2 8 cc2 x29.1,q2 9 cI x29.2.1,q2 10 cB x29.2.2,q2 13 cc2 x123.1,q2 17 cI x123.2,q2 19 cc2 x143.1,q2 20 cI x143.2.1,q2 21 cB x143.2.2]<|
  xn<|ws<|wpC_kp<|ws<|rg<|st rfl<|mvo rfl rfl<|st rfl<|mvo rfl rfl<|bnd h fun x158 e159 h=>st rfl<|o_call (a1 (c := cc2) (tLo (tXTable tK (tLo tK) (tLo tK) tK)) rfl (a1 (c := cc2) (tLo (tXTable tK (tLo tK) (tLo tK) tK)) rfl a0)) (con_laws_eqTableS e159) (.inl (so1 sB so0))<|st rfl<|o_nt rfl<|st rfl<|mvd rfl rfl<|ite_k h (fun b160 h=>gf rfl b160<|gf rfl b160<|gf rfl b160<|st rfl<|pick1 rfl b160 (cd := cB) (v := true) rfl rfl<|st rfl<|mvd rfl rfl<|gf rfl rfl<|gf rfl rfl<|gf rfl rfl<|st rfl<|pick1 rfl rfl (cd := cB) (v := true) rfl rfl<|sq [q2 13 cc2 x123.1,q2 17 cI x123.2,q2 139 cB true]<|
  xn<|cnd1 rfl rfl<|ws<|rg<|xa (sc cB false rfl)<|sq [q2 6 cB false]<|
  xn<|wpC_ret<|rt<|rt<|re<|fin h (r1 (ss rfl rfl)<|r0) rfl)
  (fun b160 h=>gt' rfl b160<|st rfl<|mvd rfl rfl<|gt' rfl b160<|st rfl<|mvd rfl rfl<|gt' rfl b160<|st rfl<|b_neq (k := .i64) rfl rfl<|st rfl<|pick0 rfl b160 (cd := cB) (v := (decide (x143.2.1 ≠ x29.2.1))) rfl rfl<|st rfl<|mvd rfl rfl<|ite_k h (fun b161 h=>gf rfl b161<|gf rfl b161<|gf rfl b161<|st rfl<|pick1 rfl b161 (cd := cB) (v := true) rfl rfl<|sq [q2 13 cc2 x123.1,q2 17 cI x123.2,q2 139 cB true]<|
  xn<|cnd1 rfl rfl<|ws<|rg<|xa (sc cB false rfl)<|sq [q2 6 cB false]<|
  xn<|wpC_ret<|rt<|rt<|re<|fin h (r1 (ss rfl rfl)<|r0) rfl)
  (fun b161 h=>gt' rfl b161<|st rfl<|mvd rfl rfl<|gt' rfl b161<|st rfl<|mvd rfl rfl<|gt' rfl b161<|st rfl<|eqb1 rfl rfl<|st rfl<|pick0 rfl b161 (cd := cB) (v := (x143.2.2 != x29.2.2)) rfl rfl<|sq [q2 13 cc2 x123.1,q2 17 cI x123.2,q2 139 cB (x143.2.2 != x29.2.2)]<|
  xn<|cnd rfl h (fun b162 h=>ws<|rg<|xa (sc cB false rfl)<|sq [q2 6 cB false]<|
  xn<|wpC_ret<|rt<|rt<|re<|fin h (r1 (ss rfl rfl)<|r0) rfl)
  (fun b162 h=>wpC_skip<|kpN [q2 13 cc2 x123.1,q2 17 cI x123.2] (by kernel_rfl)<|xn<|ws<|rg<|xa (sc cI (1:Int) rfl)<|sq [q2 13 cc2 x123.1,q2 17 cI x123.2,q2 18 cI (1:Int)]<|
  xn<|ws<|rg<|st rfl<|mvo rfl rfl<|st rfl<|mvd rfl rfl<|bnd h fun x165 e166 h=>st rfl<|o_call (a1 (c := cc2) (tLo (tXTable tK (tLo tK) (tLo tK) tK)) rfl (a1 (c := cI) tK rfl a0)) (con_laws_heldTableS e166) (.inl (so1 sK so0))<|xa (ss rfl rfl)<|sq [q2 17 cI x123.2,q2 18 cI x165]<|
  xn<|ws<|wpC_kp<|ws<|rg<|st rfl<|mvd rfl rfl<|st rfl<|b_lss (k := .i64) rfl rfl<|sq [q2 17 cI x123.2,q2 18 cI x165,q2 144 cB (decide (x165 < (0:Int)))]<|
  xn<|cnd rfl h (fun b168 h=>ws<|rg<|xa (sc cB false rfl)<|sq [q2 6 cB false]<|
  xn<|wpC_ret<|rt<|rt<|re<|fin h (r1 (ss rfl rfl)<|r0) rfl)
  (fun b168 h=>wpC_skip<|kpN [q2 17 cI x123.2,q2 18 cI x165] (by kernel_rfl)<|xn<|ws<|wpC_kp<|ws<|rg<|st rfl<|mvd rfl rfl<|st rfl<|mvd rfl rfl<|st rfl<|b_neq (k := .i64) rfl rfl<|sq [q2 147 cB (decide (x165 ≠ x123.2))]<|
  xn<|cnd rfl h (fun b170 h=>ws<|rg<|xa (sc cB false rfl)<|sq [q2 6 cB false]<|
  xn<|wpC_ret<|rt<|rt<|re<|fin h (r1 (ss rfl rfl)<|r0) rfl)
  (fun b170 h=>wpC_skip<|kpN [] (by kernel_rfl)<|xn<|ws<|rg<|xa (sc cB true rfl)<|sq [q2 6 cB true]<|
  xn<|wpC_ret<|re<|fin h (r1 (ss rfl rfl)<|r0) rfl)))))))))))⟩⟩⟩⟩⟩))))))
end AS.W
