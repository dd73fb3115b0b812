/- The program computes the plain functions. No condition. -/
import Derived.Test.YtpllepipjbiefaaGreatDoorQParsePlanS
import Derived.Test.YtpllepipjbiefaaGreatDoorProg
import Derived.Test.YtpllepipjbiefaaGreatDoorQParsePlanX
import Derived.Test.YtpllepipjbiefaaGreatDoorQParsePlanL1
set_option maxRecDepth 100000
set_option linter.unusedVariables false
set_option linter.unusedSimpArgs false
namespace AS.W
open Go Go.Proofs
def rs_impl_readNatural (r:(Int × (List UInt8) × Bool)):List D := [cI.enc r.1,cS.enc r.2.1,cB.enc r.2.2]
def m92:MC := .seq (.reg [q1 4 (.asg (.c (.int .i64 0))),q1 5 (.asg (.c (.str []))),q1 6 (.asg (.c (.bool false)))] [0,1])
 (.seq (.reg [q1 7 (.asg (.c (.int .i64 0))),q1 8 (.asg (.c (.int .i64 0)))] [0,1,7,8])
 (.seq (.kp [0,7,8] (.blk 0 (.loop (.kp [0,1,7,8] (.seq (.kp [0,1,7,8] (.seq (.reg [q1 9 (.mv (.t 8)),q1 10 (.mv (.t 0)),q1 11 (.len true (.t 10)),q1 12 (.bin .lss (.t 9) (.t 11)),q1 13 (.mv (.t 12)),
  ⟨some 14,.mv (.t 0),some (13,true)⟩,
  ⟨some 15,.mv (.t 8),some (13,true)⟩,
  ⟨some 16,.ix (.t 14) (.t 15),some (13,true)⟩,
  ⟨some 17,.bin .geq (.t 16) (.c (.int .u8 48)),some (13,true)⟩,q1 18 (.pick (.t 13) (.t 17) (.c (.bool false))),q1 19 (.mv (.t 18)),
  ⟨some 20,.mv (.t 0),some (19,true)⟩,
  ⟨some 21,.mv (.t 8),some (19,true)⟩,
  ⟨some 22,.ix (.t 20) (.t 21),some (19,true)⟩,
  ⟨some 23,.bin .leq (.t 22) (.c (.int .u8 57)),some (19,true)⟩,q1 24 (.pick (.t 19) (.t 23) (.c (.bool false)))] [0,1,7,8,24])
 (.cond (.t 24) (.skip) (.exit 0))))
 (.blk 1 (.seq (.kp [0,1,7,8] (.seq (.reg [q1 25 (.mv (.t 8)),q1 26 (.bin .gtr (.t 25) (.c (.int .i64 0))),q1 27 (.mv (.t 26)),
  ⟨some 28,.mv (.t 7),some (27,true)⟩,
  ⟨some 29,.bin .eql (.t 28) (.c (.int .i64 0)),some (27,true)⟩,q1 30 (.pick (.t 27) (.t 29) (.c (.bool false)))] [0,1,7,8,30])
 (.cond (.t 30) (.seq (.reg [q1 4 (.asg (.c (.int .i64 0))),q1 5 (.asg (.c (.str []))),q1 6 (.asg (.c (.bool false)))] [4,5,6])
 (.ret)) (.skip))))
 (.seq (.reg [q1 31 (.mv (.t 7)),q1 32 (.bin .mul (.t 31) (.c (.int .i64 10))),q1 33 (.mv (.t 0)),q1 34 (.mv (.t 8)),q1 35 (.ix (.t 33) (.t 34)),q1 36 (.bin .sub (.t 35) (.c (.int .u8 48))),q1 37 (.cvi .i64 (.t 36)),q1 38 (.bin .add (.t 32) (.t 37)),q1 7 (.asg (.t 38))] [0,1,7,8])
 (.seq (.kp [0,1,7,8] (.seq (.reg [q1 39 (.mv (.t 7)),q1 40 (.mv (.t 1)),q1 41 (.bin .gtr (.t 39) (.t 40))] [0,1,7,8,41])
 (.cond (.t 41) (.seq (.reg [q1 4 (.asg (.c (.int .i64 0))),q1 5 (.asg (.c (.str []))),q1 6 (.asg (.c (.bool false)))] [4,5,6])
 (.ret)) (.skip))))
 (.reg [q1 42 (.mv (.t 8)),q1 43 (.bin .add (.t 42) (.c (.int .i64 1))),q1 8 (.asg (.t 43))] [0,1,7,8]))))))))))
 (.seq (.kp [0,7,8] (.seq (.reg [q1 44 (.mv (.t 8)),q1 45 (.bin .eql (.t 44) (.c (.int .i64 0)))] [0,7,8,45])
 (.cond (.t 45) (.seq (.reg [q1 4 (.asg (.c (.int .i64 0))),q1 5 (.asg (.c (.str []))),q1 6 (.asg (.c (.bool false)))] [4,5,6])
 (.ret)) (.skip))))
 (.seq (.drw [⟨0,q1 46 (.mv (.t 7)),[4,5,6,47,48,49]⟩,
  ⟨1,q1 47 (.mv (.t 0)),[4,5,6,46,48,49]⟩,
  ⟨2,q1 48 (.mv (.t 8)),[4,5,6,46,47,49]⟩,
  ⟨3,q1 49 (.sls (.t 47) (some (.t 48)) none),[4,5,6,46]⟩,
  ⟨4,q1 4 (.mv (.t 46)),[5,6,47,48,49]⟩,
  ⟨5,q1 5 (.mv (.t 49)),[6]⟩,
  ⟨6,q1 6 (.mv (.c (.bool true))),[]⟩]
  [] [4,5,6])
 (.ret)))))
theorem con_impl_readNatural {v0:(List UInt8)} {v1:Int} {r:(Int × (List UInt8) × Bool)} (h:sh_impl_readNatural v0 v1 = some r):Con Tryz.prog 92 [cS.enc v0,cI.enc v1] [] (rs_impl_readNatural r) := by
 delta sh_impl_readNatural at h
 refine top (out := none) (f := Tryz.f92) (m := m92) (rs := [.t 4,.t 5,.t 6]) (by kernel_rfl) rfl (by kernel_rfl) (by kernel_rfl) (by kernel_rfl) (by kernel_rfl) (by kernel_rfl) ?_
 exact
  ini [q2 0 cS v0,q2 1 cI v1] rfl<|ws<|rg<|xa (sc cI (0:Int) rfl)<|xa (sc cS ([]:List UInt8) rfl)<|xa (sc cB false rfl)<|sq [q2 0 cS v0,q2 1 cI v1]<|
  xn<|ws<|rg<|xa (sc cI (0:Int) rfl)<|xa (sc cI (0:Int) rfl)<|sq [q2 0 cS v0,q2 1 cI v1,q2 7 cI (0:Int),q2 8 cI (0:Int)]<|
  xn<|sqj (fun (s147:(Int × Int))=>[q2 0 cS v0,q2 7 cI s147.1,q2 8 cI s147.2]) h (fun s147 h=>ws<|wpC_kp<|ws<|rg<|st rfl<|mvd rfl rfl<|st rfl<|b_eql (k := .i64) rfl rfl<|sq [q2 0 cS v0,q2 7 cI s147.1,q2 8 cI s147.2,q2 45 cB (decide (s147.2 = (0:Int)))]<|
  xn<|cnd rfl h (fun b151 h=>ws<|rg<|xa (sc cI (0:Int) rfl)<|xa (sc cS ([]:List UInt8) rfl)<|xa (sc cB false rfl)<|sq [q2 4 cI (0:Int),q2 5 cS ([]:List UInt8),q2 6 cB false]<|
  xn<|wpC_ret<|rt<|rt<|re<|fin h (r1 (ss rfl rfl)<|r1 (ss rfl rfl)<|r1 (ss rfl rfl)<|r0) rfl)
  (fun b151 h=>wpC_skip<|kpN [q2 0 cS v0,q2 7 cI s147.1,q2 8 cI s147.2] (by kernel_rfl)<|xn<|ws<|drw_s<|pst rfl<|mvd rfl rfl ⟨rfl,pst rfl<|mvd rfl rfl ⟨rfl,pst rfl<|mvd rfl rfl ⟨rfl,ck_kp h fun i153 h=>pst rfl<|o_sls rfl (lo1 (k := .i64) rfl i153.1) hi0 i153.2 ⟨rfl,pst rfl<|mvd rfl rfl ⟨rfl,pst rfl<|mvd rfl rfl ⟨rfl,pst rfl<|mvc cB true rfl ⟨rfl,preN<|sq [q2 4 cI s147.1,q2 5 cS ((v0.take v0.length).drop (s147.2).toNat),q2 6 cB true]<|
  xn<|wpC_ret<|re<|fin h (r1 (ss rfl rfl)<|r1 (ss rfl rfl)<|r1 (ss rfl rfl)<|r0) rfl⟩⟩⟩⟩⟩⟩⟩))
  fun m149 h=>wpC_kp<|wpC_blk<|lpF (fun (s154:(Int × Int))=>[q2 0 cS v0,q2 1 cI v1,q2 7 cI s154.1,q2 8 cI s154.2]) ((0:Int),(0:Int)) rfl h
  fun G253 nx251 s154 hn252 h=>wpC_kp<|ws<|wpC_kp<|ws<|rg<|st rfl<|mvd rfl rfl<|st rfl<|mvd rfl rfl<|stw rfl<|lent rfl fun l273=>st rfl<|b_lss (k := .i64) rfl rfl<|st rfl<|mvd rfl rfl<|ite_k h (fun b274 h=>gt' rfl b274<|st rfl<|mvd rfl rfl<|gt' rfl b274<|st rfl<|mvd rfl rfl<|gt' rfl b274<|getO_k h fun x275 i276 g277 h=>st rfl<|o_ix (k := .i64) rfl rfl i276 g277<|gt' rfl b274<|st rfl<|b_geq (k := .u8) rfl rfl<|st rfl<|pick1 rfl b274 (cd := cB) (v := (decide ((48:Int) ≤ (x275.toNat:Int)))) rfl rfl<|st rfl<|mvd rfl rfl<|ite_k h (fun b278 h=>gt' rfl b278<|st rfl<|mvd rfl rfl<|gt' rfl b278<|st rfl<|mvd rfl rfl<|gt' rfl b278<|st rfl<|o_ix (k := .i64) rfl rfl i276 g277<|gt' rfl b278<|st rfl<|b_leq (k := .u8) rfl rfl<|st rfl<|pick1 rfl b278 (cd := cB) (v := (decide ((x275.toNat:Int) ≤ (57:Int)))) rfl rfl<|sq [q2 0 cS v0,q2 1 cI v1,q2 7 cI s154.1,q2 8 cI s154.2,q2 24 cB (decide ((x275.toNat:Int) ≤ (57:Int)))]<|
  xn<|cnd rfl h (fun b279 h=>wpC_skip<|kpN [q2 0 cS v0,q2 1 cI v1,q2 7 cI s154.1,q2 8 cI s154.2] (by kernel_rfl)<|xn<|wpC_blk<|sqj (fun (s283:Unit)=>[q2 0 cS v0,q2 1 cI v1,q2 7 cI s154.1,q2 8 cI s154.2]) h (fun s283 h=>ws<|rg<|st rfl<|mvd rfl rfl<|ckI_k h fun i290 h=>st rfl<|b_mul (k := .i64) rfl rfl i290<|st rfl<|mvd rfl rfl<|st rfl<|mvd rfl rfl<|st rfl<|o_ix (k := .i64) rfl rfl i276 g277<|ckU_k h fun i291 h=>st rfl<|b_sub (k := .u8) rfl rfl i291<|ckI_k h fun i292 h=>st rfl<|o_cvi (k := .u8) (k' := .i64) rfl i292<|ckI_k h fun i293 h=>st rfl<|b_add (k := .i64) rfl rfl i293<|xa (ss rfl rfl)<|sq [q2 0 cS v0,q2 1 cI v1,q2 7 cI ((s154.1 * (10:Int)) + ((x275.toNat:Int) - (48:Int))),q2 8 cI s154.2]<|
  xn<|ws<|wpC_kp<|ws<|rg<|st rfl<|mvd rfl rfl<|st rfl<|mvd rfl rfl<|st rfl<|b_gtr (k := .i64) rfl rfl<|sq [q2 0 cS v0,q2 1 cI v1,q2 7 cI ((s154.1 * (10:Int)) + ((x275.toNat:Int) - (48:Int))),q2 8 cI s154.2,q2 41 cB (decide (v1 < ((s154.1 * (10:Int)) + ((x275.toNat:Int) - (48:Int)))))]<|
  xn<|cnd rfl h (fun b295 h=>ws<|rg<|xa (sc cI (0:Int) rfl)<|xa (sc cS ([]:List UInt8) rfl)<|xa (sc cB false rfl)<|sq [q2 4 cI (0:Int),q2 5 cS ([]:List UInt8),q2 6 cB false]<|
  xn<|wpC_ret<|rt<|rt<|rb<|rt<|rt<|rb<|rt<|rt<|re<|fin h (r1 (ss rfl rfl)<|r1 (ss rfl rfl)<|r1 (ss rfl rfl)<|r0) rfl)
  (fun b295 h=>wpC_skip<|kpN [q2 0 cS v0,q2 1 cI v1,q2 7 cI ((s154.1 * (10:Int)) + ((x275.toNat:Int) - (48:Int))),q2 8 cI s154.2] (by kernel_rfl)<|xn<|rg<|st rfl<|mvd rfl rfl<|ckI_k h fun i296 h=>st rfl<|b_add (k := .i64) rfl rfl i296<|xa (ss rfl rfl)<|sq [q2 0 cS v0,q2 1 cI v1,q2 7 cI ((s154.1 * (10:Int)) + ((x275.toNat:Int) - (48:Int))),q2 8 cI (s154.2 + (1:Int))]<|
  xbb<|kpN [q2 0 cS v0,q2 1 cI v1,q2 7 cI ((s154.1 * (10:Int)) + ((x275.toNat:Int) - (48:Int))),q2 8 cI (s154.2 + (1:Int))] (by kernel_rfl)<|xn<|hn252 (((s154.1 * (10:Int)) + ((x275.toNat:Int) - (48:Int))),(s154.2 + (1:Int))) h))
  fun m285 h=>wpC_kp<|ws<|rg<|st rfl<|mvd rfl rfl<|st rfl<|b_gtr (k := .i64) rfl rfl<|st rfl<|mvd rfl rfl<|ite_k h (fun b298 h=>gt' rfl b298<|st rfl<|mvd rfl rfl<|gt' rfl b298<|st rfl<|b_eql (k := .i64) rfl rfl<|st rfl<|pick1 rfl b298 (cd := cB) (v := (decide (s154.1 = (0:Int)))) rfl rfl<|sq [q2 0 cS v0,q2 1 cI v1,q2 7 cI s154.1,q2 8 cI s154.2,q2 30 cB (decide (s154.1 = (0:Int)))]<|
  xn<|cnd rfl h (fun b299 h=>ws<|rg<|xa (sc cI (0:Int) rfl)<|xa (sc cS ([]:List UInt8) rfl)<|xa (sc cB false rfl)<|sq [q2 4 cI (0:Int),q2 5 cS ([]:List UInt8),q2 6 cB false]<|
  xn<|wpC_ret<|rt<|rt<|rb<|rt<|rt<|rb<|rt<|rt<|re<|fin h (r1 (ss rfl rfl)<|r1 (ss rfl rfl)<|r1 (ss rfl rfl)<|r0) rfl)
  (fun b299 h=>wpC_skip<|kpN [q2 0 cS v0,q2 1 cI v1,q2 7 cI s154.1,q2 8 cI s154.2] (by kernel_rfl)<|m285 () h))
  (fun b298 h=>gf rfl b298<|gf rfl b298<|st rfl<|pick0 rfl b298 (cd := cB) (v := false) rfl rfl<|sq [q2 0 cS v0,q2 1 cI v1,q2 7 cI s154.1,q2 8 cI s154.2,q2 30 cB false]<|
  xn<|cnd0 rfl rfl<|wpC_skip<|kpN [q2 0 cS v0,q2 1 cI v1,q2 7 cI s154.1,q2 8 cI s154.2] (by kernel_rfl)<|m285 () h))
  (fun b279 h=>wpC_exit<|xt<|xt<|xt<|xt<|xb<|kpN [q2 0 cS v0,q2 7 cI s154.1,q2 8 cI s154.2] (by kernel_rfl)<|m149 (s154.1,s154.2) h))
  (fun b278 h=>gf rfl b278<|gf rfl b278<|gf rfl b278<|gf rfl b278<|st rfl<|pick0 rfl b278 (cd := cB) (v := false) rfl rfl<|sq [q2 0 cS v0,q2 1 cI v1,q2 7 cI s154.1,q2 8 cI s154.2,q2 24 cB false]<|
  xn<|cnd0 rfl rfl<|wpC_exit<|xt<|xt<|xt<|xt<|xb<|kpN [q2 0 cS v0,q2 7 cI s154.1,q2 8 cI s154.2] (by kernel_rfl)<|m149 (s154.1,s154.2) h))
  (fun b274 h=>gf rfl b274<|gf rfl b274<|gf rfl b274<|gf rfl b274<|st rfl<|pick0 rfl b274 (cd := cB) (v := false) rfl rfl<|st rfl<|mvd rfl rfl<|gf rfl rfl<|gf rfl rfl<|gf rfl rfl<|gf rfl rfl<|st rfl<|pick0 rfl rfl (cd := cB) (v := false) rfl rfl<|sq [q2 0 cS v0,q2 1 cI v1,q2 7 cI s154.1,q2 8 cI s154.2,q2 24 cB false]<|
  xn<|cnd0 rfl rfl<|wpC_exit<|xt<|xt<|xt<|xt<|xb<|kpN [q2 0 cS v0,q2 7 cI s154.1,q2 8 cI s154.2] (by kernel_rfl)<|m149 (s154.1,s154.2) h)

def rs_impl_wholeNatural (r:(Int × Bool)):List D := [cI.enc r.1,cB.enc r.2]
def m75:MC := .seq (.reg [q1 4 (.asg (.c (.int .i64 0))),q1 5 (.asg (.c (.bool false)))] [0,1])
 (.seq (.reg [q1 10 (.mv (.t 0)),q1 11 (.mv (.t 1)),q1 12 (.call 92 [(.t 10),(.t 11)]),q1 9 (.mvt 12),q1 13 (.ext 9 0),q1 14 (.ext 9 1),q1 15 (.ext 9 2),q1 6 (.asg (.t 13)),q1 7 (.asg (.t 14)),q1 8 (.asg (.t 15))] [6,7,8])
 (.seq (.kp [6] (.seq (.reg [q1 16 (.mv (.t 8)),q1 17 (.nt (.t 16)),q1 18 (.mv (.t 17)),
  ⟨some 19,.mv (.t 7),some (18,false)⟩,
  ⟨some 20,.bin .neq (.t 19) (.c (.str [])),some (18,false)⟩,q1 21 (.pick (.t 18) (.c (.bool true)) (.t 20))] [6,21])
 (.cond (.t 21) (.seq (.reg [q1 4 (.asg (.c (.int .i64 0))),q1 5 (.asg (.c (.bool false)))] [4,5])
 (.ret)) (.skip))))
 (.seq (.reg [q1 22 (.mv (.t 6)),q1 4 (.asg (.t 22)),q1 5 (.asg (.c (.bool true)))] [4,5])
 (.ret))))
theorem con_impl_wholeNatural {v0:(List UInt8)} {v1:Int} {r:(Int × Bool)} (h:sh_impl_wholeNatural v0 v1 = some r):Con Tryz.prog 75 [cS.enc v0,cI.enc v1] [] (rs_impl_wholeNatural r) := by
 delta sh_impl_wholeNatural at h
 refine top (out := none) (f := Tryz.f75) (m := m75) (rs := [.t 4,.t 5]) (by kernel_rfl) rfl (by kernel_rfl) (by kernel_rfl) (by kernel_rfl) (by kernel_rfl) (by kernel_rfl) ?_
 exact
  ini [q2 0 cS v0,q2 1 cI v1] rfl<|ws<|rg<|xa (sc cI (0:Int) rfl)<|xa (sc cB false rfl)<|sq [q2 0 cS v0,q2 1 cI v1]<|
  xn<|ws<|rg<|st rfl<|mvd rfl rfl<|st rfl<|mvd rfl rfl<|bnd h fun x3 e4 h=>st rfl<|o_call (a1 (c := cS) tS rfl (a1 (c := cI) tK rfl a0)) (con_impl_readNatural e4) (.inl (so1 sK (so1 sS (so1 sB so0))))<|x_mvt rfl<|x_ext rfl rfl<|x_ext rfl rfl<|x_ext rfl rfl<|xa (ss rfl rfl)<|xa (ss rfl rfl)<|xa (ss rfl rfl)<|sq [q2 6 cI x3.1,q2 7 cS x3.2.1,q2 8 cB x3.2.2]<|
  xn<|ws<|wpC_kp<|ws<|rg<|st rfl<|mvd rfl rfl<|st rfl<|o_nt rfl<|st rfl<|mvd rfl rfl<|ite_k h (fun b9 h=>gf rfl b9<|gf rfl b9<|st rfl<|pick1 rfl b9 (cd := cB) (v := true) rfl rfl<|sq [q2 6 cI x3.1,q2 21 cB true]<|
  xn<|cnd1 rfl rfl<|ws<|rg<|xa (sc cI (0:Int) rfl)<|xa (sc cB false rfl)<|sq [q2 4 cI (0:Int),q2 5 cB false]<|
  xn<|wpC_ret<|rt<|rt<|re<|fin h (r1 (ss rfl rfl)<|r1 (ss rfl rfl)<|r0) rfl)
  (fun b9 h=>gt' rfl b9<|st rfl<|mvd rfl rfl<|gt' rfl b9<|st rfl<|b_sne rfl rfl<|st rfl<|pick0 rfl b9 (cd := cB) (v := (decide (x3.2.1 ≠ ([]:List UInt8)))) rfl rfl<|sq [q2 6 cI x3.1,q2 21 cB (decide (x3.2.1 ≠ ([]:List UInt8)))]<|
  xn<|cnd rfl h (fun b10 h=>ws<|rg<|xa (sc cI (0:Int) rfl)<|xa (sc cB false rfl)<|sq [q2 4 cI (0:Int),q2 5 cB false]<|
  xn<|wpC_ret<|rt<|rt<|re<|fin h (r1 (ss rfl rfl)<|r1 (ss rfl rfl)<|r0) rfl)
  (fun b10 h=>wpC_skip<|kpN [q2 6 cI x3.1] (by kernel_rfl)<|xn<|ws<|rg<|st rfl<|mvd rfl rfl<|xa (ss rfl rfl)<|xa (sc cB true rfl)<|sq [q2 4 cI x3.1,q2 5 cB true]<|
  xn<|wpC_ret<|re<|fin h (r1 (ss rfl rfl)<|r1 (ss rfl rfl)<|r0) rfl))

def rs_impl_wholeNaturalIf (r:(Int × Bool)):List D := [cI.enc r.1,cB.enc r.2]
def m50:MC := .seq (.reg [q1 6 (.asg (.c (.int .i64 0))),q1 7 (.asg (.c (.bool false)))] [0,1,2])
 (.seq (.reg [q1 11 (.mv (.t 1)),q1 12 (.mv (.t 2)),q1 13 (.call 75 [(.t 11),(.t 12)]),q1 10 (.mvt 13),q1 14 (.ext 10 0),q1 15 (.ext 10 1),q1 8 (.asg (.t 14)),q1 9 (.asg (.t 15))] [0,8,9])
 (.seq (.reg [q1 16 (.mv (.t 8)),q1 17 (.mv (.t 0)),q1 18 (.mv (.t 17)),
  ⟨some 19,.mv (.t 9),some (18,true)⟩,q1 20 (.pick (.t 18) (.t 19) (.c (.bool false))),q1 6 (.asg (.t 16)),q1 7 (.asg (.t 20))] [6,7])
 (.ret)))
theorem con_impl_wholeNaturalIf {v0:Bool} {v1:(List UInt8)} {v2:Int} {r:(Int × Bool)} (h:sh_impl_wholeNaturalIf v0 v1 v2 = some r):Con Tryz.prog 50 [cB.enc v0,cS.enc v1,cI.enc v2] [] (rs_impl_wholeNaturalIf r) := by
 delta sh_impl_wholeNaturalIf at h
 refine top (out := none) (f := Tryz.f50) (m := m50) (rs := [.t 6,.t 7]) (by kernel_rfl) rfl (by kernel_rfl) (by kernel_rfl) (by kernel_rfl) (by kernel_rfl) (by kernel_rfl) ?_
 exact
  ini [q2 0 cB v0,q2 1 cS v1,q2 2 cI v2] rfl<|ws<|rg<|xa (sc cI (0:Int) rfl)<|xa (sc cB false rfl)<|sq [q2 0 cB v0,q2 1 cS v1,q2 2 cI v2]<|
  xn<|ws<|rg<|st rfl<|mvd rfl rfl<|st rfl<|mvd rfl rfl<|bnd h fun x3 e4 h=>st rfl<|o_call (a1 (c := cS) tS rfl (a1 (c := cI) tK rfl a0)) (con_impl_wholeNatural e4) (.inl (so1 sK (so1 sB so0)))<|x_mvt rfl<|x_ext rfl rfl<|x_ext rfl rfl<|xa (ss rfl rfl)<|xa (ss rfl rfl)<|sq [q2 0 cB v0,q2 8 cI x3.1,q2 9 cB x3.2]<|
  xn<|ws<|rg<|st rfl<|mvd rfl rfl<|st rfl<|mvd rfl rfl<|st rfl<|mvd rfl rfl<|ite_k h (fun b6 h=>gt' rfl b6<|st rfl<|mvd rfl rfl<|st rfl<|pick1 rfl b6 (cd := cB) (v := x3.2) rfl rfl<|xa (ss rfl rfl)<|xa (ss rfl rfl)<|sq [q2 6 cI x3.1,q2 7 cB x3.2]<|
  xn<|wpC_ret<|re<|fin h (r1 (ss rfl rfl)<|r1 (ss rfl rfl)<|r0) rfl)
  (fun b6 h=>gf rfl b6<|st rfl<|pick0 rfl b6 (cd := cB) (v := false) rfl rfl<|xa (ss rfl rfl)<|xa (ss rfl rfl)<|sq [q2 6 cI x3.1,q2 7 cB false]<|
  xn<|wpC_ret<|re<|fin h (r1 (ss rfl rfl)<|r1 (ss rfl rfl)<|r0) rfl)

def rs_stringslite_Index (r : Int) : List D := [cI.enc r]
theorem ixB_eq (c : UInt8) : ∀ l : List UInt8, sh_ixB c l = Go.Lib.indexByte l c
  | [] => rfl
  | b :: l => by
    simp only [sh_ixB, Go.Lib.indexByte, ixB_eq c l]
    by_cases h : b = c
    · simp [h]
    · have : (b == c) = false := by simpa using h
      simp only [h, this, if_false, Bool.false_eq_true, beq_iff_eq]
theorem con_stringslite_Index {v0 : (List UInt8)} {v1 : (List UInt8)} {r : Int} (h : sh_stringslite_Index v0 v1 = some r) : Con Tryz.prog 85 [cS.enc v0, cS.enc v1] [] (rs_stringslite_Index r) := by
  unfold sh_stringslite_Index at h
  split at h
  · rename_i c
    cases h
    refine ⟨⟨Tryz.f85, _, Tryz.func85, rfl, by kernel_rfl⟩, ?_⟩
    intro w Z vs F hrep h1 h2 h3
    obtain ⟨x, vs2, f1, f2, rfl, e1, r1, y, vs3, f3, f4, rfl, e2, r2, rfl, e4⟩ := hrep
    obtain ⟨rfl, hl1, _⟩ := RepV.str r1
    obtain ⟨rfl, hl2, _⟩ := RepV.str r2
    refine (Tryz.stringslite_Index_one ⟨v0.toArray⟩ c w).mono ?_
    rintro e w' ⟨rfl, rfl⟩
    refine ⟨_, Z, fun _ => 0, fun _ => 0, rfl, ret_below ?_ (Go.RowKit.Below.refl _ _)⟩
    rw [ixB_eq]
    exact ⟨rfl, by simp [cI, cK, RepX, Value.cells]⟩
  · cases h

def rs_strings_splitSeq (r:((List UInt8) × (List UInt8) × Int)):List D := [(cFn 93 (fun (v:((List UInt8) × (List UInt8) × Int))=>[.ptr false (cS.enc v.1),.ptr true (cS.enc v.2.1),.ptr false (cI.enc v.2.2)]) false (fun _=>(iml imo))).enc r]
def m76:MC := .seq (.reg [q1 3 (.box (.t 0)),q1 4 (.box (.t 1)),q1 5 (.box (.t 2)),q1 6 (.asg (.c (.hole)))] [3,4,5,7])
 (.fzb 4 (.fzb 5 (.seq (.reg [q1 7 (.mkf 93 [(false,4),(true,3),(false,5)]),q1 6 (.asg (.t 7))] [6])
 (.ret))))
theorem con_strings_splitSeq {v0:(List UInt8)} {v1:(List UInt8)} {v2:Int} {r:((List UInt8) × (List UInt8) × Int)} (h:sh_strings_splitSeq v0 v1 v2 = some r):Con Tryz.prog 76 [cS.enc v0,cS.enc v1,cI.enc v2] [] (rs_strings_splitSeq r) := by
 delta sh_strings_splitSeq at h
 refine top (out := none) (f := Tryz.f76) (m := m76) (rs := [.t 6]) (by kernel_rfl) rfl (by kernel_rfl) (by kernel_rfl) (by kernel_rfl) (by kernel_rfl) (by kernel_rfl) ?_
 exact
  ini [q2 0 cS v0,q2 1 cS v1,q2 2 cI v2] rfl<|ws<|rg<|x_box (ss rfl rfl)<|x_box (ss rfl rfl)<|x_box (ss rfl rfl)<|xa (sc (cH (α := Bool)) false rfl)<|sq [q3 3 cS v0,q3 4 cS v1,q3 5 cI v2,(7,.un)]<|
  xn<|fzb_s tS rfl<|fzb_s tK rfl<|ws<|rg<|x_mkf (cFn 93 (fun (v:((List UInt8) × (List UInt8) × Int))=>[.ptr false (cS.enc v.1),.ptr true (cS.enc v.2.1),.ptr false (cI.enc v.2.2)]) false (fun _=>(iml imo))) (v1,v0,v2) (cpi rfl (cpo rfl (cpi rfl cp0))) rfl rfl<|xa (so rfl rfl)<|sq [q2 6 (cFn 93 (fun (v:((List UInt8) × (List UInt8) × Int))=>[.ptr false (cS.enc v.1),.ptr true (cS.enc v.2.1),.ptr false (cI.enc v.2.2)]) false (fun _=>(iml imo))) (v1,v0,v2)]<|
  xn<|wpC_ret<|re<|fin h (r1 (so rfl rfl)<|r0) rfl

def rs_strings_SplitSeq (r:((List UInt8) × (List UInt8) × Int)):List D := [(cFn 93 (fun (v:((List UInt8) × (List UInt8) × Int))=>[.ptr false (cS.enc v.1),.ptr true (cS.enc v.2.1),.ptr false (cI.enc v.2.2)]) false (fun _=>(iml imo))).enc r]
def m51:MC := .seq (.reg [q1 4 (.asg (.c (.hole)))] [0,1])
 (.seq (.reg [q1 5 (.mv (.t 0)),q1 6 (.mv (.t 1)),q1 7 (.call 76 [(.t 5),(.t 6),(.c (.int .i64 0))]),q1 4 (.asg (.t 7))] [4])
 (.ret))
theorem con_strings_SplitSeq {v0:(List UInt8)} {v1:(List UInt8)} {r:((List UInt8) × (List UInt8) × Int)} (h:sh_strings_SplitSeq v0 v1 = some r):Con Tryz.prog 51 [cS.enc v0,cS.enc v1] [] (rs_strings_SplitSeq r) := by
 delta sh_strings_SplitSeq at h
 refine top (out := none) (f := Tryz.f51) (m := m51) (rs := [.t 4]) (by kernel_rfl) rfl (by kernel_rfl) (by kernel_rfl) (by kernel_rfl) (by kernel_rfl) (by kernel_rfl) ?_
 exact
  ini [q2 0 cS v0,q2 1 cS v1] rfl<|ws<|rg<|xa (sc (cH (α := Bool)) false rfl)<|sq [q2 0 cS v0,q2 1 cS v1]<|
  xn<|ws<|rg<|st rfl<|mvd rfl rfl<|st rfl<|mvd rfl rfl<|bnd h fun x3 e4 h=>st rfl<|o_call (a1 (c := cS) tS rfl (a1 (c := cS) tS rfl (a1 (c := cI) tK rfl a0))) (con_strings_splitSeq e4) (.inr (hr1 rfl rfl (hr1 rfl rfl (hrc rfl hr0))))<|xa (so rfl rfl)<|sq [q2 4 (cFn 93 (fun (v:((List UInt8) × (List UInt8) × Int))=>[.ptr false (cS.enc v.1),.ptr true (cS.enc v.2.1),.ptr false (cI.enc v.2.2)]) false (fun _=>(iml imo))) x3]<|
  xn<|wpC_ret<|re<|fin h (r1 (so rfl rfl)<|r0) rfl

def rs_stringslite_Cut (r:((List UInt8) × (List UInt8) × Bool)):List D := [cS.enc r.1,cS.enc r.2.1,cB.enc r.2.2]
def m59:MC := .seq (.reg [q1 4 (.asg (.c (.str []))),q1 5 (.asg (.c (.str []))),q1 6 (.asg (.c (.bool false)))] [0,1])
 (.seq (.kp [0] (.seq (.reg [q1 8 (.mv (.t 0)),q1 9 (.mv (.t 1)),q1 10 (.call 85 [(.t 8),(.t 9)]),q1 7 (.asg (.t 10))] [0,1,7])
 (.seq (.reg [q1 11 (.mv (.t 7)),q1 12 (.bin .geq (.t 11) (.c (.int .i64 0)))] [0,1,7,12])
 (.cond (.t 12) (.seq (.drw [⟨0,q1 13 (.mv (.t 0)),[4,5,6,14,15,16,17,18,19,20,21]⟩,
  ⟨1,q1 14 (.mv (.t 7)),[4,5,6,13,15,16,17,18,19,20,21]⟩,
  ⟨2,q1 15 (.sls (.t 13) none (some (.t 14))),[4,5,6,16,17,18,19,20,21]⟩,
  ⟨3,q1 16 (.mv (.t 0)),[4,5,6,13,14,15,17,18,19,20,21]⟩,
  ⟨4,q1 17 (.mv (.t 7)),[4,5,6,13,14,15,16,18,19,20,21]⟩,
  ⟨5,q1 18 (.mv (.t 1)),[4,5,6,13,14,15,16,17,19,20,21]⟩,
  ⟨6,q1 19 (.len true (.t 18)),[4,5,6,13,14,15,16,17,20,21]⟩,
  ⟨7,q1 20 (.bin .add (.t 17) (.t 19)),[4,5,6,13,14,15,16,21]⟩,
  ⟨8,q1 21 (.sls (.t 16) (some (.t 20)) none),[4,5,6,13,14,15]⟩,
  ⟨9,q1 4 (.mv (.t 15)),[5,6,16,17,18,19,20,21]⟩,
  ⟨10,q1 5 (.mv (.t 21)),[6]⟩,
  ⟨11,q1 6 (.mv (.c (.bool true))),[]⟩]
  [] [4,5,6])
 (.ret)) (.skip)))))
 (.seq (.reg [q1 22 (.mv (.t 0)),q1 4 (.asg (.t 22)),q1 5 (.asg (.c (.str []))),q1 6 (.asg (.c (.bool false)))] [4,5,6])
 (.ret)))
theorem con_stringslite_Cut {v0:(List UInt8)} {v1:(List UInt8)} {r:((List UInt8) × (List UInt8) × Bool)} (h:sh_stringslite_Cut v0 v1 = some r):Con Tryz.prog 59 [cS.enc v0,cS.enc v1] [] (rs_stringslite_Cut r) := by
 delta sh_stringslite_Cut at h
 refine top (out := none) (f := Tryz.f59) (m := m59) (rs := [.t 4,.t 5,.t 6]) (by kernel_rfl) rfl (by kernel_rfl) (by kernel_rfl) (by kernel_rfl) (by kernel_rfl) (by kernel_rfl) ?_
 exact
  ini [q2 0 cS v0,q2 1 cS v1] rfl<|ws<|rg<|xa (sc cS ([]:List UInt8) rfl)<|xa (sc cS ([]:List UInt8) rfl)<|xa (sc cB false rfl)<|sq [q2 0 cS v0,q2 1 cS v1]<|
  xn<|ws<|wpC_kp<|ws<|rg<|st rfl<|mvd rfl rfl<|st rfl<|mvd rfl rfl<|bnd h fun x16 e17 h=>st rfl<|o_call (a1 (c := cS) tS rfl (a1 (c := cS) tS rfl a0)) (con_stringslite_Index e17) (.inl (so1 sK so0))<|xa (ss rfl rfl)<|sq [q2 0 cS v0,q2 1 cS v1,q2 7 cI x16]<|
  xn<|ws<|rg<|st rfl<|mvd rfl rfl<|st rfl<|b_geq (k := .i64) rfl rfl<|sq [q2 0 cS v0,q2 1 cS v1,q2 7 cI x16,q2 12 cB (decide ((0:Int) ≤ x16))]<|
  xn<|cnd rfl h (fun b18 h=>ws<|drw_s<|pst rfl<|mvd rfl rfl ⟨rfl,pst rfl<|mvd rfl rfl ⟨rfl,ck_kp h fun i23 h=>pst rfl<|o_sls rfl lo0 (hi1 (k := .i64) rfl i23.1) i23.2 ⟨rfl,pst rfl<|mvd rfl rfl ⟨rfl,pst rfl<|mvd rfl rfl ⟨rfl,pst rfl<|mvd rfl rfl ⟨rfl,lmO_kp h fun l24 h=>pst rfl<|plnt rfl l24 ⟨rfl,ckI_kp h fun i25 h=>pst rfl<|b_add (k := .i64) rfl rfl i25 ⟨rfl,ck_kp h fun i26 h=>pst rfl<|o_sls rfl (lo1 (k := .i64) rfl i26.1) hi0 i26.2 ⟨rfl,pst rfl<|mvd rfl rfl ⟨rfl,pst rfl<|mvd rfl rfl ⟨rfl,pst rfl<|mvc cB true rfl ⟨rfl,preN<|sq [q2 4 cS ((v0.take (x16).toNat).drop 0),q2 5 cS ((v0.take v0.length).drop ((x16 + (v1.length:Int))).toNat),q2 6 cB true]<|
  xn<|wpC_ret<|rt<|rt<|re<|fin h (r1 (ss rfl rfl)<|r1 (ss rfl rfl)<|r1 (ss rfl rfl)<|r0) rfl⟩⟩⟩⟩⟩⟩⟩⟩⟩⟩⟩⟩)
  (fun b18 h=>wpC_skip<|kpN [q2 0 cS v0] (by kernel_rfl)<|xn<|ws<|rg<|st rfl<|mvd rfl rfl<|xa (ss rfl rfl)<|xa (sc cS ([]:List UInt8) rfl)<|xa (sc cB false rfl)<|sq [q2 4 cS v0,q2 5 cS ([]:List UInt8),q2 6 cB false]<|
  xn<|wpC_ret<|re<|fin h (r1 (ss rfl rfl)<|r1 (ss rfl rfl)<|r1 (ss rfl rfl)<|r0) rfl)

def rs_strings_Cut (r:((List UInt8) × (List UInt8) × Bool)):List D := [cS.enc r.1,cS.enc r.2.1,cB.enc r.2.2]
def m40:MC := .seq (.reg [q1 4 (.asg (.c (.str []))),q1 5 (.asg (.c (.str []))),q1 6 (.asg (.c (.bool false)))] [0,1])
 (.seq (.reg [q1 7 (.mv (.t 0)),q1 8 (.mv (.t 1)),q1 9 (.call 59 [(.t 7),(.t 8)]),q1 10 (.ext 9 0),q1 11 (.ext 9 1),q1 12 (.ext 9 2),q1 4 (.asg (.t 10)),q1 5 (.asg (.t 11)),q1 6 (.asg (.t 12))] [4,5,6])
 (.ret))
theorem con_strings_Cut {v0:(List UInt8)} {v1:(List UInt8)} {r:((List UInt8) × (List UInt8) × Bool)} (h:sh_strings_Cut v0 v1 = some r):Con Tryz.prog 40 [cS.enc v0,cS.enc v1] [] (rs_strings_Cut r) := by
 delta sh_strings_Cut at h
 refine top (out := none) (f := Tryz.f40) (m := m40) (rs := [.t 4,.t 5,.t 6]) (by kernel_rfl) rfl (by kernel_rfl) (by kernel_rfl) (by kernel_rfl) (by kernel_rfl) (by kernel_rfl) ?_
 exact
  ini [q2 0 cS v0,q2 1 cS v1] rfl<|ws<|rg<|xa (sc cS ([]:List UInt8) rfl)<|xa (sc cS ([]:List UInt8) rfl)<|xa (sc cB false rfl)<|sq [q2 0 cS v0,q2 1 cS v1]<|
  xn<|ws<|rg<|st rfl<|mvd rfl rfl<|st rfl<|mvd rfl rfl<|bnd h fun x3 e4 h=>st rfl<|o_call (a1 (c := cS) tS rfl (a1 (c := cS) tS rfl a0)) (con_stringslite_Cut e4) (.inl (so1 sS (so1 sS (so1 sB so0))))<|x_ext rfl rfl<|x_ext rfl rfl<|x_ext rfl rfl<|xa (ss rfl rfl)<|xa (ss rfl rfl)<|xa (ss rfl rfl)<|sq [q2 4 cS x3.1,q2 5 cS x3.2.1,q2 6 cB x3.2.2]<|
  xn<|wpC_ret<|re<|fin h (r1 (ss rfl rfl)<|r1 (ss rfl rfl)<|r1 (ss rfl rfl)<|r0) rfl

def rs_impl_parseSet (r:Int):List D := [cI.enc r]
def m52:MC := .seq (.reg [q1 3 (.box (.t 1)),q1 4 (.alloc (.int .i64 0))] [0,3,4])
 (.seq (.reg [q1 5 (.alloc (.int .i64 0)),q1 6 (.alloc (.int .i64 0)),q0 (.st 5 (.c (.int .i64 0)) 1),q0 (.st 6 (.c (.int .i64 (-1))) 1)] [0,3,4,5,6])
 (.seq (.kp [4,5] (.seq (.reg [q1 9 (.mv (.t 0)),q1 10 (.call 51 [(.t 9),(.c (.str [44]))])] [3,4,5,6,10])
 (.blk 0 (.rfs 10 11 7 [3,4,5,6] (.blk 1 (.seq (.kp [3,4,5,6,7] (.seq (.reg [q1 12 (.mv (.t 7)),q1 13 (.len true (.t 12)),q1 14 (.bin .neq (.t 13) (.c (.int .i64 1)))] [3,4,5,6,7,14])
 (.cond (.t 14) (.seq (.reg [q0 (.st 4 (.c (.int .i64 0)) 1)] [4])
 (.ret)) (.skip))))
 (.seq (.reg [q1 15 (.mv (.t 7)),q1 16 (.ix (.t 15) (.c (.int .i64 0))),q1 17 (.cvi .i64 (.t 16)),q1 18 (.bin .sub (.t 17) (.c (.int .i64 48))),q1 8 (.asg (.t 18))] [3,4,5,6,8])
 (.seq (.kp [3,4,5,6,8] (.seq (.reg [q1 19 (.mv (.t 8)),q1 20 (.ld 6 1 false),q1 21 (.bin .leq (.t 19) (.t 20)),q1 22 (.mv (.t 21)),
  ⟨some 23,.mv (.t 8),some (22,false)⟩,
  ⟨some 24,.ld 3 1 false,some (22,false)⟩,
  ⟨some 25,.bin .geq (.t 23) (.t 24),some (22,false)⟩,q1 26 (.pick (.t 22) (.c (.bool true)) (.t 25))] [3,4,5,6,8,26])
 (.cond (.t 26) (.seq (.reg [q0 (.st 4 (.c (.int .i64 0)) 1)] [4])
 (.ret)) (.skip))))
 (.seq (.drw [⟨0,q1 27 (.ld 5 1 false),[28,29,30]⟩,
  ⟨1,q1 28 (.mv (.t 8)),[27,29,30]⟩,
  ⟨2,q1 29 (.bin .shl (.c (.int .i64 1)) (.t 28)),[27,30]⟩,
  ⟨3,q1 30 (.bin .or (.t 27) (.t 29)),[]⟩]
  [(4,q0 (.st 5 (.t 30) 1))] [3,4,5,6,8])
 (.reg [q1 31 (.mv (.t 8)),q0 (.st 6 (.t 31) 1)] [3,4,5,6]))))))))))
 (.seq (.reg [q1 32 (.ld 5 1 false),q0 (.st 4 (.t 32) 1)] [4])
 (.ret))))
theorem con_impl_parseSet {v0:(List UInt8)} {v1:Int} {r:Int} (h:sh_impl_parseSet v0 v1 = some r):Con Tryz.prog 52 [cS.enc v0,cI.enc v1] [] (rs_impl_parseSet r) := by
 delta sh_impl_parseSet at h
 refine top (out := none) (f := Tryz.f52) (m := m52) (rs := [.c 4 1 false]) (by kernel_rfl) rfl (by kernel_rfl) (by kernel_rfl) (by kernel_rfl) (by kernel_rfl) (by kernel_rfl) ?_
 exact
  ini [q2 0 cS v0,q2 1 cI v1] rfl<|ws<|rg<|x_box (ss rfl rfl)<|x_all cI (0:Int) rfl<|sq [q2 0 cS v0,q3 3 cI v1,q3 4 cI (0:Int)]<|
  xn<|ws<|rg<|x_all cI (0:Int) rfl<|x_all cI (0:Int) rfl<|x_stb (sc cI (0:Int) rfl) rfl (Cd.h_sz _ _) rfl<|x_stb (sc cI (-1:Int) rfl) rfl (Cd.h_sz _ _) rfl<|sq [q2 0 cS v0,q3 3 cI v1,q3 4 cI (0:Int),q3 5 cI (0:Int),q3 6 cI (-1:Int)]<|
  xn<|ws<|wpC_kp<|ws<|rg<|st rfl<|mvd rfl rfl<|bnd h fun x116 e117 h=>st rfl<|o_call (a1 (c := cS) tS rfl (a1 (c := cS) tS rfl a0)) (con_strings_SplitSeq e117) (.inr (hr1 rfl rfl (hrc rfl hr0)))<|sq [q3 3 cI v1,q3 4 cI (0:Int),q3 5 cI (0:Int),q3 6 cI (-1:Int),q2 10 (cFn 93 (fun (v:((List UInt8) × (List UInt8) × Int))=>[.ptr false (cS.enc v.1),.ptr true (cS.enc v.2.1),.ptr false (cI.enc v.2.2)]) false (fun _=>(iml imo))) x116]<|
  xn<|wpC_blk<|AS.ck_k h fun hk121 h=>rf_s (fun (s118:(Int × Int))=>[q3 3 cI v1,q3 4 cI (0:Int),q3 5 cI s118.1,q3 6 cI s118.2]) ((0:Int),(-1:Int)) rfl (it_split hk121) (by kernel_rfl) h
  (fun s118 h=>xbb<|kpN [q3 4 cI (0:Int),q3 5 cI s118.1] (by kernel_rfl)<|xn<|ws<|rg<|st rfl<|ldb rfl rfl rfl rfl<|x_stb (ss rfl rfl) rfl (Cd.h_sz _ _) rfl<|sq [q3 4 cI s118.1]<|
  xn<|wpC_ret<|re<|fin h (r2 rfl rfl rfl<|r0) rfl)
  (fun G192 nx190 k119 s118 x120 hn191 h=>wpC_blk<|ws<|wpC_kp<|ws<|rg<|st rfl<|mvd rfl rfl<|stw rfl<|lent rfl fun l197=>st rfl<|b_neq (k := .i64) rfl rfl<|sq [q3 3 cI v1,q3 4 cI (0:Int),q3 5 cI s118.1,q3 6 cI s118.2,q2 7 cS x120,q2 14 cB (decide ((x120.length:Int) ≠ (1:Int)))]<|
  xn<|cnd rfl h (fun b198 h=>ws<|rg<|x_stb (sc cI (0:Int) rfl) rfl (Cd.h_sz _ _) rfl<|sq [q3 4 cI (0:Int)]<|
  xn<|wpC_ret<|rt<|rt<|rb<|rfR [(3,.un),q3 4 cI (0:Int),(5,.un),(6,.un)] (by kernel_rfl)<|rb<|rt<|rt<|re<|fin h (r2 rfl rfl rfl<|r0) rfl)
  (fun b198 h=>wpC_skip<|kpN [q3 3 cI v1,q3 4 cI (0:Int),q3 5 cI s118.1,q3 6 cI s118.2,q2 7 cS x120] (by kernel_rfl)<|xn<|ws<|rg<|st rfl<|mvd rfl rfl<|getO_k h fun x204 i205 g206 h=>st rfl<|o_ix (k := .i64) rfl rfl i205 g206<|ckI_k h fun i207 h=>st rfl<|o_cvi (k := .u8) (k' := .i64) rfl i207<|ckI_k h fun i208 h=>st rfl<|b_sub (k := .i64) rfl rfl i208<|xa (ss rfl rfl)<|sq [q3 3 cI v1,q3 4 cI (0:Int),q3 5 cI s118.1,q3 6 cI s118.2,q2 8 cI ((x204.toNat:Int) - (48:Int))]<|
  xn<|ws<|wpC_kp<|ws<|rg<|st rfl<|mvd rfl rfl<|st rfl<|ldb rfl rfl rfl rfl<|st rfl<|b_leq (k := .i64) rfl rfl<|st rfl<|mvd rfl rfl<|ite_k h (fun b213 h=>gf rfl b213<|gf rfl b213<|gf rfl b213<|st rfl<|pick1 rfl b213 (cd := cB) (v := true) rfl rfl<|sq [q3 3 cI v1,q3 4 cI (0:Int),q3 5 cI s118.1,q3 6 cI s118.2,q2 8 cI ((x204.toNat:Int) - (48:Int)),q2 26 cB true]<|
  xn<|cnd1 rfl rfl<|ws<|rg<|x_stb (sc cI (0:Int) rfl) rfl (Cd.h_sz _ _) rfl<|sq [q3 4 cI (0:Int)]<|
  xn<|wpC_ret<|rt<|rt<|rb<|rfR [(3,.un),q3 4 cI (0:Int),(5,.un),(6,.un)] (by kernel_rfl)<|rb<|rt<|rt<|re<|fin h (r2 rfl rfl rfl<|r0) rfl)
  (fun b213 h=>gt' rfl b213<|st rfl<|mvd rfl rfl<|gt' rfl b213<|st rfl<|ldb rfl rfl rfl rfl<|gt' rfl b213<|st rfl<|b_geq (k := .i64) rfl rfl<|st rfl<|pick0 rfl b213 (cd := cB) (v := (decide (v1 ≤ ((x204.toNat:Int) - (48:Int))))) rfl rfl<|sq [q3 3 cI v1,q3 4 cI (0:Int),q3 5 cI s118.1,q3 6 cI s118.2,q2 8 cI ((x204.toNat:Int) - (48:Int)),q2 26 cB (decide (v1 ≤ ((x204.toNat:Int) - (48:Int))))]<|
  xn<|cnd rfl h (fun b214 h=>ws<|rg<|x_stb (sc cI (0:Int) rfl) rfl (Cd.h_sz _ _) rfl<|sq [q3 4 cI (0:Int)]<|
  xn<|wpC_ret<|rt<|rt<|rb<|rfR [(3,.un),q3 4 cI (0:Int),(5,.un),(6,.un)] (by kernel_rfl)<|rb<|rt<|rt<|re<|fin h (r2 rfl rfl rfl<|r0) rfl)
  (fun b214 h=>wpC_skip<|kpN [q3 3 cI v1,q3 4 cI (0:Int),q3 5 cI s118.1,q3 6 cI s118.2,q2 8 cI ((x204.toNat:Int) - (48:Int))] (by kernel_rfl)<|xn<|ws<|drw_s<|pst rfl<|ldb rfl rfl rfl rfl ⟨rfl,pst rfl<|mvd rfl rfl ⟨rfl,ck_kp h fun i221 h=>ckI_kp h fun i222 h=>pst rfl<|b_shl (k := .i64) (k' := .i64) rfl rfl i221 rfl i222 ⟨rfl,ck_kp h fun i223 h=>ckK_kp h fun i224 h=>ck_kp h fun i225 h=>ckK_kp h fun i226 h=>pst rfl<|b_or (k := .i64) rfl rfl ⟨i223,i224⟩ ⟨i225,i226⟩ ⟨rfl,preN<|x_stb (ss rfl rfl) rfl (Cd.h_sz _ _) rfl<|sq [q3 3 cI v1,q3 4 cI (0:Int),q3 5 cI ((s118.1.toNat ||| ((1:Int) * 2 ^ (((x204.toNat:Int) - (48:Int))).toNat).toNat:Nat):Int),q3 6 cI s118.2,q2 8 cI ((x204.toNat:Int) - (48:Int))]<|
  xn<|rg<|st rfl<|mvd rfl rfl<|x_stb (ss rfl rfl) rfl (Cd.h_sz _ _) rfl<|sq [q3 3 cI v1,q3 4 cI (0:Int),q3 5 cI ((s118.1.toNat ||| ((1:Int) * 2 ^ (((x204.toNat:Int) - (48:Int))).toNat).toNat:Nat):Int),q3 6 cI ((x204.toNat:Int) - (48:Int))]<|
  xbb<|rfN [q3 3 cI v1,q3 4 cI (0:Int),q3 5 cI ((s118.1.toNat ||| ((1:Int) * 2 ^ (((x204.toNat:Int) - (48:Int))).toNat).toNat:Nat):Int),q3 6 cI ((x204.toNat:Int) - (48:Int))] (by kernel_rfl)<|hn191 (((s118.1.toNat ||| ((1:Int) * 2 ^ (((x204.toNat:Int) - (48:Int))).toNat).toNat:Nat):Int),((x204.toNat:Int) - (48:Int))) h⟩⟩⟩⟩))))

def os_impl_parseTable_1 (r:((List (List UInt8)) × (List UInt8))):D := (cP true cc10).enc r.1
def rs_impl_parseTable_1 (r:((List (List UInt8)) × (List UInt8))):List D := [cS.enc r.2]
def m48:MC := .seq (.reg [q1 1 (.asg (.c (.str [])))] [0])
 (.seq (.kp [0] (.seq (.reg [q1 3 (.ld 0 1 false),q1 4 (.len false (.t 3)),q1 5 (.bin .eql (.t 4) (.c (.int .i64 0)))] [0,5])
 (.cond (.t 5) (.seq (.reg [q1 1 (.asg (.c (.str [])))] [0,1])
 (.ret)) (.skip))))
 (.seq (.reg [q1 6 (.ld 0 1 false),q1 7 (.ia 6 (.c (.int .i64 0)) 1),q1 8 (.ld 7 1 false),q1 2 (.asg (.t 8))] [0,2])
 (.seq (.reg [q1 9 (.ld 0 1 false),q1 10 (.sl (.t 9) (some (.c (.int .i64 1))) none 1),q0 (.st 0 (.t 10) 1)] [0,2])
 (.seq (.reg [q1 11 (.mv (.t 2)),q1 1 (.asg (.t 11))] [0,1])
 (.ret)))))
theorem con_impl_parseTable_1 {v0:(List (List UInt8))} {r:((List (List UInt8)) × (List UInt8))} (h:sh_impl_parseTable_1 v0 = some r):Con Tryz.prog 48 [(cP true cc10).enc v0] (outsOf (some (0,os_impl_parseTable_1 r))) (rs_impl_parseTable_1 r) := by
 delta sh_impl_parseTable_1 at h
 refine top (out := some (0,os_impl_parseTable_1 r)) (f := Tryz.f48) (m := m48) (rs := [.t 1]) (by kernel_rfl) rfl (by kernel_rfl) (by kernel_rfl) (by kernel_rfl) (by kernel_rfl) (by kernel_rfl) ?_
 exact
  ini [q3 0 cc10 v0] rfl<|ws<|rg<|xa (sc cS ([]:List UInt8) rfl)<|sq [q3 0 cc10 v0]<|
  xn<|ws<|wpC_kp<|ws<|rg<|st rfl<|ldb rfl rfl rfl rfl<|stw rfl<|lens rfl fun l5=>st rfl<|b_eql (k := .i64) rfl rfl<|sq [q3 0 cc10 v0,q2 5 cB (decide ((v0.length:Int) = (0:Int)))]<|
  xn<|cnd rfl h (fun b6 h=>ws<|rg<|xa (sc cS ([]:List UInt8) rfl)<|sq [q3 0 cc10 v0,q2 1 cS ([]:List UInt8)]<|
  xn<|wpC_ret<|rt<|rt<|re<|finO h (r1 (ss rfl rfl)<|r0) rfl rfl)
  (fun b6 h=>wpC_skip<|kpN [q3 0 cc10 v0] (by kernel_rfl)<|xn<|ws<|rg<|st rfl<|ldb rfl rfl rfl rfl<|getO_k h fun x10 i11 g12 h=>st rfl<|ias rfl rfl i11 g12 rfl<|st rfl<|ldi rfl rfl rfl rfl<|xa (ss rfl rfl)<|sq [q3 0 cc10 v0,q2 2 cS x10]<|
  xn<|ws<|rg<|st rfl<|ldb rfl rfl rfl rfl<|ck_k h fun i14 h=>st rfl<|o_sl rfl rfl (lo1 (k := .i64) rfl i14.1) hi0 i14.2<|x_stb (ss rfl rfl) rfl (Cd.h_sz _ _) rfl<|sq [q3 0 cc10 ((v0.take v0.length).drop ((1:Int)).toNat),q2 2 cS x10]<|
  xn<|ws<|rg<|st rfl<|mvd rfl rfl<|xa (ss rfl rfl)<|sq [q3 0 cc10 ((v0.take v0.length).drop ((1:Int)).toNat),q2 1 cS x10]<|
  xn<|wpC_ret<|re<|finO h (r1 (ss rfl rfl)<|r0) rfl rfl)

def rs_impl_parseTable (r:(XTable × Bool)):List D := [cc3.enc r.1,cB.enc r.2]
def m31:MC := .seq (.reg [q1 2 (.box (.t 0)),q1 4 (.alloc (.agg [.int .i64 0,.slice true [],.slice true [],.int .i64 0])),q1 5 (.alloc (.bool false))] [1,2,4,5,22])
 (.seq (.reg [q1 16 (.ld 2 1 false),q1 17 (.len false (.t 16)),q1 18 (.mk (.int .i64 0) (.t 17)),q1 19 (.bld [.int .i64 0,.slice true [],.slice true [],.int .i64 0] [(2,(.t 18)),(3,(.c (.int .i64 (-1))))]),q1 6 (.alloc (.agg [.int .i64 0,.slice true [],.slice true [],.int .i64 0])),q0 (.st 6 (.t 19) 4)] [1,2,4,5,6,22])
 (.seq (.reg [q1 20 (.mv (.t 1)),q1 21 (.call 47 [(.t 20),(.c (.str [32]))]),q1 7 (.alloc (.slice true [])),q0 (.st 7 (.t 21) 1)] [2,4,5,6,7,22])
 (.seq (.reg [q1 22 (.mkf 48 [(true,7)]),q1 8 (.mv (.t 22))] [2,4,5,6,7,8,22])
 (.seq (.kp [2,4,5,6,7,8,22] (.seq (.reg [q1 23 (.mv (.t 8)),q1 24 (.calln 23)] [2,4,5,6,7,8,22,24])
 (.blk 0 (.seq (.reg [q1 27 (.bin .eql (.t 24) (.c (.str [99,111,117,110,116]))),q1 26 (.asg (.t 27))] [2,4,5,6,7,8,22,24,26])
 (.cond (.t 26) (.skip) (.seq (.reg [q1 29 (.bin .eql (.t 24) (.c (.str [115,117,109]))),q1 28 (.asg (.t 29))] [2,4,5,6,7,8,22,28])
 (.cond (.t 28) (.seq (.drg [⟨0,q1 30 (.ld 2 1 false),[31]⟩,
  ⟨1,q1 31 (.mv (.t 8)),[30]⟩]
  [(0,q1 30 (.ld 2 1 false)),
  (2,q1 32 (.calln 31)),
  (3,q1 33 (.call 49 [(.t 30),(.t 32)])),
  (4,q1 34 (.fa 6 3 3)),
  (5,q0 (.st 34 (.t 33) 1))] [2,4,5,6,7,8,22] [6,8,22,30,31,32,33,34,2,4,5,7] [([false,false,false,false,false],0),([false,false,false,false,false],1),([true,false,false,false,false],1),([false,true,false,false,false],0),([true,true,false,false,false],2),([true,true,true,false,false],3),([true,true,true,true,false],4)])
 (.seq (.reg [q1 35 (.fa 6 3 3),q1 36 (.ld 35 1 false),q1 37 (.bin .lss (.t 36) (.c (.int .i64 0)))] [2,4,5,6,7,8,22,37])
 (.cond (.t 37) (.seq (.reg [q1 38 (.bld [.int .i64 0,.slice true [],.slice true [],.int .i64 0] []),q0 (.st 4 (.t 38) 4),q0 (.st 5 (.c (.bool false)) 1)] [4,5])
 (.ret)) (.skip)))) (.seq (.reg [q1 25 (.bld [.int .i64 0,.slice true [],.slice true [],.int .i64 0] []),q0 (.st 4 (.t 25) 4),q0 (.st 5 (.c (.bool false)) 1)] [4,5])
 (.ret)))))))))
 (.seq (.reg [q1 39 (.mv (.t 8)),q1 40 (.calln 39),q1 41 (.bin .eql (.t 40) (.c (.str [108,101,118,101,108]))),q1 9 (.asg (.t 41))] [2,4,5,6,7,8,9,22])
 (.seq (.reg [q1 43 (.mv (.t 9)),q1 44 (.mv (.t 8)),q1 45 (.calln 44),q1 46 (.call 50 [(.t 43),(.t 45),(.c (.int .i64 30))]),q1 42 (.mvt 46),q1 47 (.ext 42 0),q1 48 (.ext 42 1),q1 49 (.fa 6 0 0),q0 (.st 49 (.t 47) 1),q1 9 (.asg (.t 48))] [2,4,5,6,7,8,9,22])
 (.seq (.kp [2,4,5,6,7,8,22] (.seq (.reg [q1 50 (.mv (.t 9)),q1 51 (.nt (.t 50))] [2,4,5,6,7,8,22,51])
 (.cond (.t 51) (.seq (.reg [q1 52 (.bld [.int .i64 0,.slice true [],.slice true [],.int .i64 0] []),q0 (.st 4 (.t 52) 4),q0 (.st 5 (.c (.bool false)) 1)] [4,5])
 (.ret)) (.skip))))
 (.seq (.kp [2,4,5,6,7,8,22] (.seq (.reg [q1 53 (.ld 7 1 false),q1 54 (.len false (.t 53)),q1 55 (.bin .gtr (.t 54) (.c (.int .i64 0))),q1 56 (.mv (.t 55)),
  ⟨some 57,.ld 7 1 false,some (56,true)⟩,
  ⟨some 58,.ia 57 (.c (.int .i64 0)) 1,some (56,true)⟩,
  ⟨some 59,.ld 58 1 false,some (56,true)⟩,
  ⟨some 60,.bin .eql (.t 59) (.c (.str [98,121])),some (56,true)⟩,q1 61 (.pick (.t 56) (.t 60) (.c (.bool false)))] [2,4,5,6,7,8,22,61])
 (.cond (.t 61) (.seq (.reg [q1 62 (.mv (.t 8)),q1 63 (.calln 62)] [2,4,5,6,7,8,22])
 (.seq (.reg [q1 64 (.mv (.t 8)),q1 65 (.calln 64),q1 66 (.call 51 [(.t 65),(.c (.str [44]))])] [2,4,5,6,7,8,22,66])
 (.blk 1 (.rfs 66 67 10 [2,4,5,6,7,8,22] (.blk 2 (.seq (.reg [q1 68 (.ld 2 1 false),q1 69 (.mv (.t 10)),q1 70 (.call 49 [(.t 68),(.t 69)]),q1 11 (.asg (.t 70))] [2,4,5,6,7,8,11,22])
 (.seq (.kp [2,4,5,6,7,8,11,22] (.seq (.reg [q1 71 (.mv (.t 11)),q1 72 (.bin .lss (.t 71) (.c (.int .i64 0)))] [2,4,5,6,7,8,11,22,72])
 (.cond (.t 72) (.seq (.reg [q1 73 (.bld [.int .i64 0,.slice true [],.slice true [],.int .i64 0] []),q0 (.st 4 (.t 73) 4),q0 (.st 5 (.c (.bool false)) 1)] [4,5])
 (.ret)) (.skip))))
 (.reg [q1 74 (.fa 6 1 1),q1 75 (.ld 74 1 false),q1 76 (.mv (.t 11)),q1 77 (.bsl [(.t 76)] 1),q1 78 (.app (.t 75) (.t 77) 1),q1 79 (.fa 6 1 1),q0 (.st 79 (.t 78) 1)] [2,4,5,6,7,8,22])))))))) (.skip))))
 (.seq (.kp [2,4,5,6,7,8,22] (.seq (.reg [q1 80 (.ld 7 1 false),q1 81 (.len false (.t 80)),q1 82 (.bin .gtr (.t 81) (.c (.int .i64 0))),q1 83 (.mv (.t 82)),
  ⟨some 84,.mv (.t 8),some (83,true)⟩,
  ⟨some 85,.calln 84,some (83,true)⟩,
  ⟨some 86,.bin .neq (.t 85) (.c (.str [119,104,101,114,101])),some (83,true)⟩,q1 87 (.pick (.t 83) (.t 86) (.c (.bool false)))] [2,4,5,6,7,8,22,87])
 (.cond (.t 87) (.seq (.reg [q1 88 (.bld [.int .i64 0,.slice true [],.slice true [],.int .i64 0] []),q0 (.st 4 (.t 88) 4),q0 (.st 5 (.c (.bool false)) 1)] [4,5])
 (.ret)) (.skip))))
 (.seq (.kp [4,5,6] (.blk 3 (.loop (.kp [2,4,5,6,7,8,22] (.seq (.kp [2,4,5,6,7,8,22] (.seq (.reg [q1 89 (.ld 7 1 false),q1 90 (.len false (.t 89)),q1 91 (.bin .gtr (.t 90) (.c (.int .i64 0)))] [2,4,5,6,7,8,22,91])
 (.cond (.t 91) (.skip) (.exit 3))))
 (.blk 4 (.seq (.reg [q1 93 (.mv (.t 8)),q1 94 (.calln 93),q1 95 (.call 40 [(.t 94),(.c (.str [61]))]),q1 92 (.mvt 95),q1 96 (.ext 92 0),q1 97 (.ext 92 1),q1 98 (.ext 92 2),q1 12 (.asg (.t 96)),q1 13 (.asg (.t 97)),q1 14 (.asg (.t 98))] [2,4,5,6,7,8,12,13,22])
 (.seq (.reg [q1 99 (.ld 2 1 false),q1 100 (.mv (.t 12)),q1 101 (.call 49 [(.t 99),(.t 100)]),q1 15 (.asg (.t 101))] [2,4,5,6,7,8,13,15,22])
 (.seq (.kp [2,4,5,6,7,8,13,15,22] (.seq (.reg [q1 102 (.mv (.t 15)),q1 103 (.bin .lss (.t 102) (.c (.int .i64 0)))] [2,4,5,6,7,8,13,15,22,103])
 (.cond (.t 103) (.seq (.reg [q1 104 (.bld [.int .i64 0,.slice true [],.slice true [],.int .i64 0] []),q0 (.st 4 (.t 104) 4),q0 (.st 5 (.c (.bool false)) 1)] [4,5])
 (.ret)) (.skip))))
 (.drw [⟨0,q1 105 (.fa 6 2 2),[106,107,108,109,110,111,112,113,114,115]⟩,
  ⟨1,q1 106 (.ld 105 1 false),[107,108,109,110,111,112,113,114,115]⟩,
  ⟨2,q1 107 (.mv (.t 15)),[105,106,108,109,110,111,112,113,114,115]⟩,
  ⟨3,q1 108 (.mv (.t 13)),[105,106,107,109,110,111,112,113,114,115]⟩,
  ⟨4,q1 109 (.ld 2 1 false),[105,106,107,108,110,111,112,113,114,115]⟩,
  ⟨5,q1 110 (.mv (.t 15)),[105,106,107,108,109,111,112,113,114,115]⟩,
  ⟨6,q1 111 (.ia 109 (.t 110) 2),[105,106,107,108,112,113,114,115]⟩,
  ⟨7,q1 112 (.fa 111 1 1),[105,106,107,108,113,114,115]⟩,
  ⟨8,q1 113 (.ld 112 1 false),[105,106,107,108,114,115]⟩,
  ⟨9,q1 114 (.call 52 [(.t 108),(.t 113)]),[105,106,107,115]⟩,
  ⟨10,q1 115 (.ia 106 (.t 107) 1),[]⟩]
  [(11,q0 (.st 115 (.t 114) 1))] [2,4,5,6,7,8,22]))))))))))
 (.seq (.reg [q1 116 (.ld 6 4 true),q0 (.st 4 (.t 116) 4),q0 (.st 5 (.c (.bool true)) 1)] [4,5])
 (.ret))))))))))))
theorem con_impl_parseTable {v0:(List XVariable)} {v1:(List UInt8)} {r:(XTable × Bool)} (h:sh_impl_parseTable v0 v1 = some r):Con Tryz.prog 31 [cc4.enc v0,cS.enc v1] [] (rs_impl_parseTable r) := by
 delta sh_impl_parseTable at h
 refine top (out := none) (f := Tryz.f31) (m := m31) (rs := [.c 4 4 true,.c 5 1 false]) (by kernel_rfl) rfl (by kernel_rfl) (by kernel_rfl) (by kernel_rfl) (by kernel_rfl) (by kernel_rfl) ?_
 exact
  ini [q2 0 cc4 v0,q2 1 cS v1] rfl<|ws<|rg<|x_box (ss rfl rfl)<|x_all cc3 (⟨(0:Int),([]:List Int),([]:List Int),(0:Int)⟩:XTable) rfl<|x_all cB false rfl<|sq [q2 1 cS v1,q3 2 cc4 v0,q3 4 cc3 (⟨(0:Int),([]:List Int),([]:List Int),(0:Int)⟩:XTable),q3 5 cB false,(22,.un)]<|
  xn<|ws<|rg<|st rfl<|ldb rfl rfl rfl rfl<|stw rfl<|lens rfl fun l4=>mkO_k h fun i5 l6 h=>st rfl<|o_mk (c := cI) (a0 := (0:Int)) rfl (k := .i64) rfl i5 l6<|x_bld (cc3.enc (⟨(0:Int),([]:List Int),(List.replicate ((v0.length:Int)).toNat (0:Int)),(-1:Int)⟩:XTable)) (t1 (so rfl rfl) rfl (t1 (sc cI (-1:Int) rfl) rfl t0)) rfl rfl<|x_all cc3 (⟨(0:Int),([]:List Int),([]:List Int),(0:Int)⟩:XTable) rfl<|x_stb (so rfl rfl) rfl (Cd.h_sz _ _) rfl<|sq [q2 1 cS v1,q3 2 cc4 v0,q3 4 cc3 (⟨(0:Int),([]:List Int),([]:List Int),(0:Int)⟩:XTable),q3 5 cB false,q3 6 cc3 (⟨(0:Int),([]:List Int),(List.replicate ((v0.length:Int)).toNat (0:Int)),(-1:Int)⟩:XTable),(22,.un)]<|
  xn<|ws<|rg<|st rfl<|mvd rfl rfl<|bnd h fun x9 e10 h=>st rfl<|o_call (a1 (c := cS) tS rfl (a1 (c := cS) tS rfl a0)) (con_strings_Split e10) (.inr (hr1 rfl rfl (hrc rfl hr0)))<|x_all cc12 ([]:List (List UInt8)) rfl<|x_stb (ss rfl rfl) rfl (Cd.h_sz _ _) rfl<|sq [q3 2 cc4 v0,q3 4 cc3 (⟨(0:Int),([]:List Int),([]:List Int),(0:Int)⟩:XTable),q3 5 cB false,q3 6 cc3 (⟨(0:Int),([]:List Int),(List.replicate ((v0.length:Int)).toNat (0:Int)),(-1:Int)⟩:XTable),q3 7 cc10 x9,(22,.un)]<|
  xn<|ws<|rg<|x_mkf (cFn 48 (fun (v:(List (List UInt8)))=>[.ptr true (cc10.enc v)]) false (fun _=>imo)) x9 (cpo rfl cp0) rfl rfl<|st rfl<|mvo rfl rfl<|sq [q3 2 cc4 v0,q3 4 cc3 (⟨(0:Int),([]:List Int),([]:List Int),(0:Int)⟩:XTable),q3 5 cB false,q3 6 cc3 (⟨(0:Int),([]:List Int),(List.replicate ((v0.length:Int)).toNat (0:Int)),(-1:Int)⟩:XTable),(7,.adr 22 [.cap 0,.dr]),(8,.ref 22 []),q2 22 (cFn 48 (fun (v:(List (List UInt8)))=>[.ptr true (cc10.enc v)]) false (fun _=>imo)) x9]<|
  xn<|sqj (fun (s26:(XTable × (List (List UInt8))))=>[q3 2 cc4 v0,q3 4 cc3 (⟨(0:Int),([]:List Int),([]:List Int),(0:Int)⟩:XTable),q3 5 cB false,q3 6 cc3 s26.1,(7,.adr 22 [.cap 0,.dr]),(8,.ref 22 []),q2 22 (cFn 48 (fun (v:(List (List UInt8)))=>[.ptr true (cc10.enc v)]) false (fun _=>imo)) s26.2]) h (fun s26 h=>ws<|rg<|st rfl<|mvr rfl<|bnd h fun x31 e32 h=>x_cn (cFn 48 (fun (v:(List (List UInt8)))=>[.ptr true (cc10.enc v)]) false (fun _=>imo)) x31.1 (far rfl rfl rfl) rfl (con_impl_parseTable_1 e32) (cmo cm0)<|st rfl<|b_seq rfl rfl<|xa (ss rfl rfl)<|sq [q3 2 cc4 v0,q3 4 cc3 (⟨(0:Int),([]:List Int),([]:List Int),(0:Int)⟩:XTable),q3 5 cB false,q3 6 cc3 s26.1,(7,.adr 22 [.cap 0,.dr]),(8,.ref 22 []),q2 9 cB (decide (x31.2 = ([108,101,118,101,108]:List UInt8))),q2 22 (cFn 48 (fun (v:(List (List UInt8)))=>[.ptr true (cc10.enc v)]) false (fun _=>imo)) x31.1]<|
  xn<|ws<|rg<|st rfl<|mvd rfl rfl<|st rfl<|mvr rfl<|bnd h fun x37 e38 h=>x_cn (cFn 48 (fun (v:(List (List UInt8)))=>[.ptr true (cc10.enc v)]) false (fun _=>imo)) x37.1 (far rfl rfl rfl) rfl (con_impl_parseTable_1 e38) (cmo cm0)<|bnd h fun x39 e40 h=>st rfl<|o_call (a1 (c := cB) tB rfl (a1 (c := cS) tS rfl (a1 (c := cI) tK rfl a0))) (con_impl_wholeNaturalIf e40) (.inl (so1 sK (so1 sB so0)))<|x_mvt rfl<|x_ext rfl rfl<|x_ext rfl rfl<|st rfl<|fab rfl rfl rfl rfl<|x_sta (cc3.enc (⟨x39.1,s26.1.Vars,s26.1.Where,s26.1.Sum⟩:XTable)) (ss rfl rfl) rfl rfl (Ln.fld rfl rfl Ln.nil rfl) (Cd.h_sz cI _) rfl<|xa (ss rfl rfl)<|sq [q3 2 cc4 v0,q3 4 cc3 (⟨(0:Int),([]:List Int),([]:List Int),(0:Int)⟩:XTable),q3 5 cB false,q3 6 cc3 (⟨x39.1,s26.1.Vars,s26.1.Where,s26.1.Sum⟩:XTable),(7,.adr 22 [.cap 0,.dr]),(8,.ref 22 []),q2 9 cB x39.2,q2 22 (cFn 48 (fun (v:(List (List UInt8)))=>[.ptr true (cc10.enc v)]) false (fun _=>imo)) x37.1]<|
  xn<|ws<|wpC_kp<|ws<|rg<|st rfl<|mvd rfl rfl<|st rfl<|o_nt rfl<|sq [q3 2 cc4 v0,q3 4 cc3 (⟨(0:Int),([]:List Int),([]:List Int),(0:Int)⟩:XTable),q3 5 cB false,q3 6 cc3 (⟨x39.1,s26.1.Vars,s26.1.Where,s26.1.Sum⟩:XTable),(7,.adr 22 [.cap 0,.dr]),(8,.ref 22 []),q2 22 (cFn 48 (fun (v:(List (List UInt8)))=>[.ptr true (cc10.enc v)]) false (fun _=>imo)) x37.1,q2 51 cB (!x39.2)]<|
  xn<|cnd rfl h (fun b42 h=>ws<|rg<|x_bld (cc3.enc (⟨(0:Int),([]:List Int),([]:List Int),(0:Int)⟩:XTable)) t0 rfl rfl<|x_stb (so rfl rfl) rfl (Cd.h_sz _ _) rfl<|x_stb (sc cB false rfl) rfl (Cd.h_sz _ _) rfl<|sq [q3 4 cc3 (⟨(0:Int),([]:List Int),([]:List Int),(0:Int)⟩:XTable),q3 5 cB false]<|
  xn<|wpC_ret<|rt<|rt<|re<|fin h (r2 rfl rfl rfl<|r2 rfl rfl rfl<|r0) rfl)
  (fun b42 h=>wpC_skip<|kpN [q3 2 cc4 v0,q3 4 cc3 (⟨(0:Int),([]:List Int),([]:List Int),(0:Int)⟩:XTable),q3 5 cB false,q3 6 cc3 (⟨x39.1,s26.1.Vars,s26.1.Where,s26.1.Sum⟩:XTable),(7,.adr 22 [.cap 0,.dr]),(8,.ref 22 []),q2 22 (cFn 48 (fun (v:(List (List UInt8)))=>[.ptr true (cc10.enc v)]) false (fun _=>imo)) x37.1] (by kernel_rfl)<|xn<|sqj (fun (s96:(XTable × (List (List UInt8))))=>[q3 2 cc4 v0,q3 4 cc3 (⟨(0:Int),([]:List Int),([]:List Int),(0:Int)⟩:XTable),q3 5 cB false,q3 6 cc3 s96.1,(7,.adr 22 [.cap 0,.dr]),(8,.ref 22 []),q2 22 (cFn 48 (fun (v:(List (List UInt8)))=>[.ptr true (cc10.enc v)]) false (fun _=>imo)) s96.2]) h (fun s96 h=>sqj (fun (s108:(List (List UInt8)))=>[q3 2 cc4 v0,q3 4 cc3 (⟨(0:Int),([]:List Int),([]:List Int),(0:Int)⟩:XTable),q3 5 cB false,q3 6 cc3 s96.1,(7,.adr 22 [.cap 0,.dr]),(8,.ref 22 []),q2 22 (cFn 48 (fun (v:(List (List UInt8)))=>[.ptr true (cc10.enc v)]) false (fun _=>imo)) s108]) h (fun s108 h=>ws<|wpC_kp<|wpC_blk<|lpF (fun (s203:(XTable × (List (List UInt8))))=>[q3 2 cc4 v0,q3 4 cc3 (⟨(0:Int),([]:List Int),([]:List Int),(0:Int)⟩:XTable),q3 5 cB false,q3 6 cc3 s203.1,(7,.adr 22 [.cap 0,.dr]),(8,.ref 22 []),q2 22 (cFn 48 (fun (v:(List (List UInt8)))=>[.ptr true (cc10.enc v)]) false (fun _=>imo)) s203.2]) (s96.1,s108) rfl h
  fun G266 nx264 s203 hn265 h=>wpC_kp<|ws<|wpC_kp<|ws<|rg<|st rfl<|lda rfl rfl rfl rfl rfl rfl<|stw rfl<|lens rfl fun l271=>st rfl<|b_gtr (k := .i64) rfl rfl<|sq [q3 2 cc4 v0,q3 4 cc3 (⟨(0:Int),([]:List Int),([]:List Int),(0:Int)⟩:XTable),q3 5 cB false,q3 6 cc3 s203.1,(7,.adr 22 [.cap 0,.dr]),(8,.ref 22 []),q2 22 (cFn 48 (fun (v:(List (List UInt8)))=>[.ptr true (cc10.enc v)]) false (fun _=>imo)) s203.2,q2 91 cB (decide ((0:Int) < (s203.2.length:Int)))]<|
  xn<|cnd rfl h (fun b272 h=>wpC_skip<|kpN [q3 2 cc4 v0,q3 4 cc3 (⟨(0:Int),([]:List Int),([]:List Int),(0:Int)⟩:XTable),q3 5 cB false,q3 6 cc3 s203.1,(7,.adr 22 [.cap 0,.dr]),(8,.ref 22 []),q2 22 (cFn 48 (fun (v:(List (List UInt8)))=>[.ptr true (cc10.enc v)]) false (fun _=>imo)) s203.2] (by kernel_rfl)<|xn<|wpC_blk<|ws<|rg<|st rfl<|mvr rfl<|bnd h fun x277 e278 h=>x_cn (cFn 48 (fun (v:(List (List UInt8)))=>[.ptr true (cc10.enc v)]) false (fun _=>imo)) x277.1 (far rfl rfl rfl) rfl (con_impl_parseTable_1 e278) (cmo cm0)<|bnd h fun x279 e280 h=>st rfl<|o_call (a1 (c := cS) tS rfl (a1 (c := cS) tS rfl a0)) (con_strings_Cut e280) (.inl (so1 sS (so1 sS (so1 sB so0))))<|x_mvt rfl<|x_ext rfl rfl<|x_ext rfl rfl<|x_ext rfl rfl<|xa (ss rfl rfl)<|xa (ss rfl rfl)<|xa (ss rfl rfl)<|sq [q3 2 cc4 v0,q3 4 cc3 (⟨(0:Int),([]:List Int),([]:List Int),(0:Int)⟩:XTable),q3 5 cB false,q3 6 cc3 s203.1,(7,.adr 22 [.cap 0,.dr]),(8,.ref 22 []),q2 12 cS x279.1,q2 13 cS x279.2.1,q2 22 (cFn 48 (fun (v:(List (List UInt8)))=>[.ptr true (cc10.enc v)]) false (fun _=>imo)) x277.1]<|
  xn<|ws<|rg<|st rfl<|ldb rfl rfl rfl rfl<|st rfl<|mvd rfl rfl<|bnd h fun x283 e284 h=>st rfl<|o_call (a1 (c := cc4) (tLs (tXVariable tS tK)) rfl (a1 (c := cS) tS rfl a0)) (con_impl_nameIndex e284) (.inl (so1 sK so0))<|xa (ss rfl rfl)<|sq [q3 2 cc4 v0,q3 4 cc3 (⟨(0:Int),([]:List Int),([]:List Int),(0:Int)⟩:XTable),q3 5 cB false,q3 6 cc3 s203.1,(7,.adr 22 [.cap 0,.dr]),(8,.ref 22 []),q2 13 cS x279.2.1,q2 15 cI x283,q2 22 (cFn 48 (fun (v:(List (List UInt8)))=>[.ptr true (cc10.enc v)]) false (fun _=>imo)) x277.1]<|
  xn<|ws<|wpC_kp<|ws<|rg<|st rfl<|mvd rfl rfl<|st rfl<|b_lss (k := .i64) rfl rfl<|sq [q3 2 cc4 v0,q3 4 cc3 (⟨(0:Int),([]:List Int),([]:List Int),(0:Int)⟩:XTable),q3 5 cB false,q3 6 cc3 s203.1,(7,.adr 22 [.cap 0,.dr]),(8,.ref 22 []),q2 13 cS x279.2.1,q2 15 cI x283,q2 22 (cFn 48 (fun (v:(List (List UInt8)))=>[.ptr true (cc10.enc v)]) false (fun _=>imo)) x277.1,q2 103 cB (decide (x283 < (0:Int)))]<|
  xn<|cnd rfl h (fun b286 h=>ws<|rg<|x_bld (cc3.enc (⟨(0:Int),([]:List Int),([]:List Int),(0:Int)⟩:XTable)) t0 rfl rfl<|x_stb (so rfl rfl) rfl (Cd.h_sz _ _) rfl<|x_stb (sc cB false rfl) rfl (Cd.h_sz _ _) rfl<|sq [q3 4 cc3 (⟨(0:Int),([]:List Int),([]:List Int),(0:Int)⟩:XTable),q3 5 cB false]<|
  xn<|wpC_ret<|rt<|rt<|rb<|rt<|rt<|rb<|rt<|rt<|re<|fin h (r2 rfl rfl rfl<|r2 rfl rfl rfl<|r0) rfl)
  (fun b286 h=>wpC_skip<|kpN [q3 2 cc4 v0,q3 4 cc3 (⟨(0:Int),([]:List Int),([]:List Int),(0:Int)⟩:XTable),q3 5 cB false,q3 6 cc3 s203.1,(7,.adr 22 [.cap 0,.dr]),(8,.ref 22 []),q2 13 cS x279.2.1,q2 15 cI x283,q2 22 (cFn 48 (fun (v:(List (List UInt8)))=>[.ptr true (cc10.enc v)]) false (fun _=>imo)) x277.1] (by kernel_rfl)<|xn<|drw_s<|pst rfl<|fab rfl rfl rfl rfl ⟨rfl,pst rfl<|ldao rfl rfl rfl rfl rfl rfl ⟨rfl,pst rfl<|mvd rfl rfl ⟨rfl,pst rfl<|mvd rfl rfl ⟨rfl,pst rfl<|ldb rfl rfl rfl rfl ⟨rfl,pst rfl<|mvd rfl rfl ⟨rfl,getO_kp h fun x287 i288 g289 h=>pst rfl<|ias rfl rfl i288 g289 rfl ⟨rfl,pst rfl<|fai rfl rfl rfl rfl ⟨rfl,pst rfl<|ldi rfl rfl rfl rfl ⟨rfl,bndp h fun x290 e291 h=>pst rfl<|o_call (a1 (c := cS) tS rfl (a1 (c := cI) tK rfl a0)) (con_impl_parseSet e291) (.inl (so1 sK so0)) ⟨rfl,getO_kp h fun x292 i293 g294 h=>pst rfl<|iar rfl rfl rfl rfl i293 g294 rfl ⟨rfl,preN<|x_sta (cc3.enc (⟨s203.1.Level,s203.1.Vars,(s203.1.Where.set (x283).toNat x290),s203.1.Sum⟩:XTable)) (ss rfl rfl) rfl rfl (Ln.fld rfl rfl (Ln.idx g294 Ln.nil) rfl) (Cd.h_sz cI _) rfl<|sq [q3 2 cc4 v0,q3 4 cc3 (⟨(0:Int),([]:List Int),([]:List Int),(0:Int)⟩:XTable),q3 5 cB false,q3 6 cc3 (⟨s203.1.Level,s203.1.Vars,(s203.1.Where.set (x283).toNat x290),s203.1.Sum⟩:XTable),(7,.adr 22 [.cap 0,.dr]),(8,.ref 22 []),q2 22 (cFn 48 (fun (v:(List (List UInt8)))=>[.ptr true (cc10.enc v)]) false (fun _=>imo)) x277.1]<|
  xbb<|kpN [q3 2 cc4 v0,q3 4 cc3 (⟨(0:Int),([]:List Int),([]:List Int),(0:Int)⟩:XTable),q3 5 cB false,q3 6 cc3 (⟨s203.1.Level,s203.1.Vars,(s203.1.Where.set (x283).toNat x290),s203.1.Sum⟩:XTable),(7,.adr 22 [.cap 0,.dr]),(8,.ref 22 []),q2 22 (cFn 48 (fun (v:(List (List UInt8)))=>[.ptr true (cc10.enc v)]) false (fun _=>imo)) x277.1] (by kernel_rfl)<|xn<|hn265 ((⟨s203.1.Level,s203.1.Vars,(s203.1.Where.set (x283).toNat x290),s203.1.Sum⟩:XTable),x277.1) h⟩⟩⟩⟩⟩⟩⟩⟩⟩⟩⟩))
  (fun b272 h=>wpC_exit<|xt<|xt<|xt<|xt<|xb<|kpN [q3 4 cc3 (⟨(0:Int),([]:List Int),([]:List Int),(0:Int)⟩:XTable),q3 5 cB false,q3 6 cc3 s203.1] (by kernel_rfl)<|xn<|ws<|rg<|st rfl<|ldbo rfl rfl rfl rfl<|x_stb (sb rfl rfl) rfl (Cd.h_sz _ _) rfl<|x_stb (sc cB true rfl) rfl (Cd.h_sz _ _) rfl<|sq [q3 4 cc3 s203.1,q3 5 cB true]<|
  xn<|wpC_ret<|re<|fin h (r2 rfl rfl rfl<|r2 rfl rfl rfl<|r0) rfl))
  fun m110 h=>wpC_kp<|ws<|rg<|st rfl<|lda rfl rfl rfl rfl rfl rfl<|stw rfl<|lens rfl fun l299=>st rfl<|b_gtr (k := .i64) rfl rfl<|st rfl<|mvd rfl rfl<|ite_k h (fun b300 h=>gt' rfl b300<|st rfl<|mvr rfl<|gt' rfl b300<|bnd h fun x301 e302 h=>x_cn (cFn 48 (fun (v:(List (List UInt8)))=>[.ptr true (cc10.enc v)]) false (fun _=>imo)) x301.1 (far rfl rfl rfl) rfl (con_impl_parseTable_1 e302) (cmo cm0)<|gt' rfl b300<|st rfl<|b_sne rfl rfl<|st rfl<|pick1 rfl b300 (cd := cB) (v := (decide (x301.2 ≠ ([119,104,101,114,101]:List UInt8)))) rfl rfl<|sq [q3 2 cc4 v0,q3 4 cc3 (⟨(0:Int),([]:List Int),([]:List Int),(0:Int)⟩:XTable),q3 5 cB false,q3 6 cc3 s96.1,(7,.adr 22 [.cap 0,.dr]),(8,.ref 22 []),q2 22 (cFn 48 (fun (v:(List (List UInt8)))=>[.ptr true (cc10.enc v)]) false (fun _=>imo)) x301.1,q2 87 cB (decide (x301.2 ≠ ([119,104,101,114,101]:List UInt8)))]<|
  xn<|cnd rfl h (fun b303 h=>ws<|rg<|x_bld (cc3.enc (⟨(0:Int),([]:List Int),([]:List Int),(0:Int)⟩:XTable)) t0 rfl rfl<|x_stb (so rfl rfl) rfl (Cd.h_sz _ _) rfl<|x_stb (sc cB false rfl) rfl (Cd.h_sz _ _) rfl<|sq [q3 4 cc3 (⟨(0:Int),([]:List Int),([]:List Int),(0:Int)⟩:XTable),q3 5 cB false]<|
  xn<|wpC_ret<|rt<|rt<|re<|fin h (r2 rfl rfl rfl<|r2 rfl rfl rfl<|r0) rfl)
  (fun b303 h=>wpC_skip<|kpN [q3 2 cc4 v0,q3 4 cc3 (⟨(0:Int),([]:List Int),([]:List Int),(0:Int)⟩:XTable),q3 5 cB false,q3 6 cc3 s96.1,(7,.adr 22 [.cap 0,.dr]),(8,.ref 22 []),q2 22 (cFn 48 (fun (v:(List (List UInt8)))=>[.ptr true (cc10.enc v)]) false (fun _=>imo)) x301.1] (by kernel_rfl)<|m110 x301.1 h))
  (fun b300 h=>gf rfl b300<|gf rfl b300<|gf rfl b300<|st rfl<|pick0 rfl b300 (cd := cB) (v := false) rfl rfl<|sq [q3 2 cc4 v0,q3 4 cc3 (⟨(0:Int),([]:List Int),([]:List Int),(0:Int)⟩:XTable),q3 5 cB false,q3 6 cc3 s96.1,(7,.adr 22 [.cap 0,.dr]),(8,.ref 22 []),q2 22 (cFn 48 (fun (v:(List (List UInt8)))=>[.ptr true (cc10.enc v)]) false (fun _=>imo)) s96.2,q2 87 cB false]<|
  xn<|cnd0 rfl rfl<|wpC_skip<|kpN [q3 2 cc4 v0,q3 4 cc3 (⟨(0:Int),([]:List Int),([]:List Int),(0:Int)⟩:XTable),q3 5 cB false,q3 6 cc3 s96.1,(7,.adr 22 [.cap 0,.dr]),(8,.ref 22 []),q2 22 (cFn 48 (fun (v:(List (List UInt8)))=>[.ptr true (cc10.enc v)]) false (fun _=>imo)) s96.2] (by kernel_rfl)<|m110 s96.2 h))
  fun m98 h=>wpC_kp<|ws<|jw (fun (s309:Bool)=>[q3 2 cc4 v0,q3 4 cc3 (⟨(0:Int),([]:List Int),([]:List Int),(0:Int)⟩:XTable),q3 5 cB false,q3 6 cc3 (⟨x39.1,s26.1.Vars,s26.1.Where,s26.1.Sum⟩:XTable),(7,.adr 22 [.cap 0,.dr]),(8,.ref 22 []),q2 22 (cFn 48 (fun (v:(List (List UInt8)))=>[.ptr true (cc10.enc v)]) false (fun _=>imo)) x37.1,q2 61 cB s309]) h (fun s309 h=>xn<|cnd rfl h (fun b311 h=>ws<|rg<|st rfl<|mvr rfl<|bnd h fun x314 e315 h=>x_cn (cFn 48 (fun (v:(List (List UInt8)))=>[.ptr true (cc10.enc v)]) false (fun _=>imo)) x314.1 (far rfl rfl rfl) rfl (con_impl_parseTable_1 e315) (cmo cm0)<|sq [q3 2 cc4 v0,q3 4 cc3 (⟨(0:Int),([]:List Int),([]:List Int),(0:Int)⟩:XTable),q3 5 cB false,q3 6 cc3 (⟨x39.1,s26.1.Vars,s26.1.Where,s26.1.Sum⟩:XTable),(7,.adr 22 [.cap 0,.dr]),(8,.ref 22 []),q2 22 (cFn 48 (fun (v:(List (List UInt8)))=>[.ptr true (cc10.enc v)]) false (fun _=>imo)) x314.1]<|
  xn<|ws<|rg<|st rfl<|mvr rfl<|bnd h fun x320 e321 h=>x_cn (cFn 48 (fun (v:(List (List UInt8)))=>[.ptr true (cc10.enc v)]) false (fun _=>imo)) x320.1 (far rfl rfl rfl) rfl (con_impl_parseTable_1 e321) (cmo cm0)<|bnd h fun x322 e323 h=>st rfl<|o_call (a1 (c := cS) tS rfl (a1 (c := cS) tS rfl a0)) (con_strings_SplitSeq e323) (.inr (hr1 rfl rfl (hrc rfl hr0)))<|sq [q3 2 cc4 v0,q3 4 cc3 (⟨(0:Int),([]:List Int),([]:List Int),(0:Int)⟩:XTable),q3 5 cB false,q3 6 cc3 (⟨x39.1,s26.1.Vars,s26.1.Where,s26.1.Sum⟩:XTable),(7,.adr 22 [.cap 0,.dr]),(8,.ref 22 []),q2 22 (cFn 48 (fun (v:(List (List UInt8)))=>[.ptr true (cc10.enc v)]) false (fun _=>imo)) x320.1,q2 66 (cFn 93 (fun (v:((List UInt8) × (List UInt8) × Int))=>[.ptr false (cS.enc v.1),.ptr true (cS.enc v.2.1),.ptr false (cI.enc v.2.2)]) false (fun _=>(iml imo))) x322]<|
  xn<|wpC_blk<|AS.ck_k h fun hk327 h=>rf_s (fun (s324:XTable)=>[q3 2 cc4 v0,q3 4 cc3 (⟨(0:Int),([]:List Int),([]:List Int),(0:Int)⟩:XTable),q3 5 cB false,q3 6 cc3 s324,(7,.adr 22 [.cap 0,.dr]),(8,.ref 22 []),q2 22 (cFn 48 (fun (v:(List (List UInt8)))=>[.ptr true (cc10.enc v)]) false (fun _=>imo)) x320.1]) (⟨x39.1,s26.1.Vars,s26.1.Where,s26.1.Sum⟩:XTable) rfl (it_split hk327) (by kernel_rfl) h
  (fun s324 h=>xbb<|kpN [q3 2 cc4 v0,q3 4 cc3 (⟨(0:Int),([]:List Int),([]:List Int),(0:Int)⟩:XTable),q3 5 cB false,q3 6 cc3 s324,(7,.adr 22 [.cap 0,.dr]),(8,.ref 22 []),q2 22 (cFn 48 (fun (v:(List (List UInt8)))=>[.ptr true (cc10.enc v)]) false (fun _=>imo)) x320.1] (by kernel_rfl)<|m98 (s324,x320.1) h)
  (fun G344 nx342 k325 s324 x326 hn343 h=>wpC_blk<|ws<|rg<|st rfl<|ldb rfl rfl rfl rfl<|st rfl<|mvd rfl rfl<|bnd h fun x347 e348 h=>st rfl<|o_call (a1 (c := cc4) (tLs (tXVariable tS tK)) rfl (a1 (c := cS) tS rfl a0)) (con_impl_nameIndex e348) (.inl (so1 sK so0))<|xa (ss rfl rfl)<|sq [q3 2 cc4 v0,q3 4 cc3 (⟨(0:Int),([]:List Int),([]:List Int),(0:Int)⟩:XTable),q3 5 cB false,q3 6 cc3 s324,(7,.adr 22 [.cap 0,.dr]),(8,.ref 22 []),q2 11 cI x347,q2 22 (cFn 48 (fun (v:(List (List UInt8)))=>[.ptr true (cc10.enc v)]) false (fun _=>imo)) x320.1]<|
  xn<|ws<|wpC_kp<|ws<|rg<|st rfl<|mvd rfl rfl<|st rfl<|b_lss (k := .i64) rfl rfl<|sq [q3 2 cc4 v0,q3 4 cc3 (⟨(0:Int),([]:List Int),([]:List Int),(0:Int)⟩:XTable),q3 5 cB false,q3 6 cc3 s324,(7,.adr 22 [.cap 0,.dr]),(8,.ref 22 []),q2 11 cI x347,q2 22 (cFn 48 (fun (v:(List (List UInt8)))=>[.ptr true (cc10.enc v)]) false (fun _=>imo)) x320.1,q2 72 cB (decide (x347 < (0:Int)))]<|
  xn<|cnd rfl h (fun b350 h=>ws<|rg<|x_bld (cc3.enc (⟨(0:Int),([]:List Int),([]:List Int),(0:Int)⟩:XTable)) t0 rfl rfl<|x_stb (so rfl rfl) rfl (Cd.h_sz _ _) rfl<|x_stb (sc cB false rfl) rfl (Cd.h_sz _ _) rfl<|sq [q3 4 cc3 (⟨(0:Int),([]:List Int),([]:List Int),(0:Int)⟩:XTable),q3 5 cB false]<|
  xn<|wpC_ret<|rt<|rt<|rb<|rfR [(2,.un),q3 4 cc3 (⟨(0:Int),([]:List Int),([]:List Int),(0:Int)⟩:XTable),q3 5 cB false,(6,.un),(7,.un),(8,.un),(22,.un)] (by kernel_rfl)<|rb<|rt<|rt<|re<|fin h (r2 rfl rfl rfl<|r2 rfl rfl rfl<|r0) rfl)
  (fun b350 h=>wpC_skip<|kpN [q3 2 cc4 v0,q3 4 cc3 (⟨(0:Int),([]:List Int),([]:List Int),(0:Int)⟩:XTable),q3 5 cB false,q3 6 cc3 s324,(7,.adr 22 [.cap 0,.dr]),(8,.ref 22 []),q2 11 cI x347,q2 22 (cFn 48 (fun (v:(List (List UInt8)))=>[.ptr true (cc10.enc v)]) false (fun _=>imo)) x320.1] (by kernel_rfl)<|xn<|rg<|st rfl<|fab rfl rfl rfl rfl<|st rfl<|ldao rfl rfl rfl rfl rfl rfl<|st rfl<|mvd rfl rfl<|x_bsl cI [x347] (t1 (ss rfl rfl) rfl t0) rfl rfl<|lnO_k h fun l351 h=>x_app (sp ((cXTable cI (cH (α := (List Int))) cc11 cI).enc (⟨s324.Level,s324.Vars,s324.Where,s324.Sum⟩:XTable)) rfl rfl (Ln.fld rfl rfl Ln.nil rfl)) (tow rfl rfl) l351 rfl<|st rfl<|fab rfl rfl rfl rfl<|x_sta (cc3.enc (⟨s324.Level,(s324.Vars ++ [x347]),s324.Where,s324.Sum⟩:XTable)) (so rfl rfl) rfl rfl (Ln.fld rfl rfl Ln.nil rfl) (Cd.h_sz (cH (α := (List Int))) _) rfl<|sq [q3 2 cc4 v0,q3 4 cc3 (⟨(0:Int),([]:List Int),([]:List Int),(0:Int)⟩:XTable),q3 5 cB false,q3 6 cc3 (⟨s324.Level,(s324.Vars ++ [x347]),s324.Where,s324.Sum⟩:XTable),(7,.adr 22 [.cap 0,.dr]),(8,.ref 22 []),q2 22 (cFn 48 (fun (v:(List (List UInt8)))=>[.ptr true (cc10.enc v)]) false (fun _=>imo)) x320.1]<|
  xbb<|rfN [q3 2 cc4 v0,q3 4 cc3 (⟨(0:Int),([]:List Int),([]:List Int),(0:Int)⟩:XTable),q3 5 cB false,q3 6 cc3 (⟨s324.Level,(s324.Vars ++ [x347]),s324.Where,s324.Sum⟩:XTable),(7,.adr 22 [.cap 0,.dr]),(8,.ref 22 []),q2 22 (cFn 48 (fun (v:(List (List UInt8)))=>[.ptr true (cc10.enc v)]) false (fun _=>imo)) x320.1] (by kernel_rfl)<|hn343 (⟨s324.Level,(s324.Vars ++ [x347]),s324.Where,s324.Sum⟩:XTable) h)))
  (fun b311 h=>wpC_skip<|kpN [q3 2 cc4 v0,q3 4 cc3 (⟨(0:Int),([]:List Int),([]:List Int),(0:Int)⟩:XTable),q3 5 cB false,q3 6 cc3 (⟨x39.1,s26.1.Vars,s26.1.Where,s26.1.Sum⟩:XTable),(7,.adr 22 [.cap 0,.dr]),(8,.ref 22 []),q2 22 (cFn 48 (fun (v:(List (List UInt8)))=>[.ptr true (cc10.enc v)]) false (fun _=>imo)) x37.1] (by kernel_rfl)<|m98 ((⟨x39.1,s26.1.Vars,s26.1.Where,s26.1.Sum⟩:XTable),x37.1) h))
  fun s309' q310 h=>rg<|st rfl<|lda rfl rfl rfl rfl rfl rfl<|stw rfl<|lens rfl fun l352=>st rfl<|b_gtr (k := .i64) rfl rfl<|st rfl<|mvd rfl rfl<|ite_k h (fun b353 h=>gt' rfl b353<|st rfl<|lda rfl rfl rfl rfl rfl rfl<|gt' rfl b353<|getO_k h fun x354 i355 g356 h=>st rfl<|ias rfl rfl i355 g356 rfl<|gt' rfl b353<|st rfl<|ldi rfl rfl rfl rfl<|gt' rfl b353<|st rfl<|b_seq rfl rfl<|st rfl<|pick1 rfl b353 (cd := cB) (v := (decide (x354 = ([98,121]:List UInt8)))) rfl rfl<|sq [q3 2 cc4 v0,q3 4 cc3 (⟨(0:Int),([]:List Int),([]:List Int),(0:Int)⟩:XTable),q3 5 cB false,q3 6 cc3 (⟨x39.1,s26.1.Vars,s26.1.Where,s26.1.Sum⟩:XTable),(7,.adr 22 [.cap 0,.dr]),(8,.ref 22 []),q2 22 (cFn 48 (fun (v:(List (List UInt8)))=>[.ptr true (cc10.enc v)]) false (fun _=>imo)) x37.1,q2 61 cB (decide (x354 = ([98,121]:List UInt8)))]<|
  lfn (S := (fun (s309:Bool)=>[q3 2 cc4 v0,q3 4 cc3 (⟨(0:Int),([]:List Int),([]:List Int),(0:Int)⟩:XTable),q3 5 cB false,q3 6 cc3 (⟨x39.1,s26.1.Vars,s26.1.Where,s26.1.Sum⟩:XTable),(7,.adr 22 [.cap 0,.dr]),(8,.ref 22 []),q2 22 (cFn 48 (fun (v:(List (List UInt8)))=>[.ptr true (cc10.enc v)]) false (fun _=>imo)) x37.1,q2 61 cB s309])) h q310 rfl)
  (fun b353 h=>gf rfl b353<|gf rfl b353<|gf rfl b353<|gf rfl b353<|st rfl<|pick0 rfl b353 (cd := cB) (v := false) rfl rfl<|sq [q3 2 cc4 v0,q3 4 cc3 (⟨(0:Int),([]:List Int),([]:List Int),(0:Int)⟩:XTable),q3 5 cB false,q3 6 cc3 (⟨x39.1,s26.1.Vars,s26.1.Where,s26.1.Sum⟩:XTable),(7,.adr 22 [.cap 0,.dr]),(8,.ref 22 []),q2 22 (cFn 48 (fun (v:(List (List UInt8)))=>[.ptr true (cc10.enc v)]) false (fun _=>imo)) x37.1,q2 61 cB false]<|
  lfn (S := (fun (s309:Bool)=>[q3 2 cc4 v0,q3 4 cc3 (⟨(0:Int),([]:List Int),([]:List Int),(0:Int)⟩:XTable),q3 5 cB false,q3 6 cc3 (⟨x39.1,s26.1.Vars,s26.1.Where,s26.1.Sum⟩:XTable),(7,.adr 22 [.cap 0,.dr]),(8,.ref 22 []),q2 22 (cFn 48 (fun (v:(List (List UInt8)))=>[.ptr true (cc10.enc v)]) false (fun _=>imo)) x37.1,q2 61 cB s309])) h q310 rfl)))
  fun m28 h=>wpC_kp<|ws<|rg<|st rfl<|mvr rfl<|bnd h fun x359 e360 h=>x_cn (cFn 48 (fun (v:(List (List UInt8)))=>[.ptr true (cc10.enc v)]) false (fun _=>imo)) x359.1 (far rfl rfl rfl) rfl (con_impl_parseTable_1 e360) (cmo cm0)<|sq [q3 2 cc4 v0,q3 4 cc3 (⟨(0:Int),([]:List Int),([]:List Int),(0:Int)⟩:XTable),q3 5 cB false,q3 6 cc3 (⟨(0:Int),([]:List Int),(List.replicate ((v0.length:Int)).toNat (0:Int)),(-1:Int)⟩:XTable),(7,.adr 22 [.cap 0,.dr]),(8,.ref 22 []),q2 22 (cFn 48 (fun (v:(List (List UInt8)))=>[.ptr true (cc10.enc v)]) false (fun _=>imo)) x359.1,q2 24 cS x359.2]<|
  xn<|wpC_blk<|ws<|rg<|st rfl<|b_seq rfl rfl<|xa (ss rfl rfl)<|sq [q3 2 cc4 v0,q3 4 cc3 (⟨(0:Int),([]:List Int),([]:List Int),(0:Int)⟩:XTable),q3 5 cB false,q3 6 cc3 (⟨(0:Int),([]:List Int),(List.replicate ((v0.length:Int)).toNat (0:Int)),(-1:Int)⟩:XTable),(7,.adr 22 [.cap 0,.dr]),(8,.ref 22 []),q2 22 (cFn 48 (fun (v:(List (List UInt8)))=>[.ptr true (cc10.enc v)]) false (fun _=>imo)) x359.1,q2 24 cS x359.2,q2 26 cB (decide (x359.2 = ([99,111,117,110,116]:List UInt8)))]<|
  xn<|cnd rfl h (fun b361 h=>wpC_skip<|xbb<|kpN [q3 2 cc4 v0,q3 4 cc3 (⟨(0:Int),([]:List Int),([]:List Int),(0:Int)⟩:XTable),q3 5 cB false,q3 6 cc3 (⟨(0:Int),([]:List Int),(List.replicate ((v0.length:Int)).toNat (0:Int)),(-1:Int)⟩:XTable),(7,.adr 22 [.cap 0,.dr]),(8,.ref 22 []),q2 22 (cFn 48 (fun (v:(List (List UInt8)))=>[.ptr true (cc10.enc v)]) false (fun _=>imo)) x359.1] (by kernel_rfl)<|m28 ((⟨(0:Int),([]:List Int),(List.replicate ((v0.length:Int)).toNat (0:Int)),(-1:Int)⟩:XTable),x359.1) h)
  (fun b361 h=>ws<|rg<|st rfl<|b_seq rfl rfl<|xa (ss rfl rfl)<|sq [q3 2 cc4 v0,q3 4 cc3 (⟨(0:Int),([]:List Int),([]:List Int),(0:Int)⟩:XTable),q3 5 cB false,q3 6 cc3 (⟨(0:Int),([]:List Int),(List.replicate ((v0.length:Int)).toNat (0:Int)),(-1:Int)⟩:XTable),(7,.adr 22 [.cap 0,.dr]),(8,.ref 22 []),q2 22 (cFn 48 (fun (v:(List (List UInt8)))=>[.ptr true (cc10.enc v)]) false (fun _=>imo)) x359.1,q2 28 cB (decide (x359.2 = ([115,117,109]:List UInt8)))]<|
  xn<|cnd rfl h (fun b362 h=>ws<|drg_s<|pst rfl<|ldb rfl rfl rfl rfl ⟨rfl,pst rfl<|mvr rfl ⟨rfl,bndp h fun x367 e368 h=>bndp h fun x369 e370 h=>preN<|gr_s [q3 2 cc4 v0,q3 4 cc3 (⟨(0:Int),([]:List Int),([]:List Int),(0:Int)⟩:XTable),q3 5 cB false,(7,.adr 22 [.cap 0,.dr])] [([false,false,false,false,false],[q3 6 cc3 (⟨(0:Int),([]:List Int),(List.replicate ((v0.length:Int)).toNat (0:Int)),(-1:Int)⟩:XTable),(8,.ref 22 []),q2 22 (cFn 48 (fun (v:(List (List UInt8)))=>[.ptr true (cc10.enc v)]) false (fun _=>imo)) x359.1,(30,.un),(31,.ref 22 []),(32,.un),(33,.un),(34,.un)]),
  ([true,false,false,false,false],[q3 6 cc3 (⟨(0:Int),([]:List Int),(List.replicate ((v0.length:Int)).toNat (0:Int)),(-1:Int)⟩:XTable),(8,.ref 22 []),q2 22 (cFn 48 (fun (v:(List (List UInt8)))=>[.ptr true (cc10.enc v)]) false (fun _=>imo)) x359.1,q2 30 cc4 v0,(31,.ref 22 []),(32,.un),(33,.un),(34,.un)]),
  ([false,true,false,false,false],[q3 6 cc3 (⟨(0:Int),([]:List Int),(List.replicate ((v0.length:Int)).toNat (0:Int)),(-1:Int)⟩:XTable),(8,.ref 22 []),q2 22 (cFn 48 (fun (v:(List (List UInt8)))=>[.ptr true (cc10.enc v)]) false (fun _=>imo)) x367.1,(30,.un),(31,.ref 22 []),q2 32 cS x367.2,(33,.un),(34,.un)]),
  ([true,true,false,false,false],[q3 6 cc3 (⟨(0:Int),([]:List Int),(List.replicate ((v0.length:Int)).toNat (0:Int)),(-1:Int)⟩:XTable),(8,.ref 22 []),q2 22 (cFn 48 (fun (v:(List (List UInt8)))=>[.ptr true (cc10.enc v)]) false (fun _=>imo)) x367.1,q2 30 cc4 v0,(31,.ref 22 []),q2 32 cS x367.2,(33,.un),(34,.un)]),
  ([true,true,true,false,false],[q3 6 cc3 (⟨(0:Int),([]:List Int),(List.replicate ((v0.length:Int)).toNat (0:Int)),(-1:Int)⟩:XTable),(8,.ref 22 []),q2 22 (cFn 48 (fun (v:(List (List UInt8)))=>[.ptr true (cc10.enc v)]) false (fun _=>imo)) x367.1,q2 30 cc4 v0,(31,.ref 22 []),q2 32 cS x367.2,q2 33 cI x369,(34,.un)]),
  ([true,true,true,true,false],[q3 6 cc3 (⟨(0:Int),([]:List Int),(List.replicate ((v0.length:Int)).toNat (0:Int)),(-1:Int)⟩:XTable),(8,.ref 22 []),q2 22 (cFn 48 (fun (v:(List (List UInt8)))=>[.ptr true (cc10.enc v)]) false (fun _=>imo)) x367.1,q2 30 cc4 v0,(31,.ref 22 []),q2 32 cS x367.2,q2 33 cI x369,(34,.adr 6 [.fld 3])]),
  ([true,true,true,true,true],[q3 6 cc3 (⟨(0:Int),([]:List Int),(List.replicate ((v0.length:Int)).toNat (0:Int)),x369⟩:XTable),(8,.ref 22 []),q2 22 (cFn 48 (fun (v:(List (List UInt8)))=>[.ptr true (cc10.enc v)]) false (fun _=>imo)) x367.1,q2 30 cc4 v0,(31,.ref 22 []),q2 32 cS x367.2,q2 33 cI x369,(34,.un)])] [q3 2 cc4 v0,q3 4 cc3 (⟨(0:Int),([]:List Int),([]:List Int),(0:Int)⟩:XTable),q3 5 cB false,q3 6 cc3 (⟨(0:Int),([]:List Int),(List.replicate ((v0.length:Int)).toNat (0:Int)),x369⟩:XTable),(7,.adr 22 [.cap 0,.dr]),(8,.ref 22 []),q2 22 (cFn 48 (fun (v:(List (List UInt8)))=>[.ptr true (cc10.enc v)]) false (fun _=>imo)) x367.1] [([false,false,false,false,false],[30]),([true,false,false,false,false],[])] (by kernel_rfl) (sa1 rfl (by kernel_rfl)<|sa1 rfl (by kernel_rfl)<|sa0) rfl
  (ob1 rfl rfl rfl (st rfl<|ldb rfl rfl rfl rfl<|obN (by kernel_rfl))<|
  ob1 rfl rfl rfl (x_cn (cFn 48 (fun (v:(List (List UInt8)))=>[.ptr true (cc10.enc v)]) false (fun _=>imo)) x367.1 (far rfl rfl rfl) rfl (con_impl_parseTable_1 e368) (cmo cm0)<|obN (by kernel_rfl))<|
  ob1 rfl rfl rfl (x_cn (cFn 48 (fun (v:(List (List UInt8)))=>[.ptr true (cc10.enc v)]) false (fun _=>imo)) x367.1 (far rfl rfl rfl) rfl (con_impl_parseTable_1 e368) (cmo cm0)<|obN (by kernel_rfl))<|
  ob1 rfl rfl rfl (st rfl<|ldb rfl rfl rfl rfl<|obN (by kernel_rfl))<|
  ob1 rfl rfl rfl (st rfl<|o_call (a1 (c := cc4) (tLs (tXVariable tS tK)) rfl (a1 (c := cS) tS rfl a0)) (con_impl_nameIndex e370) (.inl (so1 sK so0))<|obN (by kernel_rfl))<|
  ob1 rfl rfl rfl (st rfl<|fab rfl rfl rfl rfl<|obN (by kernel_rfl))<|
  ob1 rfl rfl rfl (x_sta (cc3.enc (⟨(0:Int),([]:List Int),(List.replicate ((v0.length:Int)).toNat (0:Int)),x369⟩:XTable)) (ss rfl rfl) rfl rfl (Ln.fld rfl rfl Ln.nil rfl) (Cd.h_sz cI _) rfl<|obN (by kernel_rfl))<|
  ob0)
  (by kernel_rfl)<|
  xn<|ws<|rg<|st rfl<|fab rfl rfl rfl rfl<|st rfl<|lda rfl rfl rfl rfl rfl rfl<|st rfl<|b_lss (k := .i64) rfl rfl<|sq [q3 2 cc4 v0,q3 4 cc3 (⟨(0:Int),([]:List Int),([]:List Int),(0:Int)⟩:XTable),q3 5 cB false,q3 6 cc3 (⟨(0:Int),([]:List Int),(List.replicate ((v0.length:Int)).toNat (0:Int)),x369⟩:XTable),(7,.adr 22 [.cap 0,.dr]),(8,.ref 22 []),q2 22 (cFn 48 (fun (v:(List (List UInt8)))=>[.ptr true (cc10.enc v)]) false (fun _=>imo)) x367.1,q2 37 cB (decide (x369 < (0:Int)))]<|
  xn<|cnd rfl h (fun b371 h=>ws<|rg<|x_bld (cc3.enc (⟨(0:Int),([]:List Int),([]:List Int),(0:Int)⟩:XTable)) t0 rfl rfl<|x_stb (so rfl rfl) rfl (Cd.h_sz _ _) rfl<|x_stb (sc cB false rfl) rfl (Cd.h_sz _ _) rfl<|sq [q3 4 cc3 (⟨(0:Int),([]:List Int),([]:List Int),(0:Int)⟩:XTable),q3 5 cB false]<|
  xn<|wpC_ret<|rb<|rt<|rt<|re<|fin h (r2 rfl rfl rfl<|r2 rfl rfl rfl<|r0) rfl)
  (fun b371 h=>wpC_skip<|xbb<|kpN [q3 2 cc4 v0,q3 4 cc3 (⟨(0:Int),([]:List Int),([]:List Int),(0:Int)⟩:XTable),q3 5 cB false,q3 6 cc3 (⟨(0:Int),([]:List Int),(List.replicate ((v0.length:Int)).toNat (0:Int)),x369⟩:XTable),(7,.adr 22 [.cap 0,.dr]),(8,.ref 22 []),q2 22 (cFn 48 (fun (v:(List (List UInt8)))=>[.ptr true (cc10.enc v)]) false (fun _=>imo)) x367.1] (by kernel_rfl)<|m28 ((⟨(0:Int),([]:List Int),(List.replicate ((v0.length:Int)).toNat (0:Int)),x369⟩:XTable),x367.1) h)⟩⟩)
  (fun b362 h=>ws<|rg<|x_bld (cc3.enc (⟨(0:Int),([]:List Int),([]:List Int),(0:Int)⟩:XTable)) t0 rfl rfl<|x_stb (so rfl rfl) rfl (Cd.h_sz _ _) rfl<|x_stb (sc cB false rfl) rfl (Cd.h_sz _ _) rfl<|sq [q3 4 cc3 (⟨(0:Int),([]:List Int),([]:List Int),(0:Int)⟩:XTable),q3 5 cB false]<|
  xn<|wpC_ret<|rb<|rt<|rt<|re<|fin h (r2 rfl rfl rfl<|r2 rfl rfl rfl<|r0) rfl))

def rs_impl_areVars (r:Bool):List D := [cB.enc r]
def m53:MC := .seq (.reg [q1 4 (.asg (.c (.bool false)))] [0,1])
 (.seq (.reg [q1 5 (.asg (.c (.int .i64 (-1))))] [0,1,5])
 (.seq (.kp [] (.seq (.reg [q1 8 (.mv (.t 1)),q1 9 (.len false (.t 8)),q1 10 (.mv (.c (.int .i64 0)))] [0,1,5,8,9,10])
 (.blk 0 (.loop (.seq (.reg [q1 11 (.bin .lss (.t 10) (.t 9))] [0,1,5,8,9,10,11])
 (.seq (.kp [0,1,5,8,9,10] (.cond (.t 11) (.skip) (.exit 0)))
 (.seq (.kp [0,1,5,8,9,10] (.blk 1 (.seq (.reg [q1 12 (.ia 8 (.t 10) 1),q1 13 (.ld 12 1 false),q1 7 (.asg (.t 13))] [0,1,5,7,8,9,10])
 (.seq (.kp [0,1,7,8,9,10] (.seq (.reg [q1 14 (.mv (.t 7)),q1 15 (.mv (.t 5)),q1 16 (.bin .leq (.t 14) (.t 15)),q1 17 (.mv (.t 16)),
  ⟨some 18,.mv (.t 7),some (17,false)⟩,
  ⟨some 19,.mv (.t 0),some (17,false)⟩,
  ⟨some 20,.len false (.t 19),some (17,false)⟩,
  ⟨some 21,.bin .geq (.t 18) (.t 20),some (17,false)⟩,q1 22 (.pick (.t 17) (.c (.bool true)) (.t 21))] [0,1,7,8,9,10,22])
 (.cond (.t 22) (.seq (.reg [q1 4 (.asg (.c (.bool false)))] [4])
 (.ret)) (.skip))))
 (.reg [q1 23 (.mv (.t 7)),q1 5 (.asg (.t 23))] [0,1,5,8,9,10])))))
 (.reg [q1 24 (.bin .add (.t 10) (.c (.int .i64 1))),q1 10 (.mv (.t 24))] [0,1,5,8,9,10]))))))))
 (.seq (.reg [q1 4 (.asg (.c (.bool true)))] [4])
 (.ret))))
theorem con_impl_areVars {v0:(List XVariable)} {v1:(List Int)} {r:Bool} (h:sh_impl_areVars v0 v1 = some r):Con Tryz.prog 53 [cc4.enc v0,cc9.enc v1] [] (rs_impl_areVars r) := by
 delta sh_impl_areVars at h
 refine top (out := none) (f := Tryz.f53) (m := m53) (rs := [.t 4]) (by kernel_rfl) rfl (by kernel_rfl) (by kernel_rfl) (by kernel_rfl) (by kernel_rfl) (by kernel_rfl) ?_
 exact
  ini [q2 0 cc4 v0,q2 1 cc9 v1] rfl<|ws<|rg<|xa (sc cB false rfl)<|sq [q2 0 cc4 v0,q2 1 cc9 v1]<|
  xn<|ws<|rg<|xa (sc cI (-1:Int) rfl)<|sq [q2 0 cc4 v0,q2 1 cc9 v1,q2 5 cI (-1:Int)]<|
  xn<|ws<|wpC_kp<|ws<|rg<|st rfl<|mvd rfl rfl<|stw rfl<|lens rfl fun l72=>st rfl<|mvc cI (0:Int) rfl<|sq [q2 0 cc4 v0,q2 1 cc9 v1,q2 5 cI (-1:Int),q2 8 cc9 v1,q2 9 cI (v1.length:Int),q2 10 cI (0:Int)]<|
  xn<|wpC_blk<|lpR (fun (k74:Nat) (s73:Int)=>[q2 0 cc4 v0,q2 1 cc9 v1,q2 5 cI s73,q2 8 cc9 v1,q2 9 cI (v1.length:Int),q2 10 cI (k74:Int)]) (-1:Int) rfl h
  (fun G120 s73 h=>ws<|rg<|st rfl<|b_lss (k := .i64) rfl rfl<|sq [q2 0 cc4 v0,q2 1 cc9 v1,q2 5 cI s73,q2 8 cc9 v1,q2 9 cI (v1.length:Int),q2 10 cI (v1.length:Int),q2 11 cB (decide ((v1.length:Int) < (v1.length:Int)))]<|
  xn<|ws<|wpC_kp<|cnd0 rfl (dlf _)<|wpC_exit<|xt<|xt<|xt<|xb<|kpN [] (by kernel_rfl)<|xn<|ws<|rg<|xa (sc cB true rfl)<|sq [q2 4 cB true]<|
  xn<|wpC_ret<|re<|fin h (r1 (ss rfl rfl)<|r0) rfl)
  (fun G120 nx118 k74 s73 x75 hk76 hx77 hn119 h=>ws<|rg<|st rfl<|b_lss (k := .i64) rfl rfl<|sq [q2 0 cc4 v0,q2 1 cc9 v1,q2 5 cI s73,q2 8 cc9 v1,q2 9 cI (v1.length:Int),q2 10 cI (k74:Int),q2 11 cB (decide ((k74:Int) < (v1.length:Int)))]<|
  xn<|ws<|wpC_kp<|cnd1 rfl (dlt hk76)<|wpC_skip<|kpN [q2 0 cc4 v0,q2 1 cc9 v1,q2 5 cI s73,q2 8 cc9 v1,q2 9 cI (v1.length:Int),q2 10 cI (k74:Int)] (by kernel_rfl)<|xn<|ws<|wpC_kp<|wpC_blk<|ws<|rg<|st rfl<|ias rfl rfl (Int.natCast_nonneg _) hx77 rfl<|st rfl<|ldi rfl rfl rfl rfl<|xa (ss rfl rfl)<|sq [q2 0 cc4 v0,q2 1 cc9 v1,q2 5 cI s73,q2 7 cI x75,q2 8 cc9 v1,q2 9 cI (v1.length:Int),q2 10 cI (k74:Int)]<|
  xn<|ws<|wpC_kp<|ws<|rg<|st rfl<|mvd rfl rfl<|st rfl<|mvd rfl rfl<|st rfl<|b_leq (k := .i64) rfl rfl<|st rfl<|mvd rfl rfl<|ite_k h (fun b138 h=>gf rfl b138<|gf rfl b138<|gf rfl b138<|gf rfl b138<|st rfl<|pick1 rfl b138 (cd := cB) (v := true) rfl rfl<|sq [q2 0 cc4 v0,q2 1 cc9 v1,q2 7 cI x75,q2 8 cc9 v1,q2 9 cI (v1.length:Int),q2 10 cI (k74:Int),q2 22 cB true]<|
  xn<|cnd1 rfl rfl<|ws<|rg<|xa (sc cB false rfl)<|sq [q2 4 cB false]<|
  xn<|wpC_ret<|rt<|rt<|rb<|rt<|rt<|rt<|rb<|rt<|rt<|re<|fin h (r1 (ss rfl rfl)<|r0) rfl)
  (fun b138 h=>gt' rfl b138<|st rfl<|mvd rfl rfl<|gt' rfl b138<|st rfl<|mvd rfl rfl<|gt' rfl b138<|stw rfl<|lens rfl fun l139=>gt' rfl b138<|st rfl<|b_geq (k := .i64) rfl rfl<|st rfl<|pick0 rfl b138 (cd := cB) (v := (decide ((v0.length:Int) ≤ x75))) rfl rfl<|sq [q2 0 cc4 v0,q2 1 cc9 v1,q2 7 cI x75,q2 8 cc9 v1,q2 9 cI (v1.length:Int),q2 10 cI (k74:Int),q2 22 cB (decide ((v0.length:Int) ≤ x75))]<|
  xn<|cnd rfl h (fun b140 h=>ws<|rg<|xa (sc cB false rfl)<|sq [q2 4 cB false]<|
  xn<|wpC_ret<|rt<|rt<|rb<|rt<|rt<|rt<|rb<|rt<|rt<|re<|fin h (r1 (ss rfl rfl)<|r0) rfl)
  (fun b140 h=>wpC_skip<|kpN [q2 0 cc4 v0,q2 1 cc9 v1,q2 7 cI x75,q2 8 cc9 v1,q2 9 cI (v1.length:Int),q2 10 cI (k74:Int)] (by kernel_rfl)<|xn<|rg<|st rfl<|mvd rfl rfl<|xa (ss rfl rfl)<|sq [q2 0 cc4 v0,q2 1 cc9 v1,q2 5 cI x75,q2 8 cc9 v1,q2 9 cI (v1.length:Int),q2 10 cI (k74:Int)]<|
  xbb<|kpN [q2 0 cc4 v0,q2 1 cc9 v1,q2 5 cI x75,q2 8 cc9 v1,q2 9 cI (v1.length:Int),q2 10 cI (k74:Int)] (by kernel_rfl)<|xn<|rg<|st rfl<|b_inc rfl rfl l72 hk76<|st rfl<|mvd rfl rfl<|sq [q2 0 cc4 v0,q2 1 cc9 v1,q2 5 cI x75,q2 8 cc9 v1,q2 9 cI (v1.length:Int),q2 10 cI ((k74 + 1:Nat):Int)]<|
  xn<|hn119 x75 h)))

def rs_impl_fullSet (r:Int):List D := [cI.enc r]
def m77:MC := .seq (.reg [q1 1 (.box (.t 0)),q1 2 (.asg (.c (.int .i64 0)))] [1])
 (.seq (.reg [q1 3 (.fa 1 1 1),q1 4 (.ld 3 1 false),q1 5 (.bin .shl (.c (.int .i64 1)) (.t 4)),q1 6 (.bin .sub (.t 5) (.c (.int .i64 1))),q1 2 (.asg (.t 6))] [2])
 (.ret))
theorem con_impl_fullSet {v0:XVariable} {r:Int} (h:sh_impl_fullSet v0 = some r):Con Tryz.prog 77 [cc7.enc v0] [] (rs_impl_fullSet r) := by
 delta sh_impl_fullSet at h
 refine top (out := none) (f := Tryz.f77) (m := m77) (rs := [.t 2]) (by kernel_rfl) rfl (by kernel_rfl) (by kernel_rfl) (by kernel_rfl) (by kernel_rfl) (by kernel_rfl) ?_
 exact
  ini [q2 0 cc7 v0] rfl<|ws<|rg<|x_box (ss rfl rfl)<|xa (sc cI (0:Int) rfl)<|sq [q3 1 cc7 v0]<|
  xn<|ws<|rg<|st rfl<|fab rfl rfl rfl rfl<|st rfl<|lda rfl rfl rfl rfl rfl rfl<|ck_k h fun i4 h=>ckI_k h fun i5 h=>st rfl<|b_shl (k := .i64) (k' := .i64) rfl rfl i4 rfl i5<|ckI_k h fun i6 h=>st rfl<|b_sub (k := .i64) rfl rfl i6<|xa (ss rfl rfl)<|sq [q2 2 cI (((1:Int) * 2 ^ (v0.Levels).toNat) - (1:Int))]<|
  xn<|wpC_ret<|re<|fin h (r1 (ss rfl rfl)<|r0) rfl

def rs_impl_isWhere (r:Bool):List D := [cB.enc r]
def m54:MC := .seq (.reg [q1 4 (.asg (.c (.bool false)))] [0,1])
 (.seq (.kp [0,1] (.seq (.reg [q1 7 (.mv (.t 1)),q1 8 (.len false (.t 7)),q1 9 (.mv (.t 0)),q1 10 (.len false (.t 9)),q1 11 (.bin .neq (.t 8) (.t 10))] [0,1,11])
 (.cond (.t 11) (.seq (.reg [q1 4 (.asg (.c (.bool false)))] [4])
 (.ret)) (.skip))))
 (.seq (.kp [] (.seq (.reg [q1 12 (.mv (.t 1)),q1 13 (.len false (.t 12)),q1 14 (.mv (.c (.int .i64 0)))] [0,1,12,13,14])
 (.blk 0 (.loop (.seq (.reg [q1 15 (.bin .lss (.t 14) (.t 13))] [0,1,12,13,14,15])
 (.seq (.kp [0,1,12,13,14] (.cond (.t 15) (.skip) (.exit 0)))
 (.seq (.kp [0,1,12,13,14] (.blk 1 (.seq (.reg [q1 16 (.mv (.t 14)),q1 17 (.ia 12 (.t 14) 1),q1 18 (.ld 17 1 false),q1 5 (.asg (.t 16)),q1 6 (.asg (.t 18))] [0,1,5,6,12,13,14])
 (.seq (.reg [q1 19 (.mv (.t 6)),q1 20 (.bin .lss (.t 19) (.c (.int .i64 0))),q1 21 (.mv (.t 20)),
  ⟨some 22,.mv (.t 6),some (21,false)⟩,
  ⟨some 23,.mv (.t 0),some (21,false)⟩,
  ⟨some 24,.mv (.t 5),some (21,false)⟩,
  ⟨some 25,.ia 23 (.t 24) 2,some (21,false)⟩,
  ⟨some 26,.ld 25 2 true,some (21,false)⟩,
  ⟨some 27,.call 77 [(.t 26)],some (21,false)⟩,
  ⟨some 28,.bin .gtr (.t 22) (.t 27),some (21,false)⟩,q1 29 (.pick (.t 21) (.c (.bool true)) (.t 28))] [0,1,12,13,14,29])
 (.cond (.t 29) (.seq (.reg [q1 4 (.asg (.c (.bool false)))] [4])
 (.ret)) (.skip))))))
 (.reg [q1 30 (.bin .add (.t 14) (.c (.int .i64 1))),q1 14 (.mv (.t 30))] [0,1,12,13,14]))))))))
 (.seq (.reg [q1 4 (.asg (.c (.bool true)))] [4])
 (.ret))))
theorem con_impl_isWhere {v0:(List XVariable)} {v1:(List Int)} {r:Bool} (h:sh_impl_isWhere v0 v1 = some r):Con Tryz.prog 54 [cc4.enc v0,cc9.enc v1] [] (rs_impl_isWhere r) := by
 delta sh_impl_isWhere at h
 refine top (out := none) (f := Tryz.f54) (m := m54) (rs := [.t 4]) (by kernel_rfl) rfl (by kernel_rfl) (by kernel_rfl) (by kernel_rfl) (by kernel_rfl) (by kernel_rfl) ?_
 exact
  ini [q2 0 cc4 v0,q2 1 cc9 v1] rfl<|ws<|rg<|xa (sc cB false rfl)<|sq [q2 0 cc4 v0,q2 1 cc9 v1]<|
  xn<|ws<|wpC_kp<|ws<|rg<|st rfl<|mvd rfl rfl<|stw rfl<|lens rfl fun l8=>st rfl<|mvd rfl rfl<|stw rfl<|lens rfl fun l9=>st rfl<|b_neq (k := .i64) rfl rfl<|sq [q2 0 cc4 v0,q2 1 cc9 v1,q2 11 cB (decide ((v1.length:Int) ≠ (v0.length:Int)))]<|
  xn<|cnd rfl h (fun b10 h=>ws<|rg<|xa (sc cB false rfl)<|sq [q2 4 cB false]<|
  xn<|wpC_ret<|rt<|rt<|re<|fin h (r1 (ss rfl rfl)<|r0) rfl)
  (fun b10 h=>wpC_skip<|kpN [q2 0 cc4 v0,q2 1 cc9 v1] (by kernel_rfl)<|xn<|ws<|wpC_kp<|ws<|rg<|st rfl<|mvd rfl rfl<|stw rfl<|lens rfl fun l74=>st rfl<|mvc cI (0:Int) rfl<|sq [q2 0 cc4 v0,q2 1 cc9 v1,q2 12 cc9 v1,q2 13 cI (v1.length:Int),q2 14 cI (0:Int)]<|
  xn<|wpC_blk<|lpR (fun (k76:Nat) (s75:Unit)=>[q2 0 cc4 v0,q2 1 cc9 v1,q2 12 cc9 v1,q2 13 cI (v1.length:Int),q2 14 cI (k76:Int)]) () rfl h
  (fun G108 s75 h=>ws<|rg<|st rfl<|b_lss (k := .i64) rfl rfl<|sq [q2 0 cc4 v0,q2 1 cc9 v1,q2 12 cc9 v1,q2 13 cI (v1.length:Int),q2 14 cI (v1.length:Int),q2 15 cB (decide ((v1.length:Int) < (v1.length:Int)))]<|
  xn<|ws<|wpC_kp<|cnd0 rfl (dlf _)<|wpC_exit<|xt<|xt<|xt<|xb<|kpN [] (by kernel_rfl)<|xn<|ws<|rg<|xa (sc cB true rfl)<|sq [q2 4 cB true]<|
  xn<|wpC_ret<|re<|fin h (r1 (ss rfl rfl)<|r0) rfl)
  (fun G108 nx106 k76 s75 x77 hk78 hx79 hn107 h=>ws<|rg<|st rfl<|b_lss (k := .i64) rfl rfl<|sq [q2 0 cc4 v0,q2 1 cc9 v1,q2 12 cc9 v1,q2 13 cI (v1.length:Int),q2 14 cI (k76:Int),q2 15 cB (decide ((k76:Int) < (v1.length:Int)))]<|
  xn<|ws<|wpC_kp<|cnd1 rfl (dlt hk78)<|wpC_skip<|kpN [q2 0 cc4 v0,q2 1 cc9 v1,q2 12 cc9 v1,q2 13 cI (v1.length:Int),q2 14 cI (k76:Int)] (by kernel_rfl)<|xn<|ws<|wpC_kp<|wpC_blk<|ws<|rg<|st rfl<|mvd rfl rfl<|st rfl<|ias rfl rfl (Int.natCast_nonneg _) hx79 rfl<|st rfl<|ldi rfl rfl rfl rfl<|xa (ss rfl rfl)<|xa (ss rfl rfl)<|sq [q2 0 cc4 v0,q2 1 cc9 v1,q2 5 cI (k76:Int),q2 6 cI x77,q2 12 cc9 v1,q2 13 cI (v1.length:Int),q2 14 cI (k76:Int)]<|
  xn<|ws<|rg<|st rfl<|mvd rfl rfl<|st rfl<|b_lss (k := .i64) rfl rfl<|st rfl<|mvd rfl rfl<|ite_k h (fun b128 h=>gf rfl b128<|gf rfl b128<|gf rfl b128<|gf rfl b128<|gf rfl b128<|gf rfl b128<|gf rfl b128<|st rfl<|pick1 rfl b128 (cd := cB) (v := true) rfl rfl<|sq [q2 0 cc4 v0,q2 1 cc9 v1,q2 12 cc9 v1,q2 13 cI (v1.length:Int),q2 14 cI (k76:Int),q2 29 cB true]<|
  xn<|cnd1 rfl rfl<|ws<|rg<|xa (sc cB false rfl)<|sq [q2 4 cB false]<|
  xn<|wpC_ret<|rb<|rt<|rt<|rt<|rb<|rt<|rt<|re<|fin h (r1 (ss rfl rfl)<|r0) rfl)
  (fun b128 h=>gt' rfl b128<|st rfl<|mvd rfl rfl<|gt' rfl b128<|st rfl<|mvd rfl rfl<|gt' rfl b128<|st rfl<|mvd rfl rfl<|gt' rfl b128<|getO_k h fun x129 i130 g131 h=>st rfl<|ias rfl rfl i130 g131 rfl<|gt' rfl b128<|st rfl<|ldi rfl rfl rfl rfl<|gt' rfl b128<|bnd h fun x132 e133 h=>st rfl<|o_call (a1 (c := cc7) (tXVariable tS tK) rfl a0) (con_impl_fullSet e133) (.inl (so1 sK so0))<|gt' rfl b128<|st rfl<|b_gtr (k := .i64) rfl rfl<|st rfl<|pick0 rfl b128 (cd := cB) (v := (decide (x132 < x77))) rfl rfl<|sq [q2 0 cc4 v0,q2 1 cc9 v1,q2 12 cc9 v1,q2 13 cI (v1.length:Int),q2 14 cI (k76:Int),q2 29 cB (decide (x132 < x77))]<|
  xn<|cnd rfl h (fun b134 h=>ws<|rg<|xa (sc cB false rfl)<|sq [q2 4 cB false]<|
  xn<|wpC_ret<|rb<|rt<|rt<|rt<|rb<|rt<|rt<|re<|fin h (r1 (ss rfl rfl)<|r0) rfl)
  (fun b134 h=>wpC_skip<|xbb<|kpN [q2 0 cc4 v0,q2 1 cc9 v1,q2 12 cc9 v1,q2 13 cI (v1.length:Int),q2 14 cI (k76:Int)] (by kernel_rfl)<|xn<|rg<|st rfl<|b_inc rfl rfl l74 hk78<|st rfl<|mvd rfl rfl<|sq [q2 0 cc4 v0,q2 1 cc9 v1,q2 12 cc9 v1,q2 13 cI (v1.length:Int),q2 14 cI ((k76 + 1:Nat):Int)]<|
  xn<|hn107 () h))))

def rs_impl_depthOf (r:Int):List D := [cI.enc r]
def m95:MC := .seq (.reg [q1 2 (.box (.t 0)),q1 4 (.asg (.c (.int .i64 0)))] [1,2])
 (.seq (.reg [q1 5 (.asg (.c (.int .i64 0)))] [1,2,5])
 (.seq (.kp [5] (.blk 0 (.loop (.kp [1,2,5] (.seq (.kp [1,2,5] (.seq (.reg [q1 6 (.mv (.t 1)),q1 7 (.bin .gtr (.t 6) (.c (.int .i64 0)))] [1,2,5,7])
 (.cond (.t 7) (.skip) (.exit 0))))
 (.blk 1 (.seq (.reg [q1 8 (.fa 2 0 0),q1 9 (.ld 8 1 false),q1 10 (.mv (.t 1)),q1 11 (.ia 9 (.t 10) 1),q1 12 (.ld 11 1 false),q1 1 (.asg (.t 12))] [1,2,5])
 (.reg [q1 13 (.mv (.t 5)),q1 14 (.bin .add (.t 13) (.c (.int .i64 1))),q1 5 (.asg (.t 14))] [1,2,5]))))))))
 (.seq (.reg [q1 15 (.mv (.t 5)),q1 4 (.asg (.t 15))] [4])
 (.ret))))
theorem con_impl_depthOf {v0:XGeo} {v1:Int} {r:Int} (h:sh_impl_depthOf v0 v1 = some r):Con Tryz.prog 95 [cc6.enc v0,cI.enc v1] [] (rs_impl_depthOf r) := by
 delta sh_impl_depthOf at h
 refine top (out := none) (f := Tryz.f95) (m := m95) (rs := [.t 4]) (by kernel_rfl) rfl (by kernel_rfl) (by kernel_rfl) (by kernel_rfl) (by kernel_rfl) (by kernel_rfl) ?_
 exact
  ini [q2 0 cc6 v0,q2 1 cI v1] rfl<|ws<|rg<|x_box (ss rfl rfl)<|xa (sc cI (0:Int) rfl)<|sq [q2 1 cI v1,q3 2 cc6 v0]<|
  xn<|ws<|rg<|xa (sc cI (0:Int) rfl)<|sq [q2 1 cI v1,q3 2 cc6 v0,q2 5 cI (0:Int)]<|
  xn<|ws<|wpC_kp<|wpC_blk<|lpF (fun (s36:(Int × Int))=>[q2 1 cI s36.1,q3 2 cc6 v0,q2 5 cI s36.2]) (v1,(0:Int)) rfl h
  fun G61 nx59 s36 hn60 h=>wpC_kp<|ws<|wpC_kp<|ws<|rg<|st rfl<|mvd rfl rfl<|st rfl<|b_gtr (k := .i64) rfl rfl<|sq [q2 1 cI s36.1,q3 2 cc6 v0,q2 5 cI s36.2,q2 7 cB (decide ((0:Int) < s36.1))]<|
  xn<|cnd rfl h (fun b63 h=>wpC_skip<|kpN [q2 1 cI s36.1,q3 2 cc6 v0,q2 5 cI s36.2] (by kernel_rfl)<|xn<|wpC_blk<|ws<|rg<|st rfl<|fab rfl rfl rfl rfl<|st rfl<|lda rfl rfl rfl rfl rfl rfl<|st rfl<|mvd rfl rfl<|getO_k h fun x67 i68 g69 h=>st rfl<|ias rfl rfl i68 g69 rfl<|st rfl<|ldi rfl rfl rfl rfl<|xa (ss rfl rfl)<|sq [q2 1 cI x67,q3 2 cc6 v0,q2 5 cI s36.2]<|
  xn<|rg<|st rfl<|mvd rfl rfl<|ckI_k h fun i70 h=>st rfl<|b_add (k := .i64) rfl rfl i70<|xa (ss rfl rfl)<|sq [q2 1 cI x67,q3 2 cc6 v0,q2 5 cI (s36.2 + (1:Int))]<|
  xbb<|kpN [q2 1 cI x67,q3 2 cc6 v0,q2 5 cI (s36.2 + (1:Int))] (by kernel_rfl)<|xn<|hn60 (x67,(s36.2 + (1:Int))) h)
  (fun b63 h=>wpC_exit<|xt<|xt<|xt<|xt<|xb<|kpN [q2 5 cI s36.2] (by kernel_rfl)<|xn<|ws<|rg<|st rfl<|mvd rfl rfl<|xa (ss rfl rfl)<|sq [q2 4 cI s36.2]<|
  xn<|wpC_ret<|re<|fin h (r1 (ss rfl rfl)<|r0) rfl)

def rs_impl_areasAt (r:(List Int)):List D := [cc11.enc r]
def m78:MC := .seq (.reg [q1 2 (.box (.t 0)),q1 4 (.asg (.c (.slice true [])))] [1,2])
 (.seq (.reg [q1 5 (.asg (.c (.slice true [])))] [1,2,5])
 (.seq (.kp [5] (.seq (.reg [q1 7 (.fa 2 0 0),q1 8 (.ld 7 1 false),q1 9 (.len false (.t 8)),q1 10 (.mv (.c (.int .i64 0)))] [1,2,5,9,10])
 (.blk 0 (.loop (.seq (.reg [q1 11 (.bin .lss (.t 10) (.t 9))] [1,2,5,9,10,11])
 (.seq (.kp [1,2,5,9,10] (.cond (.t 11) (.skip) (.exit 0)))
 (.seq (.kp [1,2,5,9,10] (.blk 1 (.seq (.reg [q1 12 (.mv (.t 10)),q1 6 (.asg (.t 12))] [1,2,5,6,9,10])
 (.seq (.reg [q1 13 (.ld 2 1 true),q1 14 (.mv (.t 6)),q1 15 (.call 95 [(.t 13),(.t 14)]),q1 16 (.mv (.t 1)),q1 17 (.bin .eql (.t 15) (.t 16))] [1,2,5,6,9,10,17])
 (.cond (.t 17) (.reg [q1 18 (.mv (.t 5)),q1 19 (.mv (.t 6)),q1 20 (.bsl [(.t 19)] 1),q1 21 (.app (.t 18) (.t 20) 1),q1 5 (.asg (.t 21))] [1,2,5,9,10]) (.skip))))))
 (.reg [q1 22 (.bin .add (.t 10) (.c (.int .i64 1))),q1 10 (.mv (.t 22))] [1,2,5,9,10]))))))))
 (.seq (.reg [q1 23 (.mv (.t 5)),q1 4 (.asg (.t 23))] [4])
 (.ret))))
theorem con_impl_areasAt {v0:XGeo} {v1:Int} {r:(List Int)} (h:sh_impl_areasAt v0 v1 = some r):Con Tryz.prog 78 [cc6.enc v0,cI.enc v1] [] (rs_impl_areasAt r) := by
 delta sh_impl_areasAt at h
 refine top (out := none) (f := Tryz.f78) (m := m78) (rs := [.t 4]) (by kernel_rfl) rfl (by kernel_rfl) (by kernel_rfl) (by kernel_rfl) (by kernel_rfl) (by kernel_rfl) ?_
 exact
  ini [q2 0 cc6 v0,q2 1 cI v1] rfl<|ws<|rg<|x_box (ss rfl rfl)<|xa (sc cc11 ([]:List Int) rfl)<|sq [q2 1 cI v1,q3 2 cc6 v0]<|
  xn<|ws<|rg<|xa (sc cc11 ([]:List Int) rfl)<|sq [q2 1 cI v1,q3 2 cc6 v0,q2 5 cc11 ([]:List Int)]<|
  xn<|ws<|wpC_kp<|ws<|rg<|st rfl<|fab rfl rfl rfl rfl<|st rfl<|lda rfl rfl rfl rfl rfl rfl<|stw rfl<|lens rfl fun l48=>st rfl<|mvc cI (0:Int) rfl<|sq [q2 1 cI v1,q3 2 cc6 v0,q2 5 cc11 ([]:List Int),q2 9 cI (v0.Parents.length:Int),q2 10 cI (0:Int)]<|
  xn<|wpC_blk<|lpR (fun (k50:Nat) (s49:(List Int))=>[q2 1 cI v1,q3 2 cc6 v0,q2 5 cc11 s49,q2 9 cI (v0.Parents.length:Int),q2 10 cI (k50:Int)]) ([]:List Int) rfl h
  (fun G80 s49 h=>ws<|rg<|st rfl<|b_lss (k := .i64) rfl rfl<|sq [q2 1 cI v1,q3 2 cc6 v0,q2 5 cc11 s49,q2 9 cI (v0.Parents.length:Int),q2 10 cI (v0.Parents.length:Int),q2 11 cB (decide ((v0.Parents.length:Int) < (v0.Parents.length:Int)))]<|
  xn<|ws<|wpC_kp<|cnd0 rfl (dlf _)<|wpC_exit<|xt<|xt<|xt<|xb<|kpN [q2 5 cc11 s49] (by kernel_rfl)<|xn<|ws<|rg<|st rfl<|mvo rfl rfl<|xa (sr rfl rfl)<|sq [q2 4 cc11 s49]<|
  xn<|wpC_ret<|re<|fin h (r1 (so rfl rfl)<|r0) rfl)
  (fun G80 nx78 k50 s49 x51 hk52 hx53 hn79 h=>ws<|rg<|st rfl<|b_lss (k := .i64) rfl rfl<|sq [q2 1 cI v1,q3 2 cc6 v0,q2 5 cc11 s49,q2 9 cI (v0.Parents.length:Int),q2 10 cI (k50:Int),q2 11 cB (decide ((k50:Int) < (v0.Parents.length:Int)))]<|
  xn<|ws<|wpC_kp<|cnd1 rfl (dlt hk52)<|wpC_skip<|kpN [q2 1 cI v1,q3 2 cc6 v0,q2 5 cc11 s49,q2 9 cI (v0.Parents.length:Int),q2 10 cI (k50:Int)] (by kernel_rfl)<|xn<|ws<|wpC_kp<|wpC_blk<|ws<|rg<|st rfl<|mvd rfl rfl<|xa (ss rfl rfl)<|sq [q2 1 cI v1,q3 2 cc6 v0,q2 5 cc11 s49,q2 6 cI (k50:Int),q2 9 cI (v0.Parents.length:Int),q2 10 cI (k50:Int)]<|
  xn<|ws<|rg<|st rfl<|ldb rfl rfl rfl rfl<|st rfl<|mvd rfl rfl<|bnd h fun x89 e90 h=>st rfl<|o_call (a1 (c := cc6) (tXGeo (tLs tK)) rfl (a1 (c := cI) tK rfl a0)) (con_impl_depthOf e90) (.inl (so1 sK so0))<|st rfl<|mvd rfl rfl<|st rfl<|b_eql (k := .i64) rfl rfl<|sq [q2 1 cI v1,q3 2 cc6 v0,q2 5 cc11 s49,q2 6 cI (k50:Int),q2 9 cI (v0.Parents.length:Int),q2 10 cI (k50:Int),q2 17 cB (decide (x89 = v1))]<|
  xn<|cnd rfl h (fun b91 h=>rg<|st rfl<|mvo rfl rfl<|st rfl<|mvd rfl rfl<|x_bsl cI [(k50:Int)] (t1 (ss rfl rfl) rfl t0) rfl rfl<|lnO_k h fun l92 h=>x_app (sr rfl rfl) (tow rfl rfl) l92 rfl<|xa (so rfl rfl)<|sq [q2 1 cI v1,q3 2 cc6 v0,q2 5 cc11 (s49 ++ [(k50:Int)]),q2 9 cI (v0.Parents.length:Int),q2 10 cI (k50:Int)]<|
  xbb<|kpN [q2 1 cI v1,q3 2 cc6 v0,q2 5 cc11 (s49 ++ [(k50:Int)]),q2 9 cI (v0.Parents.length:Int),q2 10 cI (k50:Int)] (by kernel_rfl)<|xn<|rg<|st rfl<|b_inc rfl rfl l48 hk52<|st rfl<|mvd rfl rfl<|sq [q2 1 cI v1,q3 2 cc6 v0,q2 5 cc11 (s49 ++ [(k50:Int)]),q2 9 cI (v0.Parents.length:Int),q2 10 cI ((k50 + 1:Nat):Int)]<|
  xn<|hn79 (s49 ++ [(k50:Int)]) h)
  (fun b91 h=>wpC_skip<|xbb<|kpN [q2 1 cI v1,q3 2 cc6 v0,q2 5 cc11 s49,q2 9 cI (v0.Parents.length:Int),q2 10 cI (k50:Int)] (by kernel_rfl)<|xn<|rg<|st rfl<|b_inc rfl rfl l48 hk52<|st rfl<|mvd rfl rfl<|sq [q2 1 cI v1,q3 2 cc6 v0,q2 5 cc11 s49,q2 9 cI (v0.Parents.length:Int),q2 10 cI ((k50 + 1:Nat):Int)]<|
  xn<|hn79 s49 h))

def rs_impl_crossed (r:(List XVariable)):List D := [cc5.enc r]
def m80:MC := .seq (.reg [q1 3 (.box (.t 1)),q1 4 (.asg (.c (.slice true [])))] [0,3])
 (.seq (.reg [q1 8 (.fa 3 1 1),q1 9 (.ld 8 1 false),q1 10 (.len false (.t 9)),q1 11 (.mk (.agg [.str [],.int .i64 0]) (.t 10)),q1 5 (.asg (.t 11))] [0,3,5])
 (.seq (.kp [5] (.seq (.reg [q1 12 (.fa 3 1 1),q1 13 (.ld 12 1 false),q1 14 (.len false (.t 13)),q1 15 (.mv (.c (.int .i64 0)))] [0,3,5,12,13,14,15])
 (.blk 0 (.loop (.seq (.reg [q1 16 (.bin .lss (.t 15) (.t 14))] [0,3,5,12,13,14,15,16])
 (.seq (.kp [0,3,5,12,13,14,15] (.cond (.t 16) (.skip) (.exit 0)))
 (.seq (.kp [0,3,5,12,13,14,15] (.blk 1 (.seq (.reg [q1 17 (.mv (.t 15)),q1 18 (.ia 13 (.t 15) 1),q1 19 (.ld 18 1 false),q1 6 (.asg (.t 17)),q1 7 (.asg (.t 19))] [0,3,5,6,7,12,13,14,15])
 (.reg [q1 20 (.mv (.t 5)),q1 21 (.mv (.t 6)),q1 22 (.mv (.t 0)),q1 23 (.mv (.t 7)),q1 24 (.ia 22 (.t 23) 2),q1 25 (.ld 24 2 true),q1 26 (.ia 20 (.t 21) 2),q0 (.st 26 (.t 25) 2)] [0,3,5,12,13,14,15]))))
 (.reg [q1 27 (.bin .add (.t 15) (.c (.int .i64 1))),q1 15 (.mv (.t 27))] [0,3,5,12,13,14,15]))))))))
 (.seq (.reg [q1 28 (.mv (.t 5)),q1 4 (.asg (.t 28))] [4])
 (.ret))))
theorem con_impl_crossed {v0:(List XVariable)} {v1:XTable} {r:(List XVariable)} (h:sh_impl_crossed v0 v1 = some r):Con Tryz.prog 80 [cc4.enc v0,cc1.enc v1] [] (rs_impl_crossed r) := by
 delta sh_impl_crossed at h
 refine top (out := none) (f := Tryz.f80) (m := m80) (rs := [.t 4]) (by kernel_rfl) rfl (by kernel_rfl) (by kernel_rfl) (by kernel_rfl) (by kernel_rfl) (by kernel_rfl) ?_
 exact
  ini [q2 0 cc4 v0,q2 1 cc1 v1] rfl<|ws<|rg<|x_box (ss rfl rfl)<|xa (sc cc5 ([]:List XVariable) rfl)<|sq [q2 0 cc4 v0,q3 3 cc1 v1]<|
  xn<|ws<|rg<|st rfl<|fab rfl rfl rfl rfl<|st rfl<|lda rfl rfl rfl rfl rfl rfl<|stw rfl<|lens rfl fun l4=>mkO_k h fun i5 l6 h=>st rfl<|o_mk (c := cc7) (a0 := (⟨([]:List UInt8),(0:Int)⟩:XVariable)) rfl (k := .i64) rfl i5 l6<|xa (so rfl rfl)<|sq [q2 0 cc4 v0,q3 3 cc1 v1,q2 5 cc5 (List.replicate ((v1.Vars.length:Int)).toNat (⟨([]:List UInt8),(0:Int)⟩:XVariable))]<|
  xn<|ws<|wpC_kp<|ws<|rg<|st rfl<|fab rfl rfl rfl rfl<|st rfl<|lda rfl rfl rfl rfl rfl rfl<|stw rfl<|lens rfl fun l54=>st rfl<|mvc cI (0:Int) rfl<|sq [q2 0 cc4 v0,q3 3 cc1 v1,q2 5 cc5 (List.replicate ((v1.Vars.length:Int)).toNat (⟨([]:List UInt8),(0:Int)⟩:XVariable)),(12,.adr 3 [.fld 1]),q2 13 cc9 v1.Vars,q2 14 cI (v1.Vars.length:Int),q2 15 cI (0:Int)]<|
  xn<|wpC_blk<|lpR (fun (k56:Nat) (s55:(List XVariable))=>[q2 0 cc4 v0,q3 3 cc1 v1,q2 5 cc5 s55,(12,.adr 3 [.fld 1]),q2 13 cc9 v1.Vars,q2 14 cI (v1.Vars.length:Int),q2 15 cI (k56:Int)]) (List.replicate ((v1.Vars.length:Int)).toNat (⟨([]:List UInt8),(0:Int)⟩:XVariable)) rfl h
  (fun G86 s55 h=>ws<|rg<|st rfl<|b_lss (k := .i64) rfl rfl<|sq [q2 0 cc4 v0,q3 3 cc1 v1,q2 5 cc5 s55,(12,.adr 3 [.fld 1]),q2 13 cc9 v1.Vars,q2 14 cI (v1.Vars.length:Int),q2 15 cI (v1.Vars.length:Int),q2 16 cB (decide ((v1.Vars.length:Int) < (v1.Vars.length:Int)))]<|
  xn<|ws<|wpC_kp<|cnd0 rfl (dlf _)<|wpC_exit<|xt<|xt<|xt<|xb<|kpN [q2 5 cc5 s55] (by kernel_rfl)<|xn<|ws<|rg<|st rfl<|mvo rfl rfl<|xa (sr rfl rfl)<|sq [q2 4 cc5 s55]<|
  xn<|wpC_ret<|re<|fin h (r1 (so rfl rfl)<|r0) rfl)
  (fun G86 nx84 k56 s55 x57 hk58 hx59 hn85 h=>ws<|rg<|st rfl<|b_lss (k := .i64) rfl rfl<|sq [q2 0 cc4 v0,q3 3 cc1 v1,q2 5 cc5 s55,(12,.adr 3 [.fld 1]),q2 13 cc9 v1.Vars,q2 14 cI (v1.Vars.length:Int),q2 15 cI (k56:Int),q2 16 cB (decide ((k56:Int) < (v1.Vars.length:Int)))]<|
  xn<|ws<|wpC_kp<|cnd1 rfl (dlt hk58)<|wpC_skip<|kpN [q2 0 cc4 v0,q3 3 cc1 v1,q2 5 cc5 s55,(12,.adr 3 [.fld 1]),q2 13 cc9 v1.Vars,q2 14 cI (v1.Vars.length:Int),q2 15 cI (k56:Int)] (by kernel_rfl)<|xn<|ws<|wpC_kp<|wpC_blk<|ws<|rg<|st rfl<|mvd rfl rfl<|st rfl<|ias rfl rfl (Int.natCast_nonneg _) hx59 rfl<|st rfl<|ldi rfl rfl rfl rfl<|xa (ss rfl rfl)<|xa (ss rfl rfl)<|sq [q2 0 cc4 v0,q3 3 cc1 v1,q2 5 cc5 s55,q2 6 cI (k56:Int),q2 7 cI x57,(12,.adr 3 [.fld 1]),q2 13 cc9 v1.Vars,q2 14 cI (v1.Vars.length:Int),q2 15 cI (k56:Int)]<|
  xn<|rg<|st rfl<|mvo rfl rfl<|st rfl<|mvd rfl rfl<|st rfl<|mvd rfl rfl<|st rfl<|mvd rfl rfl<|getO_k h fun x93 i94 g95 h=>st rfl<|ias rfl rfl i94 g95 rfl<|st rfl<|ldi rfl rfl rfl rfl<|getO_k h fun x96 i97 g98 h=>st rfl<|iar rfl rfl rfl rfl i97 g98 rfl<|x_sta (cc5.enc (s55.set ((k56:Int)).toNat x93)) (ss rfl rfl) rfl rfl (Ln.idx g98 Ln.nil) (Cd.h_sz cc7 _) rfl<|sq [q2 0 cc4 v0,q3 3 cc1 v1,q2 5 cc5 (s55.set ((k56:Int)).toNat x93),(12,.adr 3 [.fld 1]),q2 13 cc9 v1.Vars,q2 14 cI (v1.Vars.length:Int),q2 15 cI (k56:Int)]<|
  xbb<|kpN [q2 0 cc4 v0,q3 3 cc1 v1,q2 5 cc5 (s55.set ((k56:Int)).toNat x93),(12,.adr 3 [.fld 1]),q2 13 cc9 v1.Vars,q2 14 cI (v1.Vars.length:Int),q2 15 cI (k56:Int)] (by kernel_rfl)<|xn<|rg<|st rfl<|b_inc rfl rfl l54 hk58<|st rfl<|mvd rfl rfl<|sq [q2 0 cc4 v0,q3 3 cc1 v1,q2 5 cc5 (s55.set ((k56:Int)).toNat x93),(12,.adr 3 [.fld 1]),q2 13 cc9 v1.Vars,q2 14 cI (v1.Vars.length:Int),q2 15 cI ((k56 + 1:Nat):Int)]<|
  xn<|hn85 (s55.set ((k56:Int)).toNat x93) h)

def rs_impl_combinations (r:Int):List D := [cI.enc r]
def m79:MC := .seq (.reg [q1 2 (.asg (.c (.int .i64 0)))] [0])
 (.seq (.reg [q1 3 (.asg (.c (.int .i64 1)))] [0,3])
 (.seq (.kp [3] (.seq (.reg [q1 6 (.mv (.t 0)),q1 7 (.len false (.t 6)),q1 8 (.mv (.c (.int .i64 0)))] [0,3,6,7,8])
 (.blk 0 (.loop (.seq (.reg [q1 9 (.bin .lss (.t 8) (.t 7))] [0,3,6,7,8,9])
 (.seq (.kp [0,3,6,7,8] (.cond (.t 9) (.skip) (.exit 0)))
 (.seq (.kp [0,3,6,7,8] (.blk 1 (.seq (.reg [q1 10 (.ia 6 (.t 8) 2),q1 11 (.ld 10 2 true),q1 5 (.alloc (.agg [.str [],.int .i64 0])),q0 (.st 5 (.t 11) 2)] [0,3,5,6,7,8])
 (.reg [q1 12 (.mv (.t 3)),q1 13 (.fa 5 1 1),q1 14 (.ld 13 1 false),q1 15 (.bin .mul (.t 12) (.t 14)),q1 3 (.asg (.t 15))] [0,3,6,7,8]))))
 (.reg [q1 16 (.bin .add (.t 8) (.c (.int .i64 1))),q1 8 (.mv (.t 16))] [0,3,6,7,8]))))))))
 (.seq (.reg [q1 17 (.mv (.t 3)),q1 2 (.asg (.t 17))] [2])
 (.ret))))
theorem con_impl_combinations {v0:(List XVariable)} {r:Int} (h:sh_impl_combinations v0 = some r):Con Tryz.prog 79 [cc4.enc v0] [] (rs_impl_combinations r) := by
 delta sh_impl_combinations at h
 refine top (out := none) (f := Tryz.f79) (m := m79) (rs := [.t 2]) (by kernel_rfl) rfl (by kernel_rfl) (by kernel_rfl) (by kernel_rfl) (by kernel_rfl) (by kernel_rfl) ?_
 exact
  ini [q2 0 cc4 v0] rfl<|ws<|rg<|xa (sc cI (0:Int) rfl)<|sq [q2 0 cc4 v0]<|
  xn<|ws<|rg<|xa (sc cI (1:Int) rfl)<|sq [q2 0 cc4 v0,q2 3 cI (1:Int)]<|
  xn<|ws<|wpC_kp<|ws<|rg<|st rfl<|mvd rfl rfl<|stw rfl<|lens rfl fun l18=>st rfl<|mvc cI (0:Int) rfl<|sq [q2 0 cc4 v0,q2 3 cI (1:Int),q2 6 cc4 v0,q2 7 cI (v0.length:Int),q2 8 cI (0:Int)]<|
  xn<|wpC_blk<|lpR (fun (k20:Nat) (s19:Int)=>[q2 0 cc4 v0,q2 3 cI s19,q2 6 cc4 v0,q2 7 cI (v0.length:Int),q2 8 cI (k20:Int)]) (1:Int) rfl h
  (fun G30 s19 h=>ws<|rg<|st rfl<|b_lss (k := .i64) rfl rfl<|sq [q2 0 cc4 v0,q2 3 cI s19,q2 6 cc4 v0,q2 7 cI (v0.length:Int),q2 8 cI (v0.length:Int),q2 9 cB (decide ((v0.length:Int) < (v0.length:Int)))]<|
  xn<|ws<|wpC_kp<|cnd0 rfl (dlf _)<|wpC_exit<|xt<|xt<|xt<|xb<|kpN [q2 3 cI s19] (by kernel_rfl)<|xn<|ws<|rg<|st rfl<|mvd rfl rfl<|xa (ss rfl rfl)<|sq [q2 2 cI s19]<|
  xn<|wpC_ret<|re<|fin h (r1 (ss rfl rfl)<|r0) rfl)
  (fun G30 nx28 k20 s19 x21 hk22 hx23 hn29 h=>ws<|rg<|st rfl<|b_lss (k := .i64) rfl rfl<|sq [q2 0 cc4 v0,q2 3 cI s19,q2 6 cc4 v0,q2 7 cI (v0.length:Int),q2 8 cI (k20:Int),q2 9 cB (decide ((k20:Int) < (v0.length:Int)))]<|
  xn<|ws<|wpC_kp<|cnd1 rfl (dlt hk22)<|wpC_skip<|kpN [q2 0 cc4 v0,q2 3 cI s19,q2 6 cc4 v0,q2 7 cI (v0.length:Int),q2 8 cI (k20:Int)] (by kernel_rfl)<|xn<|ws<|wpC_kp<|wpC_blk<|ws<|rg<|st rfl<|ias rfl rfl (Int.natCast_nonneg _) hx23 rfl<|st rfl<|ldi rfl rfl rfl rfl<|x_all cc7 (⟨([]:List UInt8),(0:Int)⟩:XVariable) rfl<|x_stb (ss rfl rfl) rfl (Cd.h_sz _ _) rfl<|sq [q2 0 cc4 v0,q2 3 cI s19,q3 5 cc7 x21,q2 6 cc4 v0,q2 7 cI (v0.length:Int),q2 8 cI (k20:Int)]<|
  xn<|rg<|st rfl<|mvd rfl rfl<|st rfl<|fab rfl rfl rfl rfl<|st rfl<|lda rfl rfl rfl rfl rfl rfl<|ckI_k h fun i32 h=>st rfl<|b_mul (k := .i64) rfl rfl i32<|xa (ss rfl rfl)<|sq [q2 0 cc4 v0,q2 3 cI (s19 * x21.Levels),q2 6 cc4 v0,q2 7 cI (v0.length:Int),q2 8 cI (k20:Int)]<|
  xbb<|kpN [q2 0 cc4 v0,q2 3 cI (s19 * x21.Levels),q2 6 cc4 v0,q2 7 cI (v0.length:Int),q2 8 cI (k20:Int)] (by kernel_rfl)<|xn<|rg<|st rfl<|b_inc rfl rfl l18 hk22<|st rfl<|mvd rfl rfl<|sq [q2 0 cc4 v0,q2 3 cI (s19 * x21.Levels),q2 6 cc4 v0,q2 7 cI (v0.length:Int),q2 8 cI ((k20 + 1:Nat):Int)]<|
  xn<|hn29 (s19 * x21.Levels) h)

def rs_impl_cellCount (r:Int):List D := [cI.enc r]
def m55:MC := .seq (.reg [q1 3 (.box (.t 0)),q1 5 (.box (.t 2)),q1 6 (.asg (.c (.int .i64 0)))] [1,3,5])
 (.seq (.drw [⟨0,q1 7 (.ld 3 1 true),[8,9,10,11,12,13,14,15,16]⟩,
  ⟨1,q1 8 (.fa 5 0 0),[7,9,10,11,12,13,14,15,16]⟩,
  ⟨2,q1 9 (.ld 8 1 false),[7,10,11,12,13,14,15,16]⟩,
  ⟨3,q1 10 (.call 78 [(.t 7),(.t 9)]),[11,12,13,14,15,16]⟩,
  ⟨4,q1 11 (.len false (.t 10)),[12,13,14,15,16]⟩,
  ⟨5,q1 12 (.mv (.t 1)),[7,8,9,10,11,13,14,15,16]⟩,
  ⟨6,q1 13 (.ld 5 4 true),[7,8,9,10,11,12,14,15,16]⟩,
  ⟨7,q1 14 (.call 80 [(.t 12),(.t 13)]),[11,15,16]⟩,
  ⟨8,q1 15 (.call 79 [(.t 14)]),[11,16]⟩,
  ⟨9,q1 16 (.bin .mul (.t 11) (.t 15)),[]⟩]
  [(10,q1 6 (.asg (.t 16)))] [6])
 (.ret))
theorem con_impl_cellCount {v0:XGeo} {v1:(List XVariable)} {v2:XTable} {r:Int} (h:sh_impl_cellCount v0 v1 v2 = some r):Con Tryz.prog 55 [cc6.enc v0,cc4.enc v1,cc1.enc v2] [] (rs_impl_cellCount r) := by
 delta sh_impl_cellCount at h
 refine top (out := none) (f := Tryz.f55) (m := m55) (rs := [.t 6]) (by kernel_rfl) rfl (by kernel_rfl) (by kernel_rfl) (by kernel_rfl) (by kernel_rfl) (by kernel_rfl) ?_
 exact
  ini [q2 0 cc6 v0,q2 1 cc4 v1,q2 2 cc1 v2] rfl<|ws<|rg<|x_box (ss rfl rfl)<|x_box (ss rfl rfl)<|xa (sc cI (0:Int) rfl)<|sq [q2 1 cc4 v1,q3 3 cc6 v0,q3 5 cc1 v2]<|
  xn<|ws<|drw_s<|pst rfl<|ldb rfl rfl rfl rfl ⟨rfl,pst rfl<|fab rfl rfl rfl rfl ⟨rfl,pst rfl<|lda rfl rfl rfl rfl rfl rfl ⟨rfl,bndp h fun x9 e10 h=>pst rfl<|o_call (a1 (c := cc6) (tXGeo (tLs tK)) rfl (a1 (c := cI) tK rfl a0)) (con_impl_areasAt e10) (.inl (so1 (sLo sK) so0)) ⟨rfl,lmO_kp h fun l11 h=>pst rfl<|plno rfl l11 ⟨rfl,pst rfl<|mvd rfl rfl ⟨rfl,pst rfl<|ldb rfl rfl rfl rfl ⟨rfl,bndp h fun x12 e13 h=>pst rfl<|o_call (a1 (c := cc4) (tLs (tXVariable tS tK)) rfl (a1 (c := cc1) (tXTable tK (tLs tK) (tLs tK) tK) rfl a0)) (con_impl_crossed e13) (.inl (so1 (sLo (sXVariable sS sK)) so0)) ⟨rfl,bndp h fun x14 e15 h=>pst rfl<|o_call (a1 (c := cc5) (tLo (tXVariable tS tK)) rfl a0) (con_impl_combinations e15) (.inl (so1 sK so0)) ⟨rfl,ckI_kp h fun i16 h=>pst rfl<|b_mul (k := .i64) rfl rfl i16 ⟨rfl,preN<|xa (ss rfl rfl)<|sq [q2 6 cI ((x9.length:Int) * x14)]<|
  xn<|wpC_ret<|re<|fin h (r1 (ss rfl rfl)<|r0) rfl⟩⟩⟩⟩⟩⟩⟩⟩⟩⟩
def rs_impl_isTable (r:Bool):List D := [cB.enc r]
def m32:MC := .seq (.reg [q1 3 (.box (.t 0)),q1 5 (.box (.t 2)),q1 6 (.asg (.c (.bool false)))] [1,3,5])
 (.seq (.kp [1,3,5] (.seq (.reg [q1 8 (.mv (.t 1)),q1 9 (.fa 5 1 1),q1 10 (.ld 9 1 false),q1 11 (.call 53 [(.t 8),(.t 10)]),q1 12 (.nt (.t 11)),q1 13 (.mv (.t 12)),
  ⟨some 14,.mv (.t 1),some (13,false)⟩,
  ⟨some 15,.fa 5 2 2,some (13,false)⟩,
  ⟨some 16,.ld 15 1 false,some (13,false)⟩,
  ⟨some 17,.call 54 [(.t 14),(.t 16)],some (13,false)⟩,
  ⟨some 18,.nt (.t 17),some (13,false)⟩,q1 19 (.pick (.t 13) (.c (.bool true)) (.t 18)),q1 20 (.mv (.t 19)),
  ⟨some 21,.fa 5 3 3,some (20,false)⟩,
  ⟨some 22,.ld 21 1 false,some (20,false)⟩,
  ⟨some 23,.bin .lss (.t 22) (.c (.int .i64 (-1))),some (20,false)⟩,q1 24 (.pick (.t 20) (.c (.bool true)) (.t 23)),q1 25 (.mv (.t 24)),
  ⟨some 26,.fa 5 3 3,some (25,false)⟩,
  ⟨some 27,.ld 26 1 false,some (25,false)⟩,
  ⟨some 28,.mv (.t 1),some (25,false)⟩,
  ⟨some 29,.len false (.t 28),some (25,false)⟩,
  ⟨some 30,.bin .geq (.t 27) (.t 29),some (25,false)⟩,q1 31 (.pick (.t 25) (.c (.bool true)) (.t 30))] [1,3,5,31])
 (.cond (.t 31) (.seq (.reg [q1 6 (.asg (.c (.bool false)))] [6])
 (.ret)) (.skip))))
 (.seq (.reg [q1 32 (.ld 3 1 true),q1 33 (.mv (.t 1)),q1 34 (.ld 5 4 true),q1 35 (.call 55 [(.t 32),(.t 33),(.t 34)]),q1 7 (.asg (.t 35))] [7])
 (.seq (.reg [q1 36 (.mv (.t 7)),q1 37 (.bin .gtr (.t 36) (.c (.int .i64 0))),q1 38 (.mv (.t 37)),
  ⟨some 39,.mv (.t 7),some (38,true)⟩,
  ⟨some 40,.bin .leq (.t 39) (.c (.int .i64 600)),some (38,true)⟩,q1 41 (.pick (.t 38) (.t 40) (.c (.bool false))),q1 6 (.asg (.t 41))] [6])
 (.ret))))
theorem con_impl_isTable {v0:XGeo} {v1:(List XVariable)} {v2:XTable} {r:Bool} (h:sh_impl_isTable v0 v1 v2 = some r):Con Tryz.prog 32 [cc6.enc v0,cc4.enc v1,cc1.enc v2] [] (rs_impl_isTable r) := by
 delta sh_impl_isTable at h
 refine top (out := none) (f := Tryz.f32) (m := m32) (rs := [.t 6]) (by kernel_rfl) rfl (by kernel_rfl) (by kernel_rfl) (by kernel_rfl) (by kernel_rfl) (by kernel_rfl) ?_
 exact
  ini [q2 0 cc6 v0,q2 1 cc4 v1,q2 2 cc1 v2] rfl<|ws<|rg<|x_box (ss rfl rfl)<|x_box (ss rfl rfl)<|xa (sc cB false rfl)<|sq [q2 1 cc4 v1,q3 3 cc6 v0,q3 5 cc1 v2]<|
  xn<|ws<|wpC_kp<|ws<|jw (fun (s28:Bool)=>[q2 1 cc4 v1,q3 3 cc6 v0,q3 5 cc1 v2,q2 31 cB s28]) h (fun s28 h=>xn<|cnd rfl h (fun b30 h=>ws<|rg<|xa (sc cB false rfl)<|sq [q2 6 cB false]<|
  xn<|wpC_ret<|rt<|rt<|re<|fin h (r1 (ss rfl rfl)<|r0) rfl)
  (fun b30 h=>wpC_skip<|kpN [q2 1 cc4 v1,q3 3 cc6 v0,q3 5 cc1 v2] (by kernel_rfl)<|xn<|ws<|rg<|st rfl<|ldb rfl rfl rfl rfl<|st rfl<|mvd rfl rfl<|st rfl<|ldb rfl rfl rfl rfl<|bnd h fun x33 e34 h=>st rfl<|o_call (a1 (c := cc6) (tXGeo (tLs tK)) rfl (a1 (c := cc4) (tLs (tXVariable tS tK)) rfl (a1 (c := cc1) (tXTable tK (tLs tK) (tLs tK) tK) rfl a0))) (con_impl_cellCount e34) (.inl (so1 sK so0))<|xa (ss rfl rfl)<|sq [q2 7 cI x33]<|
  xn<|ws<|rg<|st rfl<|mvd rfl rfl<|st rfl<|b_gtr (k := .i64) rfl rfl<|st rfl<|mvd rfl rfl<|ite_k h (fun b36 h=>gt' rfl b36<|st rfl<|mvd rfl rfl<|gt' rfl b36<|st rfl<|b_leq (k := .i64) rfl rfl<|st rfl<|pick1 rfl b36 (cd := cB) (v := (decide (x33 ≤ (600:Int)))) rfl rfl<|xa (ss rfl rfl)<|sq [q2 6 cB (decide (x33 ≤ (600:Int)))]<|
  xn<|wpC_ret<|re<|fin h (r1 (ss rfl rfl)<|r0) rfl)
  (fun b36 h=>gf rfl b36<|gf rfl b36<|st rfl<|pick0 rfl b36 (cd := cB) (v := false) rfl rfl<|xa (ss rfl rfl)<|sq [q2 6 cB false]<|
  xn<|wpC_ret<|re<|fin h (r1 (ss rfl rfl)<|r0) rfl)))
  fun s28' q29 h=>rg<|st rfl<|mvd rfl rfl<|st rfl<|fab rfl rfl rfl rfl<|st rfl<|lda rfl rfl rfl rfl rfl rfl<|bnd h fun x37 e38 h=>st rfl<|o_call (a1 (c := cc4) (tLs (tXVariable tS tK)) rfl (a1 (c := cc9) (tLs tK) rfl a0)) (con_impl_areVars e38) (.inl (so1 sB so0))<|st rfl<|o_nt rfl<|st rfl<|mvd rfl rfl<|ite_k h (fun b39 h=>gf rfl b39<|gf rfl b39<|gf rfl b39<|gf rfl b39<|gf rfl b39<|st rfl<|pick1 rfl b39 (cd := cB) (v := true) rfl rfl<|st rfl<|mvd rfl rfl<|gf rfl rfl<|gf rfl rfl<|gf rfl rfl<|st rfl<|pick1 rfl rfl (cd := cB) (v := true) rfl rfl<|st rfl<|mvd rfl rfl<|gf rfl rfl<|gf rfl rfl<|gf rfl rfl<|gf rfl rfl<|gf rfl rfl<|st rfl<|pick1 rfl rfl (cd := cB) (v := true) rfl rfl<|sq [q2 1 cc4 v1,q3 3 cc6 v0,q3 5 cc1 v2,q2 31 cB true]<|
  lfn (S := (fun (s28:Bool)=>[q2 1 cc4 v1,q3 3 cc6 v0,q3 5 cc1 v2,q2 31 cB s28])) h q29 rfl)
  (fun b39 h=>gt' rfl b39<|st rfl<|mvd rfl rfl<|gt' rfl b39<|st rfl<|fab rfl rfl rfl rfl<|gt' rfl b39<|st rfl<|lda rfl rfl rfl rfl rfl rfl<|gt' rfl b39<|bnd h fun x40 e41 h=>st rfl<|o_call (a1 (c := cc4) (tLs (tXVariable tS tK)) rfl (a1 (c := cc9) (tLs tK) rfl a0)) (con_impl_isWhere e41) (.inl (so1 sB so0))<|gt' rfl b39<|st rfl<|o_nt rfl<|st rfl<|pick0 rfl b39 (cd := cB) (v := (!x40)) rfl rfl<|st rfl<|mvd rfl rfl<|ite_k h (fun b42 h=>gf rfl b42<|gf rfl b42<|gf rfl b42<|st rfl<|pick1 rfl b42 (cd := cB) (v := true) rfl rfl<|st rfl<|mvd rfl rfl<|gf rfl rfl<|gf rfl rfl<|gf rfl rfl<|gf rfl rfl<|gf rfl rfl<|st rfl<|pick1 rfl rfl (cd := cB) (v := true) rfl rfl<|sq [q2 1 cc4 v1,q3 3 cc6 v0,q3 5 cc1 v2,q2 31 cB true]<|
  lfn (S := (fun (s28:Bool)=>[q2 1 cc4 v1,q3 3 cc6 v0,q3 5 cc1 v2,q2 31 cB s28])) h q29 rfl)
  (fun b42 h=>gt' rfl b42<|st rfl<|fab rfl rfl rfl rfl<|gt' rfl b42<|st rfl<|lda rfl rfl rfl rfl rfl rfl<|gt' rfl b42<|st rfl<|b_lss (k := .i64) rfl rfl<|st rfl<|pick0 rfl b42 (cd := cB) (v := (decide (v2.Sum < (-1:Int)))) rfl rfl<|st rfl<|mvd rfl rfl<|ite_k h (fun b43 h=>gf rfl b43<|gf rfl b43<|gf rfl b43<|gf rfl b43<|gf rfl b43<|st rfl<|pick1 rfl b43 (cd := cB) (v := true) rfl rfl<|sq [q2 1 cc4 v1,q3 3 cc6 v0,q3 5 cc1 v2,q2 31 cB true]<|
  lfn (S := (fun (s28:Bool)=>[q2 1 cc4 v1,q3 3 cc6 v0,q3 5 cc1 v2,q2 31 cB s28])) h q29 rfl)
  (fun b43 h=>gt' rfl b43<|st rfl<|fab rfl rfl rfl rfl<|gt' rfl b43<|st rfl<|lda rfl rfl rfl rfl rfl rfl<|gt' rfl b43<|st rfl<|mvd rfl rfl<|gt' rfl b43<|stw rfl<|lens rfl fun l44=>gt' rfl b43<|st rfl<|b_geq (k := .i64) rfl rfl<|st rfl<|pick0 rfl b43 (cd := cB) (v := (decide ((v1.length:Int) ≤ v2.Sum))) rfl rfl<|sq [q2 1 cc4 v1,q3 3 cc6 v0,q3 5 cc1 v2,q2 31 cB (decide ((v1.length:Int) ≤ v2.Sum))]<|
  lfn (S := (fun (s28:Bool)=>[q2 1 cc4 v1,q3 3 cc6 v0,q3 5 cc1 v2,q2 31 cB s28])) h q29 rfl)))

def rs_strconv_Itoa (r : (List UInt8)) : List D := [cS.enc r]
theorem con_strconv_Itoa {v0 : Int} {r : (List UInt8)} (h : sh_strconv_Itoa v0 = some r) : Con Tryz.prog 56 [cI.enc v0] [] (rs_strconv_Itoa r) := by
  unfold sh_strconv_Itoa at h
  split at h
  · rename_i hb
    have hd : r = Go.Lib.decDigits v0.toNat := by
      simp only [Option.some.injEq] at h
      rw [← h, Go.Lib.decDigits]
      by_cases h9 : v0 < 10
      · rw [if_pos h9, dif_pos (by omega)]
      · rw [if_neg h9, dif_neg (by omega), Go.Lib.decDigits, dif_pos (by omega)]; rfl
    have hl : r.length ≤ maxLen := by
      simp only [Option.some.injEq] at h
      have : maxLen = 9223372036854775807 := rfl
      rw [← h]
      split <;> simp <;> omega
    refine ⟨⟨Tryz.f56, _, Tryz.func56, rfl, by kernel_rfl⟩, ?_⟩
    intro w Z vs F hrep h1 h2 h3
    obtain ⟨x, vs2, f1, f2, rfl, e1, r1, rfl, e2⟩ := hrep
    obtain ⟨rfl, _⟩ := RepV.int r1
    have := Tryz.strconv_Itoa_small v0.toNat (by omega) w
    rw [Int.toNat_of_nonneg hb.1] at this
    refine this.mono ?_
    rintro e w' ⟨rfl, rfl⟩
    rw [← hd]
    exact ⟨_, Z, fun _ => 0, fun _ => 0, rfl, ret_below (RepV.mkStr hl) (Go.RowKit.Below.refl _ _)⟩
  · cases h

def rs_strings_Join (r : (List UInt8)) : List D := [cS.enc r]
theorem con_strings_Join {v0 : (List (List UInt8))} {v1 : (List UInt8)} {r : (List UInt8)} (h : sh_strings_Join v0 v1 = some r) : Con Tryz.prog 57 [(cLs cS rfl).enc v0, cS.enc v1] [] (rs_strings_Join r) := by
  unfold sh_strings_Join at h
  split at h
  · rename_i hb
    cases h
    refine ⟨⟨Tryz.f57, _, Tryz.func57, rfl, by kernel_rfl⟩, ?_⟩
    intro w Z vs F hrep h1 h2 h3
    obtain ⟨x, vs2, f1, f2, rfl, e1, r1, y, vs3, f3, f4, rfl, e2, r2, rfl, e4⟩ := hrep
    obtain ⟨rfl, hl1, hz1⟩ := RepV.str r2
    have hN : maxLen = 9223372036854775807 := rfl
    obtain ⟨k1, k2⟩ := r1
    simp only [cLs, RepX] at k2
    rcases k2 with ⟨hn, _, a, cap, hc, _⟩ | ⟨hne, g, off, cap, xs, sz, f5, hc, hcap, hle, hxl, hsz, hxs, ho⟩
    · have hv0 : v0 = [] := by simpa using hn
      subst hv0
      obtain rfl := cells_single k1 hc
      refine (Tryz.strings_Join_none a cap ⟨v1.toArray⟩ w).mono ?_
      rintro e w' ⟨rfl, rfl⟩
      exact ⟨_, Z, fun _ => 0, fun _ => 0, rfl, ret_below (RepV.mkStr (s := []) (Nat.zero_le _)) (Go.RowKit.Below.refl _ _)⟩
    · obtain rfl := cells_single k1 hc
      rcases ho with ⟨_, hZ, _, _, hcell⟩ | ⟨ho, _⟩
      · have hxs2 := rep_strs hxs
        subst hxs2
        have hm : (v0.map cS.enc).length = (v0.map fun s => (⟨s.toArray⟩ : ByteArray)).length := by simp
        have hd : (v0.map fun s => (⟨s.toArray⟩ : ByteArray)).map (fun b => b.data.toList) = v0 := by simp [List.map_map, Function.comp_def]
        have hj : Go.Lib.join ((v0.map fun s => (⟨s.toArray⟩ : ByteArray)).map (fun b => b.data.toList)) (⟨v1.toArray⟩ : ByteArray).data.toList = v1.intercalate v0 := by rw [hd]; rfl
        have := Tryz.strings_Join g off cap (v0.map fun s => (⟨s.toArray⟩ : ByteArray)) ⟨v1.toArray⟩ w (fun j x hx => hcell j _ (by
          simp only [List.getElem?_map, Option.map_eq_some_iff] at hx ⊢
          obtain ⟨s, h5, rfl⟩ := hx
          exact ⟨s, h5, rfl⟩)) (h3 g hZ).1 (by simp; omega) (by simpa using hle) (by rw [hj]; omega)
        rw [← hm, hj] at this
        refine this.mono ?_
        rintro e w' ⟨rfl, hbl⟩
        exact ⟨_, Z, fun _ => 0, fun _ => 0, rfl, ret_below (RepV.mkStr (by omega)) hbl⟩
      · cases ho
  · cases h

def rs_impl_setText (r:(List UInt8)):List D := [cS.enc r]
def m58:MC := .seq (.reg [q1 2 (.asg (.c (.str [])))] [0])
 (.seq (.reg [q1 3 (.asg (.c (.slice true [])))] [0,3])
 (.seq (.kp [3] (.seq (.reg [q1 5 (.mv (.c (.int .i64 0)))] [0,3,5])
 (.blk 0 (.loop (.seq (.reg [q1 6 (.bin .lss (.t 5) (.c (.int .i64 8)))] [0,3,5,6])
 (.seq (.kp [0,3,5] (.cond (.t 6) (.skip) (.exit 0)))
 (.seq (.kp [0,3,5] (.blk 1 (.seq (.reg [q1 7 (.mv (.t 5)),q1 4 (.asg (.t 7))] [0,3,4,5])
 (.seq (.reg [q1 8 (.mv (.t 0)),q1 9 (.mv (.t 4)),q1 10 (.bin .shr (.t 8) (.t 9)),q1 11 (.bin .and (.t 10) (.c (.int .i64 1))),q1 12 (.bin .eql (.t 11) (.c (.int .i64 1)))] [0,3,4,5,12])
 (.cond (.t 12) (.reg [q1 13 (.mv (.t 3)),q1 14 (.mv (.t 4)),q1 15 (.bin .add (.c (.int .i64 48)) (.t 14)),q1 16 (.cvi .i32 (.t 15)),q1 17 (.i2s (.t 16)),q1 18 (.bsl [(.t 17)] 1),q1 19 (.app (.t 13) (.t 18) 1),q1 3 (.asg (.t 19))] [0,3,5]) (.skip))))))
 (.reg [q1 20 (.bin .add (.t 5) (.c (.int .i64 1))),q1 5 (.mv (.t 20))] [0,3,5]))))))))
 (.seq (.reg [q1 21 (.mv (.t 3)),q1 22 (.call 57 [(.t 21),(.c (.str [44]))]),q1 2 (.asg (.t 22))] [2])
 (.ret))))
theorem con_impl_setText {v0:Int} {r:(List UInt8)} (h:sh_impl_setText v0 = some r):Con Tryz.prog 58 [cI.enc v0] [] (rs_impl_setText r) := by
 delta sh_impl_setText at h
 refine top (out := none) (f := Tryz.f58) (m := m58) (rs := [.t 2]) (by kernel_rfl) rfl (by kernel_rfl) (by kernel_rfl) (by kernel_rfl) (by kernel_rfl) (by kernel_rfl) ?_
 exact
  ini [q2 0 cI v0] rfl<|ws<|rg<|xa (sc cS ([]:List UInt8) rfl)<|sq [q2 0 cI v0]<|
  xn<|ws<|rg<|xa (sc cc12 ([]:List (List UInt8)) rfl)<|sq [q2 0 cI v0,q2 3 cc12 ([]:List (List UInt8))]<|
  xn<|ws<|wpC_kp<|ws<|rg<|st rfl<|mvc cI (0:Int) rfl<|sq [q2 0 cI v0,q2 3 cc12 ([]:List (List UInt8)),q2 5 cI (0:Int)]<|
  xn<|wpC_blk<|lpF (fun (s111:((List (List UInt8)) × Int))=>[q2 0 cI v0,q2 3 cc12 s111.1,q2 5 cI s111.2]) (([]:List (List UInt8)),(0:Int)) rfl h
  fun G186 nx184 s111 hn185 h=>ws<|rg<|st rfl<|b_lss (k := .i64) rfl rfl<|sq [q2 0 cI v0,q2 3 cc12 s111.1,q2 5 cI s111.2,q2 6 cB (decide (s111.2 < (8:Int)))]<|
  xn<|ws<|wpC_kp<|cnd rfl h (fun b188 h=>wpC_skip<|kpN [q2 0 cI v0,q2 3 cc12 s111.1,q2 5 cI s111.2] (by kernel_rfl)<|xn<|ws<|wpC_kp<|wpC_blk<|ws<|rg<|st rfl<|mvd rfl rfl<|xa (ss rfl rfl)<|sq [q2 0 cI v0,q2 3 cc12 s111.1,q2 4 cI s111.2,q2 5 cI s111.2]<|
  xn<|ws<|rg<|st rfl<|mvd rfl rfl<|st rfl<|mvd rfl rfl<|ck_k h fun i209 h=>st rfl<|b_shr (k := .i64) (k' := .i64) rfl rfl i209 rfl<|ck_k h fun i210 h=>ckK_k h fun i211 h=>ck_k h fun i212 h=>ckK_k h fun i213 h=>st rfl<|b_and (k := .i64) rfl rfl ⟨i210,i211⟩ ⟨i212,i213⟩<|st rfl<|b_eql (k := .i64) rfl rfl<|sq [q2 0 cI v0,q2 3 cc12 s111.1,q2 4 cI s111.2,q2 5 cI s111.2,q2 12 cB (decide ((((v0 / 2 ^ (s111.2).toNat).toNat &&& (1:Int).toNat:Nat):Int) = (1:Int)))]<|
  xn<|cnd rfl h (fun b214 h=>rg<|st rfl<|mvo rfl rfl<|st rfl<|mvd rfl rfl<|ckI_k h fun i215 h=>st rfl<|b_add (k := .i64) rfl rfl i215<|ckK_k h fun i216 h=>st rfl<|o_cvi (k := .i64) (k' := .i32) rfl i216<|ck_k h fun i217 h=>st rfl<|o_i2s (k := .i32) rfl i217<|x_bsl cS [[UInt8.ofNat (((48:Int) + s111.2)).toNat]] (t1 (ss rfl rfl) rfl t0) rfl rfl<|lnO_k h fun l218 h=>x_app (sr rfl rfl) (tow rfl rfl) l218 rfl<|xa (so rfl rfl)<|sq [q2 0 cI v0,q2 3 cc12 (s111.1 ++ [[UInt8.ofNat (((48:Int) + s111.2)).toNat]]),q2 5 cI s111.2]<|
  xbb<|kpN [q2 0 cI v0,q2 3 cc12 (s111.1 ++ [[UInt8.ofNat (((48:Int) + s111.2)).toNat]]),q2 5 cI s111.2] (by kernel_rfl)<|xn<|rg<|ckI_k h fun i219 h=>st rfl<|b_add (k := .i64) rfl rfl i219<|st rfl<|mvd rfl rfl<|sq [q2 0 cI v0,q2 3 cc12 (s111.1 ++ [[UInt8.ofNat (((48:Int) + s111.2)).toNat]]),q2 5 cI (s111.2 + (1:Int))]<|
  xn<|hn185 ((s111.1 ++ [[UInt8.ofNat (((48:Int) + s111.2)).toNat]]),(s111.2 + (1:Int))) h)
  (fun b214 h=>wpC_skip<|xbb<|kpN [q2 0 cI v0,q2 3 cc12 s111.1,q2 5 cI s111.2] (by kernel_rfl)<|xn<|rg<|ckI_k h fun i220 h=>st rfl<|b_add (k := .i64) rfl rfl i220<|st rfl<|mvd rfl rfl<|sq [q2 0 cI v0,q2 3 cc12 s111.1,q2 5 cI (s111.2 + (1:Int))]<|
  xn<|hn185 (s111.1,(s111.2 + (1:Int))) h))
  (fun b188 h=>wpC_exit<|xt<|xt<|xt<|xb<|kpN [q2 3 cc12 s111.1] (by kernel_rfl)<|xn<|ws<|rg<|st rfl<|mvo rfl rfl<|bnd h fun x223 e224 h=>st rfl<|o_call (a1 (c := cc12) (tLo tS) rfl (a1 (c := cS) tS rfl a0)) (con_strings_Join e224) (.inl (so1 sS so0))<|xa (ss rfl rfl)<|sq [q2 2 cS x223]<|
  xn<|wpC_ret<|re<|fin h (r1 (ss rfl rfl)<|r0) rfl)

end AS.W
