/- The program computes the plain functions. No condition. -/
import Derived.Test.YtiohllblkcjafaaGreatQCubeOfTableS
import Derived.Test.YtiohllblkcjafaaGreatProg
import Derived.Test.YtiohllblkcjafaaGreatQCubeOfTableL4
set_option maxRecDepth 100000
set_option linter.unusedVariables false
set_option linter.unusedSimpArgs false
namespace AS.W
open Go Go.Proofs
def os_laws_markGeo (r : (XGeo × Int)) : D := cc12.enc r.1
def rs_laws_markGeo (r : (XGeo × Int)) : List D := [cI.enc r.2]
def m19 : MC := .seq (.reg [q1 2 (.boxm 0),q1 4 (.asg (.c (.int .i64 0)))] [0, 1, 2])
 (.seq (.reg [q1 5 (.fa 2 0 0),q1 6 (.ld 5 1 false),q1 7 (.mv (.t 1)),q1 8 (.callO 47 [(.t 6), (.t 7)]),q1 1 (.asg (.t 8))] [0, 1])
 (.seq (.reg [q1 9 (.mv (.t 1)),q1 4 (.asg (.t 9))] [0, 4])
 (.ret)))
theorem con_laws_markGeo {v0 : XGeo} {v1 : Int} {r : (XGeo × Int)} (h : sh_laws_markGeo v0 v1 = some r) : Con Tryz.prog 19 [cc12.enc v0, cI.enc v1] (outsOf (some (os_laws_markGeo r))) (rs_laws_markGeo r) := by
 delta sh_laws_markGeo at h
 refine top (out := some (os_laws_markGeo r)) (f := Tryz.f19) (m := m19) (rs := [.t 4]) (by kernel_rfl) rfl (by kernel_rfl) (by kernel_rfl) (by kernel_rfl) (by kernel_rfl) (by kernel_rfl) ?_
 exact
  ini [q2 0 cc12 v0, q2 1 cI v1] rfl <| wpC_seq <| reg_s <| x_boxm rfl rfl <| x_asg (sc cI (0 : Int) rfl) <| sq [q2 0 cc12 v0, q2 1 cI v1, (2, .mad 0 [])] <|
  xn <| wpC_seq <| reg_s <| st rfl <| fam rfl rfl rfl rfl rfl rfl <| st rfl <| ldmo rfl rfl rfl rfl rfl rfl <| st rfl <| mvd rfl rfl <| bnd h fun x3 e4 h => x_clr (c := cc14) (c' := cc14) (cc12.enc (⟨x3.1⟩ : XGeo)) (sLo sK) rfl (a1 (c := cI) tK rfl a0) rfl (Ln.fld rfl rfl Ln.nil rfl) (con_laws_markIntS e4) rfl rfl (so1 sK so0) <| x_asg (ss rfl rfl) <| sq [q2 0 cc12 (⟨x3.1⟩ : XGeo), q2 1 cI x3.2] <|
  xn <| wpC_seq <| reg_s <| st rfl <| mvd rfl rfl <| x_asg (ss rfl rfl) <| sq [q2 0 cc12 (⟨x3.1⟩ : XGeo), q2 4 cI x3.2] <|
  xn <| wpC_ret <| re <| finO h (r1 (ss rfl rfl) <| r0) rfl rfl

def rs_laws_markText (r : (List UInt8)) : List D := [cS.enc r]
def m48 : MC := .seq (.reg [q1 2 (.asg (.c (.str [])))] [0])
 (.seq (.kp [0] (.seq (.reg [q1 4 (.mv (.t 0)),q1 5 (.bin .leq (.t 4) (.c (.int .i64 0)))] [0, 5])
 (.cond (.t 5) (.seq (.reg [q1 2 (.asg (.c (.str [109, 48])))] [2])
 (.ret)) (.skip))))
 (.seq (.reg [q1 3 (.asg (.c (.str [])))] [0, 3])
 (.seq (.kp [3] (.blk 0 (.loop (.kp [0, 3] (.seq (.kp [0, 3] (.seq (.reg [q1 6 (.mv (.t 0)),q1 7 (.bin .gtr (.t 6) (.c (.int .i64 0)))] [0, 3, 7])
 (.cond (.t 7) (.skip) (.exit 0))))
 (.blk 1 (.seq (.reg [q1 8 (.mv (.t 0)),q1 9 (.bin .rem (.t 8) (.c (.int .i64 10))),q1 10 (.bin .add (.c (.int .i64 48)) (.t 9)),q1 11 (.cvi .u8 (.t 10)),q1 12 (.bsl [(.t 11)] 1),q1 13 (.b2s (.t 12)),q1 14 (.mv (.t 3)),q1 15 (.bin .add (.t 13) (.t 14)),q1 3 (.asg (.t 15))] [0, 3])
 (.reg [q1 16 (.mv (.t 0)),q1 17 (.bin .quo (.t 16) (.c (.int .i64 10))),q1 0 (.asg (.t 17))] [0, 3]))))))))
 (.seq (.reg [q1 18 (.mv (.t 3)),q1 19 (.bin .add (.c (.str [109])) (.t 18)),q1 2 (.asg (.t 19))] [2])
 (.ret)))))
theorem con_laws_markText {v0 : Int} {r : (List UInt8)} (h : sh_laws_markText v0 = some r) : Con Tryz.prog 48 [cI.enc v0] [] (rs_laws_markText r) := by
 delta sh_laws_markText at h
 refine top (out := none) (f := Tryz.f48) (m := m48) (rs := [.t 2]) (by kernel_rfl) rfl (by kernel_rfl) (by kernel_rfl) (by kernel_rfl) (by kernel_rfl) (by kernel_rfl) ?_
 exact
  ini [q2 0 cI v0] rfl <| wpC_seq <| reg_s <| x_asg (sc cS ([] : List UInt8) rfl) <| sq [q2 0 cI v0] <|
  xn <| wpC_seq <| wpC_kp <| wpC_seq <| reg_s <| st rfl <| mvd rfl rfl <| st rfl <| b_leq (k := .i64) rfl rfl <| sq [q2 0 cI v0, q2 5 cB (decide (v0 ≤ (0 : Int)))] <|
  xn <| cnd rfl h (fun b2 h => wpC_seq <| reg_s <| x_asg (sc cS ([109, 48] : List UInt8) rfl) <| sq [q2 2 cS ([109, 48] : List UInt8)] <|
  xn <| wpC_ret <| rt <| rt <| re <| fin h (r1 (ss rfl rfl) <| r0) rfl)
  (fun b2 h => wpC_skip <| kpN [q2 0 cI v0] (by kernel_rfl) <| xn <| wpC_seq <| reg_s <| x_asg (sc cS ([] : List UInt8) rfl) <| sq [q2 0 cI v0, q2 3 cS ([] : List UInt8)] <|
  xn <| wpC_seq <| wpC_kp <| wpC_blk <| lpF (fun (s59 : (Int × (List UInt8))) => [q2 0 cI s59.1, q2 3 cS s59.2]) (v0, ([] : List UInt8)) rfl h
  fun G98 nx96 s59 hn97 h => wpC_kp <| wpC_seq <| wpC_kp <| wpC_seq <| reg_s <| st rfl <| mvd rfl rfl <| st rfl <| b_gtr (k := .i64) rfl rfl <| sq [q2 0 cI s59.1, q2 3 cS s59.2, q2 7 cB (decide ((0 : Int) < s59.1))] <|
  xn <| cnd rfl h (fun b100 h => wpC_skip <| kpN [q2 0 cI s59.1, q2 3 cS s59.2] (by kernel_rfl) <| xn <| wpC_blk <| wpC_seq <| reg_s <| st rfl <| mvd rfl rfl <| ck_k h fun i107 h => st rfl <| b_rem (k := .i64) rfl rfl i107 <| ckI_k h fun i108 h => st rfl <| b_add (k := .i64) rfl rfl i108 <| ckU_k h fun i109 h => st rfl <| o_cvi (k := .i64) (k' := .u8) rfl i109 <| x_bsl cU [((48 : Int) + (s59.1.tmod (10 : Int)))] (t1 (ss rfl rfl) rfl t0) rfl rfl <| ck_k h fun i110 h => st rfl <| o_b2s rfl rfl i110 <| st rfl <| mvd rfl rfl <| lnO_k h fun l112 h => st rfl <| b_cat rfl rfl l112 <| x_asg (ss rfl rfl) <| sq [q2 0 cI s59.1, q2 3 cS ((bytesOf [((48 : Int) + (s59.1.tmod (10 : Int)))]) ++ s59.2)] <|
  xn <| reg_s <| st rfl <| mvd rfl rfl <| ck_k h fun i113 h => ckI_k h fun i114 h => st rfl <| b_quo (k := .i64) rfl rfl i113 i114 <| x_asg (ss rfl rfl) <| sq [q2 0 cI (s59.1.tdiv (10 : Int)), q2 3 cS ((bytesOf [((48 : Int) + (s59.1.tmod (10 : Int)))]) ++ s59.2)] <|
  xbb <| kpN [q2 0 cI (s59.1.tdiv (10 : Int)), q2 3 cS ((bytesOf [((48 : Int) + (s59.1.tmod (10 : Int)))]) ++ s59.2)] (by kernel_rfl) <| xn <| hn97 ((s59.1.tdiv (10 : Int)), ((bytesOf [((48 : Int) + (s59.1.tmod (10 : Int)))]) ++ s59.2)) h)
  (fun b100 h => wpC_exit <| xt <| xt <| xt <| xt <| xb <| kpN [q2 3 cS s59.2] (by kernel_rfl) <| xn <| wpC_seq <| reg_s <| st rfl <| mvd rfl rfl <| lnO_k h fun l116 h => st rfl <| b_cat rfl rfl l116 <| x_asg (ss rfl rfl) <| sq [q2 2 cS (([109] : List UInt8) ++ s59.2)] <|
  xn <| wpC_ret <| re <| fin h (r1 (ss rfl rfl) <| r0) rfl))

def os_laws_markVariableS (r : ((List XVariable) × Int)) : D := cc9.enc r.1
def rs_laws_markVariableS (r : ((List XVariable) × Int)) : List D := [cI.enc r.2]
def m20 : MC := .seq (.reg [q1 4 (.asg (.c (.int .i64 0)))] [0, 1])
 (.seq (.kp [0, 1] (.seq (.reg [q1 5 (.asg (.c (.int .i64 0)))] [0, 1, 5])
 (.blk 0 (.loop (.seq (.kp [0, 1, 5] (.seq (.reg [q1 6 (.mv (.t 5)),q1 7 (.mv (.t 0)),q1 8 (.len false (.t 7)),q1 9 (.bin .lss (.t 6) (.t 8))] [0, 1, 5, 9])
 (.cond (.t 9) (.skip) (.exit 0))))
 (.seq (.kp [0, 1, 5] (.blk 1 (.seq (.reg [q1 12 (.mv (.t 0)),q1 13 (.mv (.t 5)),q1 14 (.mv (.t 1)),q1 15 (.call 48 [(.t 14)]),q1 16 (.ia 12 (.t 13) 2),q1 17 (.fa 16 0 0),q0 (.st 17 (.t 15) 1)] [0, 1, 5])
 (.seq (.reg [q1 18 (.mv (.t 1)),q1 19 (.bin .add (.t 18) (.c (.int .i64 1))),q1 1 (.asg (.t 19))] [0, 1, 5])
 (.seq (.reg [q1 20 (.mv (.t 0)),q1 21 (.mv (.t 5)),q1 22 (.mv (.t 1)),q1 23 (.ia 20 (.t 21) 2),q1 24 (.fa 23 1 1),q0 (.st 24 (.t 22) 1)] [0, 1, 5])
 (.reg [q1 25 (.mv (.t 1)),q1 26 (.bin .add (.t 25) (.c (.int .i64 1))),q1 1 (.asg (.t 26))] [0, 1, 5]))))))
 (.reg [q1 10 (.mv (.t 5)),q1 11 (.bin .add (.t 10) (.c (.int .i64 1))),q1 5 (.asg (.t 11))] [0, 1, 5])))))))
 (.seq (.reg [q1 27 (.mv (.t 1)),q1 4 (.asg (.t 27))] [0, 4])
 (.ret)))
theorem con_laws_markVariableS {v0 : (List XVariable)} {v1 : Int} {r : ((List XVariable) × Int)} (h : sh_laws_markVariableS v0 v1 = some r) : Con Tryz.prog 20 [cc9.enc v0, cI.enc v1] (outsOf (some (os_laws_markVariableS r))) (rs_laws_markVariableS r) := by
 delta sh_laws_markVariableS at h
 refine top (out := some (os_laws_markVariableS r)) (f := Tryz.f20) (m := m20) (rs := [.t 4]) (by kernel_rfl) rfl (by kernel_rfl) (by kernel_rfl) (by kernel_rfl) (by kernel_rfl) (by kernel_rfl) ?_
 exact
  ini [q2 0 cc9 v0, q2 1 cI v1] rfl <| wpC_seq <| reg_s <| x_asg (sc cI (0 : Int) rfl) <| sq [q2 0 cc9 v0, q2 1 cI v1] <|
  xn <| wpC_seq <| wpC_kp <| wpC_seq <| reg_s <| x_asg (sc cI (0 : Int) rfl) <| sq [q2 0 cc9 v0, q2 1 cI v1, q2 5 cI (0 : Int)] <|
  xn <| wpC_blk <| lpF (fun (s144 : ((List XVariable) × Int × Int)) => [q2 0 cc9 s144.1, q2 1 cI s144.2.1, q2 5 cI s144.2.2]) (v0, v1, (0 : Int)) rfl h
  fun G241 nx239 s144 hn240 h => wpC_seq <| wpC_kp <| wpC_seq <| reg_s <| st rfl <| mvd rfl rfl <| st rfl <| mvo rfl rfl <| stw rfl <| leno rfl fun l246 => st rfl <| b_lss (k := .i64) rfl rfl <| sq [q2 0 cc9 s144.1, q2 1 cI s144.2.1, q2 5 cI s144.2.2, q2 9 cB (decide (s144.2.2 < (s144.1.length : Int)))] <|
  xn <| cnd rfl h (fun b247 h => wpC_skip <| kpN [q2 0 cc9 s144.1, q2 1 cI s144.2.1, q2 5 cI s144.2.2] (by kernel_rfl) <| xn <| wpC_seq <| wpC_kp <| wpC_blk <| wpC_seq <| reg_s <| st rfl <| mvo rfl rfl <| st rfl <| mvd rfl rfl <| st rfl <| mvd rfl rfl <| bnd h fun x272 e273 h => st rfl <| o_call (a1 (c := cI) tK rfl a0) (con_laws_markText e273) (.inl (so1 sS so0)) <| getO_k h fun x274 i275 g276 h => st rfl <| iar rfl rfl rfl rfl i275 g276 rfl <| st rfl <| faa rfl rfl (Gt.idx g276 Gt.nil) rfl rfl rfl <| x_sta (cc9.enc (s144.1.set (s144.2.2).toNat (⟨x272, x274.Levels⟩ : XVariable))) (ss rfl rfl) rfl rfl (Ln.idx g276 (Ln.fld rfl rfl Ln.nil rfl)) (Cd.h_sz cS _) rfl <| sq [q2 0 cc9 (s144.1.set (s144.2.2).toNat (⟨x272, x274.Levels⟩ : XVariable)), q2 1 cI s144.2.1, q2 5 cI s144.2.2] <|
  xn <| wpC_seq <| reg_s <| st rfl <| mvd rfl rfl <| ckI_k h fun i278 h => st rfl <| b_add (k := .i64) rfl rfl i278 <| x_asg (ss rfl rfl) <| sq [q2 0 cc9 (s144.1.set (s144.2.2).toNat (⟨x272, x274.Levels⟩ : XVariable)), q2 1 cI (s144.2.1 + (1 : Int)), q2 5 cI s144.2.2] <|
  xn <| wpC_seq <| reg_s <| st rfl <| mvo rfl rfl <| st rfl <| mvd rfl rfl <| st rfl <| mvd rfl rfl <| getO_k h fun x282 i283 g284 h => st rfl <| iar rfl rfl rfl rfl i283 g284 rfl <| st rfl <| faa rfl rfl (Gt.idx g284 Gt.nil) rfl rfl rfl <| x_sta (cc9.enc ((s144.1.set (s144.2.2).toNat (⟨x272, x274.Levels⟩ : XVariable)).set (s144.2.2).toNat (⟨x282.Name, (s144.2.1 + (1 : Int))⟩ : XVariable))) (ss rfl rfl) rfl rfl (Ln.idx g284 (Ln.fld rfl rfl Ln.nil rfl)) (Cd.h_sz cI _) rfl <| sq [q2 0 cc9 ((s144.1.set (s144.2.2).toNat (⟨x272, x274.Levels⟩ : XVariable)).set (s144.2.2).toNat (⟨x282.Name, (s144.2.1 + (1 : Int))⟩ : XVariable)), q2 1 cI (s144.2.1 + (1 : Int)), q2 5 cI s144.2.2] <|
  xn <| reg_s <| st rfl <| mvd rfl rfl <| ckI_k h fun i285 h => st rfl <| b_add (k := .i64) rfl rfl i285 <| x_asg (ss rfl rfl) <| sq [q2 0 cc9 ((s144.1.set (s144.2.2).toNat (⟨x272, x274.Levels⟩ : XVariable)).set (s144.2.2).toNat (⟨x282.Name, (s144.2.1 + (1 : Int))⟩ : XVariable)), q2 1 cI ((s144.2.1 + (1 : Int)) + (1 : Int)), q2 5 cI s144.2.2] <|
  xbb <| kpN [q2 0 cc9 ((s144.1.set (s144.2.2).toNat (⟨x272, x274.Levels⟩ : XVariable)).set (s144.2.2).toNat (⟨x282.Name, (s144.2.1 + (1 : Int))⟩ : XVariable)), q2 1 cI ((s144.2.1 + (1 : Int)) + (1 : Int)), q2 5 cI s144.2.2] (by kernel_rfl) <| xn <| reg_s <| st rfl <| mvd rfl rfl <| ckI_k h fun i286 h => st rfl <| b_add (k := .i64) rfl rfl i286 <| x_asg (ss rfl rfl) <| sq [q2 0 cc9 ((s144.1.set (s144.2.2).toNat (⟨x272, x274.Levels⟩ : XVariable)).set (s144.2.2).toNat (⟨x282.Name, (s144.2.1 + (1 : Int))⟩ : XVariable)), q2 1 cI ((s144.2.1 + (1 : Int)) + (1 : Int)), q2 5 cI (s144.2.2 + (1 : Int))] <|
  xn <| hn240 (((s144.1.set (s144.2.2).toNat (⟨x272, x274.Levels⟩ : XVariable)).set (s144.2.2).toNat (⟨x282.Name, (s144.2.1 + (1 : Int))⟩ : XVariable)), ((s144.2.1 + (1 : Int)) + (1 : Int)), (s144.2.2 + (1 : Int))) h)
  (fun b247 h => wpC_exit <| xt <| xt <| xt <| xb <| kpN [q2 0 cc9 s144.1, q2 1 cI s144.2.1] (by kernel_rfl) <| xn <| wpC_seq <| reg_s <| st rfl <| mvd rfl rfl <| x_asg (ss rfl rfl) <| sq [q2 0 cc9 s144.1, q2 4 cI s144.2.1] <|
  xn <| wpC_ret <| re <| finO h (r1 (ss rfl rfl) <| r0) rfl rfl)

def os_laws_markTable (r : (XTable × Int)) : D := cc3.enc r.1
def rs_laws_markTable (r : (XTable × Int)) : List D := [cI.enc r.2]
def m21 : MC := .seq (.reg [q1 2 (.boxm 0),q1 4 (.asg (.c (.int .i64 0)))] [0, 1, 2])
 (.seq (.reg [q1 5 (.fa 2 1 1),q1 6 (.ld 5 1 false),q1 7 (.mv (.t 1)),q1 8 (.callO 47 [(.t 6), (.t 7)]),q1 1 (.asg (.t 8))] [0, 1, 2])
 (.seq (.reg [q1 9 (.fa 2 2 2),q1 10 (.ld 9 1 false),q1 11 (.mv (.t 1)),q1 12 (.callO 47 [(.t 10), (.t 11)]),q1 1 (.asg (.t 12))] [0, 1])
 (.seq (.reg [q1 13 (.mv (.t 1)),q1 4 (.asg (.t 13))] [0, 4])
 (.ret))))
theorem con_laws_markTable {v0 : XTable} {v1 : Int} {r : (XTable × Int)} (h : sh_laws_markTable v0 v1 = some r) : Con Tryz.prog 21 [cc3.enc v0, cI.enc v1] (outsOf (some (os_laws_markTable r))) (rs_laws_markTable r) := by
 delta sh_laws_markTable at h
 refine top (out := some (os_laws_markTable r)) (f := Tryz.f21) (m := m21) (rs := [.t 4]) (by kernel_rfl) rfl (by kernel_rfl) (by kernel_rfl) (by kernel_rfl) (by kernel_rfl) (by kernel_rfl) ?_
 exact
  ini [q2 0 cc3 v0, q2 1 cI v1] rfl <| wpC_seq <| reg_s <| x_boxm rfl rfl <| x_asg (sc cI (0 : Int) rfl) <| sq [q2 0 cc3 v0, q2 1 cI v1, (2, .mad 0 [])] <|
  xn <| wpC_seq <| reg_s <| st rfl <| fam rfl rfl rfl rfl rfl rfl <| st rfl <| ldmo rfl rfl rfl rfl rfl rfl <| st rfl <| mvd rfl rfl <| bnd h fun x3 e4 h => x_clr (c := cc14) (c' := cc14) (cc3.enc (⟨v0.Level, x3.1, v0.Where, v0.Sum⟩ : XTable)) (sLo sK) rfl (a1 (c := cI) tK rfl a0) rfl (Ln.fld rfl rfl Ln.nil rfl) (con_laws_markIntS e4) rfl rfl (so1 sK so0) <| x_asg (ss rfl rfl) <| sq [q2 0 cc3 (⟨v0.Level, x3.1, v0.Where, v0.Sum⟩ : XTable), q2 1 cI x3.2, (2, .mad 0 [])] <|
  xn <| wpC_seq <| reg_s <| st rfl <| fam rfl rfl rfl rfl rfl rfl <| st rfl <| ldmo rfl rfl rfl rfl rfl rfl <| st rfl <| mvd rfl rfl <| bnd h fun x7 e8 h => x_clr (c := cc14) (c' := cc14) (cc3.enc (⟨v0.Level, x3.1, x7.1, v0.Sum⟩ : XTable)) (sLo sK) rfl (a1 (c := cI) tK rfl a0) rfl (Ln.fld rfl rfl Ln.nil rfl) (con_laws_markIntS e8) rfl rfl (so1 sK so0) <| x_asg (ss rfl rfl) <| sq [q2 0 cc3 (⟨v0.Level, x3.1, x7.1, v0.Sum⟩ : XTable), q2 1 cI x7.2] <|
  xn <| wpC_seq <| reg_s <| st rfl <| mvd rfl rfl <| x_asg (ss rfl rfl) <| sq [q2 0 cc3 (⟨v0.Level, x3.1, x7.1, v0.Sum⟩ : XTable), q2 4 cI x7.2] <|
  xn <| wpC_ret <| re <| finO h (r1 (ss rfl rfl) <| r0) rfl rfl

def os_laws_markRecordS (r : ((List XRecord) × Int)) : D := cc4.enc r.1
def rs_laws_markRecordS (r : ((List XRecord) × Int)) : List D := [cI.enc r.2]
def m22 : MC := .seq (.reg [q1 4 (.asg (.c (.int .i64 0)))] [0, 1])
 (.seq (.kp [0, 1] (.seq (.reg [q1 5 (.asg (.c (.int .i64 0)))] [0, 1, 5])
 (.blk 0 (.loop (.seq (.kp [0, 1, 5] (.seq (.reg [q1 6 (.mv (.t 5)),q1 7 (.mv (.t 0)),q1 8 (.len false (.t 7)),q1 9 (.bin .lss (.t 6) (.t 8))] [0, 1, 5, 9])
 (.cond (.t 9) (.skip) (.exit 0))))
 (.seq (.kp [0, 1, 5] (.blk 1 (.seq (.reg [q1 12 (.mv (.t 0)),q1 13 (.mv (.t 5)),q1 14 (.mv (.t 1)),q1 15 (.ia 12 (.t 13) 3),q1 16 (.fa 15 0 0),q0 (.st 16 (.t 14) 1)] [0, 1, 5])
 (.seq (.reg [q1 17 (.mv (.t 1)),q1 18 (.bin .add (.t 17) (.c (.int .i64 1))),q1 1 (.asg (.t 18))] [0, 1, 5])
 (.seq (.reg [q1 19 (.mv (.t 0)),q1 20 (.mv (.t 5)),q1 21 (.mv (.t 1)),q1 22 (.ia 19 (.t 20) 3),q1 23 (.fa 22 1 1),q0 (.st 23 (.t 21) 1)] [0, 1, 5])
 (.seq (.reg [q1 24 (.mv (.t 1)),q1 25 (.bin .add (.t 24) (.c (.int .i64 1))),q1 1 (.asg (.t 25))] [0, 1, 5])
 (.reg [q1 26 (.mv (.t 0)),q1 27 (.mv (.t 5)),q1 28 (.ia 26 (.t 27) 3),q1 29 (.fa 28 2 2),q1 30 (.ld 29 1 false),q1 31 (.mv (.t 1)),q1 32 (.callO 47 [(.t 30), (.t 31)]),q1 1 (.asg (.t 32))] [0, 1, 5])))))))
 (.reg [q1 10 (.mv (.t 5)),q1 11 (.bin .add (.t 10) (.c (.int .i64 1))),q1 5 (.asg (.t 11))] [0, 1, 5])))))))
 (.seq (.reg [q1 33 (.mv (.t 1)),q1 4 (.asg (.t 33))] [0, 4])
 (.ret)))
theorem con_laws_markRecordS {v0 : (List XRecord)} {v1 : Int} {r : ((List XRecord) × Int)} (h : sh_laws_markRecordS v0 v1 = some r) : Con Tryz.prog 22 [cc4.enc v0, cI.enc v1] (outsOf (some (os_laws_markRecordS r))) (rs_laws_markRecordS r) := by
 delta sh_laws_markRecordS at h
 refine top (out := some (os_laws_markRecordS r)) (f := Tryz.f22) (m := m22) (rs := [.t 4]) (by kernel_rfl) rfl (by kernel_rfl) (by kernel_rfl) (by kernel_rfl) (by kernel_rfl) (by kernel_rfl) ?_
 exact
  ini [q2 0 cc4 v0, q2 1 cI v1] rfl <| wpC_seq <| reg_s <| x_asg (sc cI (0 : Int) rfl) <| sq [q2 0 cc4 v0, q2 1 cI v1] <|
  xn <| wpC_seq <| wpC_kp <| wpC_seq <| reg_s <| x_asg (sc cI (0 : Int) rfl) <| sq [q2 0 cc4 v0, q2 1 cI v1, q2 5 cI (0 : Int)] <|
  xn <| wpC_blk <| lpF (fun (s156 : ((List XRecord) × Int × Int)) => [q2 0 cc4 s156.1, q2 1 cI s156.2.1, q2 5 cI s156.2.2]) (v0, v1, (0 : Int)) rfl h
  fun G261 nx259 s156 hn260 h => wpC_seq <| wpC_kp <| wpC_seq <| reg_s <| st rfl <| mvd rfl rfl <| st rfl <| mvo rfl rfl <| stw rfl <| leno rfl fun l266 => st rfl <| b_lss (k := .i64) rfl rfl <| sq [q2 0 cc4 s156.1, q2 1 cI s156.2.1, q2 5 cI s156.2.2, q2 9 cB (decide (s156.2.2 < (s156.1.length : Int)))] <|
  xn <| cnd rfl h (fun b267 h => wpC_skip <| kpN [q2 0 cc4 s156.1, q2 1 cI s156.2.1, q2 5 cI s156.2.2] (by kernel_rfl) <| xn <| wpC_seq <| wpC_kp <| wpC_blk <| wpC_seq <| reg_s <| st rfl <| mvo rfl rfl <| st rfl <| mvd rfl rfl <| st rfl <| mvd rfl rfl <| getO_k h fun x292 i293 g294 h => st rfl <| iar rfl rfl rfl rfl i293 g294 rfl <| st rfl <| faa rfl rfl (Gt.idx g294 Gt.nil) rfl rfl rfl <| x_sta (cc4.enc (s156.1.set (s156.2.2).toNat (⟨s156.2.1, x292.House, x292.Values⟩ : XRecord))) (ss rfl rfl) rfl rfl (Ln.idx g294 (Ln.fld rfl rfl Ln.nil rfl)) (Cd.h_sz cI _) rfl <| sq [q2 0 cc4 (s156.1.set (s156.2.2).toNat (⟨s156.2.1, x292.House, x292.Values⟩ : XRecord)), q2 1 cI s156.2.1, q2 5 cI s156.2.2] <|
  xn <| wpC_seq <| reg_s <| st rfl <| mvd rfl rfl <| ckI_k h fun i296 h => st rfl <| b_add (k := .i64) rfl rfl i296 <| x_asg (ss rfl rfl) <| sq [q2 0 cc4 (s156.1.set (s156.2.2).toNat (⟨s156.2.1, x292.House, x292.Values⟩ : XRecord)), q2 1 cI (s156.2.1 + (1 : Int)), q2 5 cI s156.2.2] <|
  xn <| wpC_seq <| reg_s <| st rfl <| mvo rfl rfl <| st rfl <| mvd rfl rfl <| st rfl <| mvd rfl rfl <| getO_k h fun x300 i301 g302 h => st rfl <| iar rfl rfl rfl rfl i301 g302 rfl <| st rfl <| faa rfl rfl (Gt.idx g302 Gt.nil) rfl rfl rfl <| x_sta (cc4.enc ((s156.1.set (s156.2.2).toNat (⟨s156.2.1, x292.House, x292.Values⟩ : XRecord)).set (s156.2.2).toNat (⟨x300.Area, (s156.2.1 + (1 : Int)), x300.Values⟩ : XRecord))) (ss rfl rfl) rfl rfl (Ln.idx g302 (Ln.fld rfl rfl Ln.nil rfl)) (Cd.h_sz cI _) rfl <| sq [q2 0 cc4 ((s156.1.set (s156.2.2).toNat (⟨s156.2.1, x292.House, x292.Values⟩ : XRecord)).set (s156.2.2).toNat (⟨x300.Area, (s156.2.1 + (1 : Int)), x300.Values⟩ : XRecord)), q2 1 cI (s156.2.1 + (1 : Int)), q2 5 cI s156.2.2] <|
  xn <| wpC_seq <| reg_s <| st rfl <| mvd rfl rfl <| ckI_k h fun i304 h => st rfl <| b_add (k := .i64) rfl rfl i304 <| x_asg (ss rfl rfl) <| sq [q2 0 cc4 ((s156.1.set (s156.2.2).toNat (⟨s156.2.1, x292.House, x292.Values⟩ : XRecord)).set (s156.2.2).toNat (⟨x300.Area, (s156.2.1 + (1 : Int)), x300.Values⟩ : XRecord)), q2 1 cI ((s156.2.1 + (1 : Int)) + (1 : Int)), q2 5 cI s156.2.2] <|
  xn <| reg_s <| st rfl <| mvo rfl rfl <| st rfl <| mvd rfl rfl <| getO_k h fun x305 i306 g307 h => st rfl <| iar rfl rfl rfl rfl i306 g307 rfl <| st rfl <| faa rfl rfl (Gt.idx g307 Gt.nil) rfl rfl rfl <| st rfl <| ldao rfl rfl (Gt.idx g307 (Gt.fld rfl rfl Gt.nil)) rfl rfl rfl <| st rfl <| mvd rfl rfl <| bnd h fun x308 e309 h => x_clr (c := cc14) (c' := cc14) (cc4.enc (((s156.1.set (s156.2.2).toNat (⟨s156.2.1, x292.House, x292.Values⟩ : XRecord)).set (s156.2.2).toNat (⟨x300.Area, (s156.2.1 + (1 : Int)), x300.Values⟩ : XRecord)).set (s156.2.2).toNat (⟨x305.Area, x305.House, x308.1⟩ : XRecord))) (sLo sK) rfl (a1 (c := cI) tK rfl a0) rfl (Ln.idx g307 (Ln.fld rfl rfl Ln.nil rfl)) (con_laws_markIntS e309) rfl rfl (so1 sK so0) <| x_asg (ss rfl rfl) <| sq [q2 0 cc4 (((s156.1.set (s156.2.2).toNat (⟨s156.2.1, x292.House, x292.Values⟩ : XRecord)).set (s156.2.2).toNat (⟨x300.Area, (s156.2.1 + (1 : Int)), x300.Values⟩ : XRecord)).set (s156.2.2).toNat (⟨x305.Area, x305.House, x308.1⟩ : XRecord)), q2 1 cI x308.2, q2 5 cI s156.2.2] <|
  xbb <| kpN [q2 0 cc4 (((s156.1.set (s156.2.2).toNat (⟨s156.2.1, x292.House, x292.Values⟩ : XRecord)).set (s156.2.2).toNat (⟨x300.Area, (s156.2.1 + (1 : Int)), x300.Values⟩ : XRecord)).set (s156.2.2).toNat (⟨x305.Area, x305.House, x308.1⟩ : XRecord)), q2 1 cI x308.2, q2 5 cI s156.2.2] (by kernel_rfl) <| xn <| reg_s <| st rfl <| mvd rfl rfl <| ckI_k h fun i310 h => st rfl <| b_add (k := .i64) rfl rfl i310 <| x_asg (ss rfl rfl) <| sq [q2 0 cc4 (((s156.1.set (s156.2.2).toNat (⟨s156.2.1, x292.House, x292.Values⟩ : XRecord)).set (s156.2.2).toNat (⟨x300.Area, (s156.2.1 + (1 : Int)), x300.Values⟩ : XRecord)).set (s156.2.2).toNat (⟨x305.Area, x305.House, x308.1⟩ : XRecord)), q2 1 cI x308.2, q2 5 cI (s156.2.2 + (1 : Int))] <|
  xn <| hn260 ((((s156.1.set (s156.2.2).toNat (⟨s156.2.1, x292.House, x292.Values⟩ : XRecord)).set (s156.2.2).toNat (⟨x300.Area, (s156.2.1 + (1 : Int)), x300.Values⟩ : XRecord)).set (s156.2.2).toNat (⟨x305.Area, x305.House, x308.1⟩ : XRecord)), x308.2, (s156.2.2 + (1 : Int))) h)
  (fun b267 h => wpC_exit <| xt <| xt <| xt <| xb <| kpN [q2 0 cc4 s156.1, q2 1 cI s156.2.1] (by kernel_rfl) <| xn <| wpC_seq <| reg_s <| st rfl <| mvd rfl rfl <| x_asg (ss rfl rfl) <| sq [q2 0 cc4 s156.1, q2 4 cI s156.2.1] <|
  xn <| wpC_ret <| re <| finO h (r1 (ss rfl rfl) <| r0) rfl rfl)

def rs_laws_FnExactCubeOfTable (r : Bool) : List D := [cB.enc r]
def m3 : MC := .seq (.reg [q1 4 (.box (.t 0)),q1 6 (.box (.t 2)),q1 8 (.asg (.c (.bool false)))] [1, 3, 4, 6])
 (.seq (.reg [q1 9 (.asg (.c (.int .i64 1048576)))] [1, 3, 4, 6, 9])
 (.seq (.reg [q1 23 (.ld 4 1 true),q1 24 (.mv (.t 9)),q1 25 (.call 4 [(.t 23), (.t 24)]),q1 9 (.asg (.t 25))] [1, 3, 4, 6, 9])
 (.seq (.kp [1, 3, 4, 6, 9] (.seq (.reg [q1 26 (.mv (.t 9)),q1 27 (.bin .lss (.t 26) (.c (.int .i64 0)))] [1, 3, 4, 6, 9, 27])
 (.cond (.t 27) (.seq (.reg [q1 8 (.asg (.c (.bool true)))] [8])
 (.ret)) (.skip))))
 (.seq (.reg [q1 28 (.mv (.t 1)),q1 29 (.mv (.t 9)),q1 30 (.call 5 [(.t 28), (.t 29)]),q1 9 (.asg (.t 30))] [1, 3, 4, 6, 9])
 (.seq (.kp [1, 3, 4, 6, 9] (.seq (.reg [q1 31 (.mv (.t 9)),q1 32 (.bin .lss (.t 31) (.c (.int .i64 0)))] [1, 3, 4, 6, 9, 32])
 (.cond (.t 32) (.seq (.reg [q1 8 (.asg (.c (.bool true)))] [8])
 (.ret)) (.skip))))
 (.seq (.reg [q1 33 (.ld 6 4 true),q1 34 (.mv (.t 9)),q1 35 (.call 6 [(.t 33), (.t 34)]),q1 9 (.asg (.t 35))] [1, 3, 4, 6, 9])
 (.seq (.kp [1, 3, 4, 6, 9] (.seq (.reg [q1 36 (.mv (.t 9)),q1 37 (.bin .lss (.t 36) (.c (.int .i64 0)))] [1, 3, 4, 6, 9, 37])
 (.cond (.t 37) (.seq (.reg [q1 8 (.asg (.c (.bool true)))] [8])
 (.ret)) (.skip))))
 (.seq (.reg [q1 38 (.mv (.t 3)),q1 39 (.mv (.t 9)),q1 40 (.call 7 [(.t 38), (.t 39)]),q1 9 (.asg (.t 40))] [1, 3, 4, 6, 9])
 (.seq (.kp [1, 3, 4, 6] (.seq (.reg [q1 41 (.mv (.t 9)),q1 42 (.bin .lss (.t 41) (.c (.int .i64 0)))] [1, 3, 4, 6, 42])
 (.cond (.t 42) (.seq (.reg [q1 8 (.asg (.c (.bool true)))] [8])
 (.ret)) (.skip))))
 (.seq (.drg [⟨0, q1 44 (.ld 4 1 true), [10, 45, 46, 47, 48, 49, 50, 51, 52]⟩,
  ⟨1, q1 45 (.call 9 [(.t 44)]), [10, 46, 47, 48, 49, 50, 51, 52]⟩,
  ⟨2, q1 46 (.mv (.t 1)), [10, 44, 45, 47, 48, 49, 50, 51, 52]⟩,
  ⟨3, q1 47 (.call 10 [(.t 46)]), [10, 48, 49, 50, 51, 52]⟩,
  ⟨4, q1 48 (.ld 6 4 true), [10, 44, 45, 46, 47, 49, 50, 51, 52]⟩,
  ⟨5, q1 49 (.call 11 [(.t 48)]), [10, 50, 51, 52]⟩,
  ⟨6, q1 50 (.mv (.t 3)), [10, 44, 45, 46, 47, 48, 49, 51, 52]⟩,
  ⟨7, q1 51 (.call 12 [(.t 50)]), [10, 52]⟩,
  ⟨8, q1 52 (.call 8 [(.t 45), (.t 47), (.t 49), (.t 51)]), [10]⟩,
  ⟨12, q1 10 (.alloc (.agg [.slice true [], .slice true []])), [44, 45, 46, 47, 48, 49, 50, 51, 52]⟩]
  [(12, q1 10 (.alloc (.agg [.slice true [], .slice true []]))),
  (9, q1 43 (.mvt 52)),
  (10, q1 53 (.ext 43 0)),
  (11, q1 54 (.ext 43 1)),
  (13, q0 (.st 10 (.t 53) 2)),
  (14, q1 11 (.asg (.t 54)))] [1, 3, 4, 6, 10, 11] [10, 11, 43, 52, 53, 54, 1, 3, 4, 6] [([false, false, false, false, false, false], 0), ([false, false, false, false, false, false], 1), ([true, false, false, false, false, false], 1), ([false, true, false, false, false, false], 0), ([false, true, false, false, false, false], 2), ([false, true, false, false, false, false], 3), ([true, true, false, false, false, false], 2), ([true, true, false, false, false, false], 3), ([false, true, true, false, false, false], 0), ([false, true, true, false, false, false], 3), ([false, true, false, true, false, false], 0), ([false, true, false, true, false, false], 2), ([true, true, true, false, false, false], 3), ([true, true, true, false, false, false], 4), ([true, true, false, true, false, false], 2), ([false, true, true, true, false, false], 0), ([true, true, true, true, false, false], 4), ([true, true, true, false, true, false], 3), ([true, true, true, true, true, false], 5)])
 (.seq (.reg [q1 55 (.ld 4 1 true),q1 56 (.call 9 [(.t 55)]),q1 12 (.alloc (.agg [.slice true []])),q0 (.st 12 (.t 56) 1)] [1, 3, 4, 6, 10, 11, 12])
 (.seq (.reg [q1 57 (.mv (.t 1)),q1 58 (.call 10 [(.t 57)]),q1 13 (.asg (.t 58))] [1, 3, 4, 6, 10, 11, 12, 13])
 (.seq (.reg [q1 59 (.ld 6 4 true),q1 60 (.call 11 [(.t 59)]),q1 14 (.alloc (.agg [.int .i64 0, .slice true [], .slice true [], .int .i64 0])),q0 (.st 14 (.t 60) 4)] [1, 3, 4, 6, 10, 11, 12, 13, 14])
 (.seq (.reg [q1 61 (.mv (.t 3)),q1 62 (.call 12 [(.t 61)]),q1 15 (.asg (.t 62))] [1, 3, 4, 6, 10, 11, 12, 13, 14, 15])
 (.seq (.reg [q1 64 (.ld 12 1 true),q1 65 (.mv (.t 13)),q1 66 (.ld 14 4 true),q1 67 (.mv (.t 15)),q1 68 (.call 13 [(.t 64), (.t 65), (.t 66), (.t 67)]),q1 63 (.mvt 68),q1 69 (.ext 63 0),q1 70 (.ext 63 1),q1 16 (.alloc (.agg [.slice true [], .slice true []])),q0 (.st 16 (.t 69) 2),q1 17 (.asg (.t 70))] [1, 3, 4, 6, 10, 11, 12, 13, 14, 15, 16, 17])
 (.seq (.kp [1, 3, 4, 6, 10, 11, 12, 13, 14, 15, 16, 17] (.seq (.reg [q1 71 (.ld 16 2 true),q1 72 (.ld 10 2 true),q1 73 (.call 14 [(.t 71), (.t 72)]),q1 74 (.nt (.t 73)),q1 75 (.mv (.t 74)),
  ⟨some 76, .mv (.t 17), some (75, false)⟩,
  ⟨some 77, .mv (.t 11), some (75, false)⟩,
  ⟨some 78, .eqb true (.t 76) (.t 77), some (75, false)⟩,q1 79 (.pick (.t 75) (.c (.bool true)) (.t 78))] [1, 3, 4, 6, 10, 11, 12, 13, 14, 15, 16, 17, 79])
 (.cond (.t 79) (.seq (.reg [q1 8 (.asg (.c (.bool false)))] [8])
 (.ret)) (.skip))))
 (.seq (.kp [1, 3, 4, 6, 10, 11, 12, 13, 14, 15, 16, 17] (.seq (.drw [⟨0, q1 80 (.ld 12 1 true), [81, 82, 83, 84]⟩,
  ⟨1, q1 81 (.ld 4 1 true), [80, 82, 83, 84]⟩,
  ⟨2, q1 82 (.call 9 [(.t 81)]), [80, 83, 84]⟩,
  ⟨3, q1 83 (.call 15 [(.t 80), (.t 82)]), [84]⟩,
  ⟨4, q1 84 (.nt (.t 83)), []⟩]
  [] [1, 3, 4, 6, 10, 11, 12, 13, 14, 15, 16, 17, 84])
 (.cond (.t 84) (.seq (.reg [q1 8 (.asg (.c (.bool false)))] [8])
 (.ret)) (.skip))))
 (.seq (.kp [1, 3, 4, 6, 10, 11, 12, 13, 14, 15, 16, 17] (.seq (.reg [q1 85 (.mv (.t 13)),q1 86 (.mv (.t 1)),q1 87 (.call 10 [(.t 86)]),q1 88 (.call 16 [(.t 85), (.t 87)]),q1 89 (.nt (.t 88))] [1, 3, 4, 6, 10, 11, 12, 13, 14, 15, 16, 17, 89])
 (.cond (.t 89) (.seq (.reg [q1 8 (.asg (.c (.bool false)))] [8])
 (.ret)) (.skip))))
 (.seq (.kp [1, 3, 4, 6, 10, 11, 12, 13, 14, 15, 16, 17] (.seq (.drw [⟨0, q1 90 (.ld 14 4 true), [91, 92, 93, 94]⟩,
  ⟨1, q1 91 (.ld 6 4 true), [90, 92, 93, 94]⟩,
  ⟨2, q1 92 (.call 11 [(.t 91)]), [90, 93, 94]⟩,
  ⟨3, q1 93 (.call 17 [(.t 90), (.t 92)]), [94]⟩,
  ⟨4, q1 94 (.nt (.t 93)), []⟩]
  [] [1, 3, 4, 6, 10, 11, 12, 13, 14, 15, 16, 17, 94])
 (.cond (.t 94) (.seq (.reg [q1 8 (.asg (.c (.bool false)))] [8])
 (.ret)) (.skip))))
 (.seq (.kp [1, 3, 4, 6, 10, 11, 12, 13, 14, 15, 16, 17] (.seq (.reg [q1 95 (.mv (.t 15)),q1 96 (.mv (.t 3)),q1 97 (.call 12 [(.t 96)]),q1 98 (.call 18 [(.t 95), (.t 97)]),q1 99 (.nt (.t 98))] [1, 3, 4, 6, 10, 11, 12, 13, 14, 15, 16, 17, 99])
 (.cond (.t 99) (.seq (.reg [q1 8 (.asg (.c (.bool false)))] [8])
 (.ret)) (.skip))))
 (.seq (.reg [q1 18 (.asg (.c (.int .i64 1)))] [1, 3, 4, 6, 10, 11, 12, 13, 14, 15, 16, 17, 18])
 (.seq (.reg [q1 100 (.ld 12 1 true),q1 101 (.mv (.t 18)),q1 102 (.callO 19 [(.t 100), (.t 101)]),q1 18 (.asg (.t 102))] [1, 3, 4, 6, 10, 11, 13, 14, 15, 16, 17, 18])
 (.seq (.reg [q1 103 (.mv (.t 13)),q1 104 (.mv (.t 18)),q1 105 (.callO 20 [(.t 103), (.t 104)]),q1 18 (.asg (.t 105))] [1, 3, 4, 6, 10, 11, 14, 15, 16, 17, 18])
 (.seq (.reg [q1 106 (.ld 14 4 true),q1 107 (.mv (.t 18)),q1 108 (.callO 21 [(.t 106), (.t 107)]),q1 18 (.asg (.t 108))] [1, 3, 4, 6, 10, 11, 15, 16, 17, 18])
 (.seq (.reg [q1 109 (.mv (.t 15)),q1 110 (.mv (.t 18)),q1 111 (.callO 22 [(.t 109), (.t 110)]),q1 18 (.asg (.t 111))] [1, 3, 4, 6, 10, 11, 16, 17, 18])
 (.seq (.kp [1, 3, 4, 6, 10, 11, 16] (.seq (.reg [q1 112 (.mv (.t 18)),q1 113 (.bin .lss (.t 112) (.c (.int .i64 0))),q1 114 (.mv (.t 113)),
  ⟨some 115, .ld 16 2 true, some (114, false)⟩,
  ⟨some 116, .ld 10 2 true, some (114, false)⟩,
  ⟨some 117, .call 14 [(.t 115), (.t 116)], some (114, false)⟩,
  ⟨some 118, .nt (.t 117), some (114, false)⟩,q1 119 (.pick (.t 114) (.c (.bool true)) (.t 118)),q1 120 (.mv (.t 119)),
  ⟨some 121, .mv (.t 17), some (120, false)⟩,
  ⟨some 122, .mv (.t 11), some (120, false)⟩,
  ⟨some 123, .eqb true (.t 121) (.t 122), some (120, false)⟩,q1 124 (.pick (.t 120) (.c (.bool true)) (.t 123))] [1, 3, 4, 6, 10, 11, 16, 124])
 (.cond (.t 124) (.seq (.reg [q1 8 (.asg (.c (.bool false)))] [8])
 (.ret)) (.skip))))
 (.seq (.reg [q1 19 (.asg (.c (.int .i64 1)))] [1, 3, 4, 6, 10, 11, 16, 19])
 (.seq (.reg [q1 125 (.ld 16 2 true),q1 126 (.mv (.t 19)),q1 127 (.callO 23 [(.t 125), (.t 126)]),q1 19 (.asg (.t 127))] [1, 3, 4, 6, 10, 11, 16, 19])
 (.seq (.reg [q1 20 (.asg (.c (.int .i64 1)))] [1, 3, 4, 6, 10, 11, 16, 19, 20])
 (.seq (.reg [q1 128 (.ld 16 2 true),q1 129 (.mv (.t 20)),q1 130 (.call 24 [(.t 128), (.t 129)]),q1 20 (.asg (.t 130))] [1, 3, 4, 6, 10, 11, 16, 19, 20])
 (.seq (.kp [1, 3, 4, 6, 10, 11, 16, 19, 20] (.seq (.reg [q1 131 (.mv (.t 20)),q1 132 (.bin .lss (.t 131) (.c (.int .i64 0)))] [1, 3, 4, 6, 10, 11, 16, 19, 20, 132])
 (.cond (.t 132) (.seq (.reg [q1 8 (.asg (.c (.bool false)))] [8])
 (.ret)) (.skip))))
 (.seq (.kp [1, 3, 4, 6, 10, 11, 16, 19] (.seq (.reg [q1 133 (.mv (.t 20)),q1 134 (.mv (.t 19)),q1 135 (.bin .neq (.t 133) (.t 134))] [1, 3, 4, 6, 10, 11, 16, 19, 135])
 (.cond (.t 135) (.seq (.reg [q1 8 (.asg (.c (.bool false)))] [8])
 (.ret)) (.skip))))
 (.seq (.drg [⟨0, q1 137 (.ld 4 1 true), [21, 138, 139, 140, 141, 142, 143, 144, 145]⟩,
  ⟨1, q1 138 (.call 9 [(.t 137)]), [21, 139, 140, 141, 142, 143, 144, 145]⟩,
  ⟨2, q1 139 (.mv (.t 1)), [21, 137, 138, 140, 141, 142, 143, 144, 145]⟩,
  ⟨3, q1 140 (.call 10 [(.t 139)]), [21, 141, 142, 143, 144, 145]⟩,
  ⟨4, q1 141 (.ld 6 4 true), [21, 137, 138, 139, 140, 142, 143, 144, 145]⟩,
  ⟨5, q1 142 (.call 11 [(.t 141)]), [21, 143, 144, 145]⟩,
  ⟨6, q1 143 (.mv (.t 3)), [21, 137, 138, 139, 140, 141, 142, 144, 145]⟩,
  ⟨7, q1 144 (.call 12 [(.t 143)]), [21, 145]⟩,
  ⟨8, q1 145 (.call 13 [(.t 138), (.t 140), (.t 142), (.t 144)]), [21]⟩,
  ⟨12, q1 21 (.alloc (.agg [.slice true [], .slice true []])), [137, 138, 139, 140, 141, 142, 143, 144, 145]⟩]
  [(12, q1 21 (.alloc (.agg [.slice true [], .slice true []]))),
  (9, q1 136 (.mvt 145)),
  (10, q1 146 (.ext 136 0)),
  (11, q1 147 (.ext 136 1)),
  (13, q0 (.st 21 (.t 146) 2)),
  (14, q1 22 (.asg (.t 147)))] [10, 11, 16, 19, 21, 22] [21, 22, 136, 145, 146, 147, 10, 11, 16, 19] [([false, false, false, false, false, false], 0), ([false, false, false, false, false, false], 1), ([true, false, false, false, false, false], 1), ([false, true, false, false, false, false], 0), ([false, true, false, false, false, false], 2), ([false, true, false, false, false, false], 3), ([true, true, false, false, false, false], 2), ([true, true, false, false, false, false], 3), ([false, true, true, false, false, false], 0), ([false, true, true, false, false, false], 3), ([false, true, false, true, false, false], 0), ([false, true, false, true, false, false], 2), ([true, true, true, false, false, false], 3), ([true, true, true, false, false, false], 4), ([true, true, false, true, false, false], 2), ([false, true, true, true, false, false], 0), ([true, true, true, true, false, false], 4), ([true, true, true, false, true, false], 3), ([true, true, true, true, true, false], 5)])
 (.seq (.kp [16, 19] (.seq (.reg [q1 148 (.ld 21 2 true),q1 149 (.ld 10 2 true),q1 150 (.call 14 [(.t 148), (.t 149)]),q1 151 (.nt (.t 150)),q1 152 (.mv (.t 151)),
  ⟨some 153, .mv (.t 22), some (152, false)⟩,
  ⟨some 154, .mv (.t 11), some (152, false)⟩,
  ⟨some 155, .eqb true (.t 153) (.t 154), some (152, false)⟩,q1 156 (.pick (.t 152) (.c (.bool true)) (.t 155))] [16, 19, 156])
 (.cond (.t 156) (.seq (.reg [q1 8 (.asg (.c (.bool false)))] [8])
 (.ret)) (.skip))))
 (.seq (.reg [q1 20 (.asg (.c (.int .i64 1)))] [16, 19, 20])
 (.seq (.reg [q1 157 (.ld 16 2 true),q1 158 (.mv (.t 20)),q1 159 (.call 24 [(.t 157), (.t 158)]),q1 20 (.asg (.t 159))] [19, 20])
 (.seq (.kp [19, 20] (.seq (.reg [q1 160 (.mv (.t 20)),q1 161 (.bin .lss (.t 160) (.c (.int .i64 0)))] [19, 20, 161])
 (.cond (.t 161) (.seq (.reg [q1 8 (.asg (.c (.bool false)))] [8])
 (.ret)) (.skip))))
 (.seq (.kp [] (.seq (.reg [q1 162 (.mv (.t 20)),q1 163 (.mv (.t 19)),q1 164 (.bin .neq (.t 162) (.t 163))] [164])
 (.cond (.t 164) (.seq (.reg [q1 8 (.asg (.c (.bool false)))] [8])
 (.ret)) (.skip))))
 (.seq (.reg [q1 8 (.asg (.c (.bool true)))] [8])
 (.ret))))))))))))))))))))))))))))))))))))))))
theorem con_laws_FnExactCubeOfTable {v0 : XGeo} {v1 : (List XVariable)} {v2 : XTable} {v3 : (List XRecord)} {r : Bool} (h : sh_laws_FnExactCubeOfTable v0 v1 v2 v3 = some r) : Con Tryz.prog 3 [cc10.enc v0, cc6.enc v1, cc0.enc v2, cc1.enc v3] [] (rs_laws_FnExactCubeOfTable r) := by
 delta sh_laws_FnExactCubeOfTable at h
 refine top (out := none) (f := Tryz.f3) (m := m3) (rs := [.t 8]) (by kernel_rfl) rfl (by kernel_rfl) (by kernel_rfl) (by kernel_rfl) (by kernel_rfl) (by kernel_rfl) ?_
 exact
  ini [q2 0 cc10 v0, q2 1 cc6 v1, q2 2 cc0 v2, q2 3 cc1 v3] rfl <| wpC_seq <| reg_s <| x_box (ss rfl rfl) <| x_box (ss rfl rfl) <| x_asg (sc cB false rfl) <| sq [q2 1 cc6 v1, q2 3 cc1 v3, q3 4 cc10 v0, q3 6 cc0 v2] <|
  xn <| wpC_seq <| reg_s <| x_asg (sc cI (1048576 : Int) rfl) <| sq [q2 1 cc6 v1, q2 3 cc1 v3, q3 4 cc10 v0, q3 6 cc0 v2, q2 9 cI (1048576 : Int)] <|
  xn <| wpC_seq <| reg_s <| st rfl <| ldb rfl rfl rfl rfl <| st rfl <| mvd rfl rfl <| bnd h fun x3 e4 h => st rfl <| o_call (a1 (c := cc10) (tXGeo (tLs tK)) rfl (a1 (c := cI) tK rfl a0)) (con_laws_szGeo e4) (.inl (so1 sK so0)) <| x_asg (ss rfl rfl) <| sq [q2 1 cc6 v1, q2 3 cc1 v3, q3 4 cc10 v0, q3 6 cc0 v2, q2 9 cI x3] <|
  xn <| wpC_seq <| wpC_kp <| wpC_seq <| reg_s <| st rfl <| mvd rfl rfl <| st rfl <| b_lss (k := .i64) rfl rfl <| sq [q2 1 cc6 v1, q2 3 cc1 v3, q3 4 cc10 v0, q3 6 cc0 v2, q2 9 cI x3, q2 27 cB (decide (x3 < (0 : Int)))] <|
  xn <| cnd rfl h (fun b6 h => wpC_seq <| reg_s <| x_asg (sc cB true rfl) <| sq [q2 8 cB true] <|
  xn <| wpC_ret <| rt <| rt <| re <| fin h (r1 (ss rfl rfl) <| r0) rfl)
  (fun b6 h => wpC_skip <| kpN [q2 1 cc6 v1, q2 3 cc1 v3, q3 4 cc10 v0, q3 6 cc0 v2, q2 9 cI x3] (by kernel_rfl) <| xn <| wpC_seq <| reg_s <| st rfl <| mvd rfl rfl <| st rfl <| mvd rfl rfl <| bnd h fun x9 e10 h => st rfl <| o_call (a1 (c := cc6) (tLs (tXVariable tS tK)) rfl (a1 (c := cI) tK rfl a0)) (con_laws_szVariableS e10) (.inl (so1 sK so0)) <| x_asg (ss rfl rfl) <| sq [q2 1 cc6 v1, q2 3 cc1 v3, q3 4 cc10 v0, q3 6 cc0 v2, q2 9 cI x9] <|
  xn <| wpC_seq <| wpC_kp <| wpC_seq <| reg_s <| st rfl <| mvd rfl rfl <| st rfl <| b_lss (k := .i64) rfl rfl <| sq [q2 1 cc6 v1, q2 3 cc1 v3, q3 4 cc10 v0, q3 6 cc0 v2, q2 9 cI x9, q2 32 cB (decide (x9 < (0 : Int)))] <|
  xn <| cnd rfl h (fun b12 h => wpC_seq <| reg_s <| x_asg (sc cB true rfl) <| sq [q2 8 cB true] <|
  xn <| wpC_ret <| rt <| rt <| re <| fin h (r1 (ss rfl rfl) <| r0) rfl)
  (fun b12 h => wpC_skip <| kpN [q2 1 cc6 v1, q2 3 cc1 v3, q3 4 cc10 v0, q3 6 cc0 v2, q2 9 cI x9] (by kernel_rfl) <| xn <| wpC_seq <| reg_s <| st rfl <| ldb rfl rfl rfl rfl <| st rfl <| mvd rfl rfl <| bnd h fun x15 e16 h => st rfl <| o_call (a1 (c := cc0) (tXTable tK (tLs tK) (tLs tK) tK) rfl (a1 (c := cI) tK rfl a0)) (con_laws_szTable e16) (.inl (so1 sK so0)) <| x_asg (ss rfl rfl) <| sq [q2 1 cc6 v1, q2 3 cc1 v3, q3 4 cc10 v0, q3 6 cc0 v2, q2 9 cI x15] <|
  xn <| wpC_seq <| wpC_kp <| wpC_seq <| reg_s <| st rfl <| mvd rfl rfl <| st rfl <| b_lss (k := .i64) rfl rfl <| sq [q2 1 cc6 v1, q2 3 cc1 v3, q3 4 cc10 v0, q3 6 cc0 v2, q2 9 cI x15, q2 37 cB (decide (x15 < (0 : Int)))] <|
  xn <| cnd rfl h (fun b18 h => wpC_seq <| reg_s <| x_asg (sc cB true rfl) <| sq [q2 8 cB true] <|
  xn <| wpC_ret <| rt <| rt <| re <| fin h (r1 (ss rfl rfl) <| r0) rfl)
  (fun b18 h => wpC_skip <| kpN [q2 1 cc6 v1, q2 3 cc1 v3, q3 4 cc10 v0, q3 6 cc0 v2, q2 9 cI x15] (by kernel_rfl) <| xn <| wpC_seq <| reg_s <| st rfl <| mvd rfl rfl <| st rfl <| mvd rfl rfl <| bnd h fun x21 e22 h => st rfl <| o_call (a1 (c := cc1) (tLs (tXRecord tK tK (tLs tK))) rfl (a1 (c := cI) tK rfl a0)) (con_laws_szRecordS e22) (.inl (so1 sK so0)) <| x_asg (ss rfl rfl) <| sq [q2 1 cc6 v1, q2 3 cc1 v3, q3 4 cc10 v0, q3 6 cc0 v2, q2 9 cI x21] <|
  xn <| wpC_seq <| wpC_kp <| wpC_seq <| reg_s <| st rfl <| mvd rfl rfl <| st rfl <| b_lss (k := .i64) rfl rfl <| sq [q2 1 cc6 v1, q2 3 cc1 v3, q3 4 cc10 v0, q3 6 cc0 v2, q2 42 cB (decide (x21 < (0 : Int)))] <|
  xn <| cnd rfl h (fun b24 h => wpC_seq <| reg_s <| x_asg (sc cB true rfl) <| sq [q2 8 cB true] <|
  xn <| wpC_ret <| rt <| rt <| re <| fin h (r1 (ss rfl rfl) <| r0) rfl)
  (fun b24 h => wpC_skip <| kpN [q2 1 cc6 v1, q2 3 cc1 v3, q3 4 cc10 v0, q3 6 cc0 v2] (by kernel_rfl) <| xn <| wpC_seq <| drg_s <| pst rfl <| ldb rfl rfl rfl rfl ⟨rfl, bndp h fun x35 e36 h => pst rfl <| o_call (a1 (c := cc10) (tXGeo (tLs tK)) rfl a0) (con_laws_toGeo e36) (.inl (so1 (sXGeo (sLo sK)) so0)) ⟨rfl, pst rfl <| mvd rfl rfl ⟨rfl, bndp h fun x37 e38 h => pst rfl <| o_call (a1 (c := cc6) (tLs (tXVariable tS tK)) rfl a0) (con_laws_toVariableS e38) (.inl (so1 (sLo (sXVariable sS sK)) so0)) ⟨rfl, pst rfl <| ldb rfl rfl rfl rfl ⟨rfl, bndp h fun x39 e40 h => pst rfl <| o_call (a1 (c := cc0) (tXTable tK (tLs tK) (tLs tK) tK) rfl a0) (con_laws_toTable e40) (.inl (so1 (sXTable sK (sLo sK) (sLo sK) sK) so0)) ⟨rfl, pst rfl <| mvd rfl rfl ⟨rfl, bndp h fun x41 e42 h => pst rfl <| o_call (a1 (c := cc1) (tLs (tXRecord tK tK (tLs tK))) rfl a0) (con_laws_toRecordS e42) (.inl (so1 (sLo (sXRecord sK sK (sLo sK))) so0)) ⟨rfl, bndp h fun x43 e44 h => pst rfl <| o_call (a1 (c := cc12) (tXGeo (tLo tK)) rfl (a1 (c := cc9) (tLo (tXVariable tS tK)) rfl (a1 (c := cc3) (tXTable tK (tLo tK) (tLo tK) tK) rfl (a1 (c := cc4) (tLo (tXRecord tK tK (tLo tK))) rfl a0)))) (con_spec_CubeOfTable e44) (.inl (so1 (sXCube (sLo sK) (sLo sK)) (so1 sB so0))) ⟨rfl, pst rfl <| p_all cc7 (⟨([] : List Int), ([] : List Int)⟩ : XCube) rfl ⟨rfl, preN <| gr_s [q2 1 cc6 v1, q2 3 cc1 v3, q3 4 cc10 v0, q3 6 cc0 v2] [([false, false, false, false, false, false], [(10, .un), (11, .un), (43, .un), (52, .tup [some (cc7.enc x43.1), some (cB.enc x43.2)]), (53, .un), (54, .un)]),
  ([true, false, false, false, false, false], [q3 10 cc7 (⟨([] : List Int), ([] : List Int)⟩ : XCube), (11, .un), (43, .un), (52, .tup [some (cc7.enc x43.1), some (cB.enc x43.2)]), (53, .un), (54, .un)]),
  ([false, true, false, false, false, false], [(10, .un), (11, .un), (43, .tup [some (cc7.enc x43.1), some (cB.enc x43.2)]), (52, .un), (53, .un), (54, .un)]),
  ([true, true, false, false, false, false], [q3 10 cc7 (⟨([] : List Int), ([] : List Int)⟩ : XCube), (11, .un), (43, .tup [some (cc7.enc x43.1), some (cB.enc x43.2)]), (52, .un), (53, .un), (54, .un)]),
  ([false, true, true, false, false, false], [(10, .un), (11, .un), (43, .tup [none, some (cB.enc x43.2)]), (52, .un), q2 53 cc7 x43.1, (54, .un)]),
  ([false, true, false, true, false, false], [(10, .un), (11, .un), (43, .tup [some (cc7.enc x43.1), none]), (52, .un), (53, .un), q2 54 cB x43.2]),
  ([true, true, true, false, false, false], [q3 10 cc7 (⟨([] : List Int), ([] : List Int)⟩ : XCube), (11, .un), (43, .tup [none, some (cB.enc x43.2)]), (52, .un), q2 53 cc7 x43.1, (54, .un)]),
  ([true, true, false, true, false, false], [q3 10 cc7 (⟨([] : List Int), ([] : List Int)⟩ : XCube), (11, .un), (43, .tup [some (cc7.enc x43.1), none]), (52, .un), (53, .un), q2 54 cB x43.2]),
  ([false, true, true, true, false, false], [(10, .un), (11, .un), (43, .tup [none, none]), (52, .un), q2 53 cc7 x43.1, q2 54 cB x43.2]),
  ([true, true, true, true, false, false], [q3 10 cc7 (⟨([] : List Int), ([] : List Int)⟩ : XCube), (11, .un), (43, .tup [none, none]), (52, .un), q2 53 cc7 x43.1, q2 54 cB x43.2]),
  ([true, true, true, false, true, false], [q3 10 cc7 x43.1, (11, .un), (43, .tup [none, some (cB.enc x43.2)]), (52, .un), (53, .un), (54, .un)]),
  ([true, true, true, true, true, false], [q3 10 cc7 x43.1, (11, .un), (43, .tup [none, none]), (52, .un), (53, .un), q2 54 cB x43.2]),
  ([true, true, true, true, true, true], [q3 10 cc7 x43.1, q2 11 cB x43.2, (43, .tup [none, none]), (52, .un), (53, .un), q2 54 cB x43.2])] [q2 1 cc6 v1, q2 3 cc1 v3, q3 4 cc10 v0, q3 6 cc0 v2, q3 10 cc7 x43.1, q2 11 cB x43.2] [([false, false, false, false, false, false], [10]), ([true, false, false, false, false, false], [])] (by kernel_rfl) (sa1 rfl (by kernel_rfl) <| sa1 rfl (by kernel_rfl) <| sa0) rfl
  (ob1 rfl rfl rfl (x_all cc7 (⟨([] : List Int), ([] : List Int)⟩ : XCube) rfl <| obN (by kernel_rfl)) <|
  ob1 rfl rfl rfl (x_mvt rfl <| obN (by kernel_rfl)) <|
  ob1 rfl rfl rfl (x_mvt rfl <| obN (by kernel_rfl)) <|
  ob1 rfl rfl rfl (x_all cc7 (⟨([] : List Int), ([] : List Int)⟩ : XCube) rfl <| obN (by kernel_rfl)) <|
  ob1 rfl rfl rfl (x_ext rfl rfl <| obN (by kernel_rfl)) <|
  ob1 rfl rfl rfl (x_ext rfl rfl <| obN (by kernel_rfl)) <|
  ob1 rfl rfl rfl (x_ext rfl rfl <| obN (by kernel_rfl)) <|
  ob1 rfl rfl rfl (x_ext rfl rfl <| obN (by kernel_rfl)) <|
  ob1 rfl rfl rfl (x_all cc7 (⟨([] : List Int), ([] : List Int)⟩ : XCube) rfl <| obN (by kernel_rfl)) <|
  ob1 rfl rfl rfl (x_ext rfl rfl <| obN (by kernel_rfl)) <|
  ob1 rfl rfl rfl (x_all cc7 (⟨([] : List Int), ([] : List Int)⟩ : XCube) rfl <| obN (by kernel_rfl)) <|
  ob1 rfl rfl rfl (x_ext rfl rfl <| obN (by kernel_rfl)) <|
  ob1 rfl rfl rfl (x_ext rfl rfl <| obN (by kernel_rfl)) <|
  ob1 rfl rfl rfl (x_stb (so rfl rfl) rfl (Cd.h_sz _ _) rfl <| obN (by kernel_rfl)) <|
  ob1 rfl rfl rfl (x_ext rfl rfl <| obN (by kernel_rfl)) <|
  ob1 rfl rfl rfl (x_all cc7 (⟨([] : List Int), ([] : List Int)⟩ : XCube) rfl <| obN (by kernel_rfl)) <|
  ob1 rfl rfl rfl (x_stb (so rfl rfl) rfl (Cd.h_sz _ _) rfl <| obN (by kernel_rfl)) <|
  ob1 rfl rfl rfl (x_ext rfl rfl <| obN (by kernel_rfl)) <|
  ob1 rfl rfl rfl (x_asg (ss rfl rfl) <| obN (by kernel_rfl)) <|
  ob0)
  (by kernel_rfl) <|
  xn <| wpC_seq <| reg_s <| st rfl <| ldb rfl rfl rfl rfl <| bnd h fun x47 e48 h => st rfl <| o_call (a1 (c := cc10) (tXGeo (tLs tK)) rfl a0) (con_laws_toGeo e48) (.inl (so1 (sXGeo (sLo sK)) so0)) <| x_all cc12 (⟨([] : List Int)⟩ : XGeo) rfl <| x_stb (so rfl rfl) rfl (Cd.h_sz _ _) rfl <| sq [q2 1 cc6 v1, q2 3 cc1 v3, q3 4 cc10 v0, q3 6 cc0 v2, q3 10 cc7 x43.1, q2 11 cB x43.2, q3 12 cc12 x47] <|
  xn <| wpC_seq <| reg_s <| st rfl <| mvd rfl rfl <| bnd h fun x51 e52 h => st rfl <| o_call (a1 (c := cc6) (tLs (tXVariable tS tK)) rfl a0) (con_laws_toVariableS e52) (.inl (so1 (sLo (sXVariable sS sK)) so0)) <| x_asg (so rfl rfl) <| sq [q2 1 cc6 v1, q2 3 cc1 v3, q3 4 cc10 v0, q3 6 cc0 v2, q3 10 cc7 x43.1, q2 11 cB x43.2, q3 12 cc12 x47, q2 13 cc9 x51] <|
  xn <| wpC_seq <| reg_s <| st rfl <| ldb rfl rfl rfl rfl <| bnd h fun x55 e56 h => st rfl <| o_call (a1 (c := cc0) (tXTable tK (tLs tK) (tLs tK) tK) rfl a0) (con_laws_toTable e56) (.inl (so1 (sXTable sK (sLo sK) (sLo sK) sK) so0)) <| x_all cc3 (⟨(0 : Int), ([] : List Int), ([] : List Int), (0 : Int)⟩ : XTable) rfl <| x_stb (so rfl rfl) rfl (Cd.h_sz _ _) rfl <| sq [q2 1 cc6 v1, q2 3 cc1 v3, q3 4 cc10 v0, q3 6 cc0 v2, q3 10 cc7 x43.1, q2 11 cB x43.2, q3 12 cc12 x47, q2 13 cc9 x51, q3 14 cc3 x55] <|
  xn <| wpC_seq <| reg_s <| st rfl <| mvd rfl rfl <| bnd h fun x59 e60 h => st rfl <| o_call (a1 (c := cc1) (tLs (tXRecord tK tK (tLs tK))) rfl a0) (con_laws_toRecordS e60) (.inl (so1 (sLo (sXRecord sK sK (sLo sK))) so0)) <| x_asg (so rfl rfl) <| sq [q2 1 cc6 v1, q2 3 cc1 v3, q3 4 cc10 v0, q3 6 cc0 v2, q3 10 cc7 x43.1, q2 11 cB x43.2, q3 12 cc12 x47, q2 13 cc9 x51, q3 14 cc3 x55, q2 15 cc4 x59] <|
  xn <| wpC_seq <| reg_s <| st rfl <| ldbo rfl rfl rfl rfl <| st rfl <| mvo rfl rfl <| st rfl <| ldbo rfl rfl rfl rfl <| st rfl <| mvo rfl rfl <| bnd h fun x63 e64 h => st rfl <| o_call (a1 (c := cc12) (tXGeo (tLo tK)) rfl (a1 (c := cc9) (tLo (tXVariable tS tK)) rfl (a1 (c := cc3) (tXTable tK (tLo tK) (tLo tK) tK) rfl (a1 (c := cc4) (tLo (tXRecord tK tK (tLo tK))) rfl a0)))) (con_impl_CubeOfTable e64) (.inl (so1 (sXCube (sLo sK) (sLo sK)) (so1 sB so0))) <| x_mvt rfl <| x_ext rfl rfl <| x_ext rfl rfl <| x_all cc7 (⟨([] : List Int), ([] : List Int)⟩ : XCube) rfl <| x_stb (so rfl rfl) rfl (Cd.h_sz _ _) rfl <| x_asg (ss rfl rfl) <| sq [q2 1 cc6 v1, q2 3 cc1 v3, q3 4 cc10 v0, q3 6 cc0 v2, q3 10 cc7 x43.1, q2 11 cB x43.2, q3 12 cc12 x47, q2 13 cc9 x51, q3 14 cc3 x55, q2 15 cc4 x59, q3 16 cc7 x63.1, q2 17 cB x63.2] <|
  xn <| wpC_seq <| wpC_kp <| wpC_seq <| reg_s <| st rfl <| ldbo rfl rfl rfl rfl <| st rfl <| ldbo rfl rfl rfl rfl <| bnd h fun x75 e76 h => st rfl <| o_call (a1 (c := cc7) (tXCube (tLo tK) (tLo tK)) rfl (a1 (c := cc7) (tXCube (tLo tK) (tLo tK)) rfl a0)) (con_laws_eqCube e76) (.inl (so1 sB so0)) <| st rfl <| o_nt rfl <| st rfl <| mvd rfl rfl <| ite_k h (fun b77 h => gf rfl b77 <| gf rfl b77 <| gf rfl b77 <| st rfl <| pick1 rfl b77 (cd := cB) (v := true) rfl rfl <| sq [q2 1 cc6 v1, q2 3 cc1 v3, q3 4 cc10 v0, q3 6 cc0 v2, q3 10 cc7 x43.1, q2 11 cB x43.2, q3 12 cc12 x47, q2 13 cc9 x51, q3 14 cc3 x55, q2 15 cc4 x59, q3 16 cc7 x63.1, q2 17 cB x63.2, q2 79 cB true] <|
  xn <| cnd1 rfl rfl <| wpC_seq <| reg_s <| x_asg (sc cB false rfl) <| sq [q2 8 cB false] <|
  xn <| wpC_ret <| rt <| rt <| re <| fin h (r1 (ss rfl rfl) <| r0) rfl)
  (fun b77 h => gt' rfl b77 <| st rfl <| mvd rfl rfl <| gt' rfl b77 <| st rfl <| mvd rfl rfl <| gt' rfl b77 <| st rfl <| eqb1 rfl rfl <| st rfl <| pick0 rfl b77 (cd := cB) (v := (x63.2 != x43.2)) rfl rfl <| sq [q2 1 cc6 v1, q2 3 cc1 v3, q3 4 cc10 v0, q3 6 cc0 v2, q3 10 cc7 x43.1, q2 11 cB x43.2, q3 12 cc12 x47, q2 13 cc9 x51, q3 14 cc3 x55, q2 15 cc4 x59, q3 16 cc7 x63.1, q2 17 cB x63.2, q2 79 cB (x63.2 != x43.2)] <|
  xn <| cnd rfl h (fun b78 h => wpC_seq <| reg_s <| x_asg (sc cB false rfl) <| sq [q2 8 cB false] <|
  xn <| wpC_ret <| rt <| rt <| re <| fin h (r1 (ss rfl rfl) <| r0) rfl)
  (fun b78 h => wpC_skip <| kpN [q2 1 cc6 v1, q2 3 cc1 v3, q3 4 cc10 v0, q3 6 cc0 v2, q3 10 cc7 x43.1, q2 11 cB x43.2, q3 12 cc12 x47, q2 13 cc9 x51, q3 14 cc3 x55, q2 15 cc4 x59, q3 16 cc7 x63.1, q2 17 cB x63.2] (by kernel_rfl) <| xn <| wpC_seq <| wpC_kp <| wpC_seq <| drw_s <| pst rfl <| ldbo rfl rfl rfl rfl ⟨rfl, pst rfl <| ldb rfl rfl rfl rfl ⟨rfl, bndp h fun x92 e93 h => pst rfl <| o_call (a1 (c := cc10) (tXGeo (tLs tK)) rfl a0) (con_laws_toGeo e93) (.inl (so1 (sXGeo (sLo sK)) so0)) ⟨rfl, bndp h fun x94 e95 h => pst rfl <| o_call (a1 (c := cc12) (tXGeo (tLo tK)) rfl (a1 (c := cc12) (tXGeo (tLo tK)) rfl a0)) (con_laws_eqGeo e95) (.inl (so1 sB so0)) ⟨rfl, pst rfl <| o_nt rfl ⟨rfl, preN <| sq [q2 1 cc6 v1, q2 3 cc1 v3, q3 4 cc10 v0, q3 6 cc0 v2, q3 10 cc7 x43.1, q2 11 cB x43.2, q3 12 cc12 x47, q2 13 cc9 x51, q3 14 cc3 x55, q2 15 cc4 x59, q3 16 cc7 x63.1, q2 17 cB x63.2, q2 84 cB (!x94)] <|
  xn <| cnd rfl h (fun b96 h => wpC_seq <| reg_s <| x_asg (sc cB false rfl) <| sq [q2 8 cB false] <|
  xn <| wpC_ret <| rt <| rt <| re <| fin h (r1 (ss rfl rfl) <| r0) rfl)
  (fun b96 h => wpC_skip <| kpN [q2 1 cc6 v1, q2 3 cc1 v3, q3 4 cc10 v0, q3 6 cc0 v2, q3 10 cc7 x43.1, q2 11 cB x43.2, q3 12 cc12 x47, q2 13 cc9 x51, q3 14 cc3 x55, q2 15 cc4 x59, q3 16 cc7 x63.1, q2 17 cB x63.2] (by kernel_rfl) <| xn <| wpC_seq <| wpC_kp <| wpC_seq <| reg_s <| st rfl <| mvo rfl rfl <| st rfl <| mvd rfl rfl <| bnd h fun x110 e111 h => st rfl <| o_call (a1 (c := cc6) (tLs (tXVariable tS tK)) rfl a0) (con_laws_toVariableS e111) (.inl (so1 (sLo (sXVariable sS sK)) so0)) <| bnd h fun x112 e113 h => st rfl <| o_call (a1 (c := cc9) (tLo (tXVariable tS tK)) rfl (a1 (c := cc9) (tLo (tXVariable tS tK)) rfl a0)) (con_laws_eqVariableS e113) (.inl (so1 sB so0)) <| st rfl <| o_nt rfl <| sq [q2 1 cc6 v1, q2 3 cc1 v3, q3 4 cc10 v0, q3 6 cc0 v2, q3 10 cc7 x43.1, q2 11 cB x43.2, q3 12 cc12 x47, q2 13 cc9 x51, q3 14 cc3 x55, q2 15 cc4 x59, q3 16 cc7 x63.1, q2 17 cB x63.2, q2 89 cB (!x112)] <|
  xn <| cnd rfl h (fun b114 h => wpC_seq <| reg_s <| x_asg (sc cB false rfl) <| sq [q2 8 cB false] <|
  xn <| wpC_ret <| rt <| rt <| re <| fin h (r1 (ss rfl rfl) <| r0) rfl)
  (fun b114 h => wpC_skip <| kpN [q2 1 cc6 v1, q2 3 cc1 v3, q3 4 cc10 v0, q3 6 cc0 v2, q3 10 cc7 x43.1, q2 11 cB x43.2, q3 12 cc12 x47, q2 13 cc9 x51, q3 14 cc3 x55, q2 15 cc4 x59, q3 16 cc7 x63.1, q2 17 cB x63.2] (by kernel_rfl) <| xn <| wpC_seq <| wpC_kp <| wpC_seq <| drw_s <| pst rfl <| ldbo rfl rfl rfl rfl ⟨rfl, pst rfl <| ldb rfl rfl rfl rfl ⟨rfl, bndp h fun x128 e129 h => pst rfl <| o_call (a1 (c := cc0) (tXTable tK (tLs tK) (tLs tK) tK) rfl a0) (con_laws_toTable e129) (.inl (so1 (sXTable sK (sLo sK) (sLo sK) sK) so0)) ⟨rfl, bndp h fun x130 e131 h => pst rfl <| o_call (a1 (c := cc3) (tXTable tK (tLo tK) (tLo tK) tK) rfl (a1 (c := cc3) (tXTable tK (tLo tK) (tLo tK) tK) rfl a0)) (con_laws_eqTable e131) (.inl (so1 sB so0)) ⟨rfl, pst rfl <| o_nt rfl ⟨rfl, preN <| sq [q2 1 cc6 v1, q2 3 cc1 v3, q3 4 cc10 v0, q3 6 cc0 v2, q3 10 cc7 x43.1, q2 11 cB x43.2, q3 12 cc12 x47, q2 13 cc9 x51, q3 14 cc3 x55, q2 15 cc4 x59, q3 16 cc7 x63.1, q2 17 cB x63.2, q2 94 cB (!x130)] <|
  xn <| cnd rfl h (fun b132 h => wpC_seq <| reg_s <| x_asg (sc cB false rfl) <| sq [q2 8 cB false] <|
  xn <| wpC_ret <| rt <| rt <| re <| fin h (r1 (ss rfl rfl) <| r0) rfl)
  (fun b132 h => wpC_skip <| kpN [q2 1 cc6 v1, q2 3 cc1 v3, q3 4 cc10 v0, q3 6 cc0 v2, q3 10 cc7 x43.1, q2 11 cB x43.2, q3 12 cc12 x47, q2 13 cc9 x51, q3 14 cc3 x55, q2 15 cc4 x59, q3 16 cc7 x63.1, q2 17 cB x63.2] (by kernel_rfl) <| xn <| wpC_seq <| wpC_kp <| wpC_seq <| reg_s <| st rfl <| mvo rfl rfl <| st rfl <| mvd rfl rfl <| bnd h fun x146 e147 h => st rfl <| o_call (a1 (c := cc1) (tLs (tXRecord tK tK (tLs tK))) rfl a0) (con_laws_toRecordS e147) (.inl (so1 (sLo (sXRecord sK sK (sLo sK))) so0)) <| bnd h fun x148 e149 h => st rfl <| o_call (a1 (c := cc4) (tLo (tXRecord tK tK (tLo tK))) rfl (a1 (c := cc4) (tLo (tXRecord tK tK (tLo tK))) rfl a0)) (con_laws_eqRecordS e149) (.inl (so1 sB so0)) <| st rfl <| o_nt rfl <| sq [q2 1 cc6 v1, q2 3 cc1 v3, q3 4 cc10 v0, q3 6 cc0 v2, q3 10 cc7 x43.1, q2 11 cB x43.2, q3 12 cc12 x47, q2 13 cc9 x51, q3 14 cc3 x55, q2 15 cc4 x59, q3 16 cc7 x63.1, q2 17 cB x63.2, q2 99 cB (!x148)] <|
  xn <| cnd rfl h (fun b150 h => wpC_seq <| reg_s <| x_asg (sc cB false rfl) <| sq [q2 8 cB false] <|
  xn <| wpC_ret <| rt <| rt <| re <| fin h (r1 (ss rfl rfl) <| r0) rfl)
  (fun b150 h => wpC_skip <| kpN [q2 1 cc6 v1, q2 3 cc1 v3, q3 4 cc10 v0, q3 6 cc0 v2, q3 10 cc7 x43.1, q2 11 cB x43.2, q3 12 cc12 x47, q2 13 cc9 x51, q3 14 cc3 x55, q2 15 cc4 x59, q3 16 cc7 x63.1, q2 17 cB x63.2] (by kernel_rfl) <| xn <| wpC_seq <| reg_s <| x_asg (sc cI (1 : Int) rfl) <| sq [q2 1 cc6 v1, q2 3 cc1 v3, q3 4 cc10 v0, q3 6 cc0 v2, q3 10 cc7 x43.1, q2 11 cB x43.2, q3 12 cc12 x47, q2 13 cc9 x51, q3 14 cc3 x55, q2 15 cc4 x59, q3 16 cc7 x63.1, q2 17 cB x63.2, q2 18 cI (1 : Int)] <|
  xn <| wpC_seq <| reg_s <| st rfl <| ldbo rfl rfl rfl rfl <| st rfl <| mvd rfl rfl <| bnd h fun x153 e154 h => x_clr (c := cc12) (c' := cc12) (cc12.enc x153.1) (sXGeo (sLo sK)) rfl (a1 (c := cI) tK rfl a0) rfl Ln.nil (con_laws_markGeo e154) rfl rfl (so1 sK so0) <| x_asg (ss rfl rfl) <| sq [q2 1 cc6 v1, q2 3 cc1 v3, q3 4 cc10 v0, q3 6 cc0 v2, q3 10 cc7 x43.1, q2 11 cB x43.2, q2 13 cc9 x51, q3 14 cc3 x55, q2 15 cc4 x59, q3 16 cc7 x63.1, q2 17 cB x63.2, q2 18 cI x153.2] <|
  xn <| wpC_seq <| reg_s <| st rfl <| mvo rfl rfl <| st rfl <| mvd rfl rfl <| bnd h fun x157 e158 h => x_clr (c := cc9) (c' := cc9) (cc9.enc x157.1) (sLo (sXVariable sS sK)) rfl (a1 (c := cI) tK rfl a0) rfl Ln.nil (con_laws_markVariableS e158) rfl rfl (so1 sK so0) <| x_asg (ss rfl rfl) <| sq [q2 1 cc6 v1, q2 3 cc1 v3, q3 4 cc10 v0, q3 6 cc0 v2, q3 10 cc7 x43.1, q2 11 cB x43.2, q3 14 cc3 x55, q2 15 cc4 x59, q3 16 cc7 x63.1, q2 17 cB x63.2, q2 18 cI x157.2] <|
  xn <| wpC_seq <| reg_s <| st rfl <| ldbo rfl rfl rfl rfl <| st rfl <| mvd rfl rfl <| bnd h fun x161 e162 h => x_clr (c := cc3) (c' := cc3) (cc3.enc x161.1) (sXTable sK (sLo sK) (sLo sK) sK) rfl (a1 (c := cI) tK rfl a0) rfl Ln.nil (con_laws_markTable e162) rfl rfl (so1 sK so0) <| x_asg (ss rfl rfl) <| sq [q2 1 cc6 v1, q2 3 cc1 v3, q3 4 cc10 v0, q3 6 cc0 v2, q3 10 cc7 x43.1, q2 11 cB x43.2, q2 15 cc4 x59, q3 16 cc7 x63.1, q2 17 cB x63.2, q2 18 cI x161.2] <|
  xn <| wpC_seq <| reg_s <| st rfl <| mvo rfl rfl <| st rfl <| mvd rfl rfl <| bnd h fun x165 e166 h => x_clr (c := cc4) (c' := cc4) (cc4.enc x165.1) (sLo (sXRecord sK sK (sLo sK))) rfl (a1 (c := cI) tK rfl a0) rfl Ln.nil (con_laws_markRecordS e166) rfl rfl (so1 sK so0) <| x_asg (ss rfl rfl) <| sq [q2 1 cc6 v1, q2 3 cc1 v3, q3 4 cc10 v0, q3 6 cc0 v2, q3 10 cc7 x43.1, q2 11 cB x43.2, q3 16 cc7 x63.1, q2 17 cB x63.2, q2 18 cI x165.2] <|
  xn <| wpC_seq <| wpC_kp <| wpC_seq <| reg_s <| st rfl <| mvd rfl rfl <| st rfl <| b_lss (k := .i64) rfl rfl <| st rfl <| mvd rfl rfl <| ite_k h (fun b179 h => gf rfl b179 <| gf rfl b179 <| gf rfl b179 <| gf rfl b179 <| st rfl <| pick1 rfl b179 (cd := cB) (v := true) rfl rfl <| st rfl <| mvd rfl rfl <| gf rfl rfl <| gf rfl rfl <| gf rfl rfl <| st rfl <| pick1 rfl rfl (cd := cB) (v := true) rfl rfl <| sq [q2 1 cc6 v1, q2 3 cc1 v3, q3 4 cc10 v0, q3 6 cc0 v2, q3 10 cc7 x43.1, q2 11 cB x43.2, q3 16 cc7 x63.1, q2 124 cB true] <|
  xn <| cnd1 rfl rfl <| wpC_seq <| reg_s <| x_asg (sc cB false rfl) <| sq [q2 8 cB false] <|
  xn <| wpC_ret <| rt <| rt <| re <| fin h (r1 (ss rfl rfl) <| r0) rfl)
  (fun b179 h => gt' rfl b179 <| st rfl <| ldbo rfl rfl rfl rfl <| gt' rfl b179 <| st rfl <| ldbo rfl rfl rfl rfl <| gt' rfl b179 <| bnd h fun x180 e181 h => st rfl <| o_call (a1 (c := cc7) (tXCube (tLo tK) (tLo tK)) rfl (a1 (c := cc7) (tXCube (tLo tK) (tLo tK)) rfl a0)) (con_laws_eqCube e181) (.inl (so1 sB so0)) <| gt' rfl b179 <| st rfl <| o_nt rfl <| st rfl <| pick0 rfl b179 (cd := cB) (v := (!x180)) rfl rfl <| st rfl <| mvd rfl rfl <| ite_k h (fun b182 h => gf rfl b182 <| gf rfl b182 <| gf rfl b182 <| st rfl <| pick1 rfl b182 (cd := cB) (v := true) rfl rfl <| sq [q2 1 cc6 v1, q2 3 cc1 v3, q3 4 cc10 v0, q3 6 cc0 v2, q3 10 cc7 x43.1, q2 11 cB x43.2, q3 16 cc7 x63.1, q2 124 cB true] <|
  xn <| cnd1 rfl rfl <| wpC_seq <| reg_s <| x_asg (sc cB false rfl) <| sq [q2 8 cB false] <|
  xn <| wpC_ret <| rt <| rt <| re <| fin h (r1 (ss rfl rfl) <| r0) rfl)
  (fun b182 h => gt' rfl b182 <| st rfl <| mvd rfl rfl <| gt' rfl b182 <| st rfl <| mvd rfl rfl <| gt' rfl b182 <| st rfl <| eqb1 rfl rfl <| st rfl <| pick0 rfl b182 (cd := cB) (v := (x63.2 != x43.2)) rfl rfl <| sq [q2 1 cc6 v1, q2 3 cc1 v3, q3 4 cc10 v0, q3 6 cc0 v2, q3 10 cc7 x43.1, q2 11 cB x43.2, q3 16 cc7 x63.1, q2 124 cB (x63.2 != x43.2)] <|
  xn <| cnd0 rfl b78 <| wpC_skip <| kpN [q2 1 cc6 v1, q2 3 cc1 v3, q3 4 cc10 v0, q3 6 cc0 v2, q3 10 cc7 x43.1, q2 11 cB x43.2, q3 16 cc7 x63.1] (by kernel_rfl) <| xn <| wpC_seq <| reg_s <| x_asg (sc cI (1 : Int) rfl) <| sq [q2 1 cc6 v1, q2 3 cc1 v3, q3 4 cc10 v0, q3 6 cc0 v2, q3 10 cc7 x43.1, q2 11 cB x43.2, q3 16 cc7 x63.1, q2 19 cI (1 : Int)] <|
  xn <| wpC_seq <| reg_s <| st rfl <| ldbo rfl rfl rfl rfl <| st rfl <| mvd rfl rfl <| bnd h fun x185 e186 h => x_clr (c := cc7) (c' := cc7) (cc7.enc x185.1) (sXCube (sLo sK) (sLo sK)) rfl (a1 (c := cI) tK rfl a0) rfl Ln.nil (con_laws_markCube e186) rfl rfl (so1 sK so0) <| x_asg (ss rfl rfl) <| sq [q2 1 cc6 v1, q2 3 cc1 v3, q3 4 cc10 v0, q3 6 cc0 v2, q3 10 cc7 x43.1, q2 11 cB x43.2, q3 16 cc7 x185.1, q2 19 cI x185.2] <|
  xn <| wpC_seq <| reg_s <| x_asg (sc cI (1 : Int) rfl) <| sq [q2 1 cc6 v1, q2 3 cc1 v3, q3 4 cc10 v0, q3 6 cc0 v2, q3 10 cc7 x43.1, q2 11 cB x43.2, q3 16 cc7 x185.1, q2 19 cI x185.2, q2 20 cI (1 : Int)] <|
  xn <| wpC_seq <| reg_s <| st rfl <| ldbo rfl rfl rfl rfl <| st rfl <| mvd rfl rfl <| bnd h fun x189 e190 h => st rfl <| o_call (a1 (c := cc7) (tXCube (tLo tK) (tLo tK)) rfl (a1 (c := cI) tK rfl a0)) (con_laws_heldCube e190) (.inl (so1 sK so0)) <| x_asg (ss rfl rfl) <| sq [q2 1 cc6 v1, q2 3 cc1 v3, q3 4 cc10 v0, q3 6 cc0 v2, q3 10 cc7 x43.1, q2 11 cB x43.2, q3 16 cc7 x185.1, q2 19 cI x185.2, q2 20 cI x189] <|
  xn <| wpC_seq <| wpC_kp <| wpC_seq <| reg_s <| st rfl <| mvd rfl rfl <| st rfl <| b_lss (k := .i64) rfl rfl <| sq [q2 1 cc6 v1, q2 3 cc1 v3, q3 4 cc10 v0, q3 6 cc0 v2, q3 10 cc7 x43.1, q2 11 cB x43.2, q3 16 cc7 x185.1, q2 19 cI x185.2, q2 20 cI x189, q2 132 cB (decide (x189 < (0 : Int)))] <|
  xn <| cnd rfl h (fun b192 h => wpC_seq <| reg_s <| x_asg (sc cB false rfl) <| sq [q2 8 cB false] <|
  xn <| wpC_ret <| rt <| rt <| re <| fin h (r1 (ss rfl rfl) <| r0) rfl)
  (fun b192 h => wpC_skip <| kpN [q2 1 cc6 v1, q2 3 cc1 v3, q3 4 cc10 v0, q3 6 cc0 v2, q3 10 cc7 x43.1, q2 11 cB x43.2, q3 16 cc7 x185.1, q2 19 cI x185.2, q2 20 cI x189] (by kernel_rfl) <| xn <| wpC_seq <| wpC_kp <| wpC_seq <| reg_s <| st rfl <| mvd rfl rfl <| st rfl <| mvd rfl rfl <| st rfl <| b_neq (k := .i64) rfl rfl <| sq [q2 1 cc6 v1, q2 3 cc1 v3, q3 4 cc10 v0, q3 6 cc0 v2, q3 10 cc7 x43.1, q2 11 cB x43.2, q3 16 cc7 x185.1, q2 19 cI x185.2, q2 135 cB (decide (x189 ≠ x185.2))] <|
  xn <| cnd rfl h (fun b194 h => wpC_seq <| reg_s <| x_asg (sc cB false rfl) <| sq [q2 8 cB false] <|
  xn <| wpC_ret <| rt <| rt <| re <| fin h (r1 (ss rfl rfl) <| r0) rfl)
  (fun b194 h => wpC_skip <| kpN [q2 1 cc6 v1, q2 3 cc1 v3, q3 4 cc10 v0, q3 6 cc0 v2, q3 10 cc7 x43.1, q2 11 cB x43.2, q3 16 cc7 x185.1, q2 19 cI x185.2] (by kernel_rfl) <| xn <| wpC_seq <| drg_s <| pst rfl <| ldb rfl rfl rfl rfl ⟨rfl, bndp h fun x205 e206 h => pst rfl <| o_call (a1 (c := cc10) (tXGeo (tLs tK)) rfl a0) (con_laws_toGeo e206) (.inl (so1 (sXGeo (sLo sK)) so0)) ⟨rfl, pst rfl <| mvd rfl rfl ⟨rfl, bndp h fun x207 e208 h => pst rfl <| o_call (a1 (c := cc6) (tLs (tXVariable tS tK)) rfl a0) (con_laws_toVariableS e208) (.inl (so1 (sLo (sXVariable sS sK)) so0)) ⟨rfl, pst rfl <| ldb rfl rfl rfl rfl ⟨rfl, bndp h fun x209 e210 h => pst rfl <| o_call (a1 (c := cc0) (tXTable tK (tLs tK) (tLs tK) tK) rfl a0) (con_laws_toTable e210) (.inl (so1 (sXTable sK (sLo sK) (sLo sK) sK) so0)) ⟨rfl, pst rfl <| mvd rfl rfl ⟨rfl, bndp h fun x211 e212 h => pst rfl <| o_call (a1 (c := cc1) (tLs (tXRecord tK tK (tLs tK))) rfl a0) (con_laws_toRecordS e212) (.inl (so1 (sLo (sXRecord sK sK (sLo sK))) so0)) ⟨rfl, bndp h fun x213 e214 h => pst rfl <| o_call (a1 (c := cc12) (tXGeo (tLo tK)) rfl (a1 (c := cc9) (tLo (tXVariable tS tK)) rfl (a1 (c := cc3) (tXTable tK (tLo tK) (tLo tK) tK) rfl (a1 (c := cc4) (tLo (tXRecord tK tK (tLo tK))) rfl a0)))) (con_impl_CubeOfTable e214) (.inl (so1 (sXCube (sLo sK) (sLo sK)) (so1 sB so0))) ⟨rfl, pst rfl <| p_all cc7 (⟨([] : List Int), ([] : List Int)⟩ : XCube) rfl ⟨rfl, preN <| gr_s [q3 10 cc7 x43.1, q2 11 cB x43.2, q3 16 cc7 x185.1, q2 19 cI x185.2] [([false, false, false, false, false, false], [(21, .un), (22, .un), (136, .un), (145, .tup [some (cc7.enc x213.1), some (cB.enc x213.2)]), (146, .un), (147, .un)]),
  ([true, false, false, false, false, false], [q3 21 cc7 (⟨([] : List Int), ([] : List Int)⟩ : XCube), (22, .un), (136, .un), (145, .tup [some (cc7.enc x213.1), some (cB.enc x213.2)]), (146, .un), (147, .un)]),
  ([false, true, false, false, false, false], [(21, .un), (22, .un), (136, .tup [some (cc7.enc x213.1), some (cB.enc x213.2)]), (145, .un), (146, .un), (147, .un)]),
  ([true, true, false, false, false, false], [q3 21 cc7 (⟨([] : List Int), ([] : List Int)⟩ : XCube), (22, .un), (136, .tup [some (cc7.enc x213.1), some (cB.enc x213.2)]), (145, .un), (146, .un), (147, .un)]),
  ([false, true, true, false, false, false], [(21, .un), (22, .un), (136, .tup [none, some (cB.enc x213.2)]), (145, .un), q2 146 cc7 x213.1, (147, .un)]),
  ([false, true, false, true, false, false], [(21, .un), (22, .un), (136, .tup [some (cc7.enc x213.1), none]), (145, .un), (146, .un), q2 147 cB x213.2]),
  ([true, true, true, false, false, false], [q3 21 cc7 (⟨([] : List Int), ([] : List Int)⟩ : XCube), (22, .un), (136, .tup [none, some (cB.enc x213.2)]), (145, .un), q2 146 cc7 x213.1, (147, .un)]),
  ([true, true, false, true, false, false], [q3 21 cc7 (⟨([] : List Int), ([] : List Int)⟩ : XCube), (22, .un), (136, .tup [some (cc7.enc x213.1), none]), (145, .un), (146, .un), q2 147 cB x213.2]),
  ([false, true, true, true, false, false], [(21, .un), (22, .un), (136, .tup [none, none]), (145, .un), q2 146 cc7 x213.1, q2 147 cB x213.2]),
  ([true, true, true, true, false, false], [q3 21 cc7 (⟨([] : List Int), ([] : List Int)⟩ : XCube), (22, .un), (136, .tup [none, none]), (145, .un), q2 146 cc7 x213.1, q2 147 cB x213.2]),
  ([true, true, true, false, true, false], [q3 21 cc7 x213.1, (22, .un), (136, .tup [none, some (cB.enc x213.2)]), (145, .un), (146, .un), (147, .un)]),
  ([true, true, true, true, true, false], [q3 21 cc7 x213.1, (22, .un), (136, .tup [none, none]), (145, .un), (146, .un), q2 147 cB x213.2]),
  ([true, true, true, true, true, true], [q3 21 cc7 x213.1, q2 22 cB x213.2, (136, .tup [none, none]), (145, .un), (146, .un), q2 147 cB x213.2])] [q3 10 cc7 x43.1, q2 11 cB x43.2, q3 16 cc7 x185.1, q2 19 cI x185.2, q3 21 cc7 x213.1, q2 22 cB x213.2] [([false, false, false, false, false, false], [21]), ([true, false, false, false, false, false], [])] (by kernel_rfl) (sa1 rfl (by kernel_rfl) <| sa1 rfl (by kernel_rfl) <| sa0) rfl
  (ob1 rfl rfl rfl (x_all cc7 (⟨([] : List Int), ([] : List Int)⟩ : XCube) rfl <| obN (by kernel_rfl)) <|
  ob1 rfl rfl rfl (x_mvt rfl <| obN (by kernel_rfl)) <|
  ob1 rfl rfl rfl (x_mvt rfl <| obN (by kernel_rfl)) <|
  ob1 rfl rfl rfl (x_all cc7 (⟨([] : List Int), ([] : List Int)⟩ : XCube) rfl <| obN (by kernel_rfl)) <|
  ob1 rfl rfl rfl (x_ext rfl rfl <| obN (by kernel_rfl)) <|
  ob1 rfl rfl rfl (x_ext rfl rfl <| obN (by kernel_rfl)) <|
  ob1 rfl rfl rfl (x_ext rfl rfl <| obN (by kernel_rfl)) <|
  ob1 rfl rfl rfl (x_ext rfl rfl <| obN (by kernel_rfl)) <|
  ob1 rfl rfl rfl (x_all cc7 (⟨([] : List Int), ([] : List Int)⟩ : XCube) rfl <| obN (by kernel_rfl)) <|
  ob1 rfl rfl rfl (x_ext rfl rfl <| obN (by kernel_rfl)) <|
  ob1 rfl rfl rfl (x_all cc7 (⟨([] : List Int), ([] : List Int)⟩ : XCube) rfl <| obN (by kernel_rfl)) <|
  ob1 rfl rfl rfl (x_ext rfl rfl <| obN (by kernel_rfl)) <|
  ob1 rfl rfl rfl (x_ext rfl rfl <| obN (by kernel_rfl)) <|
  ob1 rfl rfl rfl (x_stb (so rfl rfl) rfl (Cd.h_sz _ _) rfl <| obN (by kernel_rfl)) <|
  ob1 rfl rfl rfl (x_ext rfl rfl <| obN (by kernel_rfl)) <|
  ob1 rfl rfl rfl (x_all cc7 (⟨([] : List Int), ([] : List Int)⟩ : XCube) rfl <| obN (by kernel_rfl)) <|
  ob1 rfl rfl rfl (x_stb (so rfl rfl) rfl (Cd.h_sz _ _) rfl <| obN (by kernel_rfl)) <|
  ob1 rfl rfl rfl (x_ext rfl rfl <| obN (by kernel_rfl)) <|
  ob1 rfl rfl rfl (x_asg (ss rfl rfl) <| obN (by kernel_rfl)) <|
  ob0)
  (by kernel_rfl) <|
  xn <| wpC_seq <| wpC_kp <| wpC_seq <| reg_s <| st rfl <| ldbo rfl rfl rfl rfl <| st rfl <| ldbo rfl rfl rfl rfl <| bnd h fun x225 e226 h => st rfl <| o_call (a1 (c := cc7) (tXCube (tLo tK) (tLo tK)) rfl (a1 (c := cc7) (tXCube (tLo tK) (tLo tK)) rfl a0)) (con_laws_eqCube e226) (.inl (so1 sB so0)) <| st rfl <| o_nt rfl <| st rfl <| mvd rfl rfl <| ite_k h (fun b227 h => gf rfl b227 <| gf rfl b227 <| gf rfl b227 <| st rfl <| pick1 rfl b227 (cd := cB) (v := true) rfl rfl <| sq [q3 16 cc7 x185.1, q2 19 cI x185.2, q2 156 cB true] <|
  xn <| cnd1 rfl rfl <| wpC_seq <| reg_s <| x_asg (sc cB false rfl) <| sq [q2 8 cB false] <|
  xn <| wpC_ret <| rt <| rt <| re <| fin h (r1 (ss rfl rfl) <| r0) rfl)
  (fun b227 h => gt' rfl b227 <| st rfl <| mvd rfl rfl <| gt' rfl b227 <| st rfl <| mvd rfl rfl <| gt' rfl b227 <| st rfl <| eqb1 rfl rfl <| st rfl <| pick0 rfl b227 (cd := cB) (v := (x213.2 != x43.2)) rfl rfl <| sq [q3 16 cc7 x185.1, q2 19 cI x185.2, q2 156 cB (x213.2 != x43.2)] <|
  xn <| cnd rfl h (fun b228 h => wpC_seq <| reg_s <| x_asg (sc cB false rfl) <| sq [q2 8 cB false] <|
  xn <| wpC_ret <| rt <| rt <| re <| fin h (r1 (ss rfl rfl) <| r0) rfl)
  (fun b228 h => wpC_skip <| kpN [q3 16 cc7 x185.1, q2 19 cI x185.2] (by kernel_rfl) <| xn <| wpC_seq <| reg_s <| x_asg (sc cI (1 : Int) rfl) <| sq [q3 16 cc7 x185.1, q2 19 cI x185.2, q2 20 cI (1 : Int)] <|
  xn <| wpC_seq <| reg_s <| st rfl <| ldbo rfl rfl rfl rfl <| st rfl <| mvd rfl rfl <| bnd h fun x231 e232 h => st rfl <| o_call (a1 (c := cc7) (tXCube (tLo tK) (tLo tK)) rfl (a1 (c := cI) tK rfl a0)) (con_laws_heldCube e232) (.inl (so1 sK so0)) <| x_asg (ss rfl rfl) <| sq [q2 19 cI x185.2, q2 20 cI x231] <|
  xn <| wpC_seq <| wpC_kp <| wpC_seq <| reg_s <| st rfl <| mvd rfl rfl <| st rfl <| b_lss (k := .i64) rfl rfl <| sq [q2 19 cI x185.2, q2 20 cI x231, q2 161 cB (decide (x231 < (0 : Int)))] <|
  xn <| cnd rfl h (fun b234 h => wpC_seq <| reg_s <| x_asg (sc cB false rfl) <| sq [q2 8 cB false] <|
  xn <| wpC_ret <| rt <| rt <| re <| fin h (r1 (ss rfl rfl) <| r0) rfl)
  (fun b234 h => wpC_skip <| kpN [q2 19 cI x185.2, q2 20 cI x231] (by kernel_rfl) <| xn <| wpC_seq <| wpC_kp <| wpC_seq <| reg_s <| st rfl <| mvd rfl rfl <| st rfl <| mvd rfl rfl <| st rfl <| b_neq (k := .i64) rfl rfl <| sq [q2 164 cB (decide (x231 ≠ x185.2))] <|
  xn <| cnd rfl h (fun b236 h => wpC_seq <| reg_s <| x_asg (sc cB false rfl) <| sq [q2 8 cB false] <|
  xn <| wpC_ret <| rt <| rt <| re <| fin h (r1 (ss rfl rfl) <| r0) rfl)
  (fun b236 h => wpC_skip <| kpN [] (by kernel_rfl) <| xn <| wpC_seq <| reg_s <| x_asg (sc cB true rfl) <| sq [q2 8 cB true] <|
  xn <| wpC_ret <| re <| fin h (r1 (ss rfl rfl) <| r0) rfl))))⟩⟩⟩⟩⟩⟩⟩⟩⟩⟩))))))⟩⟩⟩⟩⟩))⟩⟩⟩⟩⟩))⟩⟩⟩⟩⟩⟩⟩⟩⟩⟩))))
end AS.W
