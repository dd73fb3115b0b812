/- The program computes the plain functions. No condition. -/
import Derived.Test.YtiohllblkcjafaaGreatQCubeOfTableS
import Derived.Test.YtiohllblkcjafaaGreatProg
import Derived.Test.YtiohllblkcjafaaGreatQCubeOfTableL0
set_option maxRecDepth 100000
set_option linter.unusedVariables false
set_option linter.unusedSimpArgs false
namespace AS.W
open Go Go.Proofs
def rs_laws_toTable (r : XTable) : List D := [cc3.enc r]
def m11 : MC := .seq (.reg [q1 1 (.box (.t 0)),q1 2 (.alloc (.agg [.int .i64 0, .slice true [], .slice true [], .int .i64 0]))] [1, 2])
 (.seq (.reg [q1 3 (.alloc (.agg [.int .i64 0, .slice true [], .slice true [], .int .i64 0]))] [1, 2, 3])
 (.seq (.reg [q1 4 (.fa 1 0 0),q1 5 (.ld 4 1 false),q1 6 (.fa 3 0 0),q0 (.st 6 (.t 5) 1)] [1, 2, 3])
 (.seq (.reg [q1 7 (.fa 1 1 1),q1 8 (.ld 7 1 false),q1 9 (.call 35 [(.t 8)]),q1 10 (.fa 3 1 1),q0 (.st 10 (.t 9) 1)] [1, 2, 3])
 (.seq (.reg [q1 11 (.fa 1 2 2),q1 12 (.ld 11 1 false),q1 13 (.call 35 [(.t 12)]),q1 14 (.fa 3 2 2),q0 (.st 14 (.t 13) 1)] [1, 2, 3])
 (.seq (.reg [q1 15 (.fa 1 3 3),q1 16 (.ld 15 1 false),q1 17 (.fa 3 3 3),q0 (.st 17 (.t 16) 1)] [2, 3])
 (.seq (.reg [q1 18 (.ld 3 4 true),q0 (.st 2 (.t 18) 4)] [2])
 (.ret)))))))
theorem con_laws_toTable {v0 : XTable} {r : XTable} (h : sh_laws_toTable v0 = some r) : Con Tryz.prog 11 [cc0.enc v0] [] (rs_laws_toTable r) := by
 delta sh_laws_toTable at h
 refine top (out := none) (f := Tryz.f11) (m := m11) (rs := [.c 2 4 true]) (by kernel_rfl) rfl (by kernel_rfl) (by kernel_rfl) (by kernel_rfl) (by kernel_rfl) (by kernel_rfl) ?_
 exact
  ini [q2 0 cc0 v0] rfl <| wpC_seq <| reg_s <| x_box (ss rfl rfl) <| x_all cc3 (⟨(0 : Int), ([] : List Int), ([] : List Int), (0 : Int)⟩ : XTable) rfl <| sq [q3 1 cc0 v0, q3 2 cc3 (⟨(0 : Int), ([] : List Int), ([] : List Int), (0 : Int)⟩ : XTable)] <|
  xn <| wpC_seq <| reg_s <| x_all cc3 (⟨(0 : Int), ([] : List Int), ([] : List Int), (0 : Int)⟩ : XTable) rfl <| sq [q3 1 cc0 v0, q3 2 cc3 (⟨(0 : Int), ([] : List Int), ([] : List Int), (0 : Int)⟩ : XTable), q3 3 cc3 (⟨(0 : Int), ([] : List Int), ([] : List Int), (0 : Int)⟩ : XTable)] <|
  xn <| wpC_seq <| reg_s <| st rfl <| fab rfl rfl rfl rfl <| st rfl <| lda rfl rfl rfl rfl rfl rfl <| st rfl <| fab rfl rfl rfl rfl <| x_sta (cc3.enc (⟨v0.Level, ([] : List Int), ([] : List Int), (0 : Int)⟩ : XTable)) (ss rfl rfl) rfl rfl (Ln.fld rfl rfl Ln.nil rfl) (Cd.h_sz cI _) rfl <| sq [q3 1 cc0 v0, q3 2 cc3 (⟨(0 : Int), ([] : List Int), ([] : List Int), (0 : Int)⟩ : XTable), q3 3 cc3 (⟨v0.Level, ([] : List Int), ([] : List Int), (0 : Int)⟩ : XTable)] <|
  xn <| wpC_seq <| reg_s <| st rfl <| fab rfl rfl rfl rfl <| st rfl <| lda rfl rfl rfl rfl rfl rfl <| bnd h fun x3 e4 h => st rfl <| o_call (a1 (c := cc13) (tLs tK) rfl a0) (con_laws_toIntS e4) (.inl (so1 (sLo sK) so0)) <| st rfl <| fab rfl rfl rfl rfl <| x_sta (cc3.enc (⟨v0.Level, x3, ([] : List Int), (0 : Int)⟩ : XTable)) (so rfl rfl) rfl rfl (Ln.fld rfl rfl Ln.nil rfl) (Cd.h_sz cc14 _) rfl <| sq [q3 1 cc0 v0, q3 2 cc3 (⟨(0 : Int), ([] : List Int), ([] : List Int), (0 : Int)⟩ : XTable), q3 3 cc3 (⟨v0.Level, x3, ([] : List Int), (0 : Int)⟩ : XTable)] <|
  xn <| wpC_seq <| reg_s <| st rfl <| fab rfl rfl rfl rfl <| st rfl <| lda rfl rfl rfl rfl rfl rfl <| bnd h fun x7 e8 h => st rfl <| o_call (a1 (c := cc13) (tLs tK) rfl a0) (con_laws_toIntS e8) (.inl (so1 (sLo sK) so0)) <| st rfl <| fab rfl rfl rfl rfl <| x_sta (cc3.enc (⟨v0.Level, x3, x7, (0 : Int)⟩ : XTable)) (so rfl rfl) rfl rfl (Ln.fld rfl rfl Ln.nil rfl) (Cd.h_sz cc14 _) rfl <| sq [q3 1 cc0 v0, q3 2 cc3 (⟨(0 : Int), ([] : List Int), ([] : List Int), (0 : Int)⟩ : XTable), q3 3 cc3 (⟨v0.Level, x3, x7, (0 : Int)⟩ : XTable)] <|
  xn <| wpC_seq <| reg_s <| st rfl <| fab rfl rfl rfl rfl <| st rfl <| lda rfl rfl rfl rfl rfl rfl <| st rfl <| fab rfl rfl rfl rfl <| x_sta (cc3.enc (⟨v0.Level, x3, x7, v0.Sum⟩ : XTable)) (ss rfl rfl) rfl rfl (Ln.fld rfl rfl Ln.nil rfl) (Cd.h_sz cI _) rfl <| sq [q3 2 cc3 (⟨(0 : Int), ([] : List Int), ([] : List Int), (0 : Int)⟩ : XTable), q3 3 cc3 (⟨v0.Level, x3, x7, v0.Sum⟩ : XTable)] <|
  xn <| wpC_seq <| reg_s <| st rfl <| ldbo rfl rfl rfl rfl <| x_stb (sb rfl rfl) rfl (Cd.h_sz _ _) rfl <| sq [q3 2 cc3 (⟨v0.Level, x3, x7, v0.Sum⟩ : XTable)] <|
  xn <| wpC_ret <| re <| fin h (r2 rfl rfl rfl <| r0) rfl

def rs_laws_toRecord (r : XRecord) : List D := [cc8.enc r]
def m37 : MC := .seq (.reg [q1 1 (.box (.t 0)),q1 2 (.alloc (.agg [.int .i64 0, .int .i64 0, .slice true []]))] [1, 2])
 (.seq (.reg [q1 3 (.alloc (.agg [.int .i64 0, .int .i64 0, .slice true []]))] [1, 2, 3])
 (.seq (.reg [q1 4 (.fa 1 0 0),q1 5 (.ld 4 1 false),q1 6 (.fa 3 0 0),q0 (.st 6 (.t 5) 1)] [1, 2, 3])
 (.seq (.reg [q1 7 (.fa 1 1 1),q1 8 (.ld 7 1 false),q1 9 (.fa 3 1 1),q0 (.st 9 (.t 8) 1)] [1, 2, 3])
 (.seq (.reg [q1 10 (.fa 1 2 2),q1 11 (.ld 10 1 false),q1 12 (.call 35 [(.t 11)]),q1 13 (.fa 3 2 2),q0 (.st 13 (.t 12) 1)] [2, 3])
 (.seq (.reg [q1 14 (.ld 3 3 true),q0 (.st 2 (.t 14) 3)] [2])
 (.ret))))))
theorem con_laws_toRecord {v0 : XRecord} {r : XRecord} (h : sh_laws_toRecord v0 = some r) : Con Tryz.prog 37 [cc5.enc v0] [] (rs_laws_toRecord r) := by
 delta sh_laws_toRecord at h
 refine top (out := none) (f := Tryz.f37) (m := m37) (rs := [.c 2 3 true]) (by kernel_rfl) rfl (by kernel_rfl) (by kernel_rfl) (by kernel_rfl) (by kernel_rfl) (by kernel_rfl) ?_
 exact
  ini [q2 0 cc5 v0] rfl <| wpC_seq <| reg_s <| x_box (ss rfl rfl) <| x_all cc8 (⟨(0 : Int), (0 : Int), ([] : List Int)⟩ : XRecord) rfl <| sq [q3 1 cc5 v0, q3 2 cc8 (⟨(0 : Int), (0 : Int), ([] : List Int)⟩ : XRecord)] <|
  xn <| wpC_seq <| reg_s <| x_all cc8 (⟨(0 : Int), (0 : Int), ([] : List Int)⟩ : XRecord) rfl <| sq [q3 1 cc5 v0, q3 2 cc8 (⟨(0 : Int), (0 : Int), ([] : List Int)⟩ : XRecord), q3 3 cc8 (⟨(0 : Int), (0 : Int), ([] : List Int)⟩ : XRecord)] <|
  xn <| wpC_seq <| reg_s <| st rfl <| fab rfl rfl rfl rfl <| st rfl <| lda rfl rfl rfl rfl rfl rfl <| st rfl <| fab rfl rfl rfl rfl <| x_sta (cc8.enc (⟨v0.Area, (0 : Int), ([] : List Int)⟩ : XRecord)) (ss rfl rfl) rfl rfl (Ln.fld rfl rfl Ln.nil rfl) (Cd.h_sz cI _) rfl <| sq [q3 1 cc5 v0, q3 2 cc8 (⟨(0 : Int), (0 : Int), ([] : List Int)⟩ : XRecord), q3 3 cc8 (⟨v0.Area, (0 : Int), ([] : List Int)⟩ : XRecord)] <|
  xn <| wpC_seq <| reg_s <| st rfl <| fab rfl rfl rfl rfl <| st rfl <| lda rfl rfl rfl rfl rfl rfl <| st rfl <| fab rfl rfl rfl rfl <| x_sta (cc8.enc (⟨v0.Area, v0.House, ([] : List Int)⟩ : XRecord)) (ss rfl rfl) rfl rfl (Ln.fld rfl rfl Ln.nil rfl) (Cd.h_sz cI _) rfl <| sq [q3 1 cc5 v0, q3 2 cc8 (⟨(0 : Int), (0 : Int), ([] : List Int)⟩ : XRecord), q3 3 cc8 (⟨v0.Area, v0.House, ([] : List Int)⟩ : XRecord)] <|
  xn <| wpC_seq <| reg_s <| st rfl <| fab rfl rfl rfl rfl <| st rfl <| lda rfl rfl rfl rfl rfl rfl <| bnd h fun x3 e4 h => st rfl <| o_call (a1 (c := cc13) (tLs tK) rfl a0) (con_laws_toIntS e4) (.inl (so1 (sLo sK) so0)) <| st rfl <| fab rfl rfl rfl rfl <| x_sta (cc8.enc (⟨v0.Area, v0.House, x3⟩ : XRecord)) (so rfl rfl) rfl rfl (Ln.fld rfl rfl Ln.nil rfl) (Cd.h_sz cc14 _) rfl <| sq [q3 2 cc8 (⟨(0 : Int), (0 : Int), ([] : List Int)⟩ : XRecord), q3 3 cc8 (⟨v0.Area, v0.House, x3⟩ : XRecord)] <|
  xn <| wpC_seq <| reg_s <| st rfl <| ldbo rfl rfl rfl rfl <| x_stb (sb rfl rfl) rfl (Cd.h_sz _ _) rfl <| sq [q3 2 cc8 (⟨v0.Area, v0.House, x3⟩ : XRecord)] <|
  xn <| wpC_ret <| re <| fin h (r2 rfl rfl rfl <| r0) rfl

def rs_laws_toRecordS (r : (List XRecord)) : List D := [cc4.enc r]
def m12 : MC := .seq (.reg [q1 2 (.asg (.c (.slice true [])))] [0])
 (.seq (.reg [q1 5 (.mv (.t 0)),q1 6 (.len false (.t 5)),q1 7 (.mk (.agg [.int .i64 0, .int .i64 0, .slice true []]) (.t 6)),q1 3 (.asg (.t 7))] [0, 3])
 (.seq (.kp [3] (.seq (.reg [q1 4 (.asg (.c (.int .i64 0)))] [0, 3, 4])
 (.blk 0 (.loop (.seq (.kp [0, 3, 4] (.seq (.reg [q1 8 (.mv (.t 4)),q1 9 (.mv (.t 0)),q1 10 (.len false (.t 9)),q1 11 (.bin .lss (.t 8) (.t 10))] [0, 3, 4, 11])
 (.cond (.t 11) (.skip) (.exit 0))))
 (.seq (.kp [0, 3, 4] (.blk 1 (.reg [q1 14 (.mv (.t 3)),q1 15 (.mv (.t 4)),q1 16 (.mv (.t 0)),q1 17 (.mv (.t 4)),q1 18 (.ia 16 (.t 17) 3),q1 19 (.ld 18 3 true),q1 20 (.call 37 [(.t 19)]),q1 21 (.ia 14 (.t 15) 3),q0 (.st 21 (.t 20) 3)] [0, 3, 4])))
 (.reg [q1 12 (.mv (.t 4)),q1 13 (.bin .add (.t 12) (.c (.int .i64 1))),q1 4 (.asg (.t 13))] [0, 3, 4])))))))
 (.seq (.reg [q1 22 (.mv (.t 3)),q1 2 (.asg (.t 22))] [2])
 (.ret))))
theorem con_laws_toRecordS {v0 : (List XRecord)} {r : (List XRecord)} (h : sh_laws_toRecordS v0 = some r) : Con Tryz.prog 12 [cc1.enc v0] [] (rs_laws_toRecordS r) := by
 delta sh_laws_toRecordS at h
 refine top (out := none) (f := Tryz.f12) (m := m12) (rs := [.t 2]) (by kernel_rfl) rfl (by kernel_rfl) (by kernel_rfl) (by kernel_rfl) (by kernel_rfl) (by kernel_rfl) ?_
 exact
  ini [q2 0 cc1 v0] rfl <| wpC_seq <| reg_s <| x_asg (sc cc4 ([] : List XRecord) rfl) <| sq [q2 0 cc1 v0] <|
  xn <| wpC_seq <| reg_s <| st rfl <| mvd rfl rfl <| stw rfl <| lens rfl fun l4 => mkO_k h fun i5 l6 h => st rfl <| o_mk (c := cc8) (a0 := (⟨(0 : Int), (0 : Int), ([] : List Int)⟩ : XRecord)) rfl (k := .i64) rfl i5 l6 <| x_asg (so rfl rfl) <| sq [q2 0 cc1 v0, q2 3 cc4 (List.replicate ((v0.length : Int)).toNat (⟨(0 : Int), (0 : Int), ([] : List Int)⟩ : XRecord))] <|
  xn <| wpC_seq <| wpC_kp <| wpC_seq <| reg_s <| x_asg (sc cI (0 : Int) rfl) <| sq [q2 0 cc1 v0, q2 3 cc4 (List.replicate ((v0.length : Int)).toNat (⟨(0 : Int), (0 : Int), ([] : List Int)⟩ : XRecord)), q2 4 cI (0 : Int)] <|
  xn <| wpC_blk <| lpF (fun (s84 : ((List XRecord) × Int)) => [q2 0 cc1 v0, q2 3 cc4 s84.1, q2 4 cI s84.2]) ((List.replicate ((v0.length : Int)).toNat (⟨(0 : Int), (0 : Int), ([] : List Int)⟩ : XRecord)), (0 : Int)) rfl h
  fun G137 nx135 s84 hn136 h => wpC_seq <| wpC_kp <| wpC_seq <| reg_s <| st rfl <| mvd rfl rfl <| st rfl <| mvd rfl rfl <| stw rfl <| lens rfl fun l142 => st rfl <| b_lss (k := .i64) rfl rfl <| sq [q2 0 cc1 v0, q2 3 cc4 s84.1, q2 4 cI s84.2, q2 11 cB (decide (s84.2 < (v0.length : Int)))] <|
  xn <| cnd rfl h (fun b143 h => wpC_skip <| kpN [q2 0 cc1 v0, q2 3 cc4 s84.1, q2 4 cI s84.2] (by kernel_rfl) <| xn <| wpC_seq <| wpC_kp <| wpC_blk <| reg_s <| st rfl <| mvo rfl rfl <| st rfl <| mvd rfl rfl <| st rfl <| mvd rfl rfl <| st rfl <| mvd rfl rfl <| getO_k h fun x152 i153 g154 h => st rfl <| ias rfl rfl i153 g154 rfl <| st rfl <| ldi rfl rfl rfl rfl <| bnd h fun x155 e156 h => st rfl <| o_call (a1 (c := cc5) (tXRecord tK tK (tLs tK)) rfl a0) (con_laws_toRecord e156) (.inl (so1 (sXRecord sK sK (sLo sK)) so0)) <| getO_k h fun x157 i158 g159 h => st rfl <| iar rfl rfl rfl rfl i158 g159 rfl <| x_sta (cc4.enc (s84.1.set (s84.2).toNat x155)) (so rfl rfl) rfl rfl (Ln.idx g159 Ln.nil) (Cd.h_sz cc8 _) rfl <| sq [q2 0 cc1 v0, q2 3 cc4 (s84.1.set (s84.2).toNat x155), q2 4 cI s84.2] <|
  xbb <| kpN [q2 0 cc1 v0, q2 3 cc4 (s84.1.set (s84.2).toNat x155), q2 4 cI s84.2] (by kernel_rfl) <| xn <| reg_s <| st rfl <| mvd rfl rfl <| ckI_k h fun i160 h => st rfl <| b_add (k := .i64) rfl rfl i160 <| x_asg (ss rfl rfl) <| sq [q2 0 cc1 v0, q2 3 cc4 (s84.1.set (s84.2).toNat x155), q2 4 cI (s84.2 + (1 : Int))] <|
  xn <| hn136 ((s84.1.set (s84.2).toNat x155), (s84.2 + (1 : Int))) h)
  (fun b143 h => wpC_exit <| xt <| xt <| xt <| xb <| kpN [q2 3 cc4 s84.1] (by kernel_rfl) <| xn <| wpC_seq <| reg_s <| st rfl <| mvo rfl rfl <| x_asg (sr rfl rfl) <| sq [q2 2 cc4 s84.1] <|
  xn <| wpC_ret <| re <| fin h (r1 (so rfl rfl) <| r0) rfl)

def rs_spec_gGood (r : Bool) : List D := [cB.enc r]
def m50 : MC := .seq (.reg [q1 1 (.box (.t 0)),q1 2 (.asg (.c (.bool false)))] [1])
 (.seq (.kp [1] (.seq (.reg [q1 5 (.fa 1 0 0),q1 6 (.ld 5 1 false),q1 7 (.len false (.t 6)),q1 8 (.call 55 [(.t 7), (.c (.int .i64 1)), (.c (.int .i64 30))]),q1 9 (.nt (.t 8)),q1 10 (.mv (.t 9)),
  ⟨some 11, .fa 1 0 0, some (10, false)⟩,
  ⟨some 12, .ld 11 1 false, some (10, false)⟩,
  ⟨some 13, .ia 12 (.c (.int .i64 0)) 1, some (10, false)⟩,
  ⟨some 14, .ld 13 1 false, some (10, false)⟩,
  ⟨some 15, .bin .neq (.t 14) (.c (.int .i64 (-1))), some (10, false)⟩,q1 16 (.pick (.t 10) (.c (.bool true)) (.t 15))] [1, 16])
 (.cond (.t 16) (.seq (.reg [q1 2 (.asg (.c (.bool false)))] [2])
 (.ret)) (.skip))))
 (.seq (.kp [] (.seq (.reg [q1 17 (.fa 1 0 0),q1 18 (.ld 17 1 false),q1 19 (.len false (.t 18)),q1 20 (.mv (.c (.int .i64 0)))] [1, 17, 18, 19, 20])
 (.blk 0 (.loop (.seq (.reg [q1 21 (.bin .lss (.t 20) (.t 19))] [1, 17, 18, 19, 20, 21])
 (.seq (.kp [1, 17, 18, 19, 20] (.cond (.t 21) (.skip) (.exit 0)))
 (.seq (.kp [1, 17, 18, 19, 20] (.blk 1 (.seq (.reg [q1 22 (.mv (.t 20)),q1 23 (.ia 18 (.t 20) 1),q1 24 (.ld 23 1 false),q1 3 (.asg (.t 22)),q1 4 (.asg (.t 24))] [1, 3, 4, 17, 18, 19, 20])
 (.seq (.reg [q1 25 (.mv (.t 3)),q1 26 (.bin .gtr (.t 25) (.c (.int .i64 0))),q1 27 (.mv (.t 26)),
  ⟨some 28, .mv (.t 4), some (27, true)⟩,
  ⟨some 29, .mv (.t 3), some (27, true)⟩,
  ⟨some 30, .bin .sub (.t 29) (.c (.int .i64 1)), some (27, true)⟩,
  ⟨some 31, .call 55 [(.t 28), (.c (.int .i64 0)), (.t 30)], some (27, true)⟩,
  ⟨some 32, .nt (.t 31), some (27, true)⟩,q1 33 (.pick (.t 27) (.t 32) (.c (.bool false)))] [1, 17, 18, 19, 20, 33])
 (.cond (.t 33) (.seq (.reg [q1 2 (.asg (.c (.bool false)))] [2])
 (.ret)) (.skip))))))
 (.reg [q1 34 (.bin .add (.t 20) (.c (.int .i64 1))),q1 20 (.mv (.t 34))] [1, 17, 18, 19, 20]))))))))
 (.seq (.reg [q1 2 (.asg (.c (.bool true)))] [2])
 (.ret))))
theorem con_spec_gGood {v0 : XGeo} {r : Bool} (h : sh_spec_gGood v0 = some r) : Con Tryz.prog 50 [cc10.enc v0] [] (rs_spec_gGood r) := by
 delta sh_spec_gGood at h
 refine top (out := none) (f := Tryz.f50) (m := m50) (rs := [.t 2]) (by kernel_rfl) rfl (by kernel_rfl) (by kernel_rfl) (by kernel_rfl) (by kernel_rfl) (by kernel_rfl) ?_
 exact
  ini [q2 0 cc10 v0] rfl <| wpC_seq <| reg_s <| x_box (ss rfl rfl) <| x_asg (sc cB false rfl) <| sq [q3 1 cc10 v0] <|
  xn <| wpC_seq <| wpC_kp <| wpC_seq <| reg_s <| st rfl <| fab rfl rfl rfl rfl <| st rfl <| lda rfl rfl rfl rfl rfl rfl <| stw rfl <| lens rfl fun l23 => bnd h fun x24 e25 h => st rfl <| o_call (a1 (c := cI) tK rfl (a1 (c := cI) tK rfl (a1 (c := cI) tK rfl a0))) (con_spec_l1In e25) (.inl (so1 sB so0)) <| st rfl <| o_nt rfl <| st rfl <| mvd rfl rfl <| ite_k h (fun b26 h => gf rfl b26 <| gf rfl b26 <| gf rfl b26 <| gf rfl b26 <| gf rfl b26 <| st rfl <| pick1 rfl b26 (cd := cB) (v := true) rfl rfl <| sq [q3 1 cc10 v0, q2 16 cB true] <|
  xn <| cnd1 rfl rfl <| wpC_seq <| reg_s <| x_asg (sc cB false rfl) <| sq [q2 2 cB false] <|
  xn <| wpC_ret <| rt <| rt <| re <| fin h (r1 (ss rfl rfl) <| r0) rfl)
  (fun b26 h => gt' rfl b26 <| st rfl <| fab rfl rfl rfl rfl <| gt' rfl b26 <| st rfl <| lda rfl rfl rfl rfl rfl rfl <| gt' rfl b26 <| getO_k h fun x27 i28 g29 h => st rfl <| ias rfl rfl i28 g29 rfl <| gt' rfl b26 <| st rfl <| ldi rfl rfl rfl rfl <| gt' rfl b26 <| st rfl <| b_neq (k := .i64) rfl rfl <| st rfl <| pick0 rfl b26 (cd := cB) (v := (decide (x27 ≠ (-1 : Int)))) rfl rfl <| sq [q3 1 cc10 v0, q2 16 cB (decide (x27 ≠ (-1 : Int)))] <|
  xn <| cnd rfl h (fun b30 h => wpC_seq <| reg_s <| x_asg (sc cB false rfl) <| sq [q2 2 cB false] <|
  xn <| wpC_ret <| rt <| rt <| re <| fin h (r1 (ss rfl rfl) <| r0) rfl)
  (fun b30 h => wpC_skip <| kpN [q3 1 cc10 v0] (by kernel_rfl) <| xn <| wpC_seq <| wpC_kp <| wpC_seq <| reg_s <| st rfl <| fab rfl rfl rfl rfl <| st rfl <| lda rfl rfl rfl rfl rfl rfl <| stw rfl <| lens rfl fun l78 => st rfl <| mvc cI (0 : Int) rfl <| sq [q3 1 cc10 v0, (17, .adr 1 [.fld 0]), q2 18 cc13 v0.Parents, q2 19 cI (v0.Parents.length : Int), q2 20 cI (0 : Int)] <|
  xn <| wpC_blk <| lpR (fun (k80 : Nat) (s79 : Unit) => [q3 1 cc10 v0, (17, .adr 1 [.fld 0]), q2 18 cc13 v0.Parents, q2 19 cI (v0.Parents.length : Int), q2 20 cI (k80 : Int)]) () rfl h
  (fun G104 s79 h => wpC_seq <| reg_s <| st rfl <| b_lss (k := .i64) rfl rfl <| sq [q3 1 cc10 v0, (17, .adr 1 [.fld 0]), q2 18 cc13 v0.Parents, q2 19 cI (v0.Parents.length : Int), q2 20 cI (v0.Parents.length : Int), q2 21 cB (decide ((v0.Parents.length : Int) < (v0.Parents.length : Int)))] <|
  xn <| wpC_seq <| wpC_kp <| cnd0 rfl (dlf _) <| wpC_exit <| xt <| xt <| xt <| xb <| kpN [] (by kernel_rfl) <| xn <| wpC_seq <| reg_s <| x_asg (sc cB true rfl) <| sq [q2 2 cB true] <|
  xn <| wpC_ret <| re <| fin h (r1 (ss rfl rfl) <| r0) rfl)
  (fun G104 nx102 k80 s79 x81 hk82 hx83 hn103 h => wpC_seq <| reg_s <| st rfl <| b_lss (k := .i64) rfl rfl <| sq [q3 1 cc10 v0, (17, .adr 1 [.fld 0]), q2 18 cc13 v0.Parents, q2 19 cI (v0.Parents.length : Int), q2 20 cI (k80 : Int), q2 21 cB (decide ((k80 : Int) < (v0.Parents.length : Int)))] <|
  xn <| wpC_seq <| wpC_kp <| cnd1 rfl (dlt hk82) <| wpC_skip <| kpN [q3 1 cc10 v0, (17, .adr 1 [.fld 0]), q2 18 cc13 v0.Parents, q2 19 cI (v0.Parents.length : Int), q2 20 cI (k80 : Int)] (by kernel_rfl) <| xn <| wpC_seq <| wpC_kp <| wpC_blk <| wpC_seq <| reg_s <| st rfl <| mvd rfl rfl <| st rfl <| ias rfl rfl (Int.natCast_nonneg _) hx83 rfl <| st rfl <| ldi rfl rfl rfl rfl <| x_asg (ss rfl rfl) <| x_asg (ss rfl rfl) <| sq [q3 1 cc10 v0, q2 3 cI (k80 : Int), q2 4 cI x81, (17, .adr 1 [.fld 0]), q2 18 cc13 v0.Parents, q2 19 cI (v0.Parents.length : Int), q2 20 cI (k80 : Int)] <|
  xn <| wpC_seq <| reg_s <| st rfl <| mvd rfl rfl <| st rfl <| b_gtr (k := .i64) rfl rfl <| st rfl <| mvd rfl rfl <| ite_k h (fun b118 h => gt' rfl b118 <| st rfl <| mvd rfl rfl <| gt' rfl b118 <| st rfl <| mvd rfl rfl <| gt' rfl b118 <| ckI_k h fun i119 h => st rfl <| b_sub (k := .i64) rfl rfl i119 <| gt' rfl b118 <| bnd h fun x120 e121 h => st rfl <| o_call (a1 (c := cI) tK rfl (a1 (c := cI) tK rfl (a1 (c := cI) tK rfl a0))) (con_spec_l1In e121) (.inl (so1 sB so0)) <| gt' rfl b118 <| st rfl <| o_nt rfl <| st rfl <| pick1 rfl b118 (cd := cB) (v := (!x120)) rfl rfl <| sq [q3 1 cc10 v0, (17, .adr 1 [.fld 0]), q2 18 cc13 v0.Parents, q2 19 cI (v0.Parents.length : Int), q2 20 cI (k80 : Int), q2 33 cB (!x120)] <|
  xn <| cnd rfl h (fun b122 h => wpC_seq <| reg_s <| x_asg (sc cB false rfl) <| sq [q2 2 cB false] <|
  xn <| wpC_ret <| rb <| rt <| rt <| rt <| rb <| rt <| rt <| re <| fin h (r1 (ss rfl rfl) <| r0) rfl)
  (fun b122 h => wpC_skip <| xbb <| kpN [q3 1 cc10 v0, (17, .adr 1 [.fld 0]), q2 18 cc13 v0.Parents, q2 19 cI (v0.Parents.length : Int), q2 20 cI (k80 : Int)] (by kernel_rfl) <| xn <| reg_s <| st rfl <| b_inc rfl rfl l78 hk82 <| st rfl <| mvd rfl rfl <| sq [q3 1 cc10 v0, (17, .adr 1 [.fld 0]), q2 18 cc13 v0.Parents, q2 19 cI (v0.Parents.length : Int), q2 20 cI ((k80 + 1 : Nat) : Int)] <|
  xn <| hn103 () h))
  (fun b118 h => gf rfl b118 <| gf rfl b118 <| gf rfl b118 <| gf rfl b118 <| gf rfl b118 <| st rfl <| pick0 rfl b118 (cd := cB) (v := false) rfl rfl <| sq [q3 1 cc10 v0, (17, .adr 1 [.fld 0]), q2 18 cc13 v0.Parents, q2 19 cI (v0.Parents.length : Int), q2 20 cI (k80 : Int), q2 33 cB false] <|
  xn <| cnd0 rfl rfl <| wpC_skip <| xbb <| kpN [q3 1 cc10 v0, (17, .adr 1 [.fld 0]), q2 18 cc13 v0.Parents, q2 19 cI (v0.Parents.length : Int), q2 20 cI (k80 : Int)] (by kernel_rfl) <| xn <| reg_s <| st rfl <| b_inc rfl rfl l78 hk82 <| st rfl <| mvd rfl rfl <| sq [q3 1 cc10 v0, (17, .adr 1 [.fld 0]), q2 18 cc13 v0.Parents, q2 19 cI (v0.Parents.length : Int), q2 20 cI ((k80 + 1 : Nat) : Int)] <|
  xn <| hn103 () h))))

def rs_spec_sName (r : Bool) : List D := [cB.enc r]
def m80 : MC := .seq (.reg [q1 2 (.asg (.c (.bool false)))] [0])
 (.seq (.kp [0] (.seq (.reg [q1 3 (.asg (.c (.int .i64 0)))] [0, 3])
 (.blk 0 (.loop (.seq (.kp [0, 3] (.seq (.reg [q1 4 (.mv (.t 3)),q1 5 (.mv (.t 0)),q1 6 (.len true (.t 5)),q1 7 (.bin .lss (.t 4) (.t 6))] [0, 3, 7])
 (.cond (.t 7) (.skip) (.exit 0))))
 (.seq (.kp [0, 3] (.blk 1 (.seq (.reg [q1 10 (.mv (.t 0)),q1 11 (.mv (.t 3)),q1 12 (.ix (.t 10) (.t 11)),q1 13 (.bin .lss (.t 12) (.c (.int .u8 97))),q1 14 (.mv (.t 13)),
  ⟨some 15, .mv (.t 0), some (14, false)⟩,
  ⟨some 16, .mv (.t 3), some (14, false)⟩,
  ⟨some 17, .ix (.t 15) (.t 16), some (14, false)⟩,
  ⟨some 18, .bin .gtr (.t 17) (.c (.int .u8 122)), some (14, false)⟩,q1 19 (.pick (.t 14) (.c (.bool true)) (.t 18))] [0, 3, 19])
 (.cond (.t 19) (.seq (.reg [q1 2 (.asg (.c (.bool false)))] [2])
 (.ret)) (.skip)))))
 (.reg [q1 8 (.mv (.t 3)),q1 9 (.bin .add (.t 8) (.c (.int .i64 1))),q1 3 (.asg (.t 9))] [0, 3])))))))
 (.seq (.reg [q1 20 (.mv (.t 0)),q1 21 (.len true (.t 20)),q1 22 (.call 55 [(.t 21), (.c (.int .i64 1)), (.c (.int .i64 8))]),q1 2 (.asg (.t 22))] [2])
 (.ret)))
theorem con_spec_sName {v0 : (List UInt8)} {r : Bool} (h : sh_spec_sName v0 = some r) : Con Tryz.prog 80 [cS.enc v0] [] (rs_spec_sName r) := by
 delta sh_spec_sName at h
 refine top (out := none) (f := Tryz.f80) (m := m80) (rs := [.t 2]) (by kernel_rfl) rfl (by kernel_rfl) (by kernel_rfl) (by kernel_rfl) (by kernel_rfl) (by kernel_rfl) ?_
 exact
  ini [q2 0 cS v0] rfl <| wpC_seq <| reg_s <| x_asg (sc cB false rfl) <| sq [q2 0 cS v0] <|
  xn <| wpC_seq <| wpC_kp <| wpC_seq <| reg_s <| x_asg (sc cI (0 : Int) rfl) <| sq [q2 0 cS v0, q2 3 cI (0 : Int)] <|
  xn <| wpC_blk <| lpF (fun (s84 : Int) => [q2 0 cS v0, q2 3 cI s84]) (0 : Int) rfl h
  fun G141 nx139 s84 hn140 h => wpC_seq <| wpC_kp <| wpC_seq <| reg_s <| st rfl <| mvd rfl rfl <| st rfl <| mvd rfl rfl <| stw rfl <| lent rfl fun l146 => st rfl <| b_lss (k := .i64) rfl rfl <| sq [q2 0 cS v0, q2 3 cI s84, q2 7 cB (decide (s84 < (v0.length : Int)))] <|
  xn <| cnd rfl h (fun b147 h => wpC_skip <| kpN [q2 0 cS v0, q2 3 cI s84] (by kernel_rfl) <| xn <| wpC_seq <| wpC_kp <| wpC_blk <| wpC_seq <| reg_s <| st rfl <| mvd rfl rfl <| st rfl <| mvd rfl rfl <| getO_k h fun x161 i162 g163 h => st rfl <| o_ix (k := .i64) rfl rfl i162 g163 <| st rfl <| b_lss (k := .u8) rfl rfl <| st rfl <| mvd rfl rfl <| ite_k h (fun b164 h => gf rfl b164 <| gf rfl b164 <| gf rfl b164 <| gf rfl b164 <| st rfl <| pick1 rfl b164 (cd := cB) (v := true) rfl rfl <| sq [q2 0 cS v0, q2 3 cI s84, q2 19 cB true] <|
  xn <| cnd1 rfl rfl <| wpC_seq <| reg_s <| x_asg (sc cB false rfl) <| sq [q2 2 cB false] <|
  xn <| wpC_ret <| rb <| rt <| rt <| rt <| rb <| rt <| rt <| re <| fin h (r1 (ss rfl rfl) <| r0) rfl)
  (fun b164 h => gt' rfl b164 <| st rfl <| mvd rfl rfl <| gt' rfl b164 <| st rfl <| mvd rfl rfl <| gt' rfl b164 <| st rfl <| o_ix (k := .i64) rfl rfl i162 g163 <| gt' rfl b164 <| st rfl <| b_gtr (k := .u8) rfl rfl <| st rfl <| pick0 rfl b164 (cd := cB) (v := (decide ((122 : Int) < (x161.toNat : Int)))) rfl rfl <| sq [q2 0 cS v0, q2 3 cI s84, q2 19 cB (decide ((122 : Int) < (x161.toNat : Int)))] <|
  xn <| cnd rfl h (fun b165 h => wpC_seq <| reg_s <| x_asg (sc cB false rfl) <| sq [q2 2 cB false] <|
  xn <| wpC_ret <| rb <| rt <| rt <| rt <| rb <| rt <| rt <| re <| fin h (r1 (ss rfl rfl) <| r0) rfl)
  (fun b165 h => wpC_skip <| xbb <| kpN [q2 0 cS v0, q2 3 cI s84] (by kernel_rfl) <| xn <| reg_s <| st rfl <| mvd rfl rfl <| ckI_k h fun i166 h => st rfl <| b_add (k := .i64) rfl rfl i166 <| x_asg (ss rfl rfl) <| sq [q2 0 cS v0, q2 3 cI (s84 + (1 : Int))] <|
  xn <| hn140 (s84 + (1 : Int)) h)))
  (fun b147 h => wpC_exit <| xt <| xt <| xt <| xb <| kpN [q2 0 cS v0] (by kernel_rfl) <| xn <| wpC_seq <| reg_s <| st rfl <| mvd rfl rfl <| stw rfl <| lent rfl fun l170 => bnd h fun x171 e172 h => st rfl <| o_call (a1 (c := cI) tK rfl (a1 (c := cI) tK rfl (a1 (c := cI) tK rfl a0))) (con_spec_l1In e172) (.inl (so1 sB so0)) <| x_asg (ss rfl rfl) <| sq [q2 2 cB x171] <|
  xn <| wpC_ret <| re <| fin h (r1 (ss rfl rfl) <| r0) rfl)

def rs_spec_sFind (r : Int) : List D := [cI.enc r]
def m81 : MC := .seq (.reg [q1 4 (.asg (.c (.int .i64 0)))] [0, 1])
 (.seq (.kp [] (.seq (.reg [q1 7 (.mv (.t 0)),q1 8 (.len false (.t 7)),q1 9 (.mv (.c (.int .i64 0)))] [0, 1, 7, 8, 9])
 (.blk 0 (.loop (.seq (.reg [q1 10 (.bin .lss (.t 9) (.t 8))] [0, 1, 7, 8, 9, 10])
 (.seq (.kp [0, 1, 7, 8, 9] (.cond (.t 10) (.skip) (.exit 0)))
 (.seq (.kp [0, 1, 7, 8, 9] (.blk 1 (.seq (.reg [q1 11 (.mv (.t 9)),q1 12 (.ia 7 (.t 9) 2),q1 13 (.ld 12 2 true),q1 6 (.alloc (.agg [.str [], .int .i64 0])),q1 5 (.asg (.t 11)),q0 (.st 6 (.t 13) 2)] [0, 1, 5, 6, 7, 8, 9])
 (.seq (.reg [q1 14 (.fa 6 0 0),q1 15 (.ld 14 1 false),q1 16 (.mv (.t 1)),q1 17 (.bin .eql (.t 15) (.t 16))] [0, 1, 5, 7, 8, 9, 17])
 (.cond (.t 17) (.seq (.reg [q1 18 (.mv (.t 5)),q1 4 (.asg (.t 18))] [4])
 (.ret)) (.skip))))))
 (.reg [q1 19 (.bin .add (.t 9) (.c (.int .i64 1))),q1 9 (.mv (.t 19))] [0, 1, 7, 8, 9]))))))))
 (.seq (.reg [q1 4 (.asg (.c (.int .i64 (-1))))] [4])
 (.ret)))
theorem con_spec_sFind {v0 : (List XVariable)} {v1 : (List UInt8)} {r : Int} (h : sh_spec_sFind v0 v1 = some r) : Con Tryz.prog 81 [cc6.enc v0, cS.enc v1] [] (rs_spec_sFind r) := by
 delta sh_spec_sFind at h
 refine top (out := none) (f := Tryz.f81) (m := m81) (rs := [.t 4]) (by kernel_rfl) rfl (by kernel_rfl) (by kernel_rfl) (by kernel_rfl) (by kernel_rfl) (by kernel_rfl) ?_
 exact
  ini [q2 0 cc6 v0, q2 1 cS v1] rfl <| wpC_seq <| reg_s <| x_asg (sc cI (0 : Int) rfl) <| sq [q2 0 cc6 v0, q2 1 cS v1] <|
  xn <| wpC_seq <| wpC_kp <| wpC_seq <| reg_s <| st rfl <| mvd rfl rfl <| stw rfl <| lens rfl fun l16 => st rfl <| mvc cI (0 : Int) rfl <| sq [q2 0 cc6 v0, q2 1 cS v1, q2 7 cc6 v0, q2 8 cI (v0.length : Int), q2 9 cI (0 : Int)] <|
  xn <| wpC_blk <| lpR (fun (k18 : Nat) (s17 : Unit) => [q2 0 cc6 v0, q2 1 cS v1, q2 7 cc6 v0, q2 8 cI (v0.length : Int), q2 9 cI (k18 : Int)]) () rfl h
  (fun G26 s17 h => wpC_seq <| reg_s <| st rfl <| b_lss (k := .i64) rfl rfl <| sq [q2 0 cc6 v0, q2 1 cS v1, q2 7 cc6 v0, q2 8 cI (v0.length : Int), q2 9 cI (v0.length : Int), q2 10 cB (decide ((v0.length : Int) < (v0.length : Int)))] <|
  xn <| wpC_seq <| wpC_kp <| cnd0 rfl (dlf _) <| wpC_exit <| xt <| xt <| xt <| xb <| kpN [] (by kernel_rfl) <| xn <| wpC_seq <| reg_s <| x_asg (sc cI (-1 : Int) rfl) <| sq [q2 4 cI (-1 : Int)] <|
  xn <| wpC_ret <| re <| fin h (r1 (ss rfl rfl) <| r0) rfl)
  (fun G26 nx24 k18 s17 x19 hk20 hx21 hn25 h => wpC_seq <| reg_s <| st rfl <| b_lss (k := .i64) rfl rfl <| sq [q2 0 cc6 v0, q2 1 cS v1, q2 7 cc6 v0, q2 8 cI (v0.length : Int), q2 9 cI (k18 : Int), q2 10 cB (decide ((k18 : Int) < (v0.length : Int)))] <|
  xn <| wpC_seq <| wpC_kp <| cnd1 rfl (dlt hk20) <| wpC_skip <| kpN [q2 0 cc6 v0, q2 1 cS v1, q2 7 cc6 v0, q2 8 cI (v0.length : Int), q2 9 cI (k18 : Int)] (by kernel_rfl) <| xn <| wpC_seq <| wpC_kp <| wpC_blk <| wpC_seq <| reg_s <| st rfl <| mvd rfl rfl <| st rfl <| ias rfl rfl (Int.natCast_nonneg _) hx21 rfl <| st rfl <| ldi rfl rfl rfl rfl <| x_all cc11 (⟨([] : List UInt8), (0 : Int)⟩ : XVariable) rfl <| x_asg (ss rfl rfl) <| x_stb (ss rfl rfl) rfl (Cd.h_sz _ _) rfl <| sq [q2 0 cc6 v0, q2 1 cS v1, q2 5 cI (k18 : Int), q3 6 cc11 x19, q2 7 cc6 v0, q2 8 cI (v0.length : Int), q2 9 cI (k18 : Int)] <|
  xn <| wpC_seq <| reg_s <| st rfl <| fab rfl rfl rfl rfl <| st rfl <| lda rfl rfl rfl rfl rfl rfl <| st rfl <| mvd rfl rfl <| st rfl <| b_seq rfl rfl <| sq [q2 0 cc6 v0, q2 1 cS v1, q2 5 cI (k18 : Int), q2 7 cc6 v0, q2 8 cI (v0.length : Int), q2 9 cI (k18 : Int), q2 17 cB (decide (x19.Name = v1))] <|
  xn <| cnd rfl h (fun b28 h => wpC_seq <| reg_s <| st rfl <| mvd rfl rfl <| x_asg (ss rfl rfl) <| sq [q2 4 cI (k18 : Int)] <|
  xn <| wpC_ret <| rb <| rt <| rt <| rt <| rb <| rt <| rt <| re <| fin h (r1 (ss rfl rfl) <| r0) rfl)
  (fun b28 h => wpC_skip <| xbb <| kpN [q2 0 cc6 v0, q2 1 cS v1, q2 7 cc6 v0, q2 8 cI (v0.length : Int), q2 9 cI (k18 : Int)] (by kernel_rfl) <| xn <| reg_s <| st rfl <| b_inc rfl rfl l16 hk20 <| st rfl <| mvd rfl rfl <| sq [q2 0 cc6 v0, q2 1 cS v1, q2 7 cc6 v0, q2 8 cI (v0.length : Int), q2 9 cI ((k18 + 1 : Nat) : Int)] <|
  xn <| hn25 () h))

def rs_spec_sGood (r : Bool) : List D := [cB.enc r]
def m51 : MC := .seq (.reg [q1 2 (.asg (.c (.bool false)))] [0])
 (.seq (.kp [0] (.seq (.reg [q1 5 (.mv (.t 0)),q1 6 (.len false (.t 5)),q1 7 (.call 55 [(.t 6), (.c (.int .i64 1)), (.c (.int .i64 6))]),q1 8 (.nt (.t 7))] [0, 8])
 (.cond (.t 8) (.seq (.reg [q1 2 (.asg (.c (.bool false)))] [2])
 (.ret)) (.skip))))
 (.seq (.kp [] (.seq (.reg [q1 9 (.mv (.t 0)),q1 10 (.len false (.t 9)),q1 11 (.mv (.c (.int .i64 0)))] [0, 9, 10, 11])
 (.blk 0 (.loop (.seq (.reg [q1 12 (.bin .lss (.t 11) (.t 10))] [0, 9, 10, 11, 12])
 (.seq (.kp [0, 9, 10, 11] (.cond (.t 12) (.skip) (.exit 0)))
 (.seq (.kp [0, 9, 10, 11] (.blk 1 (.seq (.reg [q1 13 (.mv (.t 11)),q1 14 (.ia 9 (.t 11) 2),q1 15 (.ld 14 2 true),q1 4 (.alloc (.agg [.str [], .int .i64 0])),q1 3 (.asg (.t 13)),q0 (.st 4 (.t 15) 2)] [0, 3, 4, 9, 10, 11])
 (.seq (.drw [⟨0, q1 16 (.fa 4 0 0), [17, 18, 19, 20, 21, 22, 23, 24, 25, 26, 27, 28, 29, 30, 31, 32, 33, 34]⟩,
  ⟨1, q1 17 (.ld 16 1 false), [18, 19, 20, 21, 22, 23, 24, 25, 26, 27, 28, 29, 30, 31, 32, 33, 34]⟩,
  ⟨2, q1 18 (.call 80 [(.t 17)]), [19, 20, 21, 22, 23, 24, 25, 26, 27, 28, 29, 30, 31, 32, 33, 34]⟩,
  ⟨3, q1 19 (.nt (.t 18)), [20, 21, 22, 23, 24, 25, 26, 27, 28, 29, 30, 31, 32, 33, 34]⟩,
  ⟨4, q1 20 (.mv (.t 19)), [21, 22, 23, 24, 25, 26, 27, 28, 29, 30, 31, 32, 33, 34]⟩,
  ⟨5, ⟨some 21, .fa 4 1 1, some (20, false)⟩, [22, 23, 24, 25, 26, 27, 28, 29, 30, 31, 32, 33, 34]⟩,
  ⟨6, ⟨some 22, .ld 21 1 false, some (20, false)⟩, [23, 24, 25, 26, 27, 28, 29, 30, 31, 32, 33, 34]⟩,
  ⟨7, ⟨some 23, .call 55 [(.t 22), (.c (.int .i64 2)), (.c (.int .i64 8))], some (20, false)⟩, [24, 25, 26, 27, 28, 29, 30, 31, 32, 33, 34]⟩,
  ⟨8, ⟨some 24, .nt (.t 23), some (20, false)⟩, [25, 26, 27, 28, 29, 30, 31, 32, 33, 34]⟩,
  ⟨9, q1 25 (.pick (.t 20) (.c (.bool true)) (.t 24)), [26, 27, 28, 29, 30, 31, 32, 33, 34]⟩,
  ⟨10, q1 26 (.mv (.t 25)), [27, 28, 29, 30, 31, 32, 33, 34]⟩,
  ⟨11, ⟨some 27, .mv (.t 0), some (26, false)⟩, [28, 29, 30, 31, 32, 33, 34]⟩,
  ⟨12, ⟨some 28, .mv (.t 3), some (26, false)⟩, [27, 29, 30, 31, 32, 33, 34]⟩,
  ⟨13, ⟨some 29, .sl (.t 27) none (some (.t 28)) 2, some (26, false)⟩, [30, 31, 32, 33, 34]⟩,
  ⟨14, ⟨some 30, .fa 4 0 0, some (26, false)⟩, [27, 28, 29, 31, 32, 33, 34]⟩,
  ⟨15, ⟨some 31, .ld 30 1 false, some (26, false)⟩, [27, 28, 29, 32, 33, 34]⟩,
  ⟨16, ⟨some 32, .call 81 [(.t 29), (.t 31)], some (26, false)⟩, [33, 34]⟩,
  ⟨17, ⟨some 33, .bin .geq (.t 32) (.c (.int .i64 0)), some (26, false)⟩, [34]⟩,
  ⟨18, q1 34 (.pick (.t 26) (.c (.bool true)) (.t 33)), []⟩]
  [] [0, 9, 10, 11, 34])
 (.cond (.t 34) (.seq (.reg [q1 2 (.asg (.c (.bool false)))] [2])
 (.ret)) (.skip))))))
 (.reg [q1 35 (.bin .add (.t 11) (.c (.int .i64 1))),q1 11 (.mv (.t 35))] [0, 9, 10, 11]))))))))
 (.seq (.reg [q1 2 (.asg (.c (.bool true)))] [2])
 (.ret))))
theorem con_spec_sGood {v0 : (List XVariable)} {r : Bool} (h : sh_spec_sGood v0 = some r) : Con Tryz.prog 51 [cc6.enc v0] [] (rs_spec_sGood r) := by
 delta sh_spec_sGood at h
 refine top (out := none) (f := Tryz.f51) (m := m51) (rs := [.t 2]) (by kernel_rfl) rfl (by kernel_rfl) (by kernel_rfl) (by kernel_rfl) (by kernel_rfl) (by kernel_rfl) ?_
 exact
  ini [q2 0 cc6 v0] rfl <| wpC_seq <| reg_s <| x_asg (sc cB false rfl) <| sq [q2 0 cc6 v0] <|
  xn <| wpC_seq <| wpC_kp <| wpC_seq <| reg_s <| st rfl <| mvd rfl rfl <| stw rfl <| lens rfl fun l11 => bnd h fun x12 e13 h => st rfl <| o_call (a1 (c := cI) tK rfl (a1 (c := cI) tK rfl (a1 (c := cI) tK rfl a0))) (con_spec_l1In e13) (.inl (so1 sB so0)) <| st rfl <| o_nt rfl <| sq [q2 0 cc6 v0, q2 8 cB (!x12)] <|
  xn <| cnd rfl h (fun b14 h => wpC_seq <| reg_s <| x_asg (sc cB false rfl) <| sq [q2 2 cB false] <|
  xn <| wpC_ret <| rt <| rt <| re <| fin h (r1 (ss rfl rfl) <| r0) rfl)
  (fun b14 h => wpC_skip <| kpN [q2 0 cc6 v0] (by kernel_rfl) <| xn <| wpC_seq <| wpC_kp <| wpC_seq <| reg_s <| st rfl <| mvd rfl rfl <| stw rfl <| lens rfl fun l102 => st rfl <| mvc cI (0 : Int) rfl <| sq [q2 0 cc6 v0, q2 9 cc6 v0, q2 10 cI (v0.length : Int), q2 11 cI (0 : Int)] <|
  xn <| wpC_blk <| lpR (fun (k104 : Nat) (s103 : Unit) => [q2 0 cc6 v0, q2 9 cc6 v0, q2 10 cI (v0.length : Int), q2 11 cI (k104 : Int)]) () rfl h
  (fun G148 s103 h => wpC_seq <| reg_s <| st rfl <| b_lss (k := .i64) rfl rfl <| sq [q2 0 cc6 v0, q2 9 cc6 v0, q2 10 cI (v0.length : Int), q2 11 cI (v0.length : Int), q2 12 cB (decide ((v0.length : Int) < (v0.length : Int)))] <|
  xn <| wpC_seq <| wpC_kp <| cnd0 rfl (dlf _) <| wpC_exit <| xt <| xt <| xt <| xb <| kpN [] (by kernel_rfl) <| xn <| wpC_seq <| reg_s <| x_asg (sc cB true rfl) <| sq [q2 2 cB true] <|
  xn <| wpC_ret <| re <| fin h (r1 (ss rfl rfl) <| r0) rfl)
  (fun G148 nx146 k104 s103 x105 hk106 hx107 hn147 h => wpC_seq <| reg_s <| st rfl <| b_lss (k := .i64) rfl rfl <| sq [q2 0 cc6 v0, q2 9 cc6 v0, q2 10 cI (v0.length : Int), q2 11 cI (k104 : Int), q2 12 cB (decide ((k104 : Int) < (v0.length : Int)))] <|
  xn <| wpC_seq <| wpC_kp <| cnd1 rfl (dlt hk106) <| wpC_skip <| kpN [q2 0 cc6 v0, q2 9 cc6 v0, q2 10 cI (v0.length : Int), q2 11 cI (k104 : Int)] (by kernel_rfl) <| xn <| wpC_seq <| wpC_kp <| wpC_blk <| wpC_seq <| reg_s <| st rfl <| mvd rfl rfl <| st rfl <| ias rfl rfl (Int.natCast_nonneg _) hx107 rfl <| st rfl <| ldi rfl rfl rfl rfl <| x_all cc11 (⟨([] : List UInt8), (0 : Int)⟩ : XVariable) rfl <| x_asg (ss rfl rfl) <| x_stb (ss rfl rfl) rfl (Cd.h_sz _ _) rfl <| sq [q2 0 cc6 v0, q2 3 cI (k104 : Int), q3 4 cc11 x105, q2 9 cc6 v0, q2 10 cI (v0.length : Int), q2 11 cI (k104 : Int)] <|
  xn <| wpC_seq <| drw_s <| pst rfl <| fab rfl rfl rfl rfl ⟨rfl, pst rfl <| lda rfl rfl rfl rfl rfl rfl ⟨rfl, bndp h fun x177 e178 h => pst rfl <| o_call (a1 (c := cS) tS rfl a0) (con_spec_sName e178) (.inl (so1 sB so0)) ⟨rfl, pst rfl <| o_nt rfl ⟨rfl, pst rfl <| mvd rfl rfl ⟨rfl, ite_kp h (fun b179 h => pgf rfl rfl b179 <| pgf rfl rfl b179 <| pgf rfl rfl b179 <| pgf rfl rfl b179 <| pst rfl <| pick1 rfl b179 (cd := cB) (v := true) rfl rfl ⟨rfl, pst rfl <| mvd rfl rfl ⟨rfl, pgf rfl rfl rfl <| pgf rfl rfl rfl <| pgf rfl rfl rfl <| pgf rfl rfl rfl <| pgf rfl rfl rfl <| pgf rfl rfl rfl <| pgf rfl rfl rfl <| pst rfl <| pick1 rfl rfl (cd := cB) (v := true) rfl rfl ⟨rfl, preN <| sq [q2 0 cc6 v0, q2 9 cc6 v0, q2 10 cI (v0.length : Int), q2 11 cI (k104 : Int), q2 34 cB true] <|
  xn <| cnd1 rfl rfl <| wpC_seq <| reg_s <| x_asg (sc cB false rfl) <| sq [q2 2 cB false] <|
  xn <| wpC_ret <| rb <| rt <| rt <| rt <| rb <| rt <| rt <| re <| fin h (r1 (ss rfl rfl) <| r0) rfl⟩⟩⟩)
  (fun b179 h => pgt rfl b179 <| pst rfl <| fab rfl rfl rfl rfl ⟨rfl, pgt rfl b179 <| pst rfl <| lda rfl rfl rfl rfl rfl rfl ⟨rfl, pgt rfl b179 <| bndp h fun x180 e181 h => pst rfl <| o_call (a1 (c := cI) tK rfl (a1 (c := cI) tK rfl (a1 (c := cI) tK rfl a0))) (con_spec_l1In e181) (.inl (so1 sB so0)) ⟨rfl, pgt rfl b179 <| pst rfl <| o_nt rfl ⟨rfl, pst rfl <| pick0 rfl b179 (cd := cB) (v := (!x180)) rfl rfl ⟨rfl, pst rfl <| mvd rfl rfl ⟨rfl, ite_kp h (fun b182 h => pgf rfl rfl b182 <| pgf rfl rfl b182 <| pgf rfl rfl b182 <| pgf rfl rfl b182 <| pgf rfl rfl b182 <| pgf rfl rfl b182 <| pgf rfl rfl b182 <| pst rfl <| pick1 rfl b182 (cd := cB) (v := true) rfl rfl ⟨rfl, preN <| sq [q2 0 cc6 v0, q2 9 cc6 v0, q2 10 cI (v0.length : Int), q2 11 cI (k104 : Int), q2 34 cB true] <|
  xn <| cnd1 rfl rfl <| wpC_seq <| reg_s <| x_asg (sc cB false rfl) <| sq [q2 2 cB false] <|
  xn <| wpC_ret <| rb <| rt <| rt <| rt <| rb <| rt <| rt <| re <| fin h (r1 (ss rfl rfl) <| r0) rfl⟩)
  (fun b182 h => pgt rfl b182 <| pst rfl <| mvd rfl rfl ⟨rfl, pgt rfl b182 <| pst rfl <| mvd rfl rfl ⟨rfl, pgt rfl b182 <| ck_kp h fun i183 h => pst rfl <| o_sl rfl rfl lo0 (hi1 (k := .i64) rfl i183.1) i183.2 ⟨rfl, pgt rfl b182 <| pst rfl <| fab rfl rfl rfl rfl ⟨rfl, pgt rfl b182 <| pst rfl <| lda rfl rfl rfl rfl rfl rfl ⟨rfl, pgt rfl b182 <| bndp h fun x184 e185 h => pst rfl <| o_call (a1 (c := cc6) (tLs (tXVariable tS tK)) rfl (a1 (c := cS) tS rfl a0)) (con_spec_sFind e185) (.inl (so1 sK so0)) ⟨rfl, pgt rfl b182 <| pst rfl <| b_geq (k := .i64) rfl rfl ⟨rfl, pst rfl <| pick0 rfl b182 (cd := cB) (v := (decide ((0 : Int) ≤ x184))) rfl rfl ⟨rfl, preN <| sq [q2 0 cc6 v0, q2 9 cc6 v0, q2 10 cI (v0.length : Int), q2 11 cI (k104 : Int), q2 34 cB (decide ((0 : Int) ≤ x184))] <|
  xn <| cnd rfl h (fun b186 h => wpC_seq <| reg_s <| x_asg (sc cB false rfl) <| sq [q2 2 cB false] <|
  xn <| wpC_ret <| rb <| rt <| rt <| rt <| rb <| rt <| rt <| re <| fin h (r1 (ss rfl rfl) <| r0) rfl)
  (fun b186 h => wpC_skip <| xbb <| kpN [q2 0 cc6 v0, q2 9 cc6 v0, q2 10 cI (v0.length : Int), q2 11 cI (k104 : Int)] (by kernel_rfl) <| xn <| reg_s <| st rfl <| b_inc rfl rfl l102 hk106 <| st rfl <| mvd rfl rfl <| sq [q2 0 cc6 v0, q2 9 cc6 v0, q2 10 cI (v0.length : Int), q2 11 cI ((k104 + 1 : Nat) : Int)] <|
  xn <| hn147 () h)⟩⟩⟩⟩⟩⟩⟩⟩)⟩⟩⟩⟩⟩⟩)⟩⟩⟩⟩⟩))

def rs_spec_gDepth (r : Int) : List D := [cI.enc r]
def m82 : MC := .seq (.reg [q1 2 (.box (.t 0)),q1 4 (.asg (.c (.int .i64 0)))] [1, 2])
 (.seq (.reg [q1 5 (.asg (.c (.int .i64 0)))] [1, 2, 5])
 (.seq (.kp [5] (.blk 0 (.loop (.kp [1, 2, 5] (.seq (.kp [1, 2, 5] (.seq (.reg [q1 6 (.fa 2 0 0),q1 7 (.ld 6 1 false),q1 8 (.mv (.t 1)),q1 9 (.ia 7 (.t 8) 1),q1 10 (.ld 9 1 false),q1 11 (.bin .geq (.t 10) (.c (.int .i64 0)))] [1, 2, 5, 11])
 (.cond (.t 11) (.skip) (.exit 0))))
 (.blk 1 (.seq (.reg [q1 12 (.fa 2 0 0),q1 13 (.ld 12 1 false),q1 14 (.mv (.t 1)),q1 15 (.ia 13 (.t 14) 1),q1 16 (.ld 15 1 false),q1 1 (.asg (.t 16))] [1, 2, 5])
 (.reg [q1 17 (.mv (.t 5)),q1 18 (.bin .add (.t 17) (.c (.int .i64 1))),q1 5 (.asg (.t 18))] [1, 2, 5]))))))))
 (.seq (.reg [q1 19 (.mv (.t 5)),q1 4 (.asg (.t 19))] [4])
 (.ret))))
theorem con_spec_gDepth {v0 : XGeo} {v1 : Int} {r : Int} (h : sh_spec_gDepth v0 v1 = some r) : Con Tryz.prog 82 [cc10.enc v0, cI.enc v1] [] (rs_spec_gDepth r) := by
 delta sh_spec_gDepth at h
 refine top (out := none) (f := Tryz.f82) (m := m82) (rs := [.t 4]) (by kernel_rfl) rfl (by kernel_rfl) (by kernel_rfl) (by kernel_rfl) (by kernel_rfl) (by kernel_rfl) ?_
 exact
  ini [q2 0 cc10 v0, q2 1 cI v1] rfl <| wpC_seq <| reg_s <| x_box (ss rfl rfl) <| x_asg (sc cI (0 : Int) rfl) <| sq [q2 1 cI v1, q3 2 cc10 v0] <|
  xn <| wpC_seq <| reg_s <| x_asg (sc cI (0 : Int) rfl) <| sq [q2 1 cI v1, q3 2 cc10 v0, q2 5 cI (0 : Int)] <|
  xn <| wpC_seq <| wpC_kp <| wpC_blk <| lpF (fun (s54 : (Int × Int)) => [q2 1 cI s54.1, q3 2 cc10 v0, q2 5 cI s54.2]) (v1, (0 : Int)) rfl h
  fun G91 nx89 s54 hn90 h => wpC_kp <| wpC_seq <| wpC_kp <| wpC_seq <| reg_s <| st rfl <| fab rfl rfl rfl rfl <| st rfl <| lda rfl rfl rfl rfl rfl rfl <| st rfl <| mvd rfl rfl <| getO_k h fun x102 i103 g104 h => st rfl <| ias rfl rfl i103 g104 rfl <| st rfl <| ldi rfl rfl rfl rfl <| st rfl <| b_geq (k := .i64) rfl rfl <| sq [q2 1 cI s54.1, q3 2 cc10 v0, q2 5 cI s54.2, q2 11 cB (decide ((0 : Int) ≤ x102))] <|
  xn <| cnd rfl h (fun b105 h => wpC_skip <| kpN [q2 1 cI s54.1, q3 2 cc10 v0, q2 5 cI s54.2] (by kernel_rfl) <| xn <| wpC_blk <| wpC_seq <| reg_s <| st rfl <| fab rfl rfl rfl rfl <| st rfl <| lda rfl rfl rfl rfl rfl rfl <| st rfl <| mvd rfl rfl <| st rfl <| ias rfl rfl i103 g104 rfl <| st rfl <| ldi rfl rfl rfl rfl <| x_asg (ss rfl rfl) <| sq [q2 1 cI x102, q3 2 cc10 v0, q2 5 cI s54.2] <|
  xn <| reg_s <| st rfl <| mvd rfl rfl <| ckI_k h fun i106 h => st rfl <| b_add (k := .i64) rfl rfl i106 <| x_asg (ss rfl rfl) <| sq [q2 1 cI x102, q3 2 cc10 v0, q2 5 cI (s54.2 + (1 : Int))] <|
  xbb <| kpN [q2 1 cI x102, q3 2 cc10 v0, q2 5 cI (s54.2 + (1 : Int))] (by kernel_rfl) <| xn <| hn90 (x102, (s54.2 + (1 : Int))) h)
  (fun b105 h => wpC_exit <| xt <| xt <| xt <| xt <| xb <| kpN [q2 5 cI s54.2] (by kernel_rfl) <| xn <| wpC_seq <| reg_s <| st rfl <| mvd rfl rfl <| x_asg (ss rfl rfl) <| sq [q2 4 cI s54.2] <|
  xn <| wpC_ret <| re <| fin h (r1 (ss rfl rfl) <| r0) rfl)

def rs_spec_gLevel (r : (List Int)) : List D := [cc14.enc r]
def m52 : MC := .seq (.reg [q1 2 (.box (.t 0)),q1 4 (.asg (.c (.slice true [])))] [1, 2])
 (.seq (.reg [q1 5 (.asg (.c (.slice true [])))] [1, 2, 5])
 (.seq (.kp [5] (.seq (.reg [q1 7 (.fa 2 0 0),q1 8 (.ld 7 1 false),q1 9 (.len false (.t 8)),q1 10 (.mv (.c (.int .i64 0)))] [1, 2, 5, 9, 10])
 (.blk 0 (.loop (.seq (.reg [q1 11 (.bin .lss (.t 10) (.t 9))] [1, 2, 5, 9, 10, 11])
 (.seq (.kp [1, 2, 5, 9, 10] (.cond (.t 11) (.skip) (.exit 0)))
 (.seq (.kp [1, 2, 5, 9, 10] (.blk 1 (.seq (.reg [q1 12 (.mv (.t 10)),q1 6 (.asg (.t 12))] [1, 2, 5, 6, 9, 10])
 (.seq (.reg [q1 13 (.ld 2 1 true),q1 14 (.mv (.t 6)),q1 15 (.call 82 [(.t 13), (.t 14)]),q1 16 (.mv (.t 1)),q1 17 (.bin .eql (.t 15) (.t 16))] [1, 2, 5, 6, 9, 10, 17])
 (.cond (.t 17) (.reg [q1 18 (.mv (.t 5)),q1 19 (.mv (.t 6)),q1 20 (.bsl [(.t 19)] 1),q1 21 (.app (.t 18) (.t 20) 1),q1 5 (.asg (.t 21))] [1, 2, 5, 9, 10]) (.skip))))))
 (.reg [q1 22 (.bin .add (.t 10) (.c (.int .i64 1))),q1 10 (.mv (.t 22))] [1, 2, 5, 9, 10]))))))))
 (.seq (.reg [q1 23 (.mv (.t 5)),q1 4 (.asg (.t 23))] [4])
 (.ret))))
theorem con_spec_gLevel {v0 : XGeo} {v1 : Int} {r : (List Int)} (h : sh_spec_gLevel v0 v1 = some r) : Con Tryz.prog 52 [cc10.enc v0, cI.enc v1] [] (rs_spec_gLevel r) := by
 delta sh_spec_gLevel at h
 refine top (out := none) (f := Tryz.f52) (m := m52) (rs := [.t 4]) (by kernel_rfl) rfl (by kernel_rfl) (by kernel_rfl) (by kernel_rfl) (by kernel_rfl) (by kernel_rfl) ?_
 exact
  ini [q2 0 cc10 v0, q2 1 cI v1] rfl <| wpC_seq <| reg_s <| x_box (ss rfl rfl) <| x_asg (sc cc14 ([] : List Int) rfl) <| sq [q2 1 cI v1, q3 2 cc10 v0] <|
  xn <| wpC_seq <| reg_s <| x_asg (sc cc14 ([] : List Int) rfl) <| sq [q2 1 cI v1, q3 2 cc10 v0, q2 5 cc14 ([] : List Int)] <|
  xn <| wpC_seq <| wpC_kp <| wpC_seq <| reg_s <| st rfl <| fab rfl rfl rfl rfl <| st rfl <| lda rfl rfl rfl rfl rfl rfl <| stw rfl <| lens rfl fun l48 => st rfl <| mvc cI (0 : Int) rfl <| sq [q2 1 cI v1, q3 2 cc10 v0, q2 5 cc14 ([] : List Int), q2 9 cI (v0.Parents.length : Int), q2 10 cI (0 : Int)] <|
  xn <| wpC_blk <| lpR (fun (k50 : Nat) (s49 : (List Int)) => [q2 1 cI v1, q3 2 cc10 v0, q2 5 cc14 s49, q2 9 cI (v0.Parents.length : Int), q2 10 cI (k50 : Int)]) ([] : List Int) rfl h
  (fun G80 s49 h => wpC_seq <| reg_s <| st rfl <| b_lss (k := .i64) rfl rfl <| sq [q2 1 cI v1, q3 2 cc10 v0, q2 5 cc14 s49, q2 9 cI (v0.Parents.length : Int), q2 10 cI (v0.Parents.length : Int), q2 11 cB (decide ((v0.Parents.length : Int) < (v0.Parents.length : Int)))] <|
  xn <| wpC_seq <| wpC_kp <| cnd0 rfl (dlf _) <| wpC_exit <| xt <| xt <| xt <| xb <| kpN [q2 5 cc14 s49] (by kernel_rfl) <| xn <| wpC_seq <| reg_s <| st rfl <| mvo rfl rfl <| x_asg (sr rfl rfl) <| sq [q2 4 cc14 s49] <|
  xn <| wpC_ret <| re <| fin h (r1 (so rfl rfl) <| r0) rfl)
  (fun G80 nx78 k50 s49 x51 hk52 hx53 hn79 h => wpC_seq <| reg_s <| st rfl <| b_lss (k := .i64) rfl rfl <| sq [q2 1 cI v1, q3 2 cc10 v0, q2 5 cc14 s49, q2 9 cI (v0.Parents.length : Int), q2 10 cI (k50 : Int), q2 11 cB (decide ((k50 : Int) < (v0.Parents.length : Int)))] <|
  xn <| wpC_seq <| wpC_kp <| cnd1 rfl (dlt hk52) <| wpC_skip <| kpN [q2 1 cI v1, q3 2 cc10 v0, q2 5 cc14 s49, q2 9 cI (v0.Parents.length : Int), q2 10 cI (k50 : Int)] (by kernel_rfl) <| xn <| wpC_seq <| wpC_kp <| wpC_blk <| wpC_seq <| reg_s <| st rfl <| mvd rfl rfl <| x_asg (ss rfl rfl) <| sq [q2 1 cI v1, q3 2 cc10 v0, q2 5 cc14 s49, q2 6 cI (k50 : Int), q2 9 cI (v0.Parents.length : Int), q2 10 cI (k50 : Int)] <|
  xn <| wpC_seq <| reg_s <| st rfl <| ldb rfl rfl rfl rfl <| st rfl <| mvd rfl rfl <| bnd h fun x89 e90 h => st rfl <| o_call (a1 (c := cc10) (tXGeo (tLs tK)) rfl (a1 (c := cI) tK rfl a0)) (con_spec_gDepth e90) (.inl (so1 sK so0)) <| st rfl <| mvd rfl rfl <| st rfl <| b_eql (k := .i64) rfl rfl <| sq [q2 1 cI v1, q3 2 cc10 v0, q2 5 cc14 s49, q2 6 cI (k50 : Int), q2 9 cI (v0.Parents.length : Int), q2 10 cI (k50 : Int), q2 17 cB (decide (x89 = v1))] <|
  xn <| cnd rfl h (fun b91 h => reg_s <| st rfl <| mvo rfl rfl <| st rfl <| mvd rfl rfl <| x_bsl cI [(k50 : Int)] (t1 (ss rfl rfl) rfl t0) rfl rfl <| lnO_k h fun l92 h => x_app (sr rfl rfl) (to rfl rfl) l92 rfl <| x_asg (so rfl rfl) <| sq [q2 1 cI v1, q3 2 cc10 v0, q2 5 cc14 (s49 ++ [(k50 : Int)]), q2 9 cI (v0.Parents.length : Int), q2 10 cI (k50 : Int)] <|
  xbb <| kpN [q2 1 cI v1, q3 2 cc10 v0, q2 5 cc14 (s49 ++ [(k50 : Int)]), q2 9 cI (v0.Parents.length : Int), q2 10 cI (k50 : Int)] (by kernel_rfl) <| xn <| reg_s <| st rfl <| b_inc rfl rfl l48 hk52 <| st rfl <| mvd rfl rfl <| sq [q2 1 cI v1, q3 2 cc10 v0, q2 5 cc14 (s49 ++ [(k50 : Int)]), q2 9 cI (v0.Parents.length : Int), q2 10 cI ((k50 + 1 : Nat) : Int)] <|
  xn <| hn79 (s49 ++ [(k50 : Int)]) h)
  (fun b91 h => wpC_skip <| xbb <| kpN [q2 1 cI v1, q3 2 cc10 v0, q2 5 cc14 s49, q2 9 cI (v0.Parents.length : Int), q2 10 cI (k50 : Int)] (by kernel_rfl) <| xn <| reg_s <| st rfl <| b_inc rfl rfl l48 hk52 <| st rfl <| mvd rfl rfl <| sq [q2 1 cI v1, q3 2 cc10 v0, q2 5 cc14 s49, q2 9 cI (v0.Parents.length : Int), q2 10 cI ((k50 + 1 : Nat) : Int)] <|
  xn <| hn79 s49 h))

def rs_spec_l1Rising (r : Bool) : List D := [cB.enc r]
def m53 : MC := .seq (.reg [q1 6 (.asg (.c (.bool false)))] [0, 1, 2])
 (.seq (.kp [] (.seq (.reg [q1 9 (.mv (.t 0)),q1 10 (.len false (.t 9)),q1 11 (.mv (.c (.int .i64 0)))] [0, 1, 2, 9, 10, 11])
 (.blk 0 (.loop (.seq (.reg [q1 12 (.bin .lss (.t 11) (.t 10))] [0, 1, 2, 9, 10, 11, 12])
 (.seq (.kp [0, 1, 2, 9, 10, 11] (.cond (.t 12) (.skip) (.exit 0)))
 (.seq (.kp [0, 1, 2, 9, 10, 11] (.blk 1 (.seq (.reg [q1 13 (.mv (.t 11)),q1 14 (.ia 9 (.t 11) 1),q1 15 (.ld 14 1 false),q1 7 (.asg (.t 13)),q1 8 (.asg (.t 15))] [0, 1, 2, 7, 8, 9, 10, 11])
 (.seq (.reg [q1 16 (.mv (.t 8)),q1 17 (.mv (.t 1)),q1 18 (.mv (.t 2)),q1 19 (.call 55 [(.t 16), (.t 17), (.t 18)]),q1 20 (.nt (.t 19)),q1 21 (.mv (.t 20)),
  ⟨some 22, .mv (.t 7), some (21, false)⟩,
  ⟨some 23, .bin .gtr (.t 22) (.c (.int .i64 0)), some (21, false)⟩,
  ⟨some 24, .mv (.t 23), some (21, false)⟩,
  ⟨some 25, .mv (.t 0), some (24, true)⟩,
  ⟨some 26, .mv (.t 7), some (24, true)⟩,
  ⟨some 27, .bin .sub (.t 26) (.c (.int .i64 1)), some (24, true)⟩,
  ⟨some 28, .ia 25 (.t 27) 1, some (24, true)⟩,
  ⟨some 29, .ld 28 1 false, some (24, true)⟩,
  ⟨some 30, .mv (.t 8), some (24, true)⟩,
  ⟨some 31, .bin .geq (.t 29) (.t 30), some (24, true)⟩,
  ⟨some 32, .pick (.t 24) (.t 31) (.c (.bool false)), some (21, false)⟩,q1 33 (.pick (.t 21) (.c (.bool true)) (.t 32))] [0, 1, 2, 9, 10, 11, 33])
 (.cond (.t 33) (.seq (.reg [q1 6 (.asg (.c (.bool false)))] [6])
 (.ret)) (.skip))))))
 (.reg [q1 34 (.bin .add (.t 11) (.c (.int .i64 1))),q1 11 (.mv (.t 34))] [0, 1, 2, 9, 10, 11]))))))))
 (.seq (.reg [q1 6 (.asg (.c (.bool true)))] [6])
 (.ret)))
theorem con_spec_l1Rising {v0 : (List Int)} {v1 : Int} {v2 : Int} {r : Bool} (h : sh_spec_l1Rising v0 v1 v2 = some r) : Con Tryz.prog 53 [cc13.enc v0, cI.enc v1, cI.enc v2] [] (rs_spec_l1Rising r) := by
 delta sh_spec_l1Rising at h
 refine top (out := none) (f := Tryz.f53) (m := m53) (rs := [.t 6]) (by kernel_rfl) rfl (by kernel_rfl) (by kernel_rfl) (by kernel_rfl) (by kernel_rfl) (by kernel_rfl) ?_
 exact
  ini [q2 0 cc13 v0, q2 1 cI v1, q2 2 cI v2] rfl <| wpC_seq <| reg_s <| x_asg (sc cB false rfl) <| sq [q2 0 cc13 v0, q2 1 cI v1, q2 2 cI v2] <|
  xn <| wpC_seq <| wpC_kp <| wpC_seq <| reg_s <| st rfl <| mvd rfl rfl <| stw rfl <| lens rfl fun l80 => st rfl <| mvc cI (0 : Int) rfl <| sq [q2 0 cc13 v0, q2 1 cI v1, q2 2 cI v2, q2 9 cc13 v0, q2 10 cI (v0.length : Int), q2 11 cI (0 : Int)] <|
  xn <| wpC_blk <| lpR (fun (k82 : Nat) (s81 : Unit) => [q2 0 cc13 v0, q2 1 cI v1, q2 2 cI v2, q2 9 cc13 v0, q2 10 cI (v0.length : Int), q2 11 cI (k82 : Int)]) () rfl h
  (fun G122 s81 h => wpC_seq <| reg_s <| st rfl <| b_lss (k := .i64) rfl rfl <| sq [q2 0 cc13 v0, q2 1 cI v1, q2 2 cI v2, q2 9 cc13 v0, q2 10 cI (v0.length : Int), q2 11 cI (v0.length : Int), q2 12 cB (decide ((v0.length : Int) < (v0.length : Int)))] <|
  xn <| wpC_seq <| wpC_kp <| cnd0 rfl (dlf _) <| wpC_exit <| xt <| xt <| xt <| xb <| kpN [] (by kernel_rfl) <| xn <| wpC_seq <| reg_s <| x_asg (sc cB true rfl) <| sq [q2 6 cB true] <|
  xn <| wpC_ret <| re <| fin h (r1 (ss rfl rfl) <| r0) rfl)
  (fun G122 nx120 k82 s81 x83 hk84 hx85 hn121 h => wpC_seq <| reg_s <| st rfl <| b_lss (k := .i64) rfl rfl <| sq [q2 0 cc13 v0, q2 1 cI v1, q2 2 cI v2, q2 9 cc13 v0, q2 10 cI (v0.length : Int), q2 11 cI (k82 : Int), q2 12 cB (decide ((k82 : Int) < (v0.length : Int)))] <|
  xn <| wpC_seq <| wpC_kp <| cnd1 rfl (dlt hk84) <| wpC_skip <| kpN [q2 0 cc13 v0, q2 1 cI v1, q2 2 cI v2, q2 9 cc13 v0, q2 10 cI (v0.length : Int), q2 11 cI (k82 : Int)] (by kernel_rfl) <| xn <| wpC_seq <| wpC_kp <| wpC_blk <| wpC_seq <| reg_s <| st rfl <| mvd rfl rfl <| st rfl <| ias rfl rfl (Int.natCast_nonneg _) hx85 rfl <| st rfl <| ldi rfl rfl rfl rfl <| x_asg (ss rfl rfl) <| x_asg (ss rfl rfl) <| sq [q2 0 cc13 v0, q2 1 cI v1, q2 2 cI v2, q2 7 cI (k82 : Int), q2 8 cI x83, q2 9 cc13 v0, q2 10 cI (v0.length : Int), q2 11 cI (k82 : Int)] <|
  xn <| wpC_seq <| reg_s <| st rfl <| mvd rfl rfl <| st rfl <| mvd rfl rfl <| st rfl <| mvd rfl rfl <| bnd h fun x148 e149 h => st rfl <| o_call (a1 (c := cI) tK rfl (a1 (c := cI) tK rfl (a1 (c := cI) tK rfl a0))) (con_spec_l1In e149) (.inl (so1 sB so0)) <| st rfl <| o_nt rfl <| st rfl <| mvd rfl rfl <| ite_k h (fun b150 h => gf rfl b150 <| gf rfl b150 <| gf rfl b150 <| gu rfl <| gu rfl <| gu rfl <| gu rfl <| gu rfl <| gu rfl <| gu rfl <| gf rfl b150 <| st rfl <| pick1 rfl b150 (cd := cB) (v := true) rfl rfl <| sq [q2 0 cc13 v0, q2 1 cI v1, q2 2 cI v2, q2 9 cc13 v0, q2 10 cI (v0.length : Int), q2 11 cI (k82 : Int), q2 33 cB true] <|
  xn <| cnd1 rfl rfl <| wpC_seq <| reg_s <| x_asg (sc cB false rfl) <| sq [q2 6 cB false] <|
  xn <| wpC_ret <| rb <| rt <| rt <| rt <| rb <| rt <| rt <| re <| fin h (r1 (ss rfl rfl) <| r0) rfl)
  (fun b150 h => gt' rfl b150 <| st rfl <| mvd rfl rfl <| gt' rfl b150 <| st rfl <| b_gtr (k := .i64) rfl rfl <| gt' rfl b150 <| st rfl <| mvd rfl rfl <| ite_k h (fun b151 h => gt' rfl b151 <| st rfl <| mvd rfl rfl <| gt' rfl b151 <| st rfl <| mvd rfl rfl <| gt' rfl b151 <| ckI_k h fun i152 h => st rfl <| b_sub (k := .i64) rfl rfl i152 <| gt' rfl b151 <| getO_k h fun x153 i154 g155 h => st rfl <| ias rfl rfl i154 g155 rfl <| gt' rfl b151 <| st rfl <| ldi rfl rfl rfl rfl <| gt' rfl b151 <| st rfl <| mvd rfl rfl <| gt' rfl b151 <| st rfl <| b_geq (k := .i64) rfl rfl <| gt' rfl b150 <| st rfl <| pick1 rfl b151 (cd := cB) (v := (decide (x83 ≤ x153))) rfl rfl <| st rfl <| pick0 rfl b150 (cd := cB) (v := (decide (x83 ≤ x153))) rfl rfl <| sq [q2 0 cc13 v0, q2 1 cI v1, q2 2 cI v2, q2 9 cc13 v0, q2 10 cI (v0.length : Int), q2 11 cI (k82 : Int), q2 33 cB (decide (x83 ≤ x153))] <|
  xn <| cnd rfl h (fun b156 h => wpC_seq <| reg_s <| x_asg (sc cB false rfl) <| sq [q2 6 cB false] <|
  xn <| wpC_ret <| rb <| rt <| rt <| rt <| rb <| rt <| rt <| re <| fin h (r1 (ss rfl rfl) <| r0) rfl)
  (fun b156 h => wpC_skip <| xbb <| kpN [q2 0 cc13 v0, q2 1 cI v1, q2 2 cI v2, q2 9 cc13 v0, q2 10 cI (v0.length : Int), q2 11 cI (k82 : Int)] (by kernel_rfl) <| xn <| reg_s <| st rfl <| b_inc rfl rfl l80 hk84 <| st rfl <| mvd rfl rfl <| sq [q2 0 cc13 v0, q2 1 cI v1, q2 2 cI v2, q2 9 cc13 v0, q2 10 cI (v0.length : Int), q2 11 cI ((k82 + 1 : Nat) : Int)] <|
  xn <| hn121 () h))
  (fun b151 h => gf rfl b151 <| gf rfl b151 <| gf rfl b151 <| gf rfl b151 <| gf rfl b151 <| gf rfl b151 <| gf rfl b151 <| gt' rfl b150 <| st rfl <| pick0 rfl b151 (cd := cB) (v := false) rfl rfl <| st rfl <| pick0 rfl b150 (cd := cB) (v := false) rfl rfl <| sq [q2 0 cc13 v0, q2 1 cI v1, q2 2 cI v2, q2 9 cc13 v0, q2 10 cI (v0.length : Int), q2 11 cI (k82 : Int), q2 33 cB false] <|
  xn <| cnd0 rfl rfl <| wpC_skip <| xbb <| kpN [q2 0 cc13 v0, q2 1 cI v1, q2 2 cI v2, q2 9 cc13 v0, q2 10 cI (v0.length : Int), q2 11 cI (k82 : Int)] (by kernel_rfl) <| xn <| reg_s <| st rfl <| b_inc rfl rfl l80 hk84 <| st rfl <| mvd rfl rfl <| sq [q2 0 cc13 v0, q2 1 cI v1, q2 2 cI v2, q2 9 cc13 v0, q2 10 cI (v0.length : Int), q2 11 cI ((k82 + 1 : Nat) : Int)] <|
  xn <| hn121 () h)))

def rs_spec_uWhere (r : Bool) : List D := [cB.enc r]
def m54 : MC := .seq (.reg [q1 4 (.asg (.c (.bool false)))] [0, 1])
 (.seq (.kp [0, 1] (.seq (.reg [q1 7 (.mv (.t 1)),q1 8 (.len false (.t 7)),q1 9 (.mv (.t 0)),q1 10 (.len false (.t 9)),q1 11 (.bin .neq (.t 8) (.t 10))] [0, 1, 11])
 (.cond (.t 11) (.seq (.reg [q1 4 (.asg (.c (.bool false)))] [4])
 (.ret)) (.skip))))
 (.seq (.kp [] (.seq (.reg [q1 12 (.mv (.t 0)),q1 13 (.len false (.t 12)),q1 14 (.mv (.c (.int .i64 0)))] [0, 1, 12, 13, 14])
 (.blk 0 (.loop (.seq (.reg [q1 15 (.bin .lss (.t 14) (.t 13))] [0, 1, 12, 13, 14, 15])
 (.seq (.kp [0, 1, 12, 13, 14] (.cond (.t 15) (.skip) (.exit 0)))
 (.seq (.kp [0, 1, 12, 13, 14] (.blk 1 (.seq (.reg [q1 16 (.mv (.t 14)),q1 17 (.ia 12 (.t 14) 2),q1 18 (.ld 17 2 true),q1 6 (.alloc (.agg [.str [], .int .i64 0])),q1 5 (.asg (.t 16)),q0 (.st 6 (.t 18) 2)] [0, 1, 5, 6, 12, 13, 14])
 (.seq (.drw [⟨0, q1 19 (.mv (.t 1)), [20, 21, 22, 23, 24, 25, 26, 27, 28, 29]⟩,
  ⟨1, q1 20 (.mv (.t 5)), [19, 21, 22, 23, 24, 25, 26, 27, 28, 29]⟩,
  ⟨2, q1 21 (.ia 19 (.t 20) 1), [22, 23, 24, 25, 26, 27, 28, 29]⟩,
  ⟨3, q1 22 (.ld 21 1 false), [23, 24, 25, 26, 27, 28, 29]⟩,
  ⟨4, q1 23 (.fa 6 1 1), [19, 20, 21, 22, 24, 25, 26, 27, 28, 29]⟩,
  ⟨5, q1 24 (.ld 23 1 false), [19, 20, 21, 22, 25, 26, 27, 28, 29]⟩,
  ⟨6, q1 25 (.cvi .u64 (.t 24)), [19, 20, 21, 22, 26, 27, 28, 29]⟩,
  ⟨7, q1 26 (.bin .shl (.c (.int .i64 1)) (.t 25)), [19, 20, 21, 22, 27, 28, 29]⟩,
  ⟨8, q1 27 (.bin .sub (.t 26) (.c (.int .i64 1))), [19, 20, 21, 22, 28, 29]⟩,
  ⟨9, q1 28 (.call 55 [(.t 22), (.c (.int .i64 0)), (.t 27)]), [29]⟩,
  ⟨10, q1 29 (.nt (.t 28)), []⟩]
  [] [0, 1, 12, 13, 14, 29])
 (.cond (.t 29) (.seq (.reg [q1 4 (.asg (.c (.bool false)))] [4])
 (.ret)) (.skip))))))
 (.reg [q1 30 (.bin .add (.t 14) (.c (.int .i64 1))),q1 14 (.mv (.t 30))] [0, 1, 12, 13, 14]))))))))
 (.seq (.reg [q1 4 (.asg (.c (.bool true)))] [4])
 (.ret))))
theorem con_spec_uWhere {v0 : (List XVariable)} {v1 : (List Int)} {r : Bool} (h : sh_spec_uWhere v0 v1 = some r) : Con Tryz.prog 54 [cc6.enc v0, cc13.enc v1] [] (rs_spec_uWhere r) := by
 delta sh_spec_uWhere at h
 refine top (out := none) (f := Tryz.f54) (m := m54) (rs := [.t 4]) (by kernel_rfl) rfl (by kernel_rfl) (by kernel_rfl) (by kernel_rfl) (by kernel_rfl) (by kernel_rfl) ?_
 exact
  ini [q2 0 cc6 v0, q2 1 cc13 v1] rfl <| wpC_seq <| reg_s <| x_asg (sc cB false rfl) <| sq [q2 0 cc6 v0, q2 1 cc13 v1] <|
  xn <| wpC_seq <| wpC_kp <| wpC_seq <| reg_s <| st rfl <| mvd rfl rfl <| stw rfl <| lens rfl fun l8 => st rfl <| mvd rfl rfl <| stw rfl <| lens rfl fun l9 => st rfl <| b_neq (k := .i64) rfl rfl <| sq [q2 0 cc6 v0, q2 1 cc13 v1, q2 11 cB (decide ((v1.length : Int) ≠ (v0.length : Int)))] <|
  xn <| cnd rfl h (fun b10 h => wpC_seq <| reg_s <| x_asg (sc cB false rfl) <| sq [q2 4 cB false] <|
  xn <| wpC_ret <| rt <| rt <| re <| fin h (r1 (ss rfl rfl) <| r0) rfl)
  (fun b10 h => wpC_skip <| kpN [q2 0 cc6 v0, q2 1 cc13 v1] (by kernel_rfl) <| xn <| wpC_seq <| wpC_kp <| wpC_seq <| reg_s <| st rfl <| mvd rfl rfl <| stw rfl <| lens rfl fun l98 => st rfl <| mvc cI (0 : Int) rfl <| sq [q2 0 cc6 v0, q2 1 cc13 v1, q2 12 cc6 v0, q2 13 cI (v0.length : Int), q2 14 cI (0 : Int)] <|
  xn <| wpC_blk <| lpR (fun (k100 : Nat) (s99 : Unit) => [q2 0 cc6 v0, q2 1 cc13 v1, q2 12 cc6 v0, q2 13 cI (v0.length : Int), q2 14 cI (k100 : Int)]) () rfl h
  (fun G144 s99 h => wpC_seq <| reg_s <| st rfl <| b_lss (k := .i64) rfl rfl <| sq [q2 0 cc6 v0, q2 1 cc13 v1, q2 12 cc6 v0, q2 13 cI (v0.length : Int), q2 14 cI (v0.length : Int), q2 15 cB (decide ((v0.length : Int) < (v0.length : Int)))] <|
  xn <| wpC_seq <| wpC_kp <| cnd0 rfl (dlf _) <| wpC_exit <| xt <| xt <| xt <| xb <| kpN [] (by kernel_rfl) <| xn <| wpC_seq <| reg_s <| x_asg (sc cB true rfl) <| sq [q2 4 cB true] <|
  xn <| wpC_ret <| re <| fin h (r1 (ss rfl rfl) <| r0) rfl)
  (fun G144 nx142 k100 s99 x101 hk102 hx103 hn143 h => wpC_seq <| reg_s <| st rfl <| b_lss (k := .i64) rfl rfl <| sq [q2 0 cc6 v0, q2 1 cc13 v1, q2 12 cc6 v0, q2 13 cI (v0.length : Int), q2 14 cI (k100 : Int), q2 15 cB (decide ((k100 : Int) < (v0.length : Int)))] <|
  xn <| wpC_seq <| wpC_kp <| cnd1 rfl (dlt hk102) <| wpC_skip <| kpN [q2 0 cc6 v0, q2 1 cc13 v1, q2 12 cc6 v0, q2 13 cI (v0.length : Int), q2 14 cI (k100 : Int)] (by kernel_rfl) <| xn <| wpC_seq <| wpC_kp <| wpC_blk <| wpC_seq <| reg_s <| st rfl <| mvd rfl rfl <| st rfl <| ias rfl rfl (Int.natCast_nonneg _) hx103 rfl <| st rfl <| ldi rfl rfl rfl rfl <| x_all cc11 (⟨([] : List UInt8), (0 : Int)⟩ : XVariable) rfl <| x_asg (ss rfl rfl) <| x_stb (ss rfl rfl) rfl (Cd.h_sz _ _) rfl <| sq [q2 0 cc6 v0, q2 1 cc13 v1, q2 5 cI (k100 : Int), q3 6 cc11 x101, q2 12 cc6 v0, q2 13 cI (v0.length : Int), q2 14 cI (k100 : Int)] <|
  xn <| wpC_seq <| drw_s <| pst rfl <| mvd rfl rfl ⟨rfl, pst rfl <| mvd rfl rfl ⟨rfl, getO_kp h fun x173 i174 g175 h => pst rfl <| ias rfl rfl i174 g175 rfl ⟨rfl, pst rfl <| ldi rfl rfl rfl rfl ⟨rfl, pst rfl <| fab rfl rfl rfl rfl ⟨rfl, pst rfl <| lda rfl rfl rfl rfl rfl rfl ⟨rfl, ckK_kp h fun i176 h => pst rfl <| o_cvi (k := .i64) (k' := .u64) rfl i176 ⟨rfl, ck_kp h fun i177 h => ckI_kp h fun i178 h => pst rfl <| b_shl (k := .i64) (k' := .u64) rfl rfl i177 rfl i178 ⟨rfl, ckI_kp h fun i179 h => pst rfl <| b_sub (k := .i64) rfl rfl i179 ⟨rfl, bndp h fun x180 e181 h => pst rfl <| o_call (a1 (c := cI) tK rfl (a1 (c := cI) tK rfl (a1 (c := cI) tK rfl a0))) (con_spec_l1In e181) (.inl (so1 sB so0)) ⟨rfl, pst rfl <| o_nt rfl ⟨rfl, preN <| sq [q2 0 cc6 v0, q2 1 cc13 v1, q2 12 cc6 v0, q2 13 cI (v0.length : Int), q2 14 cI (k100 : Int), q2 29 cB (!x180)] <|
  xn <| cnd rfl h (fun b182 h => wpC_seq <| reg_s <| x_asg (sc cB false rfl) <| sq [q2 4 cB false] <|
  xn <| wpC_ret <| rb <| rt <| rt <| rt <| rb <| rt <| rt <| re <| fin h (r1 (ss rfl rfl) <| r0) rfl)
  (fun b182 h => wpC_skip <| xbb <| kpN [q2 0 cc6 v0, q2 1 cc13 v1, q2 12 cc6 v0, q2 13 cI (v0.length : Int), q2 14 cI (k100 : Int)] (by kernel_rfl) <| xn <| reg_s <| st rfl <| b_inc rfl rfl l98 hk102 <| st rfl <| mvd rfl rfl <| sq [q2 0 cc6 v0, q2 1 cc13 v1, q2 12 cc6 v0, q2 13 cI (v0.length : Int), q2 14 cI ((k100 + 1 : Nat) : Int)] <|
  xn <| hn143 () h)⟩⟩⟩⟩⟩⟩⟩⟩⟩⟩⟩))

def rs_spec_sPart (r : (List XVariable)) : List D := [cc9.enc r]
def m62 : MC := .seq (.reg [q1 4 (.asg (.c (.slice true [])))] [0, 1])
 (.seq (.reg [q1 5 (.asg (.c (.slice true [])))] [0, 1, 5])
 (.seq (.kp [5] (.seq (.reg [q1 8 (.mv (.t 1)),q1 9 (.len false (.t 8)),q1 10 (.mv (.c (.int .i64 0)))] [0, 1, 5, 8, 9, 10])
 (.blk 0 (.loop (.seq (.reg [q1 11 (.bin .lss (.t 10) (.t 9))] [0, 1, 5, 8, 9, 10, 11])
 (.seq (.kp [0, 1, 5, 8, 9, 10] (.cond (.t 11) (.skip) (.exit 0)))
 (.seq (.kp [0, 1, 5, 8, 9, 10] (.blk 1 (.seq (.reg [q1 12 (.ia 8 (.t 10) 1),q1 13 (.ld 12 1 false),q1 7 (.asg (.t 13))] [0, 1, 5, 7, 8, 9, 10])
 (.reg [q1 14 (.mv (.t 5)),q1 15 (.mv (.t 0)),q1 16 (.mv (.t 7)),q1 17 (.ia 15 (.t 16) 2),q1 18 (.ld 17 2 true),q1 19 (.bsl [(.t 18)] 2),q1 20 (.app (.t 14) (.t 19) 2),q1 5 (.asg (.t 20))] [0, 1, 5, 8, 9, 10]))))
 (.reg [q1 21 (.bin .add (.t 10) (.c (.int .i64 1))),q1 10 (.mv (.t 21))] [0, 1, 5, 8, 9, 10]))))))))
 (.seq (.reg [q1 22 (.mv (.t 5)),q1 4 (.asg (.t 22))] [4])
 (.ret))))
theorem con_spec_sPart {v0 : (List XVariable)} {v1 : (List Int)} {r : (List XVariable)} (h : sh_spec_sPart v0 v1 = some r) : Con Tryz.prog 62 [cc6.enc v0, cc13.enc v1] [] (rs_spec_sPart r) := by
 delta sh_spec_sPart at h
 refine top (out := none) (f := Tryz.f62) (m := m62) (rs := [.t 4]) (by kernel_rfl) rfl (by kernel_rfl) (by kernel_rfl) (by kernel_rfl) (by kernel_rfl) (by kernel_rfl) ?_
 exact
  ini [q2 0 cc6 v0, q2 1 cc13 v1] rfl <| wpC_seq <| reg_s <| x_asg (sc cc9 ([] : List XVariable) rfl) <| sq [q2 0 cc6 v0, q2 1 cc13 v1] <|
  xn <| wpC_seq <| reg_s <| x_asg (sc cc9 ([] : List XVariable) rfl) <| sq [q2 0 cc6 v0, q2 1 cc13 v1, q2 5 cc9 ([] : List XVariable)] <|
  xn <| wpC_seq <| wpC_kp <| wpC_seq <| reg_s <| st rfl <| mvd rfl rfl <| stw rfl <| lens rfl fun l36 => st rfl <| mvc cI (0 : Int) rfl <| sq [q2 0 cc6 v0, q2 1 cc13 v1, q2 5 cc9 ([] : List XVariable), q2 8 cc13 v1, q2 9 cI (v1.length : Int), q2 10 cI (0 : Int)] <|
  xn <| wpC_blk <| lpR (fun (k38 : Nat) (s37 : (List XVariable)) => [q2 0 cc6 v0, q2 1 cc13 v1, q2 5 cc9 s37, q2 8 cc13 v1, q2 9 cI (v1.length : Int), q2 10 cI (k38 : Int)]) ([] : List XVariable) rfl h
  (fun G60 s37 h => wpC_seq <| reg_s <| st rfl <| b_lss (k := .i64) rfl rfl <| sq [q2 0 cc6 v0, q2 1 cc13 v1, q2 5 cc9 s37, q2 8 cc13 v1, q2 9 cI (v1.length : Int), q2 10 cI (v1.length : Int), q2 11 cB (decide ((v1.length : Int) < (v1.length : Int)))] <|
  xn <| wpC_seq <| wpC_kp <| cnd0 rfl (dlf _) <| wpC_exit <| xt <| xt <| xt <| xb <| kpN [q2 5 cc9 s37] (by kernel_rfl) <| xn <| wpC_seq <| reg_s <| st rfl <| mvo rfl rfl <| x_asg (sr rfl rfl) <| sq [q2 4 cc9 s37] <|
  xn <| wpC_ret <| re <| fin h (r1 (so rfl rfl) <| r0) rfl)
  (fun G60 nx58 k38 s37 x39 hk40 hx41 hn59 h => wpC_seq <| reg_s <| st rfl <| b_lss (k := .i64) rfl rfl <| sq [q2 0 cc6 v0, q2 1 cc13 v1, q2 5 cc9 s37, q2 8 cc13 v1, q2 9 cI (v1.length : Int), q2 10 cI (k38 : Int), q2 11 cB (decide ((k38 : Int) < (v1.length : Int)))] <|
  xn <| wpC_seq <| wpC_kp <| cnd1 rfl (dlt hk40) <| wpC_skip <| kpN [q2 0 cc6 v0, q2 1 cc13 v1, q2 5 cc9 s37, q2 8 cc13 v1, q2 9 cI (v1.length : Int), q2 10 cI (k38 : Int)] (by kernel_rfl) <| xn <| wpC_seq <| wpC_kp <| wpC_blk <| wpC_seq <| reg_s <| st rfl <| ias rfl rfl (Int.natCast_nonneg _) hx41 rfl <| st rfl <| ldi rfl rfl rfl rfl <| x_asg (ss rfl rfl) <| sq [q2 0 cc6 v0, q2 1 cc13 v1, q2 5 cc9 s37, q2 7 cI x39, q2 8 cc13 v1, q2 9 cI (v1.length : Int), q2 10 cI (k38 : Int)] <|
  xn <| reg_s <| st rfl <| mvo rfl rfl <| st rfl <| mvd rfl rfl <| st rfl <| mvd rfl rfl <| getO_k h fun x65 i66 g67 h => st rfl <| ias rfl rfl i66 g67 rfl <| st rfl <| ldi rfl rfl rfl rfl <| x_bsl cc11 [x65] (t1 (ss rfl rfl) rfl t0) rfl rfl <| lnO_k h fun l68 h => x_app (sr rfl rfl) (to rfl rfl) l68 rfl <| x_asg (so rfl rfl) <| sq [q2 0 cc6 v0, q2 1 cc13 v1, q2 5 cc9 (s37 ++ [x65]), q2 8 cc13 v1, q2 9 cI (v1.length : Int), q2 10 cI (k38 : Int)] <|
  xbb <| kpN [q2 0 cc6 v0, q2 1 cc13 v1, q2 5 cc9 (s37 ++ [x65]), q2 8 cc13 v1, q2 9 cI (v1.length : Int), q2 10 cI (k38 : Int)] (by kernel_rfl) <| xn <| reg_s <| st rfl <| b_inc rfl rfl l36 hk40 <| st rfl <| mvd rfl rfl <| sq [q2 0 cc6 v0, q2 1 cc13 v1, q2 5 cc9 (s37 ++ [x65]), q2 8 cc13 v1, q2 9 cI (v1.length : Int), q2 10 cI ((k38 + 1 : Nat) : Int)] <|
  xn <| hn59 (s37 ++ [x65]) h)

def rs_spec_sCount (r : Int) : List D := [cI.enc r]
def m83 : MC := .seq (.reg [q1 2 (.asg (.c (.int .i64 0)))] [0])
 (.seq (.reg [q1 3 (.asg (.c (.int .i64 1)))] [0, 3])
 (.seq (.kp [3] (.seq (.reg [q1 6 (.mv (.t 0)),q1 7 (.len false (.t 6)),q1 8 (.mv (.c (.int .i64 0)))] [0, 3, 6, 7, 8])
 (.blk 0 (.loop (.seq (.reg [q1 9 (.bin .lss (.t 8) (.t 7))] [0, 3, 6, 7, 8, 9])
 (.seq (.kp [0, 3, 6, 7, 8] (.cond (.t 9) (.skip) (.exit 0)))
 (.seq (.kp [0, 3, 6, 7, 8] (.blk 1 (.seq (.reg [q1 10 (.ia 6 (.t 8) 2),q1 11 (.ld 10 2 true),q1 5 (.alloc (.agg [.str [], .int .i64 0])),q0 (.st 5 (.t 11) 2)] [0, 3, 5, 6, 7, 8])
 (.reg [q1 12 (.mv (.t 3)),q1 13 (.fa 5 1 1),q1 14 (.ld 13 1 false),q1 15 (.bin .mul (.t 12) (.t 14)),q1 3 (.asg (.t 15))] [0, 3, 6, 7, 8]))))
 (.reg [q1 16 (.bin .add (.t 8) (.c (.int .i64 1))),q1 8 (.mv (.t 16))] [0, 3, 6, 7, 8]))))))))
 (.seq (.reg [q1 17 (.mv (.t 3)),q1 2 (.asg (.t 17))] [2])
 (.ret))))
theorem con_spec_sCount {v0 : (List XVariable)} {r : Int} (h : sh_spec_sCount v0 = some r) : Con Tryz.prog 83 [cc6.enc v0] [] (rs_spec_sCount r) := by
 delta sh_spec_sCount at h
 refine top (out := none) (f := Tryz.f83) (m := m83) (rs := [.t 2]) (by kernel_rfl) rfl (by kernel_rfl) (by kernel_rfl) (by kernel_rfl) (by kernel_rfl) (by kernel_rfl) ?_
 exact
  ini [q2 0 cc6 v0] rfl <| wpC_seq <| reg_s <| x_asg (sc cI (0 : Int) rfl) <| sq [q2 0 cc6 v0] <|
  xn <| wpC_seq <| reg_s <| x_asg (sc cI (1 : Int) rfl) <| sq [q2 0 cc6 v0, q2 3 cI (1 : Int)] <|
  xn <| wpC_seq <| wpC_kp <| wpC_seq <| reg_s <| st rfl <| mvd rfl rfl <| stw rfl <| lens rfl fun l18 => st rfl <| mvc cI (0 : Int) rfl <| sq [q2 0 cc6 v0, q2 3 cI (1 : Int), q2 6 cc6 v0, q2 7 cI (v0.length : Int), q2 8 cI (0 : Int)] <|
  xn <| wpC_blk <| lpR (fun (k20 : Nat) (s19 : Int) => [q2 0 cc6 v0, q2 3 cI s19, q2 6 cc6 v0, q2 7 cI (v0.length : Int), q2 8 cI (k20 : Int)]) (1 : Int) rfl h
  (fun G30 s19 h => wpC_seq <| reg_s <| st rfl <| b_lss (k := .i64) rfl rfl <| sq [q2 0 cc6 v0, q2 3 cI s19, q2 6 cc6 v0, q2 7 cI (v0.length : Int), q2 8 cI (v0.length : Int), q2 9 cB (decide ((v0.length : Int) < (v0.length : Int)))] <|
  xn <| wpC_seq <| wpC_kp <| cnd0 rfl (dlf _) <| wpC_exit <| xt <| xt <| xt <| xb <| kpN [q2 3 cI s19] (by kernel_rfl) <| xn <| wpC_seq <| reg_s <| st rfl <| mvd rfl rfl <| x_asg (ss rfl rfl) <| sq [q2 2 cI s19] <|
  xn <| wpC_ret <| re <| fin h (r1 (ss rfl rfl) <| r0) rfl)
  (fun G30 nx28 k20 s19 x21 hk22 hx23 hn29 h => wpC_seq <| reg_s <| st rfl <| b_lss (k := .i64) rfl rfl <| sq [q2 0 cc6 v0, q2 3 cI s19, q2 6 cc6 v0, q2 7 cI (v0.length : Int), q2 8 cI (k20 : Int), q2 9 cB (decide ((k20 : Int) < (v0.length : Int)))] <|
  xn <| wpC_seq <| wpC_kp <| cnd1 rfl (dlt hk22) <| wpC_skip <| kpN [q2 0 cc6 v0, q2 3 cI s19, q2 6 cc6 v0, q2 7 cI (v0.length : Int), q2 8 cI (k20 : Int)] (by kernel_rfl) <| xn <| wpC_seq <| wpC_kp <| wpC_blk <| wpC_seq <| reg_s <| st rfl <| ias rfl rfl (Int.natCast_nonneg _) hx23 rfl <| st rfl <| ldi rfl rfl rfl rfl <| x_all cc11 (⟨([] : List UInt8), (0 : Int)⟩ : XVariable) rfl <| x_stb (ss rfl rfl) rfl (Cd.h_sz _ _) rfl <| sq [q2 0 cc6 v0, q2 3 cI s19, q3 5 cc11 x21, q2 6 cc6 v0, q2 7 cI (v0.length : Int), q2 8 cI (k20 : Int)] <|
  xn <| reg_s <| st rfl <| mvd rfl rfl <| st rfl <| fab rfl rfl rfl rfl <| st rfl <| lda rfl rfl rfl rfl rfl rfl <| ckI_k h fun i32 h => st rfl <| b_mul (k := .i64) rfl rfl i32 <| x_asg (ss rfl rfl) <| sq [q2 0 cc6 v0, q2 3 cI (s19 * x21.Levels), q2 6 cc6 v0, q2 7 cI (v0.length : Int), q2 8 cI (k20 : Int)] <|
  xbb <| kpN [q2 0 cc6 v0, q2 3 cI (s19 * x21.Levels), q2 6 cc6 v0, q2 7 cI (v0.length : Int), q2 8 cI (k20 : Int)] (by kernel_rfl) <| xn <| reg_s <| st rfl <| b_inc rfl rfl l18 hk22 <| st rfl <| mvd rfl rfl <| sq [q2 0 cc6 v0, q2 3 cI (s19 * x21.Levels), q2 6 cc6 v0, q2 7 cI (v0.length : Int), q2 8 cI ((k20 + 1 : Nat) : Int)] <|
  xn <| hn29 (s19 * x21.Levels) h)

def rs_spec_uCount (r : Int) : List D := [cI.enc r]
def m56 : MC := .seq (.reg [q1 3 (.box (.t 0)),q1 5 (.box (.t 2)),q1 6 (.asg (.c (.int .i64 0)))] [1, 3, 5])
 (.seq (.drw [⟨0, q1 7 (.ld 3 1 true), [8, 9, 10, 11, 12, 13, 14, 15, 16, 17]⟩,
  ⟨1, q1 8 (.fa 5 0 0), [7, 9, 10, 11, 12, 13, 14, 15, 16, 17]⟩,
  ⟨2, q1 9 (.ld 8 1 false), [7, 10, 11, 12, 13, 14, 15, 16, 17]⟩,
  ⟨3, q1 10 (.call 52 [(.t 7), (.t 9)]), [11, 12, 13, 14, 15, 16, 17]⟩,
  ⟨4, q1 11 (.len false (.t 10)), [12, 13, 14, 15, 16, 17]⟩,
  ⟨5, q1 12 (.mv (.t 1)), [7, 8, 9, 10, 11, 13, 14, 15, 16, 17]⟩,
  ⟨6, q1 13 (.fa 5 1 1), [7, 8, 9, 10, 11, 12, 14, 15, 16, 17]⟩,
  ⟨7, q1 14 (.ld 13 1 false), [7, 8, 9, 10, 11, 12, 15, 16, 17]⟩,
  ⟨8, q1 15 (.call 62 [(.t 12), (.t 14)]), [11, 16, 17]⟩,
  ⟨9, q1 16 (.call 83 [(.t 15)]), [11, 17]⟩,
  ⟨10, q1 17 (.bin .mul (.t 11) (.t 16)), []⟩]
  [(11, q1 6 (.asg (.t 17)))] [6])
 (.ret))
theorem con_spec_uCount {v0 : XGeo} {v1 : (List XVariable)} {v2 : XTable} {r : Int} (h : sh_spec_uCount v0 v1 v2 = some r) : Con Tryz.prog 56 [cc10.enc v0, cc6.enc v1, cc0.enc v2] [] (rs_spec_uCount r) := by
 delta sh_spec_uCount at h
 refine top (out := none) (f := Tryz.f56) (m := m56) (rs := [.t 6]) (by kernel_rfl) rfl (by kernel_rfl) (by kernel_rfl) (by kernel_rfl) (by kernel_rfl) (by kernel_rfl) ?_
 exact
  ini [q2 0 cc10 v0, q2 1 cc6 v1, q2 2 cc0 v2] rfl <| wpC_seq <| reg_s <| x_box (ss rfl rfl) <| x_box (ss rfl rfl) <| x_asg (sc cI (0 : Int) rfl) <| sq [q2 1 cc6 v1, q3 3 cc10 v0, q3 5 cc0 v2] <|
  xn <| wpC_seq <| drw_s <| pst rfl <| ldb rfl rfl rfl rfl ⟨rfl, pst rfl <| fab rfl rfl rfl rfl ⟨rfl, pst rfl <| lda rfl rfl rfl rfl rfl rfl ⟨rfl, bndp h fun x9 e10 h => pst rfl <| o_call (a1 (c := cc10) (tXGeo (tLs tK)) rfl (a1 (c := cI) tK rfl a0)) (con_spec_gLevel e10) (.inl (so1 (sLo sK) so0)) ⟨rfl, lmO_kp h fun l11 h => pst rfl <| plno rfl l11 ⟨rfl, pst rfl <| mvd rfl rfl ⟨rfl, pst rfl <| fab rfl rfl rfl rfl ⟨rfl, pst rfl <| lda rfl rfl rfl rfl rfl rfl ⟨rfl, bndp h fun x12 e13 h => pst rfl <| o_call (a1 (c := cc6) (tLs (tXVariable tS tK)) rfl (a1 (c := cc13) (tLs tK) rfl a0)) (con_spec_sPart e13) (.inl (so1 (sLo (sXVariable sS sK)) so0)) ⟨rfl, bndp h fun x14 e15 h => pst rfl <| o_call (a1 (c := cc9) (tLo (tXVariable tS tK)) rfl a0) (con_spec_sCount e15) (.inl (so1 sK so0)) ⟨rfl, ckI_kp h fun i16 h => pst rfl <| b_mul (k := .i64) rfl rfl i16 ⟨rfl, preN <| x_asg (ss rfl rfl) <| sq [q2 6 cI ((x9.length : Int) * x14)] <|
  xn <| wpC_ret <| re <| fin h (r1 (ss rfl rfl) <| r0) rfl⟩⟩⟩⟩⟩⟩⟩⟩⟩⟩⟩

def rs_spec_uGood (r : Bool) : List D := [cB.enc r]
def m28 : MC := .seq (.reg [q1 3 (.box (.t 0)),q1 5 (.box (.t 2)),q1 6 (.asg (.c (.bool false)))] [1, 3, 5])
 (.seq (.kp [1, 3, 5] (.seq (.reg [q1 7 (.ld 3 1 true),q1 8 (.call 50 [(.t 7)]),q1 9 (.nt (.t 8)),q1 10 (.mv (.t 9)),
  ⟨some 11, .mv (.t 1), some (10, false)⟩,
  ⟨some 12, .call 51 [(.t 11)], some (10, false)⟩,
  ⟨some 13, .nt (.t 12), some (10, false)⟩,q1 14 (.pick (.t 10) (.c (.bool true)) (.t 13)),q1 15 (.mv (.t 14)),
  ⟨some 16, .ld 3 1 true, some (15, false)⟩,
  ⟨some 17, .fa 5 0 0, some (15, false)⟩,
  ⟨some 18, .ld 17 1 false, some (15, false)⟩,
  ⟨some 19, .call 52 [(.t 16), (.t 18)], some (15, false)⟩,
  ⟨some 20, .len false (.t 19), some (15, false)⟩,
  ⟨some 21, .bin .eql (.t 20) (.c (.int .i64 0)), some (15, false)⟩,q1 22 (.pick (.t 15) (.c (.bool true)) (.t 21)),q1 23 (.mv (.t 22)),
  ⟨some 24, .fa 5 1 1, some (23, false)⟩,
  ⟨some 25, .ld 24 1 false, some (23, false)⟩,
  ⟨some 26, .mv (.t 1), some (23, false)⟩,
  ⟨some 27, .len false (.t 26), some (23, false)⟩,
  ⟨some 28, .bin .sub (.t 27) (.c (.int .i64 1)), some (23, false)⟩,
  ⟨some 29, .call 53 [(.t 25), (.c (.int .i64 0)), (.t 28)], some (23, false)⟩,
  ⟨some 30, .nt (.t 29), some (23, false)⟩,q1 31 (.pick (.t 23) (.c (.bool true)) (.t 30)),q1 32 (.mv (.t 31)),
  ⟨some 33, .mv (.t 1), some (32, false)⟩,
  ⟨some 34, .fa 5 2 2, some (32, false)⟩,
  ⟨some 35, .ld 34 1 false, some (32, false)⟩,
  ⟨some 36, .call 54 [(.t 33), (.t 35)], some (32, false)⟩,
  ⟨some 37, .nt (.t 36), some (32, false)⟩,q1 38 (.pick (.t 32) (.c (.bool true)) (.t 37)),q1 39 (.mv (.t 38)),
  ⟨some 40, .fa 5 3 3, some (39, false)⟩,
  ⟨some 41, .ld 40 1 false, some (39, false)⟩,
  ⟨some 42, .mv (.t 1), some (39, false)⟩,
  ⟨some 43, .len false (.t 42), some (39, false)⟩,
  ⟨some 44, .bin .sub (.t 43) (.c (.int .i64 1)), some (39, false)⟩,
  ⟨some 45, .call 55 [(.t 41), (.c (.int .i64 (-1))), (.t 44)], some (39, false)⟩,
  ⟨some 46, .nt (.t 45), some (39, false)⟩,q1 47 (.pick (.t 39) (.c (.bool true)) (.t 46))] [1, 3, 5, 47])
 (.cond (.t 47) (.seq (.reg [q1 6 (.asg (.c (.bool false)))] [6])
 (.ret)) (.skip))))
 (.seq (.reg [q1 48 (.ld 3 1 true),q1 49 (.mv (.t 1)),q1 50 (.ld 5 4 true),q1 51 (.call 56 [(.t 48), (.t 49), (.t 50)]),q1 52 (.bin .leq (.t 51) (.c (.int .i64 600))),q1 6 (.asg (.t 52))] [6])
 (.ret)))
theorem con_spec_uGood {v0 : XGeo} {v1 : (List XVariable)} {v2 : XTable} {r : Bool} (h : sh_spec_uGood v0 v1 v2 = some r) : Con Tryz.prog 28 [cc10.enc v0, cc6.enc v1, cc0.enc v2] [] (rs_spec_uGood r) := by
 delta sh_spec_uGood at h
 refine top (out := none) (f := Tryz.f28) (m := m28) (rs := [.t 6]) (by kernel_rfl) rfl (by kernel_rfl) (by kernel_rfl) (by kernel_rfl) (by kernel_rfl) (by kernel_rfl) ?_
 exact
  ini [q2 0 cc10 v0, q2 1 cc6 v1, q2 2 cc0 v2] rfl <| wpC_seq <| reg_s <| x_box (ss rfl rfl) <| x_box (ss rfl rfl) <| x_asg (sc cB false rfl) <| sq [q2 1 cc6 v1, q3 3 cc10 v0, q3 5 cc0 v2] <|
  xn <| wpC_seq <| wpC_kp <| wpC_seq <| jw (fun (s70 : Bool) => [q2 1 cc6 v1, q3 3 cc10 v0, q3 5 cc0 v2, q2 47 cB s70]) h (fun s70 h => xn <| cnd rfl h (fun b72 h => wpC_seq <| reg_s <| x_asg (sc cB false rfl) <| sq [q2 6 cB false] <|
  xn <| wpC_ret <| rt <| rt <| re <| fin h (r1 (ss rfl rfl) <| r0) rfl)
  (fun b72 h => wpC_skip <| kpN [q2 1 cc6 v1, q3 3 cc10 v0, q3 5 cc0 v2] (by kernel_rfl) <| xn <| wpC_seq <| reg_s <| st rfl <| ldb rfl rfl rfl rfl <| st rfl <| mvd rfl rfl <| st rfl <| ldb rfl rfl rfl rfl <| bnd h fun x75 e76 h => st rfl <| o_call (a1 (c := cc10) (tXGeo (tLs tK)) rfl (a1 (c := cc6) (tLs (tXVariable tS tK)) rfl (a1 (c := cc0) (tXTable tK (tLs tK) (tLs tK) tK) rfl a0))) (con_spec_uCount e76) (.inl (so1 sK so0)) <| st rfl <| b_leq (k := .i64) rfl rfl <| x_asg (ss rfl rfl) <| sq [q2 6 cB (decide (x75 ≤ (600 : Int)))] <|
  xn <| wpC_ret <| re <| fin h (r1 (ss rfl rfl) <| r0) rfl))
  fun s70' q71 h => reg_s <| st rfl <| ldb rfl rfl rfl rfl <| bnd h fun x77 e78 h => st rfl <| o_call (a1 (c := cc10) (tXGeo (tLs tK)) rfl a0) (con_spec_gGood e78) (.inl (so1 sB so0)) <| st rfl <| o_nt rfl <| st rfl <| mvd rfl rfl <| ite_k h (fun b79 h => gf rfl b79 <| gf rfl b79 <| gf rfl b79 <| st rfl <| pick1 rfl b79 (cd := cB) (v := true) rfl rfl <| st rfl <| mvd rfl rfl <| gf rfl rfl <| gf rfl rfl <| gf rfl rfl <| gf rfl rfl <| gf rfl rfl <| gf rfl rfl <| st rfl <| pick1 rfl rfl (cd := cB) (v := true) rfl rfl <| st rfl <| mvd rfl rfl <| gf rfl rfl <| gf rfl rfl <| gf rfl rfl <| gf rfl rfl <| gf rfl rfl <| gf rfl rfl <| gf rfl rfl <| st rfl <| pick1 rfl rfl (cd := cB) (v := true) rfl rfl <| st rfl <| mvd rfl rfl <| gf rfl rfl <| gf rfl rfl <| gf rfl rfl <| gf rfl rfl <| gf rfl rfl <| st rfl <| pick1 rfl rfl (cd := cB) (v := true) rfl rfl <| st rfl <| mvd rfl rfl <| gf rfl rfl <| gf rfl rfl <| gf rfl rfl <| gf rfl rfl <| gf rfl rfl <| gf rfl rfl <| gf rfl rfl <| st rfl <| pick1 rfl rfl (cd := cB) (v := true) rfl rfl <| sq [q2 1 cc6 v1, q3 3 cc10 v0, q3 5 cc0 v2, q2 47 cB true] <|
  lfn (S := (fun (s70 : Bool) => [q2 1 cc6 v1, q3 3 cc10 v0, q3 5 cc0 v2, q2 47 cB s70])) h q71 rfl)
  (fun b79 h => gt' rfl b79 <| st rfl <| mvd rfl rfl <| gt' rfl b79 <| bnd h fun x80 e81 h => st rfl <| o_call (a1 (c := cc6) (tLs (tXVariable tS tK)) rfl a0) (con_spec_sGood e81) (.inl (so1 sB so0)) <| gt' rfl b79 <| st rfl <| o_nt rfl <| st rfl <| pick0 rfl b79 (cd := cB) (v := (!x80)) rfl rfl <| st rfl <| mvd rfl rfl <| ite_k h (fun b82 h => gf rfl b82 <| gf rfl b82 <| gf rfl b82 <| gf rfl b82 <| gf rfl b82 <| gf rfl b82 <| st rfl <| pick1 rfl b82 (cd := cB) (v := true) rfl rfl <| st rfl <| mvd rfl rfl <| gf rfl rfl <| gf rfl rfl <| gf rfl rfl <| gf rfl rfl <| gf rfl rfl <| gf rfl rfl <| gf rfl rfl <| st rfl <| pick1 rfl rfl (cd := cB) (v := true) rfl rfl <| st rfl <| mvd rfl rfl <| gf rfl rfl <| gf rfl rfl <| gf rfl rfl <| gf rfl rfl <| gf rfl rfl <| st rfl <| pick1 rfl rfl (cd := cB) (v := true) rfl rfl <| st rfl <| mvd rfl rfl <| gf rfl rfl <| gf rfl rfl <| gf rfl rfl <| gf rfl rfl <| gf rfl rfl <| gf rfl rfl <| gf rfl rfl <| st rfl <| pick1 rfl rfl (cd := cB) (v := true) rfl rfl <| sq [q2 1 cc6 v1, q3 3 cc10 v0, q3 5 cc0 v2, q2 47 cB true] <|
  lfn (S := (fun (s70 : Bool) => [q2 1 cc6 v1, q3 3 cc10 v0, q3 5 cc0 v2, q2 47 cB s70])) h q71 rfl)
  (fun b82 h => gt' rfl b82 <| st rfl <| ldb rfl rfl rfl rfl <| gt' rfl b82 <| st rfl <| fab rfl rfl rfl rfl <| gt' rfl b82 <| st rfl <| lda rfl rfl rfl rfl rfl rfl <| gt' rfl b82 <| bnd h fun x83 e84 h => st rfl <| o_call (a1 (c := cc10) (tXGeo (tLs tK)) rfl (a1 (c := cI) tK rfl a0)) (con_spec_gLevel e84) (.inl (so1 (sLo sK) so0)) <| gt' rfl b82 <| stw rfl <| leno rfl fun l85 => gt' rfl b82 <| st rfl <| b_eql (k := .i64) rfl rfl <| st rfl <| pick0 rfl b82 (cd := cB) (v := (decide ((x83.length : Int) = (0 : Int)))) rfl rfl <| st rfl <| mvd rfl rfl <| ite_k h (fun b86 h => gf rfl b86 <| gf rfl b86 <| gf rfl b86 <| gf rfl b86 <| gf rfl b86 <| gf rfl b86 <| gf rfl b86 <| st rfl <| pick1 rfl b86 (cd := cB) (v := true) rfl rfl <| st rfl <| mvd rfl rfl <| gf rfl rfl <| gf rfl rfl <| gf rfl rfl <| gf rfl rfl <| gf rfl rfl <| st rfl <| pick1 rfl rfl (cd := cB) (v := true) rfl rfl <| st rfl <| mvd rfl rfl <| gf rfl rfl <| gf rfl rfl <| gf rfl rfl <| gf rfl rfl <| gf rfl rfl <| gf rfl rfl <| gf rfl rfl <| st rfl <| pick1 rfl rfl (cd := cB) (v := true) rfl rfl <| sq [q2 1 cc6 v1, q3 3 cc10 v0, q3 5 cc0 v2, q2 47 cB true] <|
  lfn (S := (fun (s70 : Bool) => [q2 1 cc6 v1, q3 3 cc10 v0, q3 5 cc0 v2, q2 47 cB s70])) h q71 rfl)
  (fun b86 h => gt' rfl b86 <| st rfl <| fab rfl rfl rfl rfl <| gt' rfl b86 <| st rfl <| lda rfl rfl rfl rfl rfl rfl <| gt' rfl b86 <| st rfl <| mvd rfl rfl <| gt' rfl b86 <| stw rfl <| lens rfl fun l87 => gt' rfl b86 <| ckI_k h fun i88 h => st rfl <| b_sub (k := .i64) rfl rfl i88 <| gt' rfl b86 <| bnd h fun x89 e90 h => st rfl <| o_call (a1 (c := cc13) (tLs tK) rfl (a1 (c := cI) tK rfl (a1 (c := cI) tK rfl a0))) (con_spec_l1Rising e90) (.inl (so1 sB so0)) <| gt' rfl b86 <| st rfl <| o_nt rfl <| st rfl <| pick0 rfl b86 (cd := cB) (v := (!x89)) rfl rfl <| st rfl <| mvd rfl rfl <| ite_k h (fun b91 h => gf rfl b91 <| gf rfl b91 <| gf rfl b91 <| gf rfl b91 <| gf rfl b91 <| st rfl <| pick1 rfl b91 (cd := cB) (v := true) rfl rfl <| st rfl <| mvd rfl rfl <| gf rfl rfl <| gf rfl rfl <| gf rfl rfl <| gf rfl rfl <| gf rfl rfl <| gf rfl rfl <| gf rfl rfl <| st rfl <| pick1 rfl rfl (cd := cB) (v := true) rfl rfl <| sq [q2 1 cc6 v1, q3 3 cc10 v0, q3 5 cc0 v2, q2 47 cB true] <|
  lfn (S := (fun (s70 : Bool) => [q2 1 cc6 v1, q3 3 cc10 v0, q3 5 cc0 v2, q2 47 cB s70])) h q71 rfl)
  (fun b91 h => gt' rfl b91 <| st rfl <| mvd rfl rfl <| gt' rfl b91 <| st rfl <| fab rfl rfl rfl rfl <| gt' rfl b91 <| st rfl <| lda rfl rfl rfl rfl rfl rfl <| gt' rfl b91 <| bnd h fun x92 e93 h => st rfl <| o_call (a1 (c := cc6) (tLs (tXVariable tS tK)) rfl (a1 (c := cc13) (tLs tK) rfl a0)) (con_spec_uWhere e93) (.inl (so1 sB so0)) <| gt' rfl b91 <| st rfl <| o_nt rfl <| st rfl <| pick0 rfl b91 (cd := cB) (v := (!x92)) rfl rfl <| st rfl <| mvd rfl rfl <| ite_k h (fun b94 h => gf rfl b94 <| gf rfl b94 <| gf rfl b94 <| gf rfl b94 <| gf rfl b94 <| gf rfl b94 <| gf rfl b94 <| st rfl <| pick1 rfl b94 (cd := cB) (v := true) rfl rfl <| sq [q2 1 cc6 v1, q3 3 cc10 v0, q3 5 cc0 v2, q2 47 cB true] <|
  lfn (S := (fun (s70 : Bool) => [q2 1 cc6 v1, q3 3 cc10 v0, q3 5 cc0 v2, q2 47 cB s70])) h q71 rfl)
  (fun b94 h => gt' rfl b94 <| st rfl <| fab rfl rfl rfl rfl <| gt' rfl b94 <| st rfl <| lda rfl rfl rfl rfl rfl rfl <| gt' rfl b94 <| st rfl <| mvd rfl rfl <| gt' rfl b94 <| stw rfl <| lens rfl fun l95 => gt' rfl b94 <| ckI_k h fun i96 h => st rfl <| b_sub (k := .i64) rfl rfl i96 <| gt' rfl b94 <| bnd h fun x97 e98 h => st rfl <| o_call (a1 (c := cI) tK rfl (a1 (c := cI) tK rfl (a1 (c := cI) tK rfl a0))) (con_spec_l1In e98) (.inl (so1 sB so0)) <| gt' rfl b94 <| st rfl <| o_nt rfl <| st rfl <| pick0 rfl b94 (cd := cB) (v := (!x97)) rfl rfl <| sq [q2 1 cc6 v1, q3 3 cc10 v0, q3 5 cc0 v2, q2 47 cB (!x97)] <|
  lfn (S := (fun (s70 : Bool) => [q2 1 cc6 v1, q3 3 cc10 v0, q3 5 cc0 v2, q2 47 cB s70])) h q71 rfl)))))

def rs_spec_sFits (r : Bool) : List D := [cB.enc r]
def m114 : MC := .seq (.reg [q1 4 (.asg (.c (.bool false)))] [0, 1])
 (.seq (.kp [0, 1] (.seq (.reg [q1 7 (.mv (.t 1)),q1 8 (.len false (.t 7)),q1 9 (.mv (.t 0)),q1 10 (.len false (.t 9)),q1 11 (.bin .neq (.t 8) (.t 10))] [0, 1, 11])
 (.cond (.t 11) (.seq (.reg [q1 4 (.asg (.c (.bool false)))] [4])
 (.ret)) (.skip))))
 (.seq (.kp [] (.seq (.reg [q1 12 (.mv (.t 0)),q1 13 (.len false (.t 12)),q1 14 (.mv (.c (.int .i64 0)))] [0, 1, 12, 13, 14])
 (.blk 0 (.loop (.seq (.reg [q1 15 (.bin .lss (.t 14) (.t 13))] [0, 1, 12, 13, 14, 15])
 (.seq (.kp [0, 1, 12, 13, 14] (.cond (.t 15) (.skip) (.exit 0)))
 (.seq (.kp [0, 1, 12, 13, 14] (.blk 1 (.seq (.reg [q1 16 (.mv (.t 14)),q1 17 (.ia 12 (.t 14) 2),q1 18 (.ld 17 2 true),q1 6 (.alloc (.agg [.str [], .int .i64 0])),q1 5 (.asg (.t 16)),q0 (.st 6 (.t 18) 2)] [0, 1, 5, 6, 12, 13, 14])
 (.seq (.drw [⟨0, q1 19 (.mv (.t 1)), [20, 21, 22, 23, 24, 25, 26, 27]⟩,
  ⟨1, q1 20 (.mv (.t 5)), [19, 21, 22, 23, 24, 25, 26, 27]⟩,
  ⟨2, q1 21 (.ia 19 (.t 20) 1), [22, 23, 24, 25, 26, 27]⟩,
  ⟨3, q1 22 (.ld 21 1 false), [23, 24, 25, 26, 27]⟩,
  ⟨4, q1 23 (.fa 6 1 1), [19, 20, 21, 22, 24, 25, 26, 27]⟩,
  ⟨5, q1 24 (.ld 23 1 false), [19, 20, 21, 22, 25, 26, 27]⟩,
  ⟨6, q1 25 (.bin .sub (.t 24) (.c (.int .i64 1))), [19, 20, 21, 22, 26, 27]⟩,
  ⟨7, q1 26 (.call 55 [(.t 22), (.c (.int .i64 0)), (.t 25)]), [27]⟩,
  ⟨8, q1 27 (.nt (.t 26)), []⟩]
  [] [0, 1, 12, 13, 14, 27])
 (.cond (.t 27) (.seq (.reg [q1 4 (.asg (.c (.bool false)))] [4])
 (.ret)) (.skip))))))
 (.reg [q1 28 (.bin .add (.t 14) (.c (.int .i64 1))),q1 14 (.mv (.t 28))] [0, 1, 12, 13, 14]))))))))
 (.seq (.reg [q1 4 (.asg (.c (.bool true)))] [4])
 (.ret))))
theorem con_spec_sFits {v0 : (List XVariable)} {v1 : (List Int)} {r : Bool} (h : sh_spec_sFits v0 v1 = some r) : Con Tryz.prog 114 [cc6.enc v0, cc13.enc v1] [] (rs_spec_sFits r) := by
 delta sh_spec_sFits at h
 refine top (out := none) (f := Tryz.f114) (m := m114) (rs := [.t 4]) (by kernel_rfl) rfl (by kernel_rfl) (by kernel_rfl) (by kernel_rfl) (by kernel_rfl) (by kernel_rfl) ?_
 exact
  ini [q2 0 cc6 v0, q2 1 cc13 v1] rfl <| wpC_seq <| reg_s <| x_asg (sc cB false rfl) <| sq [q2 0 cc6 v0, q2 1 cc13 v1] <|
  xn <| wpC_seq <| wpC_kp <| wpC_seq <| reg_s <| st rfl <| mvd rfl rfl <| stw rfl <| lens rfl fun l8 => st rfl <| mvd rfl rfl <| stw rfl <| lens rfl fun l9 => st rfl <| b_neq (k := .i64) rfl rfl <| sq [q2 0 cc6 v0, q2 1 cc13 v1, q2 11 cB (decide ((v1.length : Int) ≠ (v0.length : Int)))] <|
  xn <| cnd rfl h (fun b10 h => wpC_seq <| reg_s <| x_asg (sc cB false rfl) <| sq [q2 4 cB false] <|
  xn <| wpC_ret <| rt <| rt <| re <| fin h (r1 (ss rfl rfl) <| r0) rfl)
  (fun b10 h => wpC_skip <| kpN [q2 0 cc6 v0, q2 1 cc13 v1] (by kernel_rfl) <| xn <| wpC_seq <| wpC_kp <| wpC_seq <| reg_s <| st rfl <| mvd rfl rfl <| stw rfl <| lens rfl fun l74 => st rfl <| mvc cI (0 : Int) rfl <| sq [q2 0 cc6 v0, q2 1 cc13 v1, q2 12 cc6 v0, q2 13 cI (v0.length : Int), q2 14 cI (0 : Int)] <|
  xn <| wpC_blk <| lpR (fun (k76 : Nat) (s75 : Unit) => [q2 0 cc6 v0, q2 1 cc13 v1, q2 12 cc6 v0, q2 13 cI (v0.length : Int), q2 14 cI (k76 : Int)]) () rfl h
  (fun G108 s75 h => wpC_seq <| reg_s <| st rfl <| b_lss (k := .i64) rfl rfl <| sq [q2 0 cc6 v0, q2 1 cc13 v1, q2 12 cc6 v0, q2 13 cI (v0.length : Int), q2 14 cI (v0.length : Int), q2 15 cB (decide ((v0.length : Int) < (v0.length : Int)))] <|
  xn <| wpC_seq <| wpC_kp <| cnd0 rfl (dlf _) <| wpC_exit <| xt <| xt <| xt <| xb <| kpN [] (by kernel_rfl) <| xn <| wpC_seq <| reg_s <| x_asg (sc cB true rfl) <| sq [q2 4 cB true] <|
  xn <| wpC_ret <| re <| fin h (r1 (ss rfl rfl) <| r0) rfl)
  (fun G108 nx106 k76 s75 x77 hk78 hx79 hn107 h => wpC_seq <| reg_s <| st rfl <| b_lss (k := .i64) rfl rfl <| sq [q2 0 cc6 v0, q2 1 cc13 v1, q2 12 cc6 v0, q2 13 cI (v0.length : Int), q2 14 cI (k76 : Int), q2 15 cB (decide ((k76 : Int) < (v0.length : Int)))] <|
  xn <| wpC_seq <| wpC_kp <| cnd1 rfl (dlt hk78) <| wpC_skip <| kpN [q2 0 cc6 v0, q2 1 cc13 v1, q2 12 cc6 v0, q2 13 cI (v0.length : Int), q2 14 cI (k76 : Int)] (by kernel_rfl) <| xn <| wpC_seq <| wpC_kp <| wpC_blk <| wpC_seq <| reg_s <| st rfl <| mvd rfl rfl <| st rfl <| ias rfl rfl (Int.natCast_nonneg _) hx79 rfl <| st rfl <| ldi rfl rfl rfl rfl <| x_all cc11 (⟨([] : List UInt8), (0 : Int)⟩ : XVariable) rfl <| x_asg (ss rfl rfl) <| x_stb (ss rfl rfl) rfl (Cd.h_sz _ _) rfl <| sq [q2 0 cc6 v0, q2 1 cc13 v1, q2 5 cI (k76 : Int), q3 6 cc11 x77, q2 12 cc6 v0, q2 13 cI (v0.length : Int), q2 14 cI (k76 : Int)] <|
  xn <| wpC_seq <| drw_s <| pst rfl <| mvd rfl rfl ⟨rfl, pst rfl <| mvd rfl rfl ⟨rfl, getO_kp h fun x128 i129 g130 h => pst rfl <| ias rfl rfl i129 g130 rfl ⟨rfl, pst rfl <| ldi rfl rfl rfl rfl ⟨rfl, pst rfl <| fab rfl rfl rfl rfl ⟨rfl, pst rfl <| lda rfl rfl rfl rfl rfl rfl ⟨rfl, ckI_kp h fun i131 h => pst rfl <| b_sub (k := .i64) rfl rfl i131 ⟨rfl, bndp h fun x132 e133 h => pst rfl <| o_call (a1 (c := cI) tK rfl (a1 (c := cI) tK rfl (a1 (c := cI) tK rfl a0))) (con_spec_l1In e133) (.inl (so1 sB so0)) ⟨rfl, pst rfl <| o_nt rfl ⟨rfl, preN <| sq [q2 0 cc6 v0, q2 1 cc13 v1, q2 12 cc6 v0, q2 13 cI (v0.length : Int), q2 14 cI (k76 : Int), q2 27 cB (!x132)] <|
  xn <| cnd rfl h (fun b134 h => wpC_seq <| reg_s <| x_asg (sc cB false rfl) <| sq [q2 4 cB false] <|
  xn <| wpC_ret <| rb <| rt <| rt <| rt <| rb <| rt <| rt <| re <| fin h (r1 (ss rfl rfl) <| r0) rfl)
  (fun b134 h => wpC_skip <| xbb <| kpN [q2 0 cc6 v0, q2 1 cc13 v1, q2 12 cc6 v0, q2 13 cI (v0.length : Int), q2 14 cI (k76 : Int)] (by kernel_rfl) <| xn <| reg_s <| st rfl <| b_inc rfl rfl l74 hk78 <| st rfl <| mvd rfl rfl <| sq [q2 0 cc6 v0, q2 1 cc13 v1, q2 12 cc6 v0, q2 13 cI (v0.length : Int), q2 14 cI ((k76 + 1 : Nat) : Int)] <|
  xn <| hn107 () h)⟩⟩⟩⟩⟩⟩⟩⟩⟩))
def rs_spec_rGood (r : Bool) : List D := [cB.enc r]
def m107 : MC := .seq (.reg [q1 3 (.box (.t 1)),q1 4 (.asg (.c (.bool false)))] [0, 3])
 (.seq (.reg [q1 5 (.fa 3 0 0),q1 6 (.ld 5 1 false),q1 7 (.call 55 [(.t 6), (.c (.int .i64 0)), (.c (.int .i64 29))]),q1 8 (.mv (.t 7)),
  ⟨some 9, .fa 3 1 1, some (8, true)⟩,
  ⟨some 10, .ld 9 1 false, some (8, true)⟩,
  ⟨some 11, .call 55 [(.t 10), (.c (.int .i64 0)), (.c (.int .i64 999))], some (8, true)⟩,q1 12 (.pick (.t 8) (.t 11) (.c (.bool false))),q1 13 (.mv (.t 12)),
  ⟨some 14, .mv (.t 0), some (13, true)⟩,
  ⟨some 15, .fa 3 2 2, some (13, true)⟩,
  ⟨some 16, .ld 15 1 false, some (13, true)⟩,
  ⟨some 17, .call 114 [(.t 14), (.t 16)], some (13, true)⟩,q1 18 (.pick (.t 13) (.t 17) (.c (.bool false))),q1 4 (.asg (.t 18))] [4])
 (.ret))
theorem con_spec_rGood {v0 : (List XVariable)} {v1 : XRecord} {r : Bool} (h : sh_spec_rGood v0 v1 = some r) : Con Tryz.prog 107 [cc6.enc v0, cc5.enc v1] [] (rs_spec_rGood r) := by
 delta sh_spec_rGood at h
 refine top (out := none) (f := Tryz.f107) (m := m107) (rs := [.t 4]) (by kernel_rfl) rfl (by kernel_rfl) (by kernel_rfl) (by kernel_rfl) (by kernel_rfl) (by kernel_rfl) ?_
 exact
  ini [q2 0 cc6 v0, q2 1 cc5 v1] rfl <| wpC_seq <| reg_s <| x_box (ss rfl rfl) <| x_asg (sc cB false rfl) <| sq [q2 0 cc6 v0, q3 3 cc5 v1] <|
  xn <| wpC_seq <| reg_s <| st rfl <| fab rfl rfl rfl rfl <| st rfl <| lda rfl rfl rfl rfl rfl rfl <| bnd h fun x9 e10 h => st rfl <| o_call (a1 (c := cI) tK rfl (a1 (c := cI) tK rfl (a1 (c := cI) tK rfl a0))) (con_spec_l1In e10) (.inl (so1 sB so0)) <| st rfl <| mvd rfl rfl <| ite_k h (fun b11 h => gt' rfl b11 <| st rfl <| fab rfl rfl rfl rfl <| gt' rfl b11 <| st rfl <| lda rfl rfl rfl rfl rfl rfl <| gt' rfl b11 <| bnd h fun x12 e13 h => st rfl <| o_call (a1 (c := cI) tK rfl (a1 (c := cI) tK rfl (a1 (c := cI) tK rfl a0))) (con_spec_l1In e13) (.inl (so1 sB so0)) <| st rfl <| pick1 rfl b11 (cd := cB) (v := x12) rfl rfl <| st rfl <| mvd rfl rfl <| ite_k h (fun b14 h => gt' rfl b14 <| st rfl <| mvd rfl rfl <| gt' rfl b14 <| st rfl <| fab rfl rfl rfl rfl <| gt' rfl b14 <| st rfl <| lda rfl rfl rfl rfl rfl rfl <| gt' rfl b14 <| bnd h fun x15 e16 h => st rfl <| o_call (a1 (c := cc6) (tLs (tXVariable tS tK)) rfl (a1 (c := cc13) (tLs tK) rfl a0)) (con_spec_sFits e16) (.inl (so1 sB so0)) <| st rfl <| pick1 rfl b14 (cd := cB) (v := x15) rfl rfl <| x_asg (ss rfl rfl) <| sq [q2 4 cB x15] <|
  xn <| wpC_ret <| re <| fin h (r1 (ss rfl rfl) <| r0) rfl)
  (fun b14 h => gf rfl b14 <| gf rfl b14 <| gf rfl b14 <| gf rfl b14 <| st rfl <| pick0 rfl b14 (cd := cB) (v := false) rfl rfl <| x_asg (ss rfl rfl) <| sq [q2 4 cB false] <|
  xn <| wpC_ret <| re <| fin h (r1 (ss rfl rfl) <| r0) rfl))
  (fun b11 h => gf rfl b11 <| gf rfl b11 <| gf rfl b11 <| st rfl <| pick0 rfl b11 (cd := cB) (v := false) rfl rfl <| st rfl <| mvd rfl rfl <| gf rfl rfl <| gf rfl rfl <| gf rfl rfl <| gf rfl rfl <| st rfl <| pick0 rfl rfl (cd := cB) (v := false) rfl rfl <| x_asg (ss rfl rfl) <| sq [q2 4 cB false] <|
  xn <| wpC_ret <| re <| fin h (r1 (ss rfl rfl) <| r0) rfl)

def rs_spec_dGood (r : Bool) : List D := [cB.enc r]
def m84 : MC := .seq (.reg [q1 4 (.asg (.c (.bool false)))] [0, 1])
 (.seq (.kp [1] (.seq (.reg [q1 7 (.mv (.t 1)),q1 8 (.len false (.t 7)),q1 9 (.mv (.c (.int .i64 0)))] [0, 1, 7, 8, 9])
 (.blk 0 (.loop (.seq (.reg [q1 10 (.bin .lss (.t 9) (.t 8))] [0, 1, 7, 8, 9, 10])
 (.seq (.kp [0, 1, 7, 8, 9] (.cond (.t 10) (.skip) (.exit 0)))
 (.seq (.kp [0, 1, 7, 8, 9] (.blk 1 (.seq (.reg [q1 11 (.ia 7 (.t 9) 3),q1 12 (.ld 11 3 true),q1 6 (.alloc (.agg [.int .i64 0, .int .i64 0, .slice true []])),q0 (.st 6 (.t 12) 3)] [0, 1, 6, 7, 8, 9])
 (.seq (.reg [q1 13 (.mv (.t 0)),q1 14 (.ld 6 3 true),q1 15 (.call 107 [(.t 13), (.t 14)]),q1 16 (.nt (.t 15))] [0, 1, 7, 8, 9, 16])
 (.cond (.t 16) (.seq (.reg [q1 4 (.asg (.c (.bool false)))] [4])
 (.ret)) (.skip))))))
 (.reg [q1 17 (.bin .add (.t 9) (.c (.int .i64 1))),q1 9 (.mv (.t 17))] [0, 1, 7, 8, 9]))))))))
 (.seq (.reg [q1 18 (.mv (.t 1)),q1 19 (.len false (.t 18)),q1 20 (.bin .leq (.t 19) (.c (.int .i64 40))),q1 4 (.asg (.t 20))] [4])
 (.ret)))
theorem con_spec_dGood {v0 : (List XVariable)} {v1 : (List XRecord)} {r : Bool} (h : sh_spec_dGood v0 v1 = some r) : Con Tryz.prog 84 [cc6.enc v0, cc1.enc v1] [] (rs_spec_dGood r) := by
 delta sh_spec_dGood at h
 refine top (out := none) (f := Tryz.f84) (m := m84) (rs := [.t 4]) (by kernel_rfl) rfl (by kernel_rfl) (by kernel_rfl) (by kernel_rfl) (by kernel_rfl) (by kernel_rfl) ?_
 exact
  ini [q2 0 cc6 v0, q2 1 cc1 v1] rfl <| wpC_seq <| reg_s <| x_asg (sc cB false rfl) <| sq [q2 0 cc6 v0, q2 1 cc1 v1] <|
  xn <| wpC_seq <| wpC_kp <| wpC_seq <| reg_s <| st rfl <| mvd rfl rfl <| stw rfl <| lens rfl fun l32 => st rfl <| mvc cI (0 : Int) rfl <| sq [q2 0 cc6 v0, q2 1 cc1 v1, q2 7 cc1 v1, q2 8 cI (v1.length : Int), q2 9 cI (0 : Int)] <|
  xn <| wpC_blk <| lpR (fun (k34 : Nat) (s33 : Unit) => [q2 0 cc6 v0, q2 1 cc1 v1, q2 7 cc1 v1, q2 8 cI (v1.length : Int), q2 9 cI (k34 : Int)]) () rfl h
  (fun G50 s33 h => wpC_seq <| reg_s <| st rfl <| b_lss (k := .i64) rfl rfl <| sq [q2 0 cc6 v0, q2 1 cc1 v1, q2 7 cc1 v1, q2 8 cI (v1.length : Int), q2 9 cI (v1.length : Int), q2 10 cB (decide ((v1.length : Int) < (v1.length : Int)))] <|
  xn <| wpC_seq <| wpC_kp <| cnd0 rfl (dlf _) <| wpC_exit <| xt <| xt <| xt <| xb <| kpN [q2 1 cc1 v1] (by kernel_rfl) <| xn <| wpC_seq <| reg_s <| st rfl <| mvd rfl rfl <| stw rfl <| lens rfl fun l52 => st rfl <| b_leq (k := .i64) rfl rfl <| x_asg (ss rfl rfl) <| sq [q2 4 cB (decide ((v1.length : Int) ≤ (40 : Int)))] <|
  xn <| wpC_ret <| re <| fin h (r1 (ss rfl rfl) <| r0) rfl)
  (fun G50 nx48 k34 s33 x35 hk36 hx37 hn49 h => wpC_seq <| reg_s <| st rfl <| b_lss (k := .i64) rfl rfl <| sq [q2 0 cc6 v0, q2 1 cc1 v1, q2 7 cc1 v1, q2 8 cI (v1.length : Int), q2 9 cI (k34 : Int), q2 10 cB (decide ((k34 : Int) < (v1.length : Int)))] <|
  xn <| wpC_seq <| wpC_kp <| cnd1 rfl (dlt hk36) <| wpC_skip <| kpN [q2 0 cc6 v0, q2 1 cc1 v1, q2 7 cc1 v1, q2 8 cI (v1.length : Int), q2 9 cI (k34 : Int)] (by kernel_rfl) <| xn <| wpC_seq <| wpC_kp <| wpC_blk <| wpC_seq <| reg_s <| st rfl <| ias rfl rfl (Int.natCast_nonneg _) hx37 rfl <| st rfl <| ldi rfl rfl rfl rfl <| x_all cc8 (⟨(0 : Int), (0 : Int), ([] : List Int)⟩ : XRecord) rfl <| x_stb (ss rfl rfl) rfl (Cd.h_sz _ _) rfl <| sq [q2 0 cc6 v0, q2 1 cc1 v1, q3 6 cc5 x35, q2 7 cc1 v1, q2 8 cI (v1.length : Int), q2 9 cI (k34 : Int)] <|
  xn <| wpC_seq <| reg_s <| st rfl <| mvd rfl rfl <| st rfl <| ldb rfl rfl rfl rfl <| bnd h fun x60 e61 h => st rfl <| o_call (a1 (c := cc6) (tLs (tXVariable tS tK)) rfl (a1 (c := cc5) (tXRecord tK tK (tLs tK)) rfl a0)) (con_spec_rGood e61) (.inl (so1 sB so0)) <| st rfl <| o_nt rfl <| sq [q2 0 cc6 v0, q2 1 cc1 v1, q2 7 cc1 v1, q2 8 cI (v1.length : Int), q2 9 cI (k34 : Int), q2 16 cB (!x60)] <|
  xn <| cnd rfl h (fun b62 h => wpC_seq <| reg_s <| x_asg (sc cB false rfl) <| sq [q2 4 cB false] <|
  xn <| wpC_ret <| rb <| rt <| rt <| rt <| rb <| rt <| rt <| re <| fin h (r1 (ss rfl rfl) <| r0) rfl)
  (fun b62 h => wpC_skip <| xbb <| kpN [q2 0 cc6 v0, q2 1 cc1 v1, q2 7 cc1 v1, q2 8 cI (v1.length : Int), q2 9 cI (k34 : Int)] (by kernel_rfl) <| xn <| reg_s <| st rfl <| b_inc rfl rfl l32 hk36 <| st rfl <| mvd rfl rfl <| sq [q2 0 cc6 v0, q2 1 cc1 v1, q2 7 cc1 v1, q2 8 cI (v1.length : Int), q2 9 cI ((k34 + 1 : Nat) : Int)] <|
  xn <| hn49 () h))

def rs_spec_dInput (r : Bool) : List D := [cB.enc r]
def m57 : MC := .seq (.reg [q1 4 (.asg (.c (.bool false)))] [0, 1])
 (.seq (.reg [q1 5 (.mv (.t 0)),q1 6 (.call 51 [(.t 5)]),q1 7 (.mv (.t 6)),
  ⟨some 8, .mv (.t 0), some (7, true)⟩,
  ⟨some 9, .mv (.t 1), some (7, true)⟩,
  ⟨some 10, .call 84 [(.t 8), (.t 9)], some (7, true)⟩,q1 11 (.pick (.t 7) (.t 10) (.c (.bool false))),q1 4 (.asg (.t 11))] [4])
 (.ret))
theorem con_spec_dInput {v0 : (List XVariable)} {v1 : (List XRecord)} {r : Bool} (h : sh_spec_dInput v0 v1 = some r) : Con Tryz.prog 57 [cc6.enc v0, cc1.enc v1] [] (rs_spec_dInput r) := by
 delta sh_spec_dInput at h
 refine top (out := none) (f := Tryz.f57) (m := m57) (rs := [.t 4]) (by kernel_rfl) rfl (by kernel_rfl) (by kernel_rfl) (by kernel_rfl) (by kernel_rfl) (by kernel_rfl) ?_
 exact
  ini [q2 0 cc6 v0, q2 1 cc1 v1] rfl <| wpC_seq <| reg_s <| x_asg (sc cB false rfl) <| sq [q2 0 cc6 v0, q2 1 cc1 v1] <|
  xn <| wpC_seq <| reg_s <| st rfl <| mvd rfl rfl <| bnd h fun x6 e7 h => st rfl <| o_call (a1 (c := cc6) (tLs (tXVariable tS tK)) rfl a0) (con_spec_sGood e7) (.inl (so1 sB so0)) <| st rfl <| mvd rfl rfl <| ite_k h (fun b8 h => gt' rfl b8 <| st rfl <| mvd rfl rfl <| gt' rfl b8 <| st rfl <| mvd rfl rfl <| gt' rfl b8 <| bnd h fun x9 e10 h => st rfl <| o_call (a1 (c := cc6) (tLs (tXVariable tS tK)) rfl (a1 (c := cc1) (tLs (tXRecord tK tK (tLs tK))) rfl a0)) (con_spec_dGood e10) (.inl (so1 sB so0)) <| st rfl <| pick1 rfl b8 (cd := cB) (v := x9) rfl rfl <| x_asg (ss rfl rfl) <| sq [q2 4 cB x9] <|
  xn <| wpC_ret <| re <| fin h (r1 (ss rfl rfl) <| r0) rfl)
  (fun b8 h => gf rfl b8 <| gf rfl b8 <| gf rfl b8 <| st rfl <| pick0 rfl b8 (cd := cB) (v := false) rfl rfl <| x_asg (ss rfl rfl) <| sq [q2 4 cB false] <|
  xn <| wpC_ret <| re <| fin h (r1 (ss rfl rfl) <| r0) rfl)

def rs_spec_gChildren (r : (List Int)) : List D := [cc14.enc r]
def m85 : MC := .seq (.reg [q1 2 (.box (.t 0)),q1 4 (.asg (.c (.slice true [])))] [1, 2])
 (.seq (.reg [q1 5 (.asg (.c (.slice true [])))] [1, 2, 5])
 (.seq (.kp [5] (.seq (.reg [q1 8 (.fa 2 0 0),q1 9 (.ld 8 1 false),q1 10 (.len false (.t 9)),q1 11 (.mv (.c (.int .i64 0)))] [1, 2, 5, 8, 9, 10, 11])
 (.blk 0 (.loop (.seq (.reg [q1 12 (.bin .lss (.t 11) (.t 10))] [1, 2, 5, 8, 9, 10, 11, 12])
 (.seq (.kp [1, 2, 5, 8, 9, 10, 11] (.cond (.t 12) (.skip) (.exit 0)))
 (.seq (.kp [1, 2, 5, 8, 9, 10, 11] (.blk 1 (.seq (.reg [q1 13 (.mv (.t 11)),q1 14 (.ia 9 (.t 11) 1),q1 15 (.ld 14 1 false),q1 6 (.asg (.t 13)),q1 7 (.asg (.t 15))] [1, 2, 5, 6, 7, 8, 9, 10, 11])
 (.seq (.reg [q1 16 (.mv (.t 7)),q1 17 (.mv (.t 1)),q1 18 (.bin .eql (.t 16) (.t 17))] [1, 2, 5, 6, 8, 9, 10, 11, 18])
 (.cond (.t 18) (.reg [q1 19 (.mv (.t 5)),q1 20 (.mv (.t 6)),q1 21 (.bsl [(.t 20)] 1),q1 22 (.app (.t 19) (.t 21) 1),q1 5 (.asg (.t 22))] [1, 2, 5, 8, 9, 10, 11]) (.skip))))))
 (.reg [q1 23 (.bin .add (.t 11) (.c (.int .i64 1))),q1 11 (.mv (.t 23))] [1, 2, 5, 8, 9, 10, 11]))))))))
 (.seq (.reg [q1 24 (.mv (.t 5)),q1 4 (.asg (.t 24))] [4])
 (.ret))))
theorem con_spec_gChildren {v0 : XGeo} {v1 : Int} {r : (List Int)} (h : sh_spec_gChildren v0 v1 = some r) : Con Tryz.prog 85 [cc10.enc v0, cI.enc v1] [] (rs_spec_gChildren r) := by
 delta sh_spec_gChildren at h
 refine top (out := none) (f := Tryz.f85) (m := m85) (rs := [.t 4]) (by kernel_rfl) rfl (by kernel_rfl) (by kernel_rfl) (by kernel_rfl) (by kernel_rfl) (by kernel_rfl) ?_
 exact
  ini [q2 0 cc10 v0, q2 1 cI v1] rfl <| wpC_seq <| reg_s <| x_box (ss rfl rfl) <| x_asg (sc cc14 ([] : List Int) rfl) <| sq [q2 1 cI v1, q3 2 cc10 v0] <|
  xn <| wpC_seq <| reg_s <| x_asg (sc cc14 ([] : List Int) rfl) <| sq [q2 1 cI v1, q3 2 cc10 v0, q2 5 cc14 ([] : List Int)] <|
  xn <| wpC_seq <| wpC_kp <| wpC_seq <| reg_s <| st rfl <| fab rfl rfl rfl rfl <| st rfl <| lda rfl rfl rfl rfl rfl rfl <| stw rfl <| lens rfl fun l24 => st rfl <| mvc cI (0 : Int) rfl <| sq [q2 1 cI v1, q3 2 cc10 v0, q2 5 cc14 ([] : List Int), (8, .adr 2 [.fld 0]), q2 9 cc13 v0.Parents, q2 10 cI (v0.Parents.length : Int), q2 11 cI (0 : Int)] <|
  xn <| wpC_blk <| lpR (fun (k26 : Nat) (s25 : (List Int)) => [q2 1 cI v1, q3 2 cc10 v0, q2 5 cc14 s25, (8, .adr 2 [.fld 0]), q2 9 cc13 v0.Parents, q2 10 cI (v0.Parents.length : Int), q2 11 cI (k26 : Int)]) ([] : List Int) rfl h
  (fun G40 s25 h => wpC_seq <| reg_s <| st rfl <| b_lss (k := .i64) rfl rfl <| sq [q2 1 cI v1, q3 2 cc10 v0, q2 5 cc14 s25, (8, .adr 2 [.fld 0]), q2 9 cc13 v0.Parents, q2 10 cI (v0.Parents.length : Int), q2 11 cI (v0.Parents.length : Int), q2 12 cB (decide ((v0.Parents.length : Int) < (v0.Parents.length : Int)))] <|
  xn <| wpC_seq <| wpC_kp <| cnd0 rfl (dlf _) <| wpC_exit <| xt <| xt <| xt <| xb <| kpN [q2 5 cc14 s25] (by kernel_rfl) <| xn <| wpC_seq <| reg_s <| st rfl <| mvo rfl rfl <| x_asg (sr rfl rfl) <| sq [q2 4 cc14 s25] <|
  xn <| wpC_ret <| re <| fin h (r1 (so rfl rfl) <| r0) rfl)
  (fun G40 nx38 k26 s25 x27 hk28 hx29 hn39 h => wpC_seq <| reg_s <| st rfl <| b_lss (k := .i64) rfl rfl <| sq [q2 1 cI v1, q3 2 cc10 v0, q2 5 cc14 s25, (8, .adr 2 [.fld 0]), q2 9 cc13 v0.Parents, q2 10 cI (v0.Parents.length : Int), q2 11 cI (k26 : Int), q2 12 cB (decide ((k26 : Int) < (v0.Parents.length : Int)))] <|
  xn <| wpC_seq <| wpC_kp <| cnd1 rfl (dlt hk28) <| wpC_skip <| kpN [q2 1 cI v1, q3 2 cc10 v0, q2 5 cc14 s25, (8, .adr 2 [.fld 0]), q2 9 cc13 v0.Parents, q2 10 cI (v0.Parents.length : Int), q2 11 cI (k26 : Int)] (by kernel_rfl) <| xn <| wpC_seq <| wpC_kp <| wpC_blk <| wpC_seq <| reg_s <| st rfl <| mvd rfl rfl <| st rfl <| ias rfl rfl (Int.natCast_nonneg _) hx29 rfl <| st rfl <| ldi rfl rfl rfl rfl <| x_asg (ss rfl rfl) <| x_asg (ss rfl rfl) <| sq [q2 1 cI v1, q3 2 cc10 v0, q2 5 cc14 s25, q2 6 cI (k26 : Int), q2 7 cI x27, (8, .adr 2 [.fld 0]), q2 9 cc13 v0.Parents, q2 10 cI (v0.Parents.length : Int), q2 11 cI (k26 : Int)] <|
  xn <| wpC_seq <| reg_s <| st rfl <| mvd rfl rfl <| st rfl <| mvd rfl rfl <| st rfl <| b_eql (k := .i64) rfl rfl <| sq [q2 1 cI v1, q3 2 cc10 v0, q2 5 cc14 s25, q2 6 cI (k26 : Int), (8, .adr 2 [.fld 0]), q2 9 cc13 v0.Parents, q2 10 cI (v0.Parents.length : Int), q2 11 cI (k26 : Int), q2 18 cB (decide (x27 = v1))] <|
  xn <| cnd rfl h (fun b43 h => reg_s <| st rfl <| mvo rfl rfl <| st rfl <| mvd rfl rfl <| x_bsl cI [(k26 : Int)] (t1 (ss rfl rfl) rfl t0) rfl rfl <| lnO_k h fun l44 h => x_app (sr rfl rfl) (to rfl rfl) l44 rfl <| x_asg (so rfl rfl) <| sq [q2 1 cI v1, q3 2 cc10 v0, q2 5 cc14 (s25 ++ [(k26 : Int)]), (8, .adr 2 [.fld 0]), q2 9 cc13 v0.Parents, q2 10 cI (v0.Parents.length : Int), q2 11 cI (k26 : Int)] <|
  xbb <| kpN [q2 1 cI v1, q3 2 cc10 v0, q2 5 cc14 (s25 ++ [(k26 : Int)]), (8, .adr 2 [.fld 0]), q2 9 cc13 v0.Parents, q2 10 cI (v0.Parents.length : Int), q2 11 cI (k26 : Int)] (by kernel_rfl) <| xn <| reg_s <| st rfl <| b_inc rfl rfl l24 hk28 <| st rfl <| mvd rfl rfl <| sq [q2 1 cI v1, q3 2 cc10 v0, q2 5 cc14 (s25 ++ [(k26 : Int)]), (8, .adr 2 [.fld 0]), q2 9 cc13 v0.Parents, q2 10 cI (v0.Parents.length : Int), q2 11 cI ((k26 + 1 : Nat) : Int)] <|
  xn <| hn39 (s25 ++ [(k26 : Int)]) h)
  (fun b43 h => wpC_skip <| xbb <| kpN [q2 1 cI v1, q3 2 cc10 v0, q2 5 cc14 s25, (8, .adr 2 [.fld 0]), q2 9 cc13 v0.Parents, q2 10 cI (v0.Parents.length : Int), q2 11 cI (k26 : Int)] (by kernel_rfl) <| xn <| reg_s <| st rfl <| b_inc rfl rfl l24 hk28 <| st rfl <| mvd rfl rfl <| sq [q2 1 cI v1, q3 2 cc10 v0, q2 5 cc14 s25, (8, .adr 2 [.fld 0]), q2 9 cc13 v0.Parents, q2 10 cI (v0.Parents.length : Int), q2 11 cI ((k26 + 1 : Nat) : Int)] <|
  xn <| hn39 s25 h))

def rs_spec_gLeaves (r : (List Int)) : List D := [cc14.enc r]
def m58 : MC := .seq (.reg [q1 1 (.box (.t 0)),q1 2 (.asg (.c (.slice true [])))] [1])
 (.seq (.reg [q1 3 (.asg (.c (.slice true [])))] [1, 3])
 (.seq (.kp [3] (.seq (.reg [q1 5 (.fa 1 0 0),q1 6 (.ld 5 1 false),q1 7 (.len false (.t 6)),q1 8 (.mv (.c (.int .i64 0)))] [1, 3, 7, 8])
 (.blk 0 (.loop (.seq (.reg [q1 9 (.bin .lss (.t 8) (.t 7))] [1, 3, 7, 8, 9])
 (.seq (.kp [1, 3, 7, 8] (.cond (.t 9) (.skip) (.exit 0)))
 (.seq (.kp [1, 3, 7, 8] (.blk 1 (.seq (.reg [q1 10 (.mv (.t 8)),q1 4 (.asg (.t 10))] [1, 3, 4, 7, 8])
 (.seq (.reg [q1 11 (.ld 1 1 true),q1 12 (.mv (.t 4)),q1 13 (.call 85 [(.t 11), (.t 12)]),q1 14 (.len false (.t 13)),q1 15 (.bin .eql (.t 14) (.c (.int .i64 0)))] [1, 3, 4, 7, 8, 15])
 (.cond (.t 15) (.reg [q1 16 (.mv (.t 3)),q1 17 (.mv (.t 4)),q1 18 (.bsl [(.t 17)] 1),q1 19 (.app (.t 16) (.t 18) 1),q1 3 (.asg (.t 19))] [1, 3, 7, 8]) (.skip))))))
 (.reg [q1 20 (.bin .add (.t 8) (.c (.int .i64 1))),q1 8 (.mv (.t 20))] [1, 3, 7, 8]))))))))
 (.seq (.reg [q1 21 (.mv (.t 3)),q1 2 (.asg (.t 21))] [2])
 (.ret))))
theorem con_spec_gLeaves {v0 : XGeo} {r : (List Int)} (h : sh_spec_gLeaves v0 = some r) : Con Tryz.prog 58 [cc10.enc v0] [] (rs_spec_gLeaves r) := by
 delta sh_spec_gLeaves at h
 refine top (out := none) (f := Tryz.f58) (m := m58) (rs := [.t 2]) (by kernel_rfl) rfl (by kernel_rfl) (by kernel_rfl) (by kernel_rfl) (by kernel_rfl) (by kernel_rfl) ?_
 exact
  ini [q2 0 cc10 v0] rfl <| wpC_seq <| reg_s <| x_box (ss rfl rfl) <| x_asg (sc cc14 ([] : List Int) rfl) <| sq [q3 1 cc10 v0] <|
  xn <| wpC_seq <| reg_s <| x_asg (sc cc14 ([] : List Int) rfl) <| sq [q3 1 cc10 v0, q2 3 cc14 ([] : List Int)] <|
  xn <| wpC_seq <| wpC_kp <| wpC_seq <| reg_s <| st rfl <| fab rfl rfl rfl rfl <| st rfl <| lda rfl rfl rfl rfl rfl rfl <| stw rfl <| lens rfl fun l60 => st rfl <| mvc cI (0 : Int) rfl <| sq [q3 1 cc10 v0, q2 3 cc14 ([] : List Int), q2 7 cI (v0.Parents.length : Int), q2 8 cI (0 : Int)] <|
  xn <| wpC_blk <| lpR (fun (k62 : Nat) (s61 : (List Int)) => [q3 1 cc10 v0, q2 3 cc14 s61, q2 7 cI (v0.Parents.length : Int), q2 8 cI (k62 : Int)]) ([] : List Int) rfl h
  (fun G100 s61 h => wpC_seq <| reg_s <| st rfl <| b_lss (k := .i64) rfl rfl <| sq [q3 1 cc10 v0, q2 3 cc14 s61, q2 7 cI (v0.Parents.length : Int), q2 8 cI (v0.Parents.length : Int), q2 9 cB (decide ((v0.Parents.length : Int) < (v0.Parents.length : Int)))] <|
  xn <| wpC_seq <| wpC_kp <| cnd0 rfl (dlf _) <| wpC_exit <| xt <| xt <| xt <| xb <| kpN [q2 3 cc14 s61] (by kernel_rfl) <| xn <| wpC_seq <| reg_s <| st rfl <| mvo rfl rfl <| x_asg (sr rfl rfl) <| sq [q2 2 cc14 s61] <|
  xn <| wpC_ret <| re <| fin h (r1 (so rfl rfl) <| r0) rfl)
  (fun G100 nx98 k62 s61 x63 hk64 hx65 hn99 h => wpC_seq <| reg_s <| st rfl <| b_lss (k := .i64) rfl rfl <| sq [q3 1 cc10 v0, q2 3 cc14 s61, q2 7 cI (v0.Parents.length : Int), q2 8 cI (k62 : Int), q2 9 cB (decide ((k62 : Int) < (v0.Parents.length : Int)))] <|
  xn <| wpC_seq <| wpC_kp <| cnd1 rfl (dlt hk64) <| wpC_skip <| kpN [q3 1 cc10 v0, q2 3 cc14 s61, q2 7 cI (v0.Parents.length : Int), q2 8 cI (k62 : Int)] (by kernel_rfl) <| xn <| wpC_seq <| wpC_kp <| wpC_blk <| wpC_seq <| reg_s <| st rfl <| mvd rfl rfl <| x_asg (ss rfl rfl) <| sq [q3 1 cc10 v0, q2 3 cc14 s61, q2 4 cI (k62 : Int), q2 7 cI (v0.Parents.length : Int), q2 8 cI (k62 : Int)] <|
  xn <| wpC_seq <| reg_s <| st rfl <| ldb rfl rfl rfl rfl <| st rfl <| mvd rfl rfl <| bnd h fun x112 e113 h => st rfl <| o_call (a1 (c := cc10) (tXGeo (tLs tK)) rfl (a1 (c := cI) tK rfl a0)) (con_spec_gChildren e113) (.inl (so1 (sLo sK) so0)) <| stw rfl <| leno rfl fun l114 => st rfl <| b_eql (k := .i64) rfl rfl <| sq [q3 1 cc10 v0, q2 3 cc14 s61, q2 4 cI (k62 : Int), q2 7 cI (v0.Parents.length : Int), q2 8 cI (k62 : Int), q2 15 cB (decide ((x112.length : Int) = (0 : Int)))] <|
  xn <| cnd rfl h (fun b115 h => reg_s <| st rfl <| mvo rfl rfl <| st rfl <| mvd rfl rfl <| x_bsl cI [(k62 : Int)] (t1 (ss rfl rfl) rfl t0) rfl rfl <| lnO_k h fun l116 h => x_app (sr rfl rfl) (to rfl rfl) l116 rfl <| x_asg (so rfl rfl) <| sq [q3 1 cc10 v0, q2 3 cc14 (s61 ++ [(k62 : Int)]), q2 7 cI (v0.Parents.length : Int), q2 8 cI (k62 : Int)] <|
  xbb <| kpN [q3 1 cc10 v0, q2 3 cc14 (s61 ++ [(k62 : Int)]), q2 7 cI (v0.Parents.length : Int), q2 8 cI (k62 : Int)] (by kernel_rfl) <| xn <| reg_s <| st rfl <| b_inc rfl rfl l60 hk64 <| st rfl <| mvd rfl rfl <| sq [q3 1 cc10 v0, q2 3 cc14 (s61 ++ [(k62 : Int)]), q2 7 cI (v0.Parents.length : Int), q2 8 cI ((k62 + 1 : Nat) : Int)] <|
  xn <| hn99 (s61 ++ [(k62 : Int)]) h)
  (fun b115 h => wpC_skip <| xbb <| kpN [q3 1 cc10 v0, q2 3 cc14 s61, q2 7 cI (v0.Parents.length : Int), q2 8 cI (k62 : Int)] (by kernel_rfl) <| xn <| reg_s <| st rfl <| b_inc rfl rfl l60 hk64 <| st rfl <| mvd rfl rfl <| sq [q3 1 cc10 v0, q2 3 cc14 s61, q2 7 cI (v0.Parents.length : Int), q2 8 cI ((k62 + 1 : Nat) : Int)] <|
  xn <| hn99 s61 h))

def rs_spec_l1Has (r : Bool) : List D := [cB.enc r]
def m59 : MC := .seq (.reg [q1 4 (.asg (.c (.bool false)))] [0, 1])
 (.seq (.kp [] (.seq (.reg [q1 7 (.mv (.t 0)),q1 8 (.len false (.t 7)),q1 9 (.mv (.c (.int .i64 0)))] [0, 1, 7, 8, 9])
 (.blk 0 (.loop (.seq (.reg [q1 10 (.bin .lss (.t 9) (.t 8))] [0, 1, 7, 8, 9, 10])
 (.seq (.kp [0, 1, 7, 8, 9] (.cond (.t 10) (.skip) (.exit 0)))
 (.seq (.kp [0, 1, 7, 8, 9] (.blk 1 (.seq (.reg [q1 11 (.ia 7 (.t 9) 1),q1 12 (.ld 11 1 false),q1 6 (.asg (.t 12))] [0, 1, 6, 7, 8, 9])
 (.seq (.reg [q1 13 (.mv (.t 6)),q1 14 (.mv (.t 1)),q1 15 (.bin .eql (.t 13) (.t 14))] [0, 1, 7, 8, 9, 15])
 (.cond (.t 15) (.seq (.reg [q1 4 (.asg (.c (.bool true)))] [4])
 (.ret)) (.skip))))))
 (.reg [q1 16 (.bin .add (.t 9) (.c (.int .i64 1))),q1 9 (.mv (.t 16))] [0, 1, 7, 8, 9]))))))))
 (.seq (.reg [q1 4 (.asg (.c (.bool false)))] [4])
 (.ret)))
theorem con_spec_l1Has {v0 : (List Int)} {v1 : Int} {r : Bool} (h : sh_spec_l1Has v0 v1 = some r) : Con Tryz.prog 59 [cc13.enc v0, cI.enc v1] [] (rs_spec_l1Has r) := by
 delta sh_spec_l1Has at h
 refine top (out := none) (f := Tryz.f59) (m := m59) (rs := [.t 4]) (by kernel_rfl) rfl (by kernel_rfl) (by kernel_rfl) (by kernel_rfl) (by kernel_rfl) (by kernel_rfl) ?_
 exact
  ini [q2 0 cc13 v0, q2 1 cI v1] rfl <| wpC_seq <| reg_s <| x_asg (sc cB false rfl) <| sq [q2 0 cc13 v0, q2 1 cI v1] <|
  xn <| wpC_seq <| wpC_kp <| wpC_seq <| reg_s <| st rfl <| mvd rfl rfl <| stw rfl <| lens rfl fun l16 => st rfl <| mvc cI (0 : Int) rfl <| sq [q2 0 cc13 v0, q2 1 cI v1, q2 7 cc13 v0, q2 8 cI (v0.length : Int), q2 9 cI (0 : Int)] <|
  xn <| wpC_blk <| lpR (fun (k18 : Nat) (s17 : Unit) => [q2 0 cc13 v0, q2 1 cI v1, q2 7 cc13 v0, q2 8 cI (v0.length : Int), q2 9 cI (k18 : Int)]) () rfl h
  (fun G26 s17 h => wpC_seq <| reg_s <| st rfl <| b_lss (k := .i64) rfl rfl <| sq [q2 0 cc13 v0, q2 1 cI v1, q2 7 cc13 v0, q2 8 cI (v0.length : Int), q2 9 cI (v0.length : Int), q2 10 cB (decide ((v0.length : Int) < (v0.length : Int)))] <|
  xn <| wpC_seq <| wpC_kp <| cnd0 rfl (dlf _) <| wpC_exit <| xt <| xt <| xt <| xb <| kpN [] (by kernel_rfl) <| xn <| wpC_seq <| reg_s <| x_asg (sc cB false rfl) <| sq [q2 4 cB false] <|
  xn <| wpC_ret <| re <| fin h (r1 (ss rfl rfl) <| r0) rfl)
  (fun G26 nx24 k18 s17 x19 hk20 hx21 hn25 h => wpC_seq <| reg_s <| st rfl <| b_lss (k := .i64) rfl rfl <| sq [q2 0 cc13 v0, q2 1 cI v1, q2 7 cc13 v0, q2 8 cI (v0.length : Int), q2 9 cI (k18 : Int), q2 10 cB (decide ((k18 : Int) < (v0.length : Int)))] <|
  xn <| wpC_seq <| wpC_kp <| cnd1 rfl (dlt hk20) <| wpC_skip <| kpN [q2 0 cc13 v0, q2 1 cI v1, q2 7 cc13 v0, q2 8 cI (v0.length : Int), q2 9 cI (k18 : Int)] (by kernel_rfl) <| xn <| wpC_seq <| wpC_kp <| wpC_blk <| wpC_seq <| reg_s <| st rfl <| ias rfl rfl (Int.natCast_nonneg _) hx21 rfl <| st rfl <| ldi rfl rfl rfl rfl <| x_asg (ss rfl rfl) <| sq [q2 0 cc13 v0, q2 1 cI v1, q2 6 cI x19, q2 7 cc13 v0, q2 8 cI (v0.length : Int), q2 9 cI (k18 : Int)] <|
  xn <| wpC_seq <| reg_s <| st rfl <| mvd rfl rfl <| st rfl <| mvd rfl rfl <| st rfl <| b_eql (k := .i64) rfl rfl <| sq [q2 0 cc13 v0, q2 1 cI v1, q2 7 cc13 v0, q2 8 cI (v0.length : Int), q2 9 cI (k18 : Int), q2 15 cB (decide (x19 = v1))] <|
  xn <| cnd rfl h (fun b28 h => wpC_seq <| reg_s <| x_asg (sc cB true rfl) <| sq [q2 4 cB true] <|
  xn <| wpC_ret <| rb <| rt <| rt <| rt <| rb <| rt <| rt <| re <| fin h (r1 (ss rfl rfl) <| r0) rfl)
  (fun b28 h => wpC_skip <| xbb <| kpN [q2 0 cc13 v0, q2 1 cI v1, q2 7 cc13 v0, q2 8 cI (v0.length : Int), q2 9 cI (k18 : Int)] (by kernel_rfl) <| xn <| reg_s <| st rfl <| b_inc rfl rfl l16 hk20 <| st rfl <| mvd rfl rfl <| sq [q2 0 cc13 v0, q2 1 cI v1, q2 7 cc13 v0, q2 8 cI (v0.length : Int), q2 9 cI ((k18 + 1 : Nat) : Int)] <|
  xn <| hn25 () h))

def rs_spec_uSurvey (r : Bool) : List D := [cB.enc r]
def m29 : MC := .seq (.reg [q1 3 (.box (.t 0)),q1 6 (.asg (.c (.bool false)))] [1, 2, 3])
 (.seq (.kp [2, 3] (.seq (.reg [q1 10 (.ld 3 1 true),q1 11 (.call 50 [(.t 10)]),q1 12 (.nt (.t 11)),q1 13 (.mv (.t 12)),
  ⟨some 14, .mv (.t 1), some (13, false)⟩,
  ⟨some 15, .mv (.t 2), some (13, false)⟩,
  ⟨some 16, .call 57 [(.t 14), (.t 15)], some (13, false)⟩,
  ⟨some 17, .nt (.t 16), some (13, false)⟩,q1 18 (.pick (.t 13) (.c (.bool true)) (.t 17))] [2, 3, 18])
 (.cond (.t 18) (.seq (.reg [q1 6 (.asg (.c (.bool false)))] [6])
 (.ret)) (.skip))))
 (.seq (.reg [q1 19 (.ld 3 1 true),q1 20 (.call 58 [(.t 19)]),q1 7 (.asg (.t 20))] [2, 7])
 (.seq (.kp [] (.seq (.reg [q1 21 (.mv (.t 2)),q1 22 (.len false (.t 21)),q1 23 (.mv (.c (.int .i64 0)))] [2, 7, 21, 22, 23])
 (.blk 0 (.loop (.seq (.reg [q1 24 (.bin .lss (.t 23) (.t 22))] [2, 7, 21, 22, 23, 24])
 (.seq (.kp [2, 7, 21, 22, 23] (.cond (.t 24) (.skip) (.exit 0)))
 (.seq (.kp [2, 7, 21, 22, 23] (.blk 1 (.seq (.reg [q1 25 (.ia 21 (.t 23) 3),q1 26 (.ld 25 3 true),q1 9 (.alloc (.agg [.int .i64 0, .int .i64 0, .slice true []])),q0 (.st 9 (.t 26) 3)] [2, 7, 9, 21, 22, 23])
 (.seq (.reg [q1 27 (.mv (.t 7)),q1 28 (.fa 9 0 0),q1 29 (.ld 28 1 false),q1 30 (.call 59 [(.t 27), (.t 29)]),q1 31 (.nt (.t 30))] [2, 7, 21, 22, 23, 31])
 (.cond (.t 31) (.seq (.reg [q1 6 (.asg (.c (.bool false)))] [6])
 (.ret)) (.skip))))))
 (.reg [q1 32 (.bin .add (.t 23) (.c (.int .i64 1))),q1 23 (.mv (.t 32))] [2, 7, 21, 22, 23]))))))))
 (.seq (.reg [q1 6 (.asg (.c (.bool true)))] [6])
 (.ret)))))
theorem con_spec_uSurvey {v0 : XGeo} {v1 : (List XVariable)} {v2 : (List XRecord)} {r : Bool} (h : sh_spec_uSurvey v0 v1 v2 = some r) : Con Tryz.prog 29 [cc10.enc v0, cc6.enc v1, cc1.enc v2] [] (rs_spec_uSurvey r) := by
 delta sh_spec_uSurvey at h
 refine top (out := none) (f := Tryz.f29) (m := m29) (rs := [.t 6]) (by kernel_rfl) rfl (by kernel_rfl) (by kernel_rfl) (by kernel_rfl) (by kernel_rfl) (by kernel_rfl) ?_
 exact
  ini [q2 0 cc10 v0, q2 1 cc6 v1, q2 2 cc1 v2] rfl <| wpC_seq <| reg_s <| x_box (ss rfl rfl) <| x_asg (sc cB false rfl) <| sq [q2 1 cc6 v1, q2 2 cc1 v2, q3 3 cc10 v0] <|
  xn <| wpC_seq <| wpC_kp <| wpC_seq <| reg_s <| st rfl <| ldb rfl rfl rfl rfl <| bnd h fun x17 e18 h => st rfl <| o_call (a1 (c := cc10) (tXGeo (tLs tK)) rfl a0) (con_spec_gGood e18) (.inl (so1 sB so0)) <| st rfl <| o_nt rfl <| st rfl <| mvd rfl rfl <| ite_k h (fun b19 h => gf rfl b19 <| gf rfl b19 <| gf rfl b19 <| gf rfl b19 <| st rfl <| pick1 rfl b19 (cd := cB) (v := true) rfl rfl <| sq [q2 2 cc1 v2, q3 3 cc10 v0, q2 18 cB true] <|
  xn <| cnd1 rfl rfl <| wpC_seq <| reg_s <| x_asg (sc cB false rfl) <| sq [q2 6 cB false] <|
  xn <| wpC_ret <| rt <| rt <| re <| fin h (r1 (ss rfl rfl) <| r0) rfl)
  (fun b19 h => gt' rfl b19 <| st rfl <| mvd rfl rfl <| gt' rfl b19 <| st rfl <| mvd rfl rfl <| gt' rfl b19 <| bnd h fun x20 e21 h => st rfl <| o_call (a1 (c := cc6) (tLs (tXVariable tS tK)) rfl (a1 (c := cc1) (tLs (tXRecord tK tK (tLs tK))) rfl a0)) (con_spec_dInput e21) (.inl (so1 sB so0)) <| gt' rfl b19 <| st rfl <| o_nt rfl <| st rfl <| pick0 rfl b19 (cd := cB) (v := (!x20)) rfl rfl <| sq [q2 2 cc1 v2, q3 3 cc10 v0, q2 18 cB (!x20)] <|
  xn <| cnd rfl h (fun b22 h => wpC_seq <| reg_s <| x_asg (sc cB false rfl) <| sq [q2 6 cB false] <|
  xn <| wpC_ret <| rt <| rt <| re <| fin h (r1 (ss rfl rfl) <| r0) rfl)
  (fun b22 h => wpC_skip <| kpN [q2 2 cc1 v2, q3 3 cc10 v0] (by kernel_rfl) <| xn <| wpC_seq <| reg_s <| st rfl <| ldb rfl rfl rfl rfl <| bnd h fun x25 e26 h => st rfl <| o_call (a1 (c := cc10) (tXGeo (tLs tK)) rfl a0) (con_spec_gLeaves e26) (.inl (so1 (sLo sK) so0)) <| x_asg (so rfl rfl) <| sq [q2 2 cc1 v2, q2 7 cc14 x25] <|
  xn <| wpC_seq <| wpC_kp <| wpC_seq <| reg_s <| st rfl <| mvd rfl rfl <| stw rfl <| lens rfl fun l58 => st rfl <| mvc cI (0 : Int) rfl <| sq [q2 2 cc1 v2, q2 7 cc14 x25, q2 21 cc1 v2, q2 22 cI (v2.length : Int), q2 23 cI (0 : Int)] <|
  xn <| wpC_blk <| lpR (fun (k60 : Nat) (s59 : Unit) => [q2 2 cc1 v2, q2 7 cc14 x25, q2 21 cc1 v2, q2 22 cI (v2.length : Int), q2 23 cI (k60 : Int)]) () rfl h
  (fun G76 s59 h => wpC_seq <| reg_s <| st rfl <| b_lss (k := .i64) rfl rfl <| sq [q2 2 cc1 v2, q2 7 cc14 x25, q2 21 cc1 v2, q2 22 cI (v2.length : Int), q2 23 cI (v2.length : Int), q2 24 cB (decide ((v2.length : Int) < (v2.length : Int)))] <|
  xn <| wpC_seq <| wpC_kp <| cnd0 rfl (dlf _) <| wpC_exit <| xt <| xt <| xt <| xb <| kpN [] (by kernel_rfl) <| xn <| wpC_seq <| reg_s <| x_asg (sc cB true rfl) <| sq [q2 6 cB true] <|
  xn <| wpC_ret <| re <| fin h (r1 (ss rfl rfl) <| r0) rfl)
  (fun G76 nx74 k60 s59 x61 hk62 hx63 hn75 h => wpC_seq <| reg_s <| st rfl <| b_lss (k := .i64) rfl rfl <| sq [q2 2 cc1 v2, q2 7 cc14 x25, q2 21 cc1 v2, q2 22 cI (v2.length : Int), q2 23 cI (k60 : Int), q2 24 cB (decide ((k60 : Int) < (v2.length : Int)))] <|
  xn <| wpC_seq <| wpC_kp <| cnd1 rfl (dlt hk62) <| wpC_skip <| kpN [q2 2 cc1 v2, q2 7 cc14 x25, q2 21 cc1 v2, q2 22 cI (v2.length : Int), q2 23 cI (k60 : Int)] (by kernel_rfl) <| xn <| wpC_seq <| wpC_kp <| wpC_blk <| wpC_seq <| reg_s <| st rfl <| ias rfl rfl (Int.natCast_nonneg _) hx63 rfl <| st rfl <| ldi rfl rfl rfl rfl <| x_all cc8 (⟨(0 : Int), (0 : Int), ([] : List Int)⟩ : XRecord) rfl <| x_stb (ss rfl rfl) rfl (Cd.h_sz _ _) rfl <| sq [q2 2 cc1 v2, q2 7 cc14 x25, q3 9 cc5 x61, q2 21 cc1 v2, q2 22 cI (v2.length : Int), q2 23 cI (k60 : Int)] <|
  xn <| wpC_seq <| reg_s <| st rfl <| mvo rfl rfl <| st rfl <| fab rfl rfl rfl rfl <| st rfl <| lda rfl rfl rfl rfl rfl rfl <| bnd h fun x84 e85 h => st rfl <| o_call (a1 (c := cc14) (tLo tK) rfl (a1 (c := cI) tK rfl a0)) (con_spec_l1Has e85) (.inl (so1 sB so0)) <| st rfl <| o_nt rfl <| sq [q2 2 cc1 v2, q2 7 cc14 x25, q2 21 cc1 v2, q2 22 cI (v2.length : Int), q2 23 cI (k60 : Int), q2 31 cB (!x84)] <|
  xn <| cnd rfl h (fun b86 h => wpC_seq <| reg_s <| x_asg (sc cB false rfl) <| sq [q2 6 cB false] <|
  xn <| wpC_ret <| rb <| rt <| rt <| rt <| rb <| rt <| rt <| re <| fin h (r1 (ss rfl rfl) <| r0) rfl)
  (fun b86 h => wpC_skip <| xbb <| kpN [q2 2 cc1 v2, q2 7 cc14 x25, q2 21 cc1 v2, q2 22 cI (v2.length : Int), q2 23 cI (k60 : Int)] (by kernel_rfl) <| xn <| reg_s <| st rfl <| b_inc rfl rfl l58 hk62 <| st rfl <| mvd rfl rfl <| sq [q2 2 cc1 v2, q2 7 cc14 x25, q2 21 cc1 v2, q2 22 cI (v2.length : Int), q2 23 cI ((k60 + 1 : Nat) : Int)] <|
  xn <| hn75 () h))))

end AS.W
