/- The program computes the plain functions. No condition. -/
import Derived.Test.YtppdeamjoemhgaaQMergePlansS
import Derived.Test.YtppdeamjoemhgaaProg
import Derived.Test.YtppdeamjoemhgaaQMergePlansX
import Derived.Test.YtppdeamjoemhgaaQMergePlansL0
set_option maxRecDepth 100000
set_option linter.unusedVariables false
set_option linter.unusedSimpArgs false
namespace AS.W
open Go Go.Proofs
def rs_spec_l1Own (r : (List Int)) : List D := [(cLo cI).enc r]
def m44 : MC := .seq (.reg [⟨some 2, .asg (.c (.slice true [])), none⟩] [0])
  (.seq (.reg [⟨some 3, .bsl [] 1, none⟩,
    ⟨some 4, .mv (.t 0), none⟩,
    ⟨some 5, .app (.t 3) (.t 4) 1, none⟩,
    ⟨some 2, .asg (.t 5), none⟩] [2])
  (.ret))
theorem con_spec_l1Own {v0 : (List Int)} {r : (List Int)} (h : sh_spec_l1Own v0 = some r) : Con Try.prog 44 [(cLs cI rfl).enc v0] [] (rs_spec_l1Own r) := by
  delta sh_spec_l1Own at h
  refine top (out := none) (f := Try.f44) (m := m44) (rs := [.t 2]) (by kernel_rfl) rfl (by kernel_rfl) (by kernel_rfl) (by kernel_rfl) (by kernel_rfl) (by kernel_rfl) ?_
  exact
   ini [(0, .d ((cLs cI rfl).enc v0))] rfl <| wpC_seq <| reg_s <| x_asg (sc (cLo cI) ([] : List Int) rfl) <| seqN [(0, .d ((cLs cI rfl).enc v0))] (by kernel_rfl) <|
    xn <| wpC_seq <| reg_s <| x_bsl cI ([] : List Int) t0 rfl rfl <| st rfl <| mvd rfl rfl <| lnO_k h fun l2 h => x_app (so rfl rfl) (ts rfl) l2 rfl <| x_asg (so rfl rfl) <| seqN [(2, .d ((cLo cI).enc (([] : List Int) ++ v0)))] (by kernel_rfl) <|
    xn <| wpC_ret <| re <| fin h (r1 (so rfl rfl) <| r0) rfl

def rs_spec_l1Own_fz (r : (List Int)) : List D := [(cLs cI rfl).enc r]
theorem con_spec_l1Own_fz {v0 : (List Int)} {r : (List Int)} (h : sh_spec_l1Own v0 = some r) : Con Try.prog 44 [(cLs cI rfl).enc v0] [] (rs_spec_l1Own_fz r) := con_fz (tLo tK) (con_spec_l1Own h)

def rs_spec_nOwn (r : XTable) : List D := [(cXTable cI (cLo cI) (cLo cI) cI).enc r]
def m24 : MC := .seq (.reg [⟨some 1, .box (.t 0), none⟩,
    ⟨some 2, .alloc (.agg [.int .i64 0, .slice true [], .slice true [], .int .i64 0]), none⟩] [1, 2])
  (.seq (.drw [⟨0, ⟨some 3, .fa 1 0 0, none⟩, [4, 5, 6, 7, 8, 9, 10, 11, 12]⟩,
    ⟨1, ⟨some 4, .ld 3 1 false, none⟩, [5, 6, 7, 8, 9, 10, 11, 12]⟩,
    ⟨2, ⟨some 5, .fa 1 1 1, none⟩, [3, 4, 6, 7, 8, 9, 10, 11, 12]⟩,
    ⟨3, ⟨some 6, .ld 5 1 false, none⟩, [3, 4, 7, 8, 9, 10, 11, 12]⟩,
    ⟨4, ⟨some 7, .call 44 [(.t 6)], none⟩, [3, 4, 8, 9, 10, 11, 12]⟩,
    ⟨5, ⟨some 8, .fa 1 2 2, none⟩, [3, 4, 5, 6, 7, 9, 10, 11, 12]⟩,
    ⟨6, ⟨some 9, .ld 8 1 false, none⟩, [3, 4, 5, 6, 7, 10, 11, 12]⟩,
    ⟨7, ⟨some 10, .call 44 [(.t 9)], none⟩, [3, 4, 11, 12]⟩,
    ⟨8, ⟨some 11, .fa 1 3 3, none⟩, [3, 4, 5, 6, 7, 8, 9, 10, 12]⟩,
    ⟨9, ⟨some 12, .ld 11 1 false, none⟩, [3, 4, 5, 6, 7, 8, 9, 10]⟩]
    [(10, ⟨some 13, .bld [.int .i64 0, .slice true [], .slice true [], .int .i64 0] [(0, (.t 4)), (1, (.t 7)), (2, (.t 10)), (3, (.t 12))], none⟩),
    (11, ⟨none, .st 2 (.t 13) 4, none⟩)] [2])
  (.ret))
theorem con_spec_nOwn {v0 : XTable} {r : XTable} (h : sh_spec_nOwn v0 = some r) : Con Try.prog 24 [(cXTable cI (cLs cI rfl) (cLs cI rfl) cI).enc v0] [] (rs_spec_nOwn r) := by
  delta sh_spec_nOwn at h
  refine top (out := none) (f := Try.f24) (m := m24) (rs := [.c 2 4 true]) (by kernel_rfl) rfl (by kernel_rfl) (by kernel_rfl) (by kernel_rfl) (by kernel_rfl) (by kernel_rfl) ?_
  exact
   ini [(0, .d ((cXTable cI (cLs cI rfl) (cLs cI rfl) cI).enc v0))] rfl <| wpC_seq <| reg_s <| x_box (ss rfl rfl) <| x_all (cXTable cI (cLo cI) (cLo cI) cI) (⟨(0 : Int), ([] : List Int), ([] : List Int), (0 : Int)⟩ : XTable) rfl <| seqN [(1, .box ((cXTable cI (cLs cI rfl) (cLs cI rfl) cI).enc v0)), (2, .box ((cXTable cI (cLo cI) (cLo cI) cI).enc (⟨(0 : Int), ([] : List Int), ([] : List Int), (0 : Int)⟩ : XTable)))] (by kernel_rfl) <|
    xn <| wpC_seq <| drw_s <| pst rfl <| fab rfl rfl rfl rfl ⟨rfl, pst rfl <| lda rfl rfl rfl rfl rfl rfl ⟨rfl, pst rfl <| fab rfl rfl rfl rfl ⟨rfl, pst rfl <| lda rfl rfl rfl rfl rfl rfl ⟨rfl, bndp h fun x5 e6 h => pst rfl <| o_call (a1 (c := (cLs cI rfl)) (tLs tK) rfl a0) (con_spec_l1Own e6) (.inl (so1 (sLo sK) so0)) ⟨rfl, pst rfl <| fab rfl rfl rfl rfl ⟨rfl, pst rfl <| lda rfl rfl rfl rfl rfl rfl ⟨rfl, bndp h fun x7 e8 h => pst rfl <| o_call (a1 (c := (cLs cI rfl)) (tLs tK) rfl a0) (con_spec_l1Own e8) (.inl (so1 (sLo sK) so0)) ⟨rfl, pst rfl <| fab rfl rfl rfl rfl ⟨rfl, pst rfl <| lda rfl rfl rfl rfl rfl rfl ⟨rfl, preN <| x_bld ((cXTable cI (cLo cI) (cLo cI) cI).enc (⟨v0.Level, x5, x7, v0.Sum⟩ : XTable)) (t1 (ss rfl rfl) rfl (t1 (so rfl rfl) rfl (t1 (so rfl rfl) rfl (t1 (ss rfl rfl) rfl t0)))) rfl rfl <| x_stb (so rfl rfl) rfl (Cd.h_sz _ _) rfl <| seqN [(2, .box ((cXTable cI (cLo cI) (cLo cI) cI).enc (⟨v0.Level, x5, x7, v0.Sum⟩ : XTable)))] (by kernel_rfl) <|
    xn <| wpC_ret <| re <| fin h (r2 rfl rfl rfl <| r0) rfl⟩⟩⟩⟩⟩⟩⟩⟩⟩⟩

def rs_spec_eFull (r : Int) : List D := [cI.enc r]
def m60 : MC := .seq (.reg [⟨some 4, .asg (.c (.int .i64 0)), none⟩] [0, 1])
  (.seq (.reg [⟨some 5, .mv (.t 0), none⟩,
    ⟨some 6, .mv (.t 1), none⟩,
    ⟨some 7, .ia 5 (.t 6) 2, none⟩,
    ⟨some 8, .fa 7 1 1, none⟩,
    ⟨some 9, .ld 8 1 false, none⟩,
    ⟨some 10, .cvi .u64 (.t 9), none⟩,
    ⟨some 11, .bin .shl (.c (.int .i64 1)) (.t 10), none⟩,
    ⟨some 12, .bin .sub (.t 11) (.c (.int .i64 1)), none⟩,
    ⟨some 4, .asg (.t 12), none⟩] [4])
  (.ret))
theorem con_spec_eFull {v0 : (List XVariable)} {v1 : Int} {r : Int} (h : sh_spec_eFull v0 v1 = some r) : Con Try.prog 60 [(cLs (cXVariable cS cI) rfl).enc v0, cI.enc v1] [] (rs_spec_eFull r) := by
  delta sh_spec_eFull at h
  refine top (out := none) (f := Try.f60) (m := m60) (rs := [.t 4]) (by kernel_rfl) rfl (by kernel_rfl) (by kernel_rfl) (by kernel_rfl) (by kernel_rfl) (by kernel_rfl) ?_
  exact
   ini [(0, .d ((cLs (cXVariable cS cI) rfl).enc v0)), (1, .d (cI.enc v1))] rfl <| wpC_seq <| reg_s <| x_asg (sc cI (0 : Int) rfl) <| seqN [(0, .d ((cLs (cXVariable cS cI) rfl).enc v0)), (1, .d (cI.enc v1))] (by kernel_rfl) <|
    xn <| wpC_seq <| reg_s <| st rfl <| mvd rfl rfl <| st rfl <| mvd rfl rfl <| getO_k h fun x8 i9 g10 h => st rfl <| ias rfl rfl i9 g10 rfl <| st rfl <| fai rfl rfl rfl rfl <| st rfl <| ldi rfl rfl rfl rfl <| ckK_k h fun i11 h => st rfl <| o_cvi (k := .i64) (k' := .u64) rfl i11 <| ck_k h fun i12 h => ckI_k h fun i13 h => st rfl <| b_shl (k := .i64) (k' := .u64) rfl rfl i12 rfl i13 <| ckI_k h fun i14 h => st rfl <| b_sub (k := .i64) rfl rfl i14 <| x_asg (ss rfl rfl) <| seqN [(4, .d (cI.enc (((1 : Int) * 2 ^ (x8.Levels).toNat) - (1 : Int))))] (by kernel_rfl) <|
    xn <| wpC_ret <| re <| fin h (r1 (ss rfl rfl) <| r0) rfl

def rs_spec_nNormal (r : XTable) : List D := [(cXTable cI (cLo cI) (cLo cI) cI).enc r]
def m42 : MC := .seq (.reg [⟨some 3, .box (.t 1), none⟩,
    ⟨some 4, .alloc (.agg [.int .i64 0, .slice true [], .slice true [], .int .i64 0]), none⟩] [0, 3, 4])
  (.seq (.reg [⟨some 7, .ld 3 4 true, none⟩,
    ⟨some 8, .call 24 [(.t 7)], none⟩,
    ⟨some 5, .alloc (.agg [.int .i64 0, .slice true [], .slice true [], .int .i64 0]), none⟩,
    ⟨none, .st 5 (.t 8) 4, none⟩] [0, 4, 5])
  (.seq (.kp [4, 5] (.seq (.reg [⟨some 9, .mv (.t 0), none⟩,
    ⟨some 10, .len false (.t 9), none⟩,
    ⟨some 11, .mv (.c (.int .i64 0)), none⟩] [0, 4, 5, 10, 11])
  (.blk 0 (.loop (.seq (.reg [⟨some 12, .bin .lss (.t 11) (.t 10), none⟩] [0, 4, 5, 10, 11, 12])
  (.seq (.kp [0, 4, 5, 10, 11] (.cond (.t 12) (.skip) (.exit 0)))
  (.seq (.kp [0, 4, 5, 10, 11] (.blk 1 (.seq (.reg [⟨some 13, .mv (.t 11), none⟩,
    ⟨some 6, .asg (.t 13), none⟩] [0, 4, 5, 6, 10, 11])
  (.seq (.drw [⟨0, ⟨some 14, .fa 5 2 2, none⟩, [15, 16, 17, 18, 19, 20, 21, 22]⟩,
    ⟨1, ⟨some 15, .ld 14 1 false, none⟩, [16, 17, 18, 19, 20, 21, 22]⟩,
    ⟨2, ⟨some 16, .mv (.t 6), none⟩, [14, 15, 17, 18, 19, 20, 21, 22]⟩,
    ⟨3, ⟨some 17, .ia 15 (.t 16) 1, none⟩, [18, 19, 20, 21, 22]⟩,
    ⟨4, ⟨some 18, .ld 17 1 false, none⟩, [19, 20, 21, 22]⟩,
    ⟨5, ⟨some 19, .mv (.t 0), none⟩, [14, 15, 16, 17, 18, 20, 21, 22]⟩,
    ⟨6, ⟨some 20, .mv (.t 6), none⟩, [14, 15, 16, 17, 18, 19, 21, 22]⟩,
    ⟨7, ⟨some 21, .call 60 [(.t 19), (.t 20)], none⟩, [14, 15, 16, 17, 18, 22]⟩,
    ⟨8, ⟨some 22, .bin .eql (.t 18) (.t 21), none⟩, []⟩]
    [] [0, 4, 5, 6, 10, 11, 22])
  (.cond (.t 22) (.reg [⟨some 23, .fa 5 2 2, none⟩,
    ⟨some 24, .ld 23 1 false, none⟩,
    ⟨some 25, .mv (.t 6), none⟩,
    ⟨some 26, .ia 24 (.t 25) 1, none⟩,
    ⟨none, .st 26 (.c (.int .i64 0)) 1, none⟩] [0, 4, 5, 10, 11]) (.skip))))))
  (.reg [⟨some 27, .bin .add (.t 11) (.c (.int .i64 1)), none⟩,
    ⟨some 11, .mv (.t 27), none⟩] [0, 4, 5, 10, 11]))))))))
  (.seq (.reg [⟨some 28, .ld 5 4 true, none⟩,
    ⟨none, .st 4 (.t 28) 4, none⟩] [4])
  (.ret))))
theorem con_spec_nNormal {v0 : (List XVariable)} {v1 : XTable} {r : XTable} (h : sh_spec_nNormal v0 v1 = some r) : Con Try.prog 42 [(cLs (cXVariable cS cI) rfl).enc v0, (cXTable cI (cLs cI rfl) (cLs cI rfl) cI).enc v1] [] (rs_spec_nNormal r) := by
  delta sh_spec_nNormal at h
  refine top (out := none) (f := Try.f42) (m := m42) (rs := [.c 4 4 true]) (by kernel_rfl) rfl (by kernel_rfl) (by kernel_rfl) (by kernel_rfl) (by kernel_rfl) (by kernel_rfl) ?_
  exact
   ini [(0, .d ((cLs (cXVariable cS cI) rfl).enc v0)), (1, .d ((cXTable cI (cLs cI rfl) (cLs cI rfl) cI).enc v1))] rfl <| wpC_seq <| reg_s <| x_box (ss rfl rfl) <| x_all (cXTable cI (cLo cI) (cLo cI) cI) (⟨(0 : Int), ([] : List Int), ([] : List Int), (0 : Int)⟩ : XTable) rfl <| seqN [(0, .d ((cLs (cXVariable cS cI) rfl).enc v0)), (3, .box ((cXTable cI (cLs cI rfl) (cLs cI rfl) cI).enc v1)), (4, .box ((cXTable cI (cLo cI) (cLo cI) cI).enc (⟨(0 : Int), ([] : List Int), ([] : List Int), (0 : Int)⟩ : XTable)))] (by kernel_rfl) <|
    xn <| wpC_seq <| reg_s <| st rfl <| ldb rfl rfl rfl rfl <| bnd h fun x3 e4 h => st rfl <| o_call (a1 (c := (cXTable cI (cLs cI rfl) (cLs cI rfl) cI)) (tXTable tK (tLs tK) (tLs tK) tK) rfl a0) (con_spec_nOwn e4) (.inl (so1 (sXTable sK (sLo sK) (sLo sK) sK) so0)) <| x_all (cXTable cI (cLo cI) (cLo cI) cI) (⟨(0 : Int), ([] : List Int), ([] : List Int), (0 : Int)⟩ : XTable) rfl <| x_stb (so rfl rfl) rfl (Cd.h_sz _ _) rfl <| seqN [(0, .d ((cLs (cXVariable cS cI) rfl).enc v0)), (4, .box ((cXTable cI (cLo cI) (cLo cI) cI).enc (⟨(0 : Int), ([] : List Int), ([] : List Int), (0 : Int)⟩ : XTable))), (5, .box ((cXTable cI (cLo cI) (cLo cI) cI).enc x3))] (by kernel_rfl) <|
    xn <| wpC_seq <| wpC_kp <| wpC_seq <| reg_s <| st rfl <| mvd rfl rfl <| stw rfl <| lens rfl fun l82 => st rfl <| mvc cI (0 : Int) rfl <| seqN [(0, .d ((cLs (cXVariable cS cI) rfl).enc v0)), (4, .box ((cXTable cI (cLo cI) (cLo cI) cI).enc (⟨(0 : Int), ([] : List Int), ([] : List Int), (0 : Int)⟩ : XTable))), (5, .box ((cXTable cI (cLo cI) (cLo cI) cI).enc x3)), (10, .d (cI.enc (v0.length : Int))), (11, .d (cI.enc (0 : Int)))] (by kernel_rfl) <|
    xn <| wpC_blk <| lpR (fun (k84 : Nat) (s83 : XTable) => [(0, .d ((cLs (cXVariable cS cI) rfl).enc v0)), (4, .box ((cXTable cI (cLo cI) (cLo cI) cI).enc (⟨(0 : Int), ([] : List Int), ([] : List Int), (0 : Int)⟩ : XTable))), (5, .box ((cXTable cI (cLo cI) (cLo cI) cI).enc s83)), (10, .d (cI.enc (v0.length : Int))), (11, .d (cI.enc (k84 : Int)))]) x3 rfl h
    (fun G134 s83 h => wpC_seq <| reg_s <| st rfl <| b_lss (k := .i64) rfl rfl <| seqN [(0, .d ((cLs (cXVariable cS cI) rfl).enc v0)), (4, .box ((cXTable cI (cLo cI) (cLo cI) cI).enc (⟨(0 : Int), ([] : List Int), ([] : List Int), (0 : Int)⟩ : XTable))), (5, .box ((cXTable cI (cLo cI) (cLo cI) cI).enc s83)), (10, .d (cI.enc (v0.length : Int))), (11, .d (cI.enc (v0.length : Int))), (12, .d (cB.enc (decide ((v0.length : Int) < (v0.length : Int)))))] (by kernel_rfl) <|
    xn <| wpC_seq <| wpC_kp <| cnd0 rfl (dlf _) <| wpC_exit <| xt <| xt <| xt <| xb <| kpN [(4, .box ((cXTable cI (cLo cI) (cLo cI) cI).enc (⟨(0 : Int), ([] : List Int), ([] : List Int), (0 : Int)⟩ : XTable))), (5, .box ((cXTable cI (cLo cI) (cLo cI) cI).enc s83))] (by kernel_rfl) <| xn <| wpC_seq <| reg_s <| st rfl <| ldbo rfl rfl rfl rfl <| x_stb (sb rfl rfl) rfl (Cd.h_sz _ _) rfl <| seqN [(4, .box ((cXTable cI (cLo cI) (cLo cI) cI).enc s83))] (by kernel_rfl) <|
    xn <| wpC_ret <| re <| fin h (r2 rfl rfl rfl <| r0) rfl)
    (fun G134 nx132 k84 s83 x85 hk86 hx87 hn133 h => wpC_seq <| reg_s <| st rfl <| b_lss (k := .i64) rfl rfl <| seqN [(0, .d ((cLs (cXVariable cS cI) rfl).enc v0)), (4, .box ((cXTable cI (cLo cI) (cLo cI) cI).enc (⟨(0 : Int), ([] : List Int), ([] : List Int), (0 : Int)⟩ : XTable))), (5, .box ((cXTable cI (cLo cI) (cLo cI) cI).enc s83)), (10, .d (cI.enc (v0.length : Int))), (11, .d (cI.enc (k84 : Int))), (12, .d (cB.enc (decide ((k84 : Int) < (v0.length : Int)))))] (by kernel_rfl) <|
    xn <| wpC_seq <| wpC_kp <| cnd1 rfl (dlt hk86) <| wpC_skip <| kpN [(0, .d ((cLs (cXVariable cS cI) rfl).enc v0)), (4, .box ((cXTable cI (cLo cI) (cLo cI) cI).enc (⟨(0 : Int), ([] : List Int), ([] : List Int), (0 : Int)⟩ : XTable))), (5, .box ((cXTable cI (cLo cI) (cLo cI) cI).enc s83)), (10, .d (cI.enc (v0.length : Int))), (11, .d (cI.enc (k84 : Int)))] (by kernel_rfl) <| xn <| wpC_seq <| wpC_kp <| wpC_blk <| wpC_seq <| reg_s <| st rfl <| mvd rfl rfl <| x_asg (ss rfl rfl) <| seqN [(0, .d ((cLs (cXVariable cS cI) rfl).enc v0)), (4, .box ((cXTable cI (cLo cI) (cLo cI) cI).enc (⟨(0 : Int), ([] : List Int), ([] : List Int), (0 : Int)⟩ : XTable))), (5, .box ((cXTable cI (cLo cI) (cLo cI) cI).enc s83)), (6, .d (cI.enc (k84 : Int))), (10, .d (cI.enc (v0.length : Int))), (11, .d (cI.enc (k84 : Int)))] (by kernel_rfl) <|
    xn <| wpC_seq <| drw_s <| pst rfl <| fab rfl rfl rfl rfl ⟨rfl, pst rfl <| ldao rfl rfl rfl rfl rfl rfl ⟨rfl, pst rfl <| mvd rfl rfl ⟨rfl, getO_kp h fun x151 i152 g153 h => pst rfl <| iar rfl rfl rfl rfl i152 g153 rfl ⟨rfl, pst rfl <| lda rfl rfl (Gt.fld rfl rfl (Gt.idx g153 Gt.nil)) rfl rfl rfl ⟨rfl, pst rfl <| mvd rfl rfl ⟨rfl, pst rfl <| mvd rfl rfl ⟨rfl, bndp h fun x154 e155 h => pst rfl <| o_call (a1 (c := (cLs (cXVariable cS cI) rfl)) (tLs (tXVariable tS tK)) rfl (a1 (c := cI) tK rfl a0)) (con_spec_eFull e155) (.inl (so1 sK so0)) ⟨rfl, pst rfl <| b_eql (k := .i64) rfl rfl ⟨rfl, preN <| seqN [(0, .d ((cLs (cXVariable cS cI) rfl).enc v0)), (4, .box ((cXTable cI (cLo cI) (cLo cI) cI).enc (⟨(0 : Int), ([] : List Int), ([] : List Int), (0 : Int)⟩ : XTable))), (5, .box ((cXTable cI (cLo cI) (cLo cI) cI).enc s83)), (6, .d (cI.enc (k84 : Int))), (10, .d (cI.enc (v0.length : Int))), (11, .d (cI.enc (k84 : Int))), (22, .d (cB.enc (decide (x151 = x154))))] (by kernel_rfl) <|
    xn <| cnd rfl h (fun b156 h => reg_s <| st rfl <| fab rfl rfl rfl rfl <| st rfl <| ldao rfl rfl rfl rfl rfl rfl <| st rfl <| mvd rfl rfl <| st rfl <| iar rfl rfl rfl rfl i152 g153 rfl <| x_sta ((cXTable cI (cLo cI) (cLo cI) cI).enc (⟨s83.Level, s83.Vars, (s83.Where.set ((k84 : Int)).toNat (0 : Int)), s83.Sum⟩ : XTable)) (sc cI (0 : Int) rfl) rfl rfl (Ln.fld rfl rfl (Ln.idx g153 Ln.nil) rfl) (Cd.h_sz cI _) rfl <| seqN [(0, .d ((cLs (cXVariable cS cI) rfl).enc v0)), (4, .box ((cXTable cI (cLo cI) (cLo cI) cI).enc (⟨(0 : Int), ([] : List Int), ([] : List Int), (0 : Int)⟩ : XTable))), (5, .box ((cXTable cI (cLo cI) (cLo cI) cI).enc (⟨s83.Level, s83.Vars, (s83.Where.set ((k84 : Int)).toNat (0 : Int)), s83.Sum⟩ : XTable))), (10, .d (cI.enc (v0.length : Int))), (11, .d (cI.enc (k84 : Int)))] (by kernel_rfl) <|
    xbb <| kpN [(0, .d ((cLs (cXVariable cS cI) rfl).enc v0)), (4, .box ((cXTable cI (cLo cI) (cLo cI) cI).enc (⟨(0 : Int), ([] : List Int), ([] : List Int), (0 : Int)⟩ : XTable))), (5, .box ((cXTable cI (cLo cI) (cLo cI) cI).enc (⟨s83.Level, s83.Vars, (s83.Where.set ((k84 : Int)).toNat (0 : Int)), s83.Sum⟩ : XTable))), (10, .d (cI.enc (v0.length : Int))), (11, .d (cI.enc (k84 : Int)))] (by kernel_rfl) <| xn <| reg_s <| st rfl <| b_inc rfl rfl l82 hk86 <| st rfl <| mvd rfl rfl <| seqN [(0, .d ((cLs (cXVariable cS cI) rfl).enc v0)), (4, .box ((cXTable cI (cLo cI) (cLo cI) cI).enc (⟨(0 : Int), ([] : List Int), ([] : List Int), (0 : Int)⟩ : XTable))), (5, .box ((cXTable cI (cLo cI) (cLo cI) cI).enc (⟨s83.Level, s83.Vars, (s83.Where.set ((k84 : Int)).toNat (0 : Int)), s83.Sum⟩ : XTable))), (10, .d (cI.enc (v0.length : Int))), (11, .d (cI.enc ((k84 + 1 : Nat) : Int)))] (by kernel_rfl) <|
    xn <| hn133 (⟨s83.Level, s83.Vars, (s83.Where.set ((k84 : Int)).toNat (0 : Int)), s83.Sum⟩ : XTable) h)
    (fun b156 h => wpC_skip <| xbb <| kpN [(0, .d ((cLs (cXVariable cS cI) rfl).enc v0)), (4, .box ((cXTable cI (cLo cI) (cLo cI) cI).enc (⟨(0 : Int), ([] : List Int), ([] : List Int), (0 : Int)⟩ : XTable))), (5, .box ((cXTable cI (cLo cI) (cLo cI) cI).enc s83)), (10, .d (cI.enc (v0.length : Int))), (11, .d (cI.enc (k84 : Int)))] (by kernel_rfl) <| xn <| reg_s <| st rfl <| b_inc rfl rfl l82 hk86 <| st rfl <| mvd rfl rfl <| seqN [(0, .d ((cLs (cXVariable cS cI) rfl).enc v0)), (4, .box ((cXTable cI (cLo cI) (cLo cI) cI).enc (⟨(0 : Int), ([] : List Int), ([] : List Int), (0 : Int)⟩ : XTable))), (5, .box ((cXTable cI (cLo cI) (cLo cI) cI).enc s83)), (10, .d (cI.enc (v0.length : Int))), (11, .d (cI.enc ((k84 + 1 : Nat) : Int)))] (by kernel_rfl) <|
    xn <| hn133 s83 h)⟩⟩⟩⟩⟩⟩⟩⟩⟩)

def rs_spec_l1Same (r : Bool) : List D := [cB.enc r]
def m43 : MC := .seq (.reg [⟨some 4, .asg (.c (.bool false)), none⟩] [0, 1])
  (.seq (.kp [0, 1] (.seq (.reg [⟨some 6, .mv (.t 0), none⟩,
    ⟨some 7, .len false (.t 6), none⟩,
    ⟨some 8, .mv (.t 1), none⟩,
    ⟨some 9, .len false (.t 8), none⟩,
    ⟨some 10, .bin .neq (.t 7) (.t 9), none⟩] [0, 1, 10])
  (.cond (.t 10) (.seq (.reg [⟨some 4, .asg (.c (.bool false)), none⟩] [4])
  (.ret)) (.skip))))
  (.seq (.kp [] (.seq (.reg [⟨some 11, .mv (.t 0), none⟩,
    ⟨some 12, .len false (.t 11), none⟩,
    ⟨some 13, .mv (.c (.int .i64 0)), none⟩] [0, 1, 12, 13])
  (.blk 0 (.loop (.seq (.reg [⟨some 14, .bin .lss (.t 13) (.t 12), none⟩] [0, 1, 12, 13, 14])
  (.seq (.kp [0, 1, 12, 13] (.cond (.t 14) (.skip) (.exit 0)))
  (.seq (.kp [0, 1, 12, 13] (.blk 1 (.seq (.reg [⟨some 15, .mv (.t 13), none⟩,
    ⟨some 5, .asg (.t 15), none⟩] [0, 1, 5, 12, 13])
  (.seq (.drw [⟨0, ⟨some 16, .mv (.t 0), none⟩, [17, 18, 19, 20, 21, 22, 23, 24]⟩,
    ⟨1, ⟨some 17, .mv (.t 5), none⟩, [16, 18, 19, 20, 21, 22, 23, 24]⟩,
    ⟨2, ⟨some 18, .ia 16 (.t 17) 1, none⟩, [19, 20, 21, 22, 23, 24]⟩,
    ⟨3, ⟨some 19, .ld 18 1 false, none⟩, [20, 21, 22, 23, 24]⟩,
    ⟨4, ⟨some 20, .mv (.t 1), none⟩, [16, 17, 18, 19, 21, 22, 23, 24]⟩,
    ⟨5, ⟨some 21, .mv (.t 5), none⟩, [16, 17, 18, 19, 20, 22, 23, 24]⟩,
    ⟨6, ⟨some 22, .ia 20 (.t 21) 1, none⟩, [16, 17, 18, 19, 23, 24]⟩,
    ⟨7, ⟨some 23, .ld 22 1 false, none⟩, [16, 17, 18, 19, 24]⟩,
    ⟨8, ⟨some 24, .bin .neq (.t 19) (.t 23), none⟩, []⟩]
    [] [0, 1, 12, 13, 24])
  (.cond (.t 24) (.seq (.reg [⟨some 4, .asg (.c (.bool false)), none⟩] [4])
  (.ret)) (.skip))))))
  (.reg [⟨some 25, .bin .add (.t 13) (.c (.int .i64 1)), none⟩,
    ⟨some 13, .mv (.t 25), none⟩] [0, 1, 12, 13]))))))))
  (.seq (.reg [⟨some 4, .asg (.c (.bool true)), none⟩] [4])
  (.ret))))
theorem con_spec_l1Same {v0 : (List Int)} {v1 : (List Int)} {r : Bool} (h : sh_spec_l1Same v0 v1 = some r) : Con Try.prog 43 [(cLs cI rfl).enc v0, (cLs cI rfl).enc v1] [] (rs_spec_l1Same r) := by
  delta sh_spec_l1Same at h
  refine top (out := none) (f := Try.f43) (m := m43) (rs := [.t 4]) (by kernel_rfl) rfl (by kernel_rfl) (by kernel_rfl) (by kernel_rfl) (by kernel_rfl) (by kernel_rfl) ?_
  exact
   ini [(0, .d ((cLs cI rfl).enc v0)), (1, .d ((cLs cI rfl).enc v1))] rfl <| wpC_seq <| reg_s <| x_asg (sc cB false rfl) <| seqN [(0, .d ((cLs cI rfl).enc v0)), (1, .d ((cLs cI rfl).enc v1))] (by kernel_rfl) <|
    xn <| wpC_seq <| wpC_kp <| wpC_seq <| reg_s <| st rfl <| mvd rfl rfl <| stw rfl <| lens rfl fun l8 => st rfl <| mvd rfl rfl <| stw rfl <| lens rfl fun l9 => st rfl <| b_neq (k := .i64) rfl rfl <| seqN [(0, .d ((cLs cI rfl).enc v0)), (1, .d ((cLs cI rfl).enc v1)), (10, .d (cB.enc (decide ((v0.length : Int) ≠ (v1.length : Int)))))] (by kernel_rfl) <|
    xn <| cnd rfl h (fun b10 h => wpC_seq <| reg_s <| x_asg (sc cB false rfl) <| seqN [(4, .d (cB.enc false))] (by kernel_rfl) <|
    xn <| wpC_ret <| rt <| rt <| re <| fin h (r1 (ss rfl rfl) <| r0) rfl)
    (fun b10 h => wpC_skip <| kpN [(0, .d ((cLs cI rfl).enc v0)), (1, .d ((cLs cI rfl).enc v1))] (by kernel_rfl) <| xn <| wpC_seq <| wpC_kp <| wpC_seq <| reg_s <| st rfl <| mvd rfl rfl <| stw rfl <| lens rfl fun l50 => st rfl <| mvc cI (0 : Int) rfl <| seqN [(0, .d ((cLs cI rfl).enc v0)), (1, .d ((cLs cI rfl).enc v1)), (12, .d (cI.enc (v0.length : Int))), (13, .d (cI.enc (0 : Int)))] (by kernel_rfl) <|
    xn <| wpC_blk <| lpR (fun (k52 : Nat) (s51 : Unit) => [(0, .d ((cLs cI rfl).enc v0)), (1, .d ((cLs cI rfl).enc v1)), (12, .d (cI.enc (v0.length : Int))), (13, .d (cI.enc (k52 : Int)))]) () rfl h
    (fun G72 s51 h => wpC_seq <| reg_s <| st rfl <| b_lss (k := .i64) rfl rfl <| seqN [(0, .d ((cLs cI rfl).enc v0)), (1, .d ((cLs cI rfl).enc v1)), (12, .d (cI.enc (v0.length : Int))), (13, .d (cI.enc (v0.length : Int))), (14, .d (cB.enc (decide ((v0.length : Int) < (v0.length : Int)))))] (by kernel_rfl) <|
    xn <| wpC_seq <| wpC_kp <| cnd0 rfl (dlf _) <| wpC_exit <| xt <| xt <| xt <| xb <| kpN [] (by kernel_rfl) <| xn <| wpC_seq <| reg_s <| x_asg (sc cB true rfl) <| seqN [(4, .d (cB.enc true))] (by kernel_rfl) <|
    xn <| wpC_ret <| re <| fin h (r1 (ss rfl rfl) <| r0) rfl)
    (fun G72 nx70 k52 s51 x53 hk54 hx55 hn71 h => wpC_seq <| reg_s <| st rfl <| b_lss (k := .i64) rfl rfl <| seqN [(0, .d ((cLs cI rfl).enc v0)), (1, .d ((cLs cI rfl).enc v1)), (12, .d (cI.enc (v0.length : Int))), (13, .d (cI.enc (k52 : Int))), (14, .d (cB.enc (decide ((k52 : Int) < (v0.length : Int)))))] (by kernel_rfl) <|
    xn <| wpC_seq <| wpC_kp <| cnd1 rfl (dlt hk54) <| wpC_skip <| kpN [(0, .d ((cLs cI rfl).enc v0)), (1, .d ((cLs cI rfl).enc v1)), (12, .d (cI.enc (v0.length : Int))), (13, .d (cI.enc (k52 : Int)))] (by kernel_rfl) <| xn <| wpC_seq <| wpC_kp <| wpC_blk <| wpC_seq <| reg_s <| st rfl <| mvd rfl rfl <| x_asg (ss rfl rfl) <| seqN [(0, .d ((cLs cI rfl).enc v0)), (1, .d ((cLs cI rfl).enc v1)), (5, .d (cI.enc (k52 : Int))), (12, .d (cI.enc (v0.length : Int))), (13, .d (cI.enc (k52 : Int)))] (by kernel_rfl) <|
    xn <| wpC_seq <| drw_s <| pst rfl <| mvd rfl rfl ⟨rfl, pst rfl <| mvd rfl rfl ⟨rfl, pst rfl <| ias rfl rfl (Int.natCast_nonneg _) hx55 rfl ⟨rfl, pst rfl <| ldi rfl rfl rfl rfl ⟨rfl, pst rfl <| mvd rfl rfl ⟨rfl, pst rfl <| mvd rfl rfl ⟨rfl, getO_kp h fun x83 i84 g85 h => pst rfl <| ias rfl rfl i84 g85 rfl ⟨rfl, pst rfl <| ldi rfl rfl rfl rfl ⟨rfl, pst rfl <| b_neq (k := .i64) rfl rfl ⟨rfl, preN <| seqN [(0, .d ((cLs cI rfl).enc v0)), (1, .d ((cLs cI rfl).enc v1)), (12, .d (cI.enc (v0.length : Int))), (13, .d (cI.enc (k52 : Int))), (24, .d (cB.enc (decide (x53 ≠ x83))))] (by kernel_rfl) <|
    xn <| cnd rfl h (fun b86 h => wpC_seq <| reg_s <| x_asg (sc cB false rfl) <| seqN [(4, .d (cB.enc false))] (by kernel_rfl) <|
    xn <| wpC_ret <| rb <| rt <| rt <| rt <| rb <| rt <| rt <| re <| fin h (r1 (ss rfl rfl) <| r0) rfl)
    (fun b86 h => wpC_skip <| xbb <| kpN [(0, .d ((cLs cI rfl).enc v0)), (1, .d ((cLs cI rfl).enc v1)), (12, .d (cI.enc (v0.length : Int))), (13, .d (cI.enc (k52 : Int)))] (by kernel_rfl) <| xn <| reg_s <| st rfl <| b_inc rfl rfl l50 hk54 <| st rfl <| mvd rfl rfl <| seqN [(0, .d ((cLs cI rfl).enc v0)), (1, .d ((cLs cI rfl).enc v1)), (12, .d (cI.enc (v0.length : Int))), (13, .d (cI.enc ((k52 + 1 : Nat) : Int)))] (by kernel_rfl) <|
    xn <| hn71 () h)⟩⟩⟩⟩⟩⟩⟩⟩⟩))

def rs_spec_nSame (r : Bool) : List D := [cB.enc r]
def m23 : MC := .seq (.reg [⟨some 4, .box (.t 1), none⟩,
    ⟨some 5, .box (.t 2), none⟩,
    ⟨some 6, .asg (.c (.bool false)), none⟩] [0, 4, 5])
  (.seq (.drw [⟨0, ⟨some 9, .mv (.t 0), none⟩, [7, 8, 10, 11, 12, 13, 14]⟩,
    ⟨1, ⟨some 10, .ld 4 4 true, none⟩, [7, 8, 9, 11, 12, 13, 14]⟩,
    ⟨2, ⟨some 11, .call 42 [(.t 9), (.t 10)], none⟩, [7, 8, 12, 13, 14]⟩,
    ⟨3, ⟨some 12, .mv (.t 0), none⟩, [7, 8, 9, 10, 11, 13, 14]⟩,
    ⟨4, ⟨some 13, .ld 5 4 true, none⟩, [7, 8, 9, 10, 11, 12, 14]⟩,
    ⟨5, ⟨some 14, .call 42 [(.t 12), (.t 13)], none⟩, [7, 8]⟩,
    ⟨6, ⟨some 7, .alloc (.agg [.int .i64 0, .slice true [], .slice true [], .int .i64 0]), none⟩, [8, 9, 10, 11, 12, 13, 14]⟩,
    ⟨7, ⟨some 8, .alloc (.agg [.int .i64 0, .slice true [], .slice true [], .int .i64 0]), none⟩, [7, 9, 10, 11, 12, 13, 14]⟩]
    [(8, ⟨none, .st 7 (.t 11) 4, none⟩),
    (9, ⟨none, .st 8 (.t 14) 4, none⟩)] [7, 8])
  (.seq (.reg [⟨some 15, .fa 7 0 0, none⟩,
    ⟨some 16, .ld 15 1 false, none⟩,
    ⟨some 17, .fa 8 0 0, none⟩,
    ⟨some 18, .ld 17 1 false, none⟩,
    ⟨some 19, .bin .eql (.t 16) (.t 18), none⟩,
    ⟨some 20, .mv (.t 19), none⟩,
    ⟨some 21, .fa 7 1 1, some (20, true)⟩,
    ⟨some 22, .ld 21 1 false, some (20, true)⟩,
    ⟨some 23, .fa 8 1 1, some (20, true)⟩,
    ⟨some 24, .ld 23 1 false, some (20, true)⟩,
    ⟨some 25, .call 43 [(.t 22), (.t 24)], some (20, true)⟩,
    ⟨some 26, .pick (.t 20) (.t 25) (.c (.bool false)), none⟩,
    ⟨some 27, .mv (.t 26), none⟩,
    ⟨some 28, .fa 7 2 2, some (27, true)⟩,
    ⟨some 29, .ld 28 1 false, some (27, true)⟩,
    ⟨some 30, .fa 8 2 2, some (27, true)⟩,
    ⟨some 31, .ld 30 1 false, some (27, true)⟩,
    ⟨some 32, .call 43 [(.t 29), (.t 31)], some (27, true)⟩,
    ⟨some 33, .pick (.t 27) (.t 32) (.c (.bool false)), none⟩,
    ⟨some 34, .mv (.t 33), none⟩,
    ⟨some 35, .fa 7 3 3, some (34, true)⟩,
    ⟨some 36, .ld 35 1 false, some (34, true)⟩,
    ⟨some 37, .fa 8 3 3, some (34, true)⟩,
    ⟨some 38, .ld 37 1 false, some (34, true)⟩,
    ⟨some 39, .bin .eql (.t 36) (.t 38), some (34, true)⟩,
    ⟨some 40, .pick (.t 34) (.t 39) (.c (.bool false)), none⟩,
    ⟨some 6, .asg (.t 40), none⟩] [6])
  (.ret)))
theorem con_spec_nSame {v0 : (List XVariable)} {v1 : XTable} {v2 : XTable} {r : Bool} (h : sh_spec_nSame v0 v1 v2 = some r) : Con Try.prog 23 [(cLs (cXVariable cS cI) rfl).enc v0, (cXTable cI (cLs cI rfl) (cLs cI rfl) cI).enc v1, (cXTable cI (cLs cI rfl) (cLs cI rfl) cI).enc v2] [] (rs_spec_nSame r) := by
  delta sh_spec_nSame at h
  refine top (out := none) (f := Try.f23) (m := m23) (rs := [.t 6]) (by kernel_rfl) rfl (by kernel_rfl) (by kernel_rfl) (by kernel_rfl) (by kernel_rfl) (by kernel_rfl) ?_
  exact
   ini [(0, .d ((cLs (cXVariable cS cI) rfl).enc v0)), (1, .d ((cXTable cI (cLs cI rfl) (cLs cI rfl) cI).enc v1)), (2, .d ((cXTable cI (cLs cI rfl) (cLs cI rfl) cI).enc v2))] rfl <| wpC_seq <| reg_s <| x_box (ss rfl rfl) <| x_box (ss rfl rfl) <| x_asg (sc cB false rfl) <| seqN [(0, .d ((cLs (cXVariable cS cI) rfl).enc v0)), (4, .box ((cXTable cI (cLs cI rfl) (cLs cI rfl) cI).enc v1)), (5, .box ((cXTable cI (cLs cI rfl) (cLs cI rfl) cI).enc v2))] (by kernel_rfl) <|
    xn <| wpC_seq <| drw_s <| pst rfl <| mvd rfl rfl ⟨rfl, pst rfl <| ldb rfl rfl rfl rfl ⟨rfl, bndp h fun x5 e6 h => pst rfl <| o_call (a1 (c := (cLs (cXVariable cS cI) rfl)) (tLs (tXVariable tS tK)) rfl (a1 (c := (cXTable cI (cLs cI rfl) (cLs cI rfl) cI)) (tXTable tK (tLs tK) (tLs tK) tK) rfl a0)) (con_spec_nNormal e6) (.inl (so1 (sXTable sK (sLo sK) (sLo sK) sK) so0)) ⟨rfl, pst rfl <| mvd rfl rfl ⟨rfl, pst rfl <| ldb rfl rfl rfl rfl ⟨rfl, bndp h fun x7 e8 h => pst rfl <| o_call (a1 (c := (cLs (cXVariable cS cI) rfl)) (tLs (tXVariable tS tK)) rfl (a1 (c := (cXTable cI (cLs cI rfl) (cLs cI rfl) cI)) (tXTable tK (tLs tK) (tLs tK) tK) rfl a0)) (con_spec_nNormal e8) (.inl (so1 (sXTable sK (sLo sK) (sLo sK) sK) so0)) ⟨rfl, pst rfl <| p_all (cXTable cI (cLo cI) (cLo cI) cI) (⟨(0 : Int), ([] : List Int), ([] : List Int), (0 : Int)⟩ : XTable) rfl ⟨rfl, pst rfl <| p_all (cXTable cI (cLo cI) (cLo cI) cI) (⟨(0 : Int), ([] : List Int), ([] : List Int), (0 : Int)⟩ : XTable) rfl ⟨rfl, preN <| x_stb (so rfl rfl) rfl (Cd.h_sz _ _) rfl <| x_stb (so rfl rfl) rfl (Cd.h_sz _ _) rfl <| seqN [(7, .box ((cXTable cI (cLo cI) (cLo cI) cI).enc x5)), (8, .box ((cXTable cI (cLo cI) (cLo cI) cI).enc x7))] (by kernel_rfl) <|
    xn <| wpC_seq <| jw (fun (s16 : Bool) => [(6, .d (cB.enc s16))]) h (fun s16 h => xn <| wpC_ret <| re <| fin h (r1 (ss rfl rfl) <| r0) rfl)
    fun s16' q17 h => reg_s <| st rfl <| fab rfl rfl rfl rfl <| st rfl <| lda rfl rfl rfl rfl rfl rfl <| st rfl <| fab rfl rfl rfl rfl <| st rfl <| lda rfl rfl rfl rfl rfl rfl <| st rfl <| b_eql (k := .i64) rfl rfl <| st rfl <| mvd rfl rfl <| ite_k h (fun b18 h => gt' rfl b18 <| st rfl <| fab rfl rfl rfl rfl <| gt' rfl b18 <| st rfl <| ldao rfl rfl rfl rfl rfl rfl <| gt' rfl b18 <| st rfl <| fab rfl rfl rfl rfl <| gt' rfl b18 <| st rfl <| ldao rfl rfl rfl rfl rfl rfl <| gt' rfl b18 <| bnd h fun x19 e20 h => st rfl <| o_call (a1 (c := (cLo cI)) (tLo tK) rfl (a1 (c := (cLo cI)) (tLo tK) rfl a0)) (con_spec_l1Same e20) (.inl (so1 sB so0)) <| st rfl <| pick1 rfl b18 (cd := cB) (v := x19) rfl rfl <| st rfl <| mvd rfl rfl <| ite_k h (fun b21 h => gt' rfl b21 <| st rfl <| fab rfl rfl rfl rfl <| gt' rfl b21 <| st rfl <| ldao rfl rfl rfl rfl rfl rfl <| gt' rfl b21 <| st rfl <| fab rfl rfl rfl rfl <| gt' rfl b21 <| st rfl <| ldao rfl rfl rfl rfl rfl rfl <| gt' rfl b21 <| bnd h fun x22 e23 h => st rfl <| o_call (a1 (c := (cLo cI)) (tLo tK) rfl (a1 (c := (cLo cI)) (tLo tK) rfl a0)) (con_spec_l1Same e23) (.inl (so1 sB so0)) <| st rfl <| pick1 rfl b21 (cd := cB) (v := x22) rfl rfl <| st rfl <| mvd rfl rfl <| ite_k h (fun b24 h => gt' rfl b24 <| st rfl <| fab rfl rfl rfl rfl <| gt' rfl b24 <| st rfl <| lda rfl rfl rfl rfl rfl rfl <| gt' rfl b24 <| st rfl <| fab rfl rfl rfl rfl <| gt' rfl b24 <| st rfl <| lda rfl rfl rfl rfl rfl rfl <| gt' rfl b24 <| st rfl <| b_eql (k := .i64) rfl rfl <| st rfl <| pick1 rfl b24 (cd := cB) (v := (decide (x5.Sum = x7.Sum))) rfl rfl <| x_asg (ss rfl rfl) <| seqN [(6, .d (cB.enc (decide (x5.Sum = x7.Sum))))] (by kernel_rfl) <|
    lfn (S := (fun (s16 : Bool) => [(6, .d (cB.enc s16))])) h q17 rfl)
    (fun b24 h => gf rfl b24 <| gf rfl b24 <| gf rfl b24 <| gf rfl b24 <| gf rfl b24 <| st rfl <| pick0 rfl b24 (cd := cB) (v := false) rfl rfl <| x_asg (ss rfl rfl) <| seqN [(6, .d (cB.enc false))] (by kernel_rfl) <|
    lfn (S := (fun (s16 : Bool) => [(6, .d (cB.enc s16))])) h q17 rfl))
    (fun b21 h => gf rfl b21 <| gf rfl b21 <| gf rfl b21 <| gf rfl b21 <| gf rfl b21 <| st rfl <| pick0 rfl b21 (cd := cB) (v := false) rfl rfl <| st rfl <| mvd rfl rfl <| gf rfl rfl <| gf rfl rfl <| gf rfl rfl <| gf rfl rfl <| gf rfl rfl <| st rfl <| pick0 rfl rfl (cd := cB) (v := false) rfl rfl <| x_asg (ss rfl rfl) <| seqN [(6, .d (cB.enc false))] (by kernel_rfl) <|
    lfn (S := (fun (s16 : Bool) => [(6, .d (cB.enc s16))])) h q17 rfl))
    (fun b18 h => gf rfl b18 <| gf rfl b18 <| gf rfl b18 <| gf rfl b18 <| gf rfl b18 <| st rfl <| pick0 rfl b18 (cd := cB) (v := false) rfl rfl <| st rfl <| mvd rfl rfl <| gf rfl rfl <| gf rfl rfl <| gf rfl rfl <| gf rfl rfl <| gf rfl rfl <| st rfl <| pick0 rfl rfl (cd := cB) (v := false) rfl rfl <| st rfl <| mvd rfl rfl <| gf rfl rfl <| gf rfl rfl <| gf rfl rfl <| gf rfl rfl <| gf rfl rfl <| st rfl <| pick0 rfl rfl (cd := cB) (v := false) rfl rfl <| x_asg (ss rfl rfl) <| seqN [(6, .d (cB.enc false))] (by kernel_rfl) <|
    lfn (S := (fun (s16 : Bool) => [(6, .d (cB.enc s16))])) h q17 rfl)⟩⟩⟩⟩⟩⟩⟩⟩

def rs_spec_MergePlans (r : ((List XTable) × Bool)) : List D := [(cLo (cXTable cI (cLo cI) (cLo cI) cI)).enc r.1, cB.enc r.2]
def m7 : MC := .seq (.reg [⟨some 4, .box (.t 0), none⟩,
    ⟨some 8, .asg (.c (.slice true [])), none⟩,
    ⟨some 9, .asg (.c (.bool false)), none⟩] [1, 2, 3, 4])
  (.seq (.kp [1, 2, 3] (.seq (.reg [⟨some 16, .ld 4 1 true, none⟩,
    ⟨some 17, .mv (.t 1), none⟩,
    ⟨some 18, .mv (.t 2), none⟩,
    ⟨some 19, .call 22 [(.t 16), (.t 17), (.t 18)], none⟩,
    ⟨some 20, .nt (.t 19), none⟩,
    ⟨some 21, .mv (.t 20), none⟩,
    ⟨some 22, .ld 4 1 true, some (21, false)⟩,
    ⟨some 23, .mv (.t 1), some (21, false)⟩,
    ⟨some 24, .mv (.t 3), some (21, false)⟩,
    ⟨some 25, .call 22 [(.t 22), (.t 23), (.t 24)], some (21, false)⟩,
    ⟨some 26, .nt (.t 25), some (21, false)⟩,
    ⟨some 27, .pick (.t 21) (.c (.bool true)) (.t 26), none⟩] [1, 2, 3, 27])
  (.cond (.t 27) (.seq (.reg [⟨some 8, .asg (.c (.slice true [])), none⟩,
    ⟨some 9, .asg (.c (.bool false)), none⟩] [8, 9])
  (.ret)) (.skip))))
  (.seq (.reg [⟨some 10, .asg (.c (.slice true [])), none⟩] [1, 2, 3, 10])
  (.seq (.kp [10] (.seq (.reg [⟨some 28, .bsl [] 4, none⟩,
    ⟨some 29, .mv (.t 2), none⟩,
    ⟨some 30, .app (.t 28) (.t 29) 4, none⟩,
    ⟨some 31, .mv (.t 3), none⟩,
    ⟨some 32, .app (.t 30) (.t 31) 4, none⟩,
    ⟨some 33, .len false (.t 32), none⟩,
    ⟨some 34, .mv (.c (.int .i64 0)), none⟩] [1, 10, 32, 33, 34])
  (.blk 0 (.loop (.seq (.reg [⟨some 35, .bin .lss (.t 34) (.t 33), none⟩] [1, 10, 32, 33, 34, 35])
  (.seq (.kp [1, 10, 32, 33, 34] (.cond (.t 35) (.skip) (.exit 0)))
  (.seq (.kp [1, 10, 32, 33, 34] (.blk 1 (.seq (.reg [⟨some 36, .ia 32 (.t 34) 4, none⟩,
    ⟨some 37, .ld 36 4 true, none⟩,
    ⟨some 12, .alloc (.agg [.int .i64 0, .slice true [], .slice true [], .int .i64 0]), none⟩,
    ⟨none, .st 12 (.t 37) 4, none⟩] [1, 10, 12, 32, 33, 34])
  (.seq (.reg [⟨some 13, .asg (.c (.bool false)), none⟩] [1, 10, 12, 13, 32, 33, 34])
  (.seq (.kp [1, 10, 12, 13, 32, 33, 34] (.seq (.reg [⟨some 38, .mv (.t 10), none⟩,
    ⟨some 39, .len false (.t 38), none⟩,
    ⟨some 40, .mv (.c (.int .i64 0)), none⟩] [1, 10, 12, 13, 32, 33, 34, 38, 39, 40])
  (.blk 2 (.loop (.seq (.reg [⟨some 41, .bin .lss (.t 40) (.t 39), none⟩] [1, 10, 12, 13, 32, 33, 34, 38, 39, 40, 41])
  (.seq (.kp [1, 10, 12, 13, 32, 33, 34, 38, 39, 40] (.cond (.t 41) (.skip) (.exit 2)))
  (.seq (.kp [1, 10, 12, 13, 32, 33, 34, 38, 39, 40] (.blk 3 (.seq (.reg [⟨some 42, .ia 38 (.t 40) 4, none⟩,
    ⟨some 43, .ld 42 4 true, none⟩,
    ⟨some 15, .alloc (.agg [.int .i64 0, .slice true [], .slice true [], .int .i64 0]), none⟩,
    ⟨none, .stm 15 43 4, none⟩] [1, 10, 12, 13, 15, 32, 33, 34, 38, 39, 40, 42, 43])
  (.reg [⟨some 44, .mv (.t 13), none⟩,
    ⟨some 45, .mv (.t 44), none⟩,
    ⟨some 46, .mv (.t 1), some (45, false)⟩,
    ⟨some 47, .ld 12 4 true, some (45, false)⟩,
    ⟨some 48, .ld 15 4 true, some (45, false)⟩,
    ⟨some 49, .call 23 [(.t 46), (.t 47), (.t 48)], some (45, false)⟩,
    ⟨some 50, .pick (.t 45) (.c (.bool true)) (.t 49), none⟩,
    ⟨some 13, .asg (.t 50), none⟩] [1, 10, 12, 13, 32, 33, 34, 38, 39, 40]))))
  (.reg [⟨some 51, .bin .add (.t 40) (.c (.int .i64 1)), none⟩,
    ⟨some 40, .mv (.t 51), none⟩] [1, 10, 12, 13, 32, 33, 34, 38, 39, 40]))))))))
  (.seq (.reg [⟨some 52, .mv (.t 13), none⟩,
    ⟨some 53, .nt (.t 52), none⟩] [1, 10, 12, 32, 33, 34, 53])
  (.cond (.t 53) (.reg [⟨some 54, .mv (.t 10), none⟩,
    ⟨some 55, .ld 12 4 true, none⟩,
    ⟨some 56, .call 24 [(.t 55)], none⟩,
    ⟨some 57, .bsl [(.t 56)] 4, none⟩,
    ⟨some 58, .app (.t 54) (.t 57) 4, none⟩,
    ⟨some 10, .asg (.t 58), none⟩] [1, 10, 32, 33, 34]) (.skip))))))))
  (.reg [⟨some 59, .bin .add (.t 34) (.c (.int .i64 1)), none⟩,
    ⟨some 34, .mv (.t 59), none⟩] [1, 10, 32, 33, 34]))))))))
  (.seq (.kp [10] (.seq (.reg [⟨some 60, .mv (.t 10), none⟩,
    ⟨some 61, .len false (.t 60), none⟩,
    ⟨some 62, .bin .gtr (.t 61) (.c (.int .i64 20)), none⟩] [10, 62])
  (.cond (.t 62) (.seq (.reg [⟨some 8, .asg (.c (.slice true [])), none⟩,
    ⟨some 9, .asg (.c (.bool false)), none⟩] [8, 9])
  (.ret)) (.skip))))
  (.seq (.reg [⟨some 63, .mv (.t 10), none⟩,
    ⟨some 8, .asg (.t 63), none⟩,
    ⟨some 9, .asg (.c (.bool true)), none⟩] [8, 9])
  (.ret))))))
theorem con_spec_MergePlans {v0 : XGeo} {v1 : (List XVariable)} {v2 : (List XTable)} {v3 : (List XTable)} {r : ((List XTable) × Bool)} (h : sh_spec_MergePlans v0 v1 v2 v3 = some r) : Con Try.prog 7 [(cXGeo (cLs cI rfl)).enc v0, (cLs (cXVariable cS cI) rfl).enc v1, (cLs (cXTable cI (cLs cI rfl) (cLs cI rfl) cI) rfl).enc v2, (cLs (cXTable cI (cLs cI rfl) (cLs cI rfl) cI) rfl).enc v3] [] (rs_spec_MergePlans r) := by
  delta sh_spec_MergePlans at h
  refine top (out := none) (f := Try.f7) (m := m7) (rs := [.t 8, .t 9]) (by kernel_rfl) rfl (by kernel_rfl) (by kernel_rfl) (by kernel_rfl) (by kernel_rfl) (by kernel_rfl) ?_
  exact
   ini [(0, .d ((cXGeo (cLs cI rfl)).enc v0)), (1, .d ((cLs (cXVariable cS cI) rfl).enc v1)), (2, .d ((cLs (cXTable cI (cLs cI rfl) (cLs cI rfl) cI) rfl).enc v2)), (3, .d ((cLs (cXTable cI (cLs cI rfl) (cLs cI rfl) cI) rfl).enc v3))] rfl <| wpC_seq <| reg_s <| x_box (ss rfl rfl) <| x_asg (sc (cLo (cXTable cI (cLo cI) (cLo cI) cI)) ([] : List XTable) rfl) <| x_asg (sc cB false rfl) <| seqN [(1, .d ((cLs (cXVariable cS cI) rfl).enc v1)), (2, .d ((cLs (cXTable cI (cLs cI rfl) (cLs cI rfl) cI) rfl).enc v2)), (3, .d ((cLs (cXTable cI (cLs cI rfl) (cLs cI rfl) cI) rfl).enc v3)), (4, .box ((cXGeo (cLs cI rfl)).enc v0))] (by kernel_rfl) <|
    xn <| wpC_seq <| wpC_kp <| wpC_seq <| reg_s <| st rfl <| ldb rfl rfl rfl rfl <| st rfl <| mvd rfl rfl <| st rfl <| mvd rfl rfl <| bnd h fun x17 e18 h => st rfl <| o_call (a1 (c := (cXGeo (cLs cI rfl))) (tXGeo (tLs tK)) rfl (a1 (c := (cLs (cXVariable cS cI) rfl)) (tLs (tXVariable tS tK)) rfl (a1 (c := (cLs (cXTable cI (cLs cI rfl) (cLs cI rfl) cI) rfl)) (tLs (tXTable tK (tLs tK) (tLs tK) tK)) rfl a0))) (con_spec_nPlan e18) (.inl (so1 sB so0)) <| st rfl <| o_nt rfl <| st rfl <| mvd rfl rfl <| ite_k h (fun b19 h => gf rfl b19 <| gf rfl b19 <| gf rfl b19 <| gf rfl b19 <| gf rfl b19 <| st rfl <| pick1 rfl b19 (cd := cB) (v := true) rfl rfl <| seqN [(1, .d ((cLs (cXVariable cS cI) rfl).enc v1)), (2, .d ((cLs (cXTable cI (cLs cI rfl) (cLs cI rfl) cI) rfl).enc v2)), (3, .d ((cLs (cXTable cI (cLs cI rfl) (cLs cI rfl) cI) rfl).enc v3)), (27, .d (cB.enc true))] (by kernel_rfl) <|
    xn <| cnd1 rfl rfl <| wpC_seq <| reg_s <| x_asg (sc (cLo (cXTable cI (cLo cI) (cLo cI) cI)) ([] : List XTable) rfl) <| x_asg (sc cB false rfl) <| seqN [(8, .d ((cLo (cXTable cI (cLo cI) (cLo cI) cI)).enc ([] : List XTable))), (9, .d (cB.enc false))] (by kernel_rfl) <|
    xn <| wpC_ret <| rt <| rt <| re <| fin h (r1 (so rfl rfl) <| r1 (ss rfl rfl) <| r0) rfl)
    (fun b19 h => gt' rfl b19 <| st rfl <| ldb rfl rfl rfl rfl <| gt' rfl b19 <| st rfl <| mvd rfl rfl <| gt' rfl b19 <| st rfl <| mvd rfl rfl <| gt' rfl b19 <| bnd h fun x20 e21 h => st rfl <| o_call (a1 (c := (cXGeo (cLs cI rfl))) (tXGeo (tLs tK)) rfl (a1 (c := (cLs (cXVariable cS cI) rfl)) (tLs (tXVariable tS tK)) rfl (a1 (c := (cLs (cXTable cI (cLs cI rfl) (cLs cI rfl) cI) rfl)) (tLs (tXTable tK (tLs tK) (tLs tK) tK)) rfl a0))) (con_spec_nPlan e21) (.inl (so1 sB so0)) <| gt' rfl b19 <| st rfl <| o_nt rfl <| st rfl <| pick0 rfl b19 (cd := cB) (v := (!x20)) rfl rfl <| seqN [(1, .d ((cLs (cXVariable cS cI) rfl).enc v1)), (2, .d ((cLs (cXTable cI (cLs cI rfl) (cLs cI rfl) cI) rfl).enc v2)), (3, .d ((cLs (cXTable cI (cLs cI rfl) (cLs cI rfl) cI) rfl).enc v3)), (27, .d (cB.enc (!x20)))] (by kernel_rfl) <|
    xn <| cnd rfl h (fun b22 h => wpC_seq <| reg_s <| x_asg (sc (cLo (cXTable cI (cLo cI) (cLo cI) cI)) ([] : List XTable) rfl) <| x_asg (sc cB false rfl) <| seqN [(8, .d ((cLo (cXTable cI (cLo cI) (cLo cI) cI)).enc ([] : List XTable))), (9, .d (cB.enc false))] (by kernel_rfl) <|
    xn <| wpC_ret <| rt <| rt <| re <| fin h (r1 (so rfl rfl) <| r1 (ss rfl rfl) <| r0) rfl)
    (fun b22 h => wpC_skip <| kpN [(1, .d ((cLs (cXVariable cS cI) rfl).enc v1)), (2, .d ((cLs (cXTable cI (cLs cI rfl) (cLs cI rfl) cI) rfl).enc v2)), (3, .d ((cLs (cXTable cI (cLs cI rfl) (cLs cI rfl) cI) rfl).enc v3))] (by kernel_rfl) <| xn <| wpC_seq <| reg_s <| x_asg (sc (cLo (cXTable cI (cLo cI) (cLo cI) cI)) ([] : List XTable) rfl) <| seqN [(1, .d ((cLs (cXVariable cS cI) rfl).enc v1)), (2, .d ((cLs (cXTable cI (cLs cI rfl) (cLs cI rfl) cI) rfl).enc v2)), (3, .d ((cLs (cXTable cI (cLs cI rfl) (cLs cI rfl) cI) rfl).enc v3)), (10, .d ((cLo (cXTable cI (cLo cI) (cLo cI) cI)).enc ([] : List XTable)))] (by kernel_rfl) <|
    xn <| wpC_seq <| wpC_kp <| wpC_seq <| reg_s <| x_bsl (cXTable cI (cLs cI rfl) (cLs cI rfl) cI) ([] : List XTable) t0 rfl rfl <| st rfl <| mvd rfl rfl <| lnO_k h fun l376 h => x_app (so rfl rfl) (ts rfl) l376 rfl <| st rfl <| mvd rfl rfl <| lnO_k h fun l377 h => x_app (so rfl rfl) (ts rfl) l377 rfl <| stw rfl <| leno rfl fun l378 => st rfl <| mvc cI (0 : Int) rfl <| seqN [(1, .d ((cLs (cXVariable cS cI) rfl).enc v1)), (10, .d ((cLo (cXTable cI (cLo cI) (cLo cI) cI)).enc ([] : List XTable))), (32, .d ((cLo (cXTable cI (cLs cI rfl) (cLs cI rfl) cI)).enc ((([] : List XTable) ++ v2) ++ v3))), (33, .d (cI.enc (((([] : List XTable) ++ v2) ++ v3).length : Int))), (34, .d (cI.enc (0 : Int)))] (by kernel_rfl) <|
    xn <| wpC_blk <| lpR (fun (k380 : Nat) (s379 : (List XTable)) => [(1, .d ((cLs (cXVariable cS cI) rfl).enc v1)), (10, .d ((cLo (cXTable cI (cLo cI) (cLo cI) cI)).enc s379)), (32, .d ((cLo (cXTable cI (cLs cI rfl) (cLs cI rfl) cI)).enc ((([] : List XTable) ++ v2) ++ v3))), (33, .d (cI.enc (((([] : List XTable) ++ v2) ++ v3).length : Int))), (34, .d (cI.enc (k380 : Int)))]) ([] : List XTable) rfl h
    (fun G610 s379 h => wpC_seq <| reg_s <| st rfl <| b_lss (k := .i64) rfl rfl <| seqN [(1, .d ((cLs (cXVariable cS cI) rfl).enc v1)), (10, .d ((cLo (cXTable cI (cLo cI) (cLo cI) cI)).enc s379)), (32, .d ((cLo (cXTable cI (cLs cI rfl) (cLs cI rfl) cI)).enc ((([] : List XTable) ++ v2) ++ v3))), (33, .d (cI.enc (((([] : List XTable) ++ v2) ++ v3).length : Int))), (34, .d (cI.enc (((([] : List XTable) ++ v2) ++ v3).length : Int))), (35, .d (cB.enc (decide ((((([] : List XTable) ++ v2) ++ v3).length : Int) < (((([] : List XTable) ++ v2) ++ v3).length : Int)))))] (by kernel_rfl) <|
    xn <| wpC_seq <| wpC_kp <| cnd0 rfl (dlf _) <| wpC_exit <| xt <| xt <| xt <| xb <| kpN [(10, .d ((cLo (cXTable cI (cLo cI) (cLo cI) cI)).enc s379))] (by kernel_rfl) <| xn <| wpC_seq <| wpC_kp <| wpC_seq <| reg_s <| st rfl <| mvo rfl rfl <| stw rfl <| leno rfl fun l615 => st rfl <| b_gtr (k := .i64) rfl rfl <| seqN [(10, .d ((cLo (cXTable cI (cLo cI) (cLo cI) cI)).enc s379)), (62, .d (cB.enc (decide ((20 : Int) < (s379.length : Int)))))] (by kernel_rfl) <|
    xn <| cnd rfl h (fun b616 h => wpC_seq <| reg_s <| x_asg (sc (cLo (cXTable cI (cLo cI) (cLo cI) cI)) ([] : List XTable) rfl) <| x_asg (sc cB false rfl) <| seqN [(8, .d ((cLo (cXTable cI (cLo cI) (cLo cI) cI)).enc ([] : List XTable))), (9, .d (cB.enc false))] (by kernel_rfl) <|
    xn <| wpC_ret <| rt <| rt <| re <| fin h (r1 (so rfl rfl) <| r1 (ss rfl rfl) <| r0) rfl)
    (fun b616 h => wpC_skip <| kpN [(10, .d ((cLo (cXTable cI (cLo cI) (cLo cI) cI)).enc s379))] (by kernel_rfl) <| xn <| wpC_seq <| reg_s <| st rfl <| mvo rfl rfl <| x_asg (sr rfl rfl) <| x_asg (sc cB true rfl) <| seqN [(8, .d ((cLo (cXTable cI (cLo cI) (cLo cI) cI)).enc s379)), (9, .d (cB.enc true))] (by kernel_rfl) <|
    xn <| wpC_ret <| re <| fin h (r1 (so rfl rfl) <| r1 (ss rfl rfl) <| r0) rfl))
    (fun G610 nx608 k380 s379 x381 hk382 hx383 hn609 h => wpC_seq <| reg_s <| st rfl <| b_lss (k := .i64) rfl rfl <| seqN [(1, .d ((cLs (cXVariable cS cI) rfl).enc v1)), (10, .d ((cLo (cXTable cI (cLo cI) (cLo cI) cI)).enc s379)), (32, .d ((cLo (cXTable cI (cLs cI rfl) (cLs cI rfl) cI)).enc ((([] : List XTable) ++ v2) ++ v3))), (33, .d (cI.enc (((([] : List XTable) ++ v2) ++ v3).length : Int))), (34, .d (cI.enc (k380 : Int))), (35, .d (cB.enc (decide ((k380 : Int) < (((([] : List XTable) ++ v2) ++ v3).length : Int)))))] (by kernel_rfl) <|
    xn <| wpC_seq <| wpC_kp <| cnd1 rfl (dlt hk382) <| wpC_skip <| kpN [(1, .d ((cLs (cXVariable cS cI) rfl).enc v1)), (10, .d ((cLo (cXTable cI (cLo cI) (cLo cI) cI)).enc s379)), (32, .d ((cLo (cXTable cI (cLs cI rfl) (cLs cI rfl) cI)).enc ((([] : List XTable) ++ v2) ++ v3))), (33, .d (cI.enc (((([] : List XTable) ++ v2) ++ v3).length : Int))), (34, .d (cI.enc (k380 : Int)))] (by kernel_rfl) <| xn <| wpC_seq <| wpC_kp <| wpC_blk <| wpC_seq <| reg_s <| st rfl <| iao rfl rfl (Int.natCast_nonneg _) hx383 rfl <| st rfl <| lda rfl rfl (Gt.idx hx383 Gt.nil) rfl rfl rfl <| x_all (cXTable cI (cLo cI) (cLo cI) cI) (⟨(0 : Int), ([] : List Int), ([] : List Int), (0 : Int)⟩ : XTable) rfl <| x_stb (ss rfl rfl) rfl (Cd.h_sz _ _) rfl <| seqN [(1, .d ((cLs (cXVariable cS cI) rfl).enc v1)), (10, .d ((cLo (cXTable cI (cLo cI) (cLo cI) cI)).enc s379)), (12, .box ((cXTable cI (cLs cI rfl) (cLs cI rfl) cI).enc x381)), (32, .d ((cLo (cXTable cI (cLs cI rfl) (cLs cI rfl) cI)).enc ((([] : List XTable) ++ v2) ++ v3))), (33, .d (cI.enc (((([] : List XTable) ++ v2) ++ v3).length : Int))), (34, .d (cI.enc (k380 : Int)))] (by kernel_rfl) <|
    xn <| wpC_seq <| reg_s <| x_asg (sc cB false rfl) <| seqN [(1, .d ((cLs (cXVariable cS cI) rfl).enc v1)), (10, .d ((cLo (cXTable cI (cLo cI) (cLo cI) cI)).enc s379)), (12, .box ((cXTable cI (cLs cI rfl) (cLs cI rfl) cI).enc x381)), (13, .d (cB.enc false)), (32, .d ((cLo (cXTable cI (cLs cI rfl) (cLs cI rfl) cI)).enc ((([] : List XTable) ++ v2) ++ v3))), (33, .d (cI.enc (((([] : List XTable) ++ v2) ++ v3).length : Int))), (34, .d (cI.enc (k380 : Int)))] (by kernel_rfl) <|
    xn <| wpC_seq <| wpC_kp <| wpC_seq <| reg_s <| st rfl <| mvo rfl rfl <| stw rfl <| leno rfl fun l700 => st rfl <| mvc cI (0 : Int) rfl <| seqN [(1, .d ((cLs (cXVariable cS cI) rfl).enc v1)), (10, .d ((cLo (cXTable cI (cLo cI) (cLo cI) cI)).enc s379)), (12, .box ((cXTable cI (cLs cI rfl) (cLs cI rfl) cI).enc x381)), (13, .d (cB.enc false)), (32, .d ((cLo (cXTable cI (cLs cI rfl) (cLs cI rfl) cI)).enc ((([] : List XTable) ++ v2) ++ v3))), (33, .d (cI.enc (((([] : List XTable) ++ v2) ++ v3).length : Int))), (34, .d (cI.enc (k380 : Int))), (38, .ref 10 []), (39, .d (cI.enc (s379.length : Int))), (40, .d (cI.enc (0 : Int)))] (by kernel_rfl) <|
    xn <| wpC_blk <| lpR (fun (k702 : Nat) (s701 : Bool) => [(1, .d ((cLs (cXVariable cS cI) rfl).enc v1)), (10, .d ((cLo (cXTable cI (cLo cI) (cLo cI) cI)).enc s379)), (12, .box ((cXTable cI (cLs cI rfl) (cLs cI rfl) cI).enc x381)), (13, .d (cB.enc s701)), (32, .d ((cLo (cXTable cI (cLs cI rfl) (cLs cI rfl) cI)).enc ((([] : List XTable) ++ v2) ++ v3))), (33, .d (cI.enc (((([] : List XTable) ++ v2) ++ v3).length : Int))), (34, .d (cI.enc (k380 : Int))), (38, .ref 10 []), (39, .d (cI.enc (s379.length : Int))), (40, .d (cI.enc (k702 : Int)))]) false rfl h
    (fun G718 s701 h => wpC_seq <| reg_s <| st rfl <| b_lss (k := .i64) rfl rfl <| seqN [(1, .d ((cLs (cXVariable cS cI) rfl).enc v1)), (10, .d ((cLo (cXTable cI (cLo cI) (cLo cI) cI)).enc s379)), (12, .box ((cXTable cI (cLs cI rfl) (cLs cI rfl) cI).enc x381)), (13, .d (cB.enc s701)), (32, .d ((cLo (cXTable cI (cLs cI rfl) (cLs cI rfl) cI)).enc ((([] : List XTable) ++ v2) ++ v3))), (33, .d (cI.enc (((([] : List XTable) ++ v2) ++ v3).length : Int))), (34, .d (cI.enc (k380 : Int))), (38, .ref 10 []), (39, .d (cI.enc (s379.length : Int))), (40, .d (cI.enc (s379.length : Int))), (41, .d (cB.enc (decide ((s379.length : Int) < (s379.length : Int)))))] (by kernel_rfl) <|
    xn <| wpC_seq <| wpC_kp <| cnd0 rfl (dlf _) <| wpC_exit <| xt <| xt <| xt <| xb <| kpN [(1, .d ((cLs (cXVariable cS cI) rfl).enc v1)), (10, .d ((cLo (cXTable cI (cLo cI) (cLo cI) cI)).enc s379)), (12, .box ((cXTable cI (cLs cI rfl) (cLs cI rfl) cI).enc x381)), (13, .d (cB.enc s701)), (32, .d ((cLo (cXTable cI (cLs cI rfl) (cLs cI rfl) cI)).enc ((([] : List XTable) ++ v2) ++ v3))), (33, .d (cI.enc (((([] : List XTable) ++ v2) ++ v3).length : Int))), (34, .d (cI.enc (k380 : Int)))] (by kernel_rfl) <| xn <| wpC_seq <| reg_s <| st rfl <| mvd rfl rfl <| st rfl <| o_nt rfl <| seqN [(1, .d ((cLs (cXVariable cS cI) rfl).enc v1)), (10, .d ((cLo (cXTable cI (cLo cI) (cLo cI) cI)).enc s379)), (12, .box ((cXTable cI (cLs cI rfl) (cLs cI rfl) cI).enc x381)), (32, .d ((cLo (cXTable cI (cLs cI rfl) (cLs cI rfl) cI)).enc ((([] : List XTable) ++ v2) ++ v3))), (33, .d (cI.enc (((([] : List XTable) ++ v2) ++ v3).length : Int))), (34, .d (cI.enc (k380 : Int))), (53, .d (cB.enc (!s701)))] (by kernel_rfl) <|
    xn <| cnd rfl h (fun b719 h => reg_s <| st rfl <| mvo rfl rfl <| st rfl <| ldb rfl rfl rfl rfl <| bnd h fun x720 e721 h => st rfl <| o_call (a1 (c := (cXTable cI (cLs cI rfl) (cLs cI rfl) cI)) (tXTable tK (tLs tK) (tLs tK) tK) rfl a0) (con_spec_nOwn e721) (.inl (so1 (sXTable sK (sLo sK) (sLo sK) sK) so0)) <| x_bsl (cXTable cI (cLo cI) (cLo cI) cI) [x720] (t1 (so rfl rfl) rfl t0) rfl rfl <| lnO_k h fun l722 h => x_app (sr rfl rfl) (to1 rfl rfl) l722 rfl <| x_asg (so rfl rfl) <| seqN [(1, .d ((cLs (cXVariable cS cI) rfl).enc v1)), (10, .d ((cLo (cXTable cI (cLo cI) (cLo cI) cI)).enc (s379 ++ [x720]))), (32, .d ((cLo (cXTable cI (cLs cI rfl) (cLs cI rfl) cI)).enc ((([] : List XTable) ++ v2) ++ v3))), (33, .d (cI.enc (((([] : List XTable) ++ v2) ++ v3).length : Int))), (34, .d (cI.enc (k380 : Int)))] (by kernel_rfl) <|
    xbb <| kpN [(1, .d ((cLs (cXVariable cS cI) rfl).enc v1)), (10, .d ((cLo (cXTable cI (cLo cI) (cLo cI) cI)).enc (s379 ++ [x720]))), (32, .d ((cLo (cXTable cI (cLs cI rfl) (cLs cI rfl) cI)).enc ((([] : List XTable) ++ v2) ++ v3))), (33, .d (cI.enc (((([] : List XTable) ++ v2) ++ v3).length : Int))), (34, .d (cI.enc (k380 : Int)))] (by kernel_rfl) <| xn <| reg_s <| st rfl <| b_inc rfl rfl l378 hk382 <| st rfl <| mvd rfl rfl <| seqN [(1, .d ((cLs (cXVariable cS cI) rfl).enc v1)), (10, .d ((cLo (cXTable cI (cLo cI) (cLo cI) cI)).enc (s379 ++ [x720]))), (32, .d ((cLo (cXTable cI (cLs cI rfl) (cLs cI rfl) cI)).enc ((([] : List XTable) ++ v2) ++ v3))), (33, .d (cI.enc (((([] : List XTable) ++ v2) ++ v3).length : Int))), (34, .d (cI.enc ((k380 + 1 : Nat) : Int)))] (by kernel_rfl) <|
    xn <| hn609 (s379 ++ [x720]) h)
    (fun b719 h => wpC_skip <| xbb <| kpN [(1, .d ((cLs (cXVariable cS cI) rfl).enc v1)), (10, .d ((cLo (cXTable cI (cLo cI) (cLo cI) cI)).enc s379)), (32, .d ((cLo (cXTable cI (cLs cI rfl) (cLs cI rfl) cI)).enc ((([] : List XTable) ++ v2) ++ v3))), (33, .d (cI.enc (((([] : List XTable) ++ v2) ++ v3).length : Int))), (34, .d (cI.enc (k380 : Int)))] (by kernel_rfl) <| xn <| reg_s <| st rfl <| b_inc rfl rfl l378 hk382 <| st rfl <| mvd rfl rfl <| seqN [(1, .d ((cLs (cXVariable cS cI) rfl).enc v1)), (10, .d ((cLo (cXTable cI (cLo cI) (cLo cI) cI)).enc s379)), (32, .d ((cLo (cXTable cI (cLs cI rfl) (cLs cI rfl) cI)).enc ((([] : List XTable) ++ v2) ++ v3))), (33, .d (cI.enc (((([] : List XTable) ++ v2) ++ v3).length : Int))), (34, .d (cI.enc ((k380 + 1 : Nat) : Int)))] (by kernel_rfl) <|
    xn <| hn609 s379 h))
    (fun G718 nx716 k702 s701 x703 hk704 hx705 hn717 h => wpC_seq <| reg_s <| st rfl <| b_lss (k := .i64) rfl rfl <| seqN [(1, .d ((cLs (cXVariable cS cI) rfl).enc v1)), (10, .d ((cLo (cXTable cI (cLo cI) (cLo cI) cI)).enc s379)), (12, .box ((cXTable cI (cLs cI rfl) (cLs cI rfl) cI).enc x381)), (13, .d (cB.enc s701)), (32, .d ((cLo (cXTable cI (cLs cI rfl) (cLs cI rfl) cI)).enc ((([] : List XTable) ++ v2) ++ v3))), (33, .d (cI.enc (((([] : List XTable) ++ v2) ++ v3).length : Int))), (34, .d (cI.enc (k380 : Int))), (38, .ref 10 []), (39, .d (cI.enc (s379.length : Int))), (40, .d (cI.enc (k702 : Int))), (41, .d (cB.enc (decide ((k702 : Int) < (s379.length : Int)))))] (by kernel_rfl) <|
    xn <| wpC_seq <| wpC_kp <| cnd1 rfl (dlt hk704) <| wpC_skip <| kpN [(1, .d ((cLs (cXVariable cS cI) rfl).enc v1)), (10, .d ((cLo (cXTable cI (cLo cI) (cLo cI) cI)).enc s379)), (12, .box ((cXTable cI (cLs cI rfl) (cLs cI rfl) cI).enc x381)), (13, .d (cB.enc s701)), (32, .d ((cLo (cXTable cI (cLs cI rfl) (cLs cI rfl) cI)).enc ((([] : List XTable) ++ v2) ++ v3))), (33, .d (cI.enc (((([] : List XTable) ++ v2) ++ v3).length : Int))), (34, .d (cI.enc (k380 : Int))), (38, .ref 10 []), (39, .d (cI.enc (s379.length : Int))), (40, .d (cI.enc (k702 : Int)))] (by kernel_rfl) <| xn <| wpC_seq <| wpC_kp <| wpC_blk <| wpC_seq <| reg_s <| st rfl <| iar rfl rfl rfl rfl (Int.natCast_nonneg _) hx705 rfl <| st rfl <| ldao rfl rfl (Gt.idx hx705 Gt.nil) rfl rfl rfl <| x_all (cXTable cI (cLo cI) (cLo cI) cI) (⟨(0 : Int), ([] : List Int), ([] : List Int), (0 : Int)⟩ : XTable) rfl <| x_stm rfl rfl rfl (Cd.h_sz _ _) rfl (Gt.idx hx705 Gt.nil) (Cd.h_sz _ _) <| seqN [(1, .d ((cLs (cXVariable cS cI) rfl).enc v1)), (10, .d ((cLo (cXTable cI (cLo cI) (cLo cI) cI)).enc s379)), (12, .box ((cXTable cI (cLs cI rfl) (cLs cI rfl) cI).enc x381)), (13, .d (cB.enc s701)), (15, .mad 10 [.idx ((k702 : Int)).toNat]), (32, .d ((cLo (cXTable cI (cLs cI rfl) (cLs cI rfl) cI)).enc ((([] : List XTable) ++ v2) ++ v3))), (33, .d (cI.enc (((([] : List XTable) ++ v2) ++ v3).length : Int))), (34, .d (cI.enc (k380 : Int))), (38, .ref 10 []), (39, .d (cI.enc (s379.length : Int))), (40, .d (cI.enc (k702 : Int))), (42, .adr 10 [.idx ((k702 : Int)).toNat]), (43, .ref 10 [.idx ((k702 : Int)).toNat])] (by kernel_rfl) <|
    xn <| reg_s <| st rfl <| mvd rfl rfl <| st rfl <| mvd rfl rfl <| ite_k h (fun b726 h => gf rfl b726 <| gf rfl b726 <| gf rfl b726 <| gf rfl b726 <| st rfl <| pick1 rfl b726 (cd := cB) (v := true) rfl rfl <| x_asg (ss rfl rfl) <| seqN [(1, .d ((cLs (cXVariable cS cI) rfl).enc v1)), (10, .d ((cLo (cXTable cI (cLo cI) (cLo cI) cI)).enc s379)), (12, .box ((cXTable cI (cLs cI rfl) (cLs cI rfl) cI).enc x381)), (13, .d (cB.enc true)), (32, .d ((cLo (cXTable cI (cLs cI rfl) (cLs cI rfl) cI)).enc ((([] : List XTable) ++ v2) ++ v3))), (33, .d (cI.enc (((([] : List XTable) ++ v2) ++ v3).length : Int))), (34, .d (cI.enc (k380 : Int))), (38, .ref 10 []), (39, .d (cI.enc (s379.length : Int))), (40, .d (cI.enc (k702 : Int)))] (by kernel_rfl) <|
    xbb <| kpN [(1, .d ((cLs (cXVariable cS cI) rfl).enc v1)), (10, .d ((cLo (cXTable cI (cLo cI) (cLo cI) cI)).enc s379)), (12, .box ((cXTable cI (cLs cI rfl) (cLs cI rfl) cI).enc x381)), (13, .d (cB.enc true)), (32, .d ((cLo (cXTable cI (cLs cI rfl) (cLs cI rfl) cI)).enc ((([] : List XTable) ++ v2) ++ v3))), (33, .d (cI.enc (((([] : List XTable) ++ v2) ++ v3).length : Int))), (34, .d (cI.enc (k380 : Int))), (38, .ref 10 []), (39, .d (cI.enc (s379.length : Int))), (40, .d (cI.enc (k702 : Int)))] (by kernel_rfl) <| xn <| reg_s <| st rfl <| b_inc rfl rfl l700 hk704 <| st rfl <| mvd rfl rfl <| seqN [(1, .d ((cLs (cXVariable cS cI) rfl).enc v1)), (10, .d ((cLo (cXTable cI (cLo cI) (cLo cI) cI)).enc s379)), (12, .box ((cXTable cI (cLs cI rfl) (cLs cI rfl) cI).enc x381)), (13, .d (cB.enc true)), (32, .d ((cLo (cXTable cI (cLs cI rfl) (cLs cI rfl) cI)).enc ((([] : List XTable) ++ v2) ++ v3))), (33, .d (cI.enc (((([] : List XTable) ++ v2) ++ v3).length : Int))), (34, .d (cI.enc (k380 : Int))), (38, .ref 10 []), (39, .d (cI.enc (s379.length : Int))), (40, .d (cI.enc ((k702 + 1 : Nat) : Int)))] (by kernel_rfl) <|
    xn <| hn717 true h)
    (fun b726 h => gt' rfl b726 <| st rfl <| mvd rfl rfl <| gt' rfl b726 <| st rfl <| ldb rfl rfl rfl rfl <| gt' rfl b726 <| st rfl <| ldmo rfl rfl (Gt.idx hx705 Gt.nil) rfl rfl rfl <| gt' rfl b726 <| bnd h fun x727 e728 h => st rfl <| o_call (a1 (c := (cLs (cXVariable cS cI) rfl)) (tLs (tXVariable tS tK)) rfl (a1 (c := (cXTable cI (cLs cI rfl) (cLs cI rfl) cI)) (tXTable tK (tLs tK) (tLs tK) tK) rfl (a1 (c := (cXTable cI (cLo cI) (cLo cI) cI)) (tXTable tK (tLo tK) (tLo tK) tK) (rdr rfl rfl (Gt.idx hx705 Gt.nil)) a0))) (con_spec_nSame e728) (.inl (so1 sB so0)) <| st rfl <| pick0 rfl b726 (cd := cB) (v := x727) rfl rfl <| x_asg (ss rfl rfl) <| seqN [(1, .d ((cLs (cXVariable cS cI) rfl).enc v1)), (10, .d ((cLo (cXTable cI (cLo cI) (cLo cI) cI)).enc s379)), (12, .box ((cXTable cI (cLs cI rfl) (cLs cI rfl) cI).enc x381)), (13, .d (cB.enc x727)), (32, .d ((cLo (cXTable cI (cLs cI rfl) (cLs cI rfl) cI)).enc ((([] : List XTable) ++ v2) ++ v3))), (33, .d (cI.enc (((([] : List XTable) ++ v2) ++ v3).length : Int))), (34, .d (cI.enc (k380 : Int))), (38, .ref 10 []), (39, .d (cI.enc (s379.length : Int))), (40, .d (cI.enc (k702 : Int)))] (by kernel_rfl) <|
    xbb <| kpN [(1, .d ((cLs (cXVariable cS cI) rfl).enc v1)), (10, .d ((cLo (cXTable cI (cLo cI) (cLo cI) cI)).enc s379)), (12, .box ((cXTable cI (cLs cI rfl) (cLs cI rfl) cI).enc x381)), (13, .d (cB.enc x727)), (32, .d ((cLo (cXTable cI (cLs cI rfl) (cLs cI rfl) cI)).enc ((([] : List XTable) ++ v2) ++ v3))), (33, .d (cI.enc (((([] : List XTable) ++ v2) ++ v3).length : Int))), (34, .d (cI.enc (k380 : Int))), (38, .ref 10 []), (39, .d (cI.enc (s379.length : Int))), (40, .d (cI.enc (k702 : Int)))] (by kernel_rfl) <| xn <| reg_s <| st rfl <| b_inc rfl rfl l700 hk704 <| st rfl <| mvd rfl rfl <| seqN [(1, .d ((cLs (cXVariable cS cI) rfl).enc v1)), (10, .d ((cLo (cXTable cI (cLo cI) (cLo cI) cI)).enc s379)), (12, .box ((cXTable cI (cLs cI rfl) (cLs cI rfl) cI).enc x381)), (13, .d (cB.enc x727)), (32, .d ((cLo (cXTable cI (cLs cI rfl) (cLs cI rfl) cI)).enc ((([] : List XTable) ++ v2) ++ v3))), (33, .d (cI.enc (((([] : List XTable) ++ v2) ++ v3).length : Int))), (34, .d (cI.enc (k380 : Int))), (38, .ref 10 []), (39, .d (cI.enc (s379.length : Int))), (40, .d (cI.enc ((k702 + 1 : Nat) : Int)))] (by kernel_rfl) <|
    xn <| hn717 x727 h)))))

def rs_impl_IsGeo (r : Bool) : List D := [cB.enc r]
def m45 : MC := .seq (.reg [⟨some 1, .box (.t 0), none⟩,
    ⟨some 2, .asg (.c (.bool false)), none⟩] [1])
  (.seq (.kp [1] (.seq (.reg [⟨some 4, .fa 1 0 0, none⟩,
    ⟨some 5, .ld 4 1 false, none⟩,
    ⟨some 6, .len false (.t 5), none⟩,
    ⟨some 7, .bin .lss (.t 6) (.c (.int .i64 1)), none⟩,
    ⟨some 8, .mv (.t 7), none⟩,
    ⟨some 9, .fa 1 0 0, some (8, false)⟩,
    ⟨some 10, .ld 9 1 false, some (8, false)⟩,
    ⟨some 11, .len false (.t 10), some (8, false)⟩,
    ⟨some 12, .bin .gtr (.t 11) (.c (.int .i64 30)), some (8, false)⟩,
    ⟨some 13, .pick (.t 8) (.c (.bool true)) (.t 12), none⟩,
    ⟨some 14, .mv (.t 13), none⟩,
    ⟨some 15, .fa 1 0 0, some (14, false)⟩,
    ⟨some 16, .ld 15 1 false, some (14, false)⟩,
    ⟨some 17, .ia 16 (.c (.int .i64 0)) 1, some (14, false)⟩,
    ⟨some 18, .ld 17 1 false, some (14, false)⟩,
    ⟨some 19, .bin .neq (.t 18) (.c (.int .i64 (-1))), some (14, false)⟩,
    ⟨some 20, .pick (.t 14) (.c (.bool true)) (.t 19), none⟩] [1, 20])
  (.cond (.t 20) (.seq (.reg [⟨some 2, .asg (.c (.bool false)), none⟩] [2])
  (.ret)) (.skip))))
  (.seq (.kp [] (.seq (.reg [⟨some 3, .asg (.c (.int .i64 1)), none⟩] [1, 3])
  (.blk 0 (.loop (.seq (.kp [1, 3] (.seq (.reg [⟨some 21, .mv (.t 3), none⟩,
    ⟨some 22, .fa 1 0 0, none⟩,
    ⟨some 23, .ld 22 1 false, none⟩,
    ⟨some 24, .len false (.t 23), none⟩,
    ⟨some 25, .bin .lss (.t 21) (.t 24), none⟩] [1, 3, 25])
  (.cond (.t 25) (.skip) (.exit 0))))
  (.seq (.kp [1, 3] (.blk 1 (.seq (.reg [⟨some 28, .fa 1 0 0, none⟩,
    ⟨some 29, .ld 28 1 false, none⟩,
    ⟨some 30, .mv (.t 3), none⟩,
    ⟨some 31, .ia 29 (.t 30) 1, none⟩,
    ⟨some 32, .ld 31 1 false, none⟩,
    ⟨some 33, .bin .lss (.t 32) (.c (.int .i64 0)), none⟩,
    ⟨some 34, .mv (.t 33), none⟩,
    ⟨some 35, .fa 1 0 0, some (34, false)⟩,
    ⟨some 36, .ld 35 1 false, some (34, false)⟩,
    ⟨some 37, .mv (.t 3), some (34, false)⟩,
    ⟨some 38, .ia 36 (.t 37) 1, some (34, false)⟩,
    ⟨some 39, .ld 38 1 false, some (34, false)⟩,
    ⟨some 40, .mv (.t 3), some (34, false)⟩,
    ⟨some 41, .bin .geq (.t 39) (.t 40), some (34, false)⟩,
    ⟨some 42, .pick (.t 34) (.c (.bool true)) (.t 41), none⟩] [1, 3, 42])
  (.cond (.t 42) (.seq (.reg [⟨some 2, .asg (.c (.bool false)), none⟩] [2])
  (.ret)) (.skip)))))
  (.reg [⟨some 26, .mv (.t 3), none⟩,
    ⟨some 27, .bin .add (.t 26) (.c (.int .i64 1)), none⟩,
    ⟨some 3, .asg (.t 27), none⟩] [1, 3])))))))
  (.seq (.reg [⟨some 2, .asg (.c (.bool true)), none⟩] [2])
  (.ret))))
theorem con_impl_IsGeo {v0 : XGeo} {r : Bool} (h : sh_impl_IsGeo v0 = some r) : Con Try.prog 45 [(cXGeo (cLs cI rfl)).enc v0] [] (rs_impl_IsGeo r) := by
  delta sh_impl_IsGeo at h
  refine top (out := none) (f := Try.f45) (m := m45) (rs := [.t 2]) (by kernel_rfl) rfl (by kernel_rfl) (by kernel_rfl) (by kernel_rfl) (by kernel_rfl) (by kernel_rfl) ?_
  exact
   ini [(0, .d ((cXGeo (cLs cI rfl)).enc v0))] rfl <| wpC_seq <| reg_s <| x_box (ss rfl rfl) <| x_asg (sc cB false rfl) <| seqN [(1, .box ((cXGeo (cLs cI rfl)).enc v0))] (by kernel_rfl) <|
    xn <| wpC_seq <| wpC_kp <| wpC_seq <| reg_s <| st rfl <| fab rfl rfl rfl rfl <| st rfl <| lda rfl rfl rfl rfl rfl rfl <| stw rfl <| lens rfl fun l23 => st rfl <| b_lss (k := .i64) rfl rfl <| st rfl <| mvd rfl rfl <| ite_k h (fun b24 h => gf rfl b24 <| gf rfl b24 <| gf rfl b24 <| gf rfl b24 <| st rfl <| pick1 rfl b24 (cd := cB) (v := true) rfl rfl <| st rfl <| mvd rfl rfl <| gf rfl rfl <| gf rfl rfl <| gf rfl rfl <| gf rfl rfl <| gf rfl rfl <| st rfl <| pick1 rfl rfl (cd := cB) (v := true) rfl rfl <| seqN [(1, .box ((cXGeo (cLs cI rfl)).enc v0)), (20, .d (cB.enc true))] (by kernel_rfl) <|
    xn <| cnd1 rfl rfl <| wpC_seq <| reg_s <| x_asg (sc cB false rfl) <| seqN [(2, .d (cB.enc false))] (by kernel_rfl) <|
    xn <| wpC_ret <| rt <| rt <| re <| fin h (r1 (ss rfl rfl) <| r0) rfl)
    (fun b24 h => gt' rfl b24 <| st rfl <| fab rfl rfl rfl rfl <| gt' rfl b24 <| st rfl <| lda rfl rfl rfl rfl rfl rfl <| gt' rfl b24 <| stw rfl <| lens rfl fun l25 => gt' rfl b24 <| st rfl <| b_gtr (k := .i64) rfl rfl <| st rfl <| pick0 rfl b24 (cd := cB) (v := (decide ((30 : Int) < (v0.Parents.length : Int)))) rfl rfl <| st rfl <| mvd rfl rfl <| ite_k h (fun b26 h => gf rfl b26 <| gf rfl b26 <| gf rfl b26 <| gf rfl b26 <| gf rfl b26 <| st rfl <| pick1 rfl b26 (cd := cB) (v := true) rfl rfl <| seqN [(1, .box ((cXGeo (cLs cI rfl)).enc v0)), (20, .d (cB.enc true))] (by kernel_rfl) <|
    xn <| cnd1 rfl rfl <| wpC_seq <| reg_s <| x_asg (sc cB false rfl) <| seqN [(2, .d (cB.enc false))] (by kernel_rfl) <|
    xn <| wpC_ret <| rt <| rt <| re <| fin h (r1 (ss rfl rfl) <| r0) rfl)
    (fun b26 h => gt' rfl b26 <| st rfl <| fab rfl rfl rfl rfl <| gt' rfl b26 <| st rfl <| lda rfl rfl rfl rfl rfl rfl <| gt' rfl b26 <| getO_k h fun x27 i28 g29 h => st rfl <| ias rfl rfl i28 g29 rfl <| gt' rfl b26 <| st rfl <| ldi rfl rfl rfl rfl <| gt' rfl b26 <| st rfl <| b_neq (k := .i64) rfl rfl <| st rfl <| pick0 rfl b26 (cd := cB) (v := (decide (x27 ≠ (-1 : Int)))) rfl rfl <| seqN [(1, .box ((cXGeo (cLs cI rfl)).enc v0)), (20, .d (cB.enc (decide (x27 ≠ (-1 : Int)))))] (by kernel_rfl) <|
    xn <| cnd rfl h (fun b30 h => wpC_seq <| reg_s <| x_asg (sc cB false rfl) <| seqN [(2, .d (cB.enc false))] (by kernel_rfl) <|
    xn <| wpC_ret <| rt <| rt <| re <| fin h (r1 (ss rfl rfl) <| r0) rfl)
    (fun b30 h => wpC_skip <| kpN [(1, .box ((cXGeo (cLs cI rfl)).enc v0))] (by kernel_rfl) <| xn <| wpC_seq <| wpC_kp <| wpC_seq <| reg_s <| x_asg (sc cI (1 : Int) rfl) <| seqN [(1, .box ((cXGeo (cLs cI rfl)).enc v0)), (3, .d (cI.enc (1 : Int)))] (by kernel_rfl) <|
    xn <| wpC_blk <| lpF (fun (s114 : Int) => [(1, .box ((cXGeo (cLs cI rfl)).enc v0)), (3, .d (cI.enc s114))]) (1 : Int) rfl h
    fun G171 nx169 s114 hn170 h => wpC_seq <| wpC_kp <| wpC_seq <| reg_s <| st rfl <| mvd rfl rfl <| st rfl <| fab rfl rfl rfl rfl <| st rfl <| lda rfl rfl rfl rfl rfl rfl <| stw rfl <| lens rfl fun l176 => st rfl <| b_lss (k := .i64) rfl rfl <| seqN [(1, .box ((cXGeo (cLs cI rfl)).enc v0)), (3, .d (cI.enc s114)), (25, .d (cB.enc (decide (s114 < (v0.Parents.length : Int)))))] (by kernel_rfl) <|
    xn <| cnd rfl h (fun b177 h => wpC_skip <| kpN [(1, .box ((cXGeo (cLs cI rfl)).enc v0)), (3, .d (cI.enc s114))] (by kernel_rfl) <| xn <| wpC_seq <| wpC_kp <| wpC_blk <| wpC_seq <| reg_s <| st rfl <| fab rfl rfl rfl rfl <| st rfl <| lda rfl rfl rfl rfl rfl rfl <| st rfl <| mvd rfl rfl <| getO_k h fun x191 i192 g193 h => st rfl <| ias rfl rfl i192 g193 rfl <| st rfl <| ldi rfl rfl rfl rfl <| st rfl <| b_lss (k := .i64) rfl rfl <| st rfl <| mvd rfl rfl <| ite_k h (fun b194 h => gf rfl b194 <| gf rfl b194 <| gf rfl b194 <| gf rfl b194 <| gf rfl b194 <| gf rfl b194 <| gf rfl b194 <| st rfl <| pick1 rfl b194 (cd := cB) (v := true) rfl rfl <| seqN [(1, .box ((cXGeo (cLs cI rfl)).enc v0)), (3, .d (cI.enc s114)), (42, .d (cB.enc true))] (by kernel_rfl) <|
    xn <| cnd1 rfl rfl <| wpC_seq <| reg_s <| x_asg (sc cB false rfl) <| seqN [(2, .d (cB.enc false))] (by kernel_rfl) <|
    xn <| wpC_ret <| rb <| rt <| rt <| rt <| rb <| rt <| rt <| re <| fin h (r1 (ss rfl rfl) <| r0) rfl)
    (fun b194 h => gt' rfl b194 <| st rfl <| fab rfl rfl rfl rfl <| gt' rfl b194 <| st rfl <| lda rfl rfl rfl rfl rfl rfl <| gt' rfl b194 <| st rfl <| mvd rfl rfl <| gt' rfl b194 <| st rfl <| ias rfl rfl i192 g193 rfl <| gt' rfl b194 <| st rfl <| ldi rfl rfl rfl rfl <| gt' rfl b194 <| st rfl <| mvd rfl rfl <| gt' rfl b194 <| st rfl <| b_geq (k := .i64) rfl rfl <| st rfl <| pick0 rfl b194 (cd := cB) (v := (decide (s114 ≤ x191))) rfl rfl <| seqN [(1, .box ((cXGeo (cLs cI rfl)).enc v0)), (3, .d (cI.enc s114)), (42, .d (cB.enc (decide (s114 ≤ x191))))] (by kernel_rfl) <|
    xn <| cnd rfl h (fun b195 h => wpC_seq <| reg_s <| x_asg (sc cB false rfl) <| seqN [(2, .d (cB.enc false))] (by kernel_rfl) <|
    xn <| wpC_ret <| rb <| rt <| rt <| rt <| rb <| rt <| rt <| re <| fin h (r1 (ss rfl rfl) <| r0) rfl)
    (fun b195 h => wpC_skip <| xbb <| kpN [(1, .box ((cXGeo (cLs cI rfl)).enc v0)), (3, .d (cI.enc s114))] (by kernel_rfl) <| xn <| reg_s <| st rfl <| mvd rfl rfl <| ckI_k h fun i196 h => st rfl <| b_add (k := .i64) rfl rfl i196 <| x_asg (ss rfl rfl) <| seqN [(1, .box ((cXGeo (cLs cI rfl)).enc v0)), (3, .d (cI.enc (s114 + (1 : Int))))] (by kernel_rfl) <|
    xn <| hn170 (s114 + (1 : Int)) h)))
    (fun b177 h => wpC_exit <| xt <| xt <| xt <| xb <| kpN [] (by kernel_rfl) <| xn <| wpC_seq <| reg_s <| x_asg (sc cB true rfl) <| seqN [(2, .d (cB.enc true))] (by kernel_rfl) <|
    xn <| wpC_ret <| re <| fin h (r1 (ss rfl rfl) <| r0) rfl))))

def rs_impl_isWord (r : Bool) : List D := [cB.enc r]
def m61 : MC := .seq (.reg [⟨some 2, .asg (.c (.bool false)), none⟩] [0])
  (.seq (.kp [0] (.seq (.reg [⟨some 4, .mv (.t 0), none⟩,
    ⟨some 5, .len true (.t 4), none⟩,
    ⟨some 6, .bin .lss (.t 5) (.c (.int .i64 1)), none⟩,
    ⟨some 7, .mv (.t 6), none⟩,
    ⟨some 8, .mv (.t 0), some (7, false)⟩,
    ⟨some 9, .len true (.t 8), some (7, false)⟩,
    ⟨some 10, .bin .gtr (.t 9) (.c (.int .i64 8)), some (7, false)⟩,
    ⟨some 11, .pick (.t 7) (.c (.bool true)) (.t 10), none⟩] [0, 11])
  (.cond (.t 11) (.seq (.reg [⟨some 2, .asg (.c (.bool false)), none⟩] [2])
  (.ret)) (.skip))))
  (.seq (.kp [] (.seq (.reg [⟨some 12, .mv (.t 0), none⟩,
    ⟨some 13, .len true (.t 12), none⟩,
    ⟨some 14, .mv (.c (.int .i64 0)), none⟩] [0, 13, 14])
  (.blk 0 (.loop (.seq (.reg [⟨some 15, .bin .lss (.t 14) (.t 13), none⟩] [0, 13, 14, 15])
  (.seq (.kp [0, 13, 14] (.cond (.t 15) (.skip) (.exit 0)))
  (.seq (.kp [0, 13, 14] (.blk 1 (.seq (.reg [⟨some 16, .mv (.t 14), none⟩,
    ⟨some 3, .asg (.t 16), none⟩] [0, 3, 13, 14])
  (.seq (.reg [⟨some 17, .mv (.t 0), none⟩,
    ⟨some 18, .mv (.t 3), none⟩,
    ⟨some 19, .ix (.t 17) (.t 18), none⟩,
    ⟨some 20, .bin .lss (.t 19) (.c (.int .u8 97)), none⟩,
    ⟨some 21, .mv (.t 20), none⟩,
    ⟨some 22, .mv (.t 0), some (21, false)⟩,
    ⟨some 23, .mv (.t 3), some (21, false)⟩,
    ⟨some 24, .ix (.t 22) (.t 23), some (21, false)⟩,
    ⟨some 25, .bin .gtr (.t 24) (.c (.int .u8 122)), some (21, false)⟩,
    ⟨some 26, .pick (.t 21) (.c (.bool true)) (.t 25), none⟩] [0, 13, 14, 26])
  (.cond (.t 26) (.seq (.reg [⟨some 2, .asg (.c (.bool false)), none⟩] [2])
  (.ret)) (.skip))))))
  (.reg [⟨some 27, .bin .add (.t 14) (.c (.int .i64 1)), none⟩,
    ⟨some 14, .mv (.t 27), none⟩] [0, 13, 14]))))))))
  (.seq (.reg [⟨some 2, .asg (.c (.bool true)), none⟩] [2])
  (.ret))))
theorem con_impl_isWord {v0 : (List UInt8)} {r : Bool} (h : sh_impl_isWord v0 = some r) : Con Try.prog 61 [cS.enc v0] [] (rs_impl_isWord r) := by
  delta sh_impl_isWord at h
  refine top (out := none) (f := Try.f61) (m := m61) (rs := [.t 2]) (by kernel_rfl) rfl (by kernel_rfl) (by kernel_rfl) (by kernel_rfl) (by kernel_rfl) (by kernel_rfl) ?_
  exact
   ini [(0, .d (cS.enc v0))] rfl <| wpC_seq <| reg_s <| x_asg (sc cB false rfl) <| seqN [(0, .d (cS.enc v0))] (by kernel_rfl) <|
    xn <| wpC_seq <| wpC_kp <| wpC_seq <| reg_s <| st rfl <| mvd rfl rfl <| stw rfl <| lent rfl fun l11 => st rfl <| b_lss (k := .i64) rfl rfl <| st rfl <| mvd rfl rfl <| ite_k h (fun b12 h => gf rfl b12 <| gf rfl b12 <| gf rfl b12 <| st rfl <| pick1 rfl b12 (cd := cB) (v := true) rfl rfl <| seqN [(0, .d (cS.enc v0)), (11, .d (cB.enc true))] (by kernel_rfl) <|
    xn <| cnd1 rfl rfl <| wpC_seq <| reg_s <| x_asg (sc cB false rfl) <| seqN [(2, .d (cB.enc false))] (by kernel_rfl) <|
    xn <| wpC_ret <| rt <| rt <| re <| fin h (r1 (ss rfl rfl) <| r0) rfl)
    (fun b12 h => gt' rfl b12 <| st rfl <| mvd rfl rfl <| gt' rfl b12 <| stw rfl <| lent rfl fun l13 => gt' rfl b12 <| st rfl <| b_gtr (k := .i64) rfl rfl <| st rfl <| pick0 rfl b12 (cd := cB) (v := (decide ((8 : Int) < (v0.length : Int)))) rfl rfl <| seqN [(0, .d (cS.enc v0)), (11, .d (cB.enc (decide ((8 : Int) < (v0.length : Int)))))] (by kernel_rfl) <|
    xn <| cnd rfl h (fun b14 h => wpC_seq <| reg_s <| x_asg (sc cB false rfl) <| seqN [(2, .d (cB.enc false))] (by kernel_rfl) <|
    xn <| wpC_ret <| rt <| rt <| re <| fin h (r1 (ss rfl rfl) <| r0) rfl)
    (fun b14 h => wpC_skip <| kpN [(0, .d (cS.enc v0))] (by kernel_rfl) <| xn <| wpC_seq <| wpC_kp <| wpC_seq <| reg_s <| st rfl <| mvd rfl rfl <| stw rfl <| lent rfl fun l38 => st rfl <| mvc cI (0 : Int) rfl <| seqN [(0, .d (cS.enc v0)), (13, .d (cI.enc (v0.length : Int))), (14, .d (cI.enc (0 : Int)))] (by kernel_rfl) <|
    xn <| wpC_blk <| lpR (fun (k40 : Nat) (s39 : Unit) => [(0, .d (cS.enc v0)), (13, .d (cI.enc (v0.length : Int))), (14, .d (cI.enc (k40 : Int)))]) () rfl h
    (fun G52 s39 h => wpC_seq <| reg_s <| st rfl <| b_lss (k := .i64) rfl rfl <| seqN [(0, .d (cS.enc v0)), (13, .d (cI.enc (v0.length : Int))), (14, .d (cI.enc (v0.length : Int))), (15, .d (cB.enc (decide ((v0.length : Int) < (v0.length : Int)))))] (by kernel_rfl) <|
    xn <| wpC_seq <| wpC_kp <| cnd0 rfl (dlf _) <| wpC_exit <| xt <| xt <| xt <| xb <| kpN [] (by kernel_rfl) <| xn <| wpC_seq <| reg_s <| x_asg (sc cB true rfl) <| seqN [(2, .d (cB.enc true))] (by kernel_rfl) <|
    xn <| wpC_ret <| re <| fin h (r1 (ss rfl rfl) <| r0) rfl)
    (fun G52 nx50 k40 s39 x41 hk42 hx43 hn51 h => wpC_seq <| reg_s <| st rfl <| b_lss (k := .i64) rfl rfl <| seqN [(0, .d (cS.enc v0)), (13, .d (cI.enc (v0.length : Int))), (14, .d (cI.enc (k40 : Int))), (15, .d (cB.enc (decide ((k40 : Int) < (v0.length : Int)))))] (by kernel_rfl) <|
    xn <| wpC_seq <| wpC_kp <| cnd1 rfl (dlt hk42) <| wpC_skip <| kpN [(0, .d (cS.enc v0)), (13, .d (cI.enc (v0.length : Int))), (14, .d (cI.enc (k40 : Int)))] (by kernel_rfl) <| xn <| wpC_seq <| wpC_kp <| wpC_blk <| wpC_seq <| reg_s <| st rfl <| mvd rfl rfl <| x_asg (ss rfl rfl) <| seqN [(0, .d (cS.enc v0)), (3, .d (cI.enc (k40 : Int))), (13, .d (cI.enc (v0.length : Int))), (14, .d (cI.enc (k40 : Int)))] (by kernel_rfl) <|
    xn <| wpC_seq <| reg_s <| st rfl <| mvd rfl rfl <| st rfl <| mvd rfl rfl <| st rfl <| o_ix (k := .i64) rfl rfl (Int.natCast_nonneg _) hx43 <| st rfl <| b_lss (k := .u8) rfl rfl <| st rfl <| mvd rfl rfl <| ite_k h (fun b57 h => gf rfl b57 <| gf rfl b57 <| gf rfl b57 <| gf rfl b57 <| st rfl <| pick1 rfl b57 (cd := cB) (v := true) rfl rfl <| seqN [(0, .d (cS.enc v0)), (13, .d (cI.enc (v0.length : Int))), (14, .d (cI.enc (k40 : Int))), (26, .d (cB.enc true))] (by kernel_rfl) <|
    xn <| cnd1 rfl rfl <| wpC_seq <| reg_s <| x_asg (sc cB false rfl) <| seqN [(2, .d (cB.enc false))] (by kernel_rfl) <|
    xn <| wpC_ret <| rb <| rt <| rt <| rt <| rb <| rt <| rt <| re <| fin h (r1 (ss rfl rfl) <| r0) rfl)
    (fun b57 h => gt' rfl b57 <| st rfl <| mvd rfl rfl <| gt' rfl b57 <| st rfl <| mvd rfl rfl <| gt' rfl b57 <| st rfl <| o_ix (k := .i64) rfl rfl (Int.natCast_nonneg _) hx43 <| gt' rfl b57 <| st rfl <| b_gtr (k := .u8) rfl rfl <| st rfl <| pick0 rfl b57 (cd := cB) (v := (decide ((122 : Int) < (x41.toNat : Int)))) rfl rfl <| seqN [(0, .d (cS.enc v0)), (13, .d (cI.enc (v0.length : Int))), (14, .d (cI.enc (k40 : Int))), (26, .d (cB.enc (decide ((122 : Int) < (x41.toNat : Int)))))] (by kernel_rfl) <|
    xn <| cnd rfl h (fun b58 h => wpC_seq <| reg_s <| x_asg (sc cB false rfl) <| seqN [(2, .d (cB.enc false))] (by kernel_rfl) <|
    xn <| wpC_ret <| rb <| rt <| rt <| rt <| rb <| rt <| rt <| re <| fin h (r1 (ss rfl rfl) <| r0) rfl)
    (fun b58 h => wpC_skip <| xbb <| kpN [(0, .d (cS.enc v0)), (13, .d (cI.enc (v0.length : Int))), (14, .d (cI.enc (k40 : Int)))] (by kernel_rfl) <| xn <| reg_s <| st rfl <| b_inc rfl rfl l38 hk42 <| st rfl <| mvd rfl rfl <| seqN [(0, .d (cS.enc v0)), (13, .d (cI.enc (v0.length : Int))), (14, .d (cI.enc ((k40 + 1 : Nat) : Int)))] (by kernel_rfl) <|
    xn <| hn51 () h)))))

def rs_impl_IsSchema (r : Bool) : List D := [cB.enc r]
def m46 : MC := .seq (.reg [⟨some 2, .asg (.c (.bool false)), none⟩] [0])
  (.seq (.kp [0] (.seq (.reg [⟨some 7, .mv (.t 0), none⟩,
    ⟨some 8, .len false (.t 7), none⟩,
    ⟨some 9, .bin .lss (.t 8) (.c (.int .i64 1)), none⟩,
    ⟨some 10, .mv (.t 9), none⟩,
    ⟨some 11, .mv (.t 0), some (10, false)⟩,
    ⟨some 12, .len false (.t 11), some (10, false)⟩,
    ⟨some 13, .bin .gtr (.t 12) (.c (.int .i64 6)), some (10, false)⟩,
    ⟨some 14, .pick (.t 10) (.c (.bool true)) (.t 13), none⟩] [0, 14])
  (.cond (.t 14) (.seq (.reg [⟨some 2, .asg (.c (.bool false)), none⟩] [2])
  (.ret)) (.skip))))
  (.seq (.kp [] (.seq (.reg [⟨some 15, .mv (.t 0), none⟩,
    ⟨some 16, .len false (.t 15), none⟩,
    ⟨some 17, .mv (.c (.int .i64 0)), none⟩] [0, 15, 16, 17])
  (.blk 0 (.loop (.seq (.reg [⟨some 18, .bin .lss (.t 17) (.t 16), none⟩] [0, 15, 16, 17, 18])
  (.seq (.kp [0, 15, 16, 17] (.cond (.t 18) (.skip) (.exit 0)))
  (.seq (.kp [0, 15, 16, 17] (.blk 1 (.seq (.reg [⟨some 19, .mv (.t 17), none⟩,
    ⟨some 20, .ia 15 (.t 17) 2, none⟩,
    ⟨some 21, .ld 20 2 true, none⟩,
    ⟨some 4, .alloc (.agg [.str [], .int .i64 0]), none⟩,
    ⟨some 3, .asg (.t 19), none⟩,
    ⟨none, .st 4 (.t 21) 2, none⟩] [0, 3, 4, 15, 16, 17])
  (.seq (.kp [0, 3, 4, 15, 16, 17] (.seq (.reg [⟨some 22, .fa 4 0 0, none⟩,
    ⟨some 23, .ld 22 1 false, none⟩,
    ⟨some 24, .call 61 [(.t 23)], none⟩,
    ⟨some 25, .nt (.t 24), none⟩,
    ⟨some 26, .mv (.t 25), none⟩,
    ⟨some 27, .fa 4 1 1, some (26, false)⟩,
    ⟨some 28, .ld 27 1 false, some (26, false)⟩,
    ⟨some 29, .bin .lss (.t 28) (.c (.int .i64 2)), some (26, false)⟩,
    ⟨some 30, .pick (.t 26) (.c (.bool true)) (.t 29), none⟩,
    ⟨some 31, .mv (.t 30), none⟩,
    ⟨some 32, .fa 4 1 1, some (31, false)⟩,
    ⟨some 33, .ld 32 1 false, some (31, false)⟩,
    ⟨some 34, .bin .gtr (.t 33) (.c (.int .i64 8)), some (31, false)⟩,
    ⟨some 35, .pick (.t 31) (.c (.bool true)) (.t 34), none⟩] [0, 3, 4, 15, 16, 17, 35])
  (.cond (.t 35) (.seq (.reg [⟨some 2, .asg (.c (.bool false)), none⟩] [2])
  (.ret)) (.skip))))
  (.seq (.reg [⟨some 36, .mv (.t 0), none⟩,
    ⟨some 37, .mv (.t 3), none⟩,
    ⟨some 38, .sl (.t 36) none (some (.t 37)) 2, none⟩,
    ⟨some 39, .len false (.t 38), none⟩,
    ⟨some 40, .mv (.c (.int .i64 0)), none⟩] [0, 4, 15, 16, 17, 38, 39, 40])
  (.blk 2 (.loop (.seq (.reg [⟨some 41, .bin .lss (.t 40) (.t 39), none⟩] [0, 4, 15, 16, 17, 38, 39, 40, 41])
  (.seq (.kp [0, 4, 15, 16, 17, 38, 39, 40] (.cond (.t 41) (.skip) (.exit 2)))
  (.seq (.kp [0, 4, 15, 16, 17, 38, 39, 40] (.blk 3 (.seq (.reg [⟨some 42, .ia 38 (.t 40) 2, none⟩,
    ⟨some 43, .ld 42 2 true, none⟩,
    ⟨some 6, .alloc (.agg [.str [], .int .i64 0]), none⟩,
    ⟨none, .st 6 (.t 43) 2, none⟩] [0, 4, 6, 15, 16, 17, 38, 39, 40])
  (.seq (.reg [⟨some 44, .fa 6 0 0, none⟩,
    ⟨some 45, .ld 44 1 false, none⟩,
    ⟨some 46, .fa 4 0 0, none⟩,
    ⟨some 47, .ld 46 1 false, none⟩,
    ⟨some 48, .bin .eql (.t 45) (.t 47), none⟩] [0, 4, 15, 16, 17, 38, 39, 40, 48])
  (.cond (.t 48) (.seq (.reg [⟨some 2, .asg (.c (.bool false)), none⟩] [2])
  (.ret)) (.skip))))))
  (.reg [⟨some 49, .bin .add (.t 40) (.c (.int .i64 1)), none⟩,
    ⟨some 40, .mv (.t 49), none⟩] [0, 4, 15, 16, 17, 38, 39, 40])))))))))))
  (.reg [⟨some 50, .bin .add (.t 17) (.c (.int .i64 1)), none⟩,
    ⟨some 17, .mv (.t 50), none⟩] [0, 15, 16, 17]))))))))
  (.seq (.reg [⟨some 2, .asg (.c (.bool true)), none⟩] [2])
  (.ret))))
theorem con_impl_IsSchema {v0 : (List XVariable)} {r : Bool} (h : sh_impl_IsSchema v0 = some r) : Con Try.prog 46 [(cLs (cXVariable cS cI) rfl).enc v0] [] (rs_impl_IsSchema r) := by
  delta sh_impl_IsSchema at h
  refine top (out := none) (f := Try.f46) (m := m46) (rs := [.t 2]) (by kernel_rfl) rfl (by kernel_rfl) (by kernel_rfl) (by kernel_rfl) (by kernel_rfl) (by kernel_rfl) ?_
  exact
   ini [(0, .d ((cLs (cXVariable cS cI) rfl).enc v0))] rfl <| wpC_seq <| reg_s <| x_asg (sc cB false rfl) <| seqN [(0, .d ((cLs (cXVariable cS cI) rfl).enc v0))] (by kernel_rfl) <|
    xn <| wpC_seq <| wpC_kp <| wpC_seq <| reg_s <| st rfl <| mvd rfl rfl <| stw rfl <| lens rfl fun l11 => st rfl <| b_lss (k := .i64) rfl rfl <| st rfl <| mvd rfl rfl <| ite_k h (fun b12 h => gf rfl b12 <| gf rfl b12 <| gf rfl b12 <| st rfl <| pick1 rfl b12 (cd := cB) (v := true) rfl rfl <| seqN [(0, .d ((cLs (cXVariable cS cI) rfl).enc v0)), (14, .d (cB.enc true))] (by kernel_rfl) <|
    xn <| cnd1 rfl rfl <| wpC_seq <| reg_s <| x_asg (sc cB false rfl) <| seqN [(2, .d (cB.enc false))] (by kernel_rfl) <|
    xn <| wpC_ret <| rt <| rt <| re <| fin h (r1 (ss rfl rfl) <| r0) rfl)
    (fun b12 h => gt' rfl b12 <| st rfl <| mvd rfl rfl <| gt' rfl b12 <| stw rfl <| lens rfl fun l13 => gt' rfl b12 <| st rfl <| b_gtr (k := .i64) rfl rfl <| st rfl <| pick0 rfl b12 (cd := cB) (v := (decide ((6 : Int) < (v0.length : Int)))) rfl rfl <| seqN [(0, .d ((cLs (cXVariable cS cI) rfl).enc v0)), (14, .d (cB.enc (decide ((6 : Int) < (v0.length : Int)))))] (by kernel_rfl) <|
    xn <| cnd rfl h (fun b14 h => wpC_seq <| reg_s <| x_asg (sc cB false rfl) <| seqN [(2, .d (cB.enc false))] (by kernel_rfl) <|
    xn <| wpC_ret <| rt <| rt <| re <| fin h (r1 (ss rfl rfl) <| r0) rfl)
    (fun b14 h => wpC_skip <| kpN [(0, .d ((cLs (cXVariable cS cI) rfl).enc v0))] (by kernel_rfl) <| xn <| wpC_seq <| wpC_kp <| wpC_seq <| reg_s <| st rfl <| mvd rfl rfl <| stw rfl <| lens rfl fun l162 => st rfl <| mvc cI (0 : Int) rfl <| seqN [(0, .d ((cLs (cXVariable cS cI) rfl).enc v0)), (15, .d ((cLs (cXVariable cS cI) rfl).enc v0)), (16, .d (cI.enc (v0.length : Int))), (17, .d (cI.enc (0 : Int)))] (by kernel_rfl) <|
    xn <| wpC_blk <| lpR (fun (k164 : Nat) (s163 : Unit) => [(0, .d ((cLs (cXVariable cS cI) rfl).enc v0)), (15, .d ((cLs (cXVariable cS cI) rfl).enc v0)), (16, .d (cI.enc (v0.length : Int))), (17, .d (cI.enc (k164 : Int)))]) () rfl h
    (fun G238 s163 h => wpC_seq <| reg_s <| st rfl <| b_lss (k := .i64) rfl rfl <| seqN [(0, .d ((cLs (cXVariable cS cI) rfl).enc v0)), (15, .d ((cLs (cXVariable cS cI) rfl).enc v0)), (16, .d (cI.enc (v0.length : Int))), (17, .d (cI.enc (v0.length : Int))), (18, .d (cB.enc (decide ((v0.length : Int) < (v0.length : Int)))))] (by kernel_rfl) <|
    xn <| wpC_seq <| wpC_kp <| cnd0 rfl (dlf _) <| wpC_exit <| xt <| xt <| xt <| xb <| kpN [] (by kernel_rfl) <| xn <| wpC_seq <| reg_s <| x_asg (sc cB true rfl) <| seqN [(2, .d (cB.enc true))] (by kernel_rfl) <|
    xn <| wpC_ret <| re <| fin h (r1 (ss rfl rfl) <| r0) rfl)
    (fun G238 nx236 k164 s163 x165 hk166 hx167 hn237 h => wpC_seq <| reg_s <| st rfl <| b_lss (k := .i64) rfl rfl <| seqN [(0, .d ((cLs (cXVariable cS cI) rfl).enc v0)), (15, .d ((cLs (cXVariable cS cI) rfl).enc v0)), (16, .d (cI.enc (v0.length : Int))), (17, .d (cI.enc (k164 : Int))), (18, .d (cB.enc (decide ((k164 : Int) < (v0.length : Int)))))] (by kernel_rfl) <|
    xn <| wpC_seq <| wpC_kp <| cnd1 rfl (dlt hk166) <| wpC_skip <| kpN [(0, .d ((cLs (cXVariable cS cI) rfl).enc v0)), (15, .d ((cLs (cXVariable cS cI) rfl).enc v0)), (16, .d (cI.enc (v0.length : Int))), (17, .d (cI.enc (k164 : Int)))] (by kernel_rfl) <| xn <| wpC_seq <| wpC_kp <| wpC_blk <| wpC_seq <| reg_s <| st rfl <| mvd rfl rfl <| st rfl <| ias rfl rfl (Int.natCast_nonneg _) hx167 rfl <| st rfl <| ldi rfl rfl rfl rfl <| x_all (cXVariable cS cI) (⟨([] : List UInt8), (0 : Int)⟩ : XVariable) rfl <| x_asg (ss rfl rfl) <| x_stb (ss rfl rfl) rfl (Cd.h_sz _ _) rfl <| seqN [(0, .d ((cLs (cXVariable cS cI) rfl).enc v0)), (3, .d (cI.enc (k164 : Int))), (4, .box ((cXVariable cS cI).enc x165)), (15, .d ((cLs (cXVariable cS cI) rfl).enc v0)), (16, .d (cI.enc (v0.length : Int))), (17, .d (cI.enc (k164 : Int)))] (by kernel_rfl) <|
    xn <| wpC_seq <| wpC_kp <| wpC_seq <| reg_s <| st rfl <| fab rfl rfl rfl rfl <| st rfl <| lda rfl rfl rfl rfl rfl rfl <| bnd h fun x286 e287 h => st rfl <| o_call (a1 (c := cS) tS rfl a0) (con_impl_isWord e287) (.inl (so1 sB so0)) <| st rfl <| o_nt rfl <| st rfl <| mvd rfl rfl <| ite_k h (fun b288 h => gf rfl b288 <| gf rfl b288 <| gf rfl b288 <| st rfl <| pick1 rfl b288 (cd := cB) (v := true) rfl rfl <| st rfl <| mvd rfl rfl <| gf rfl rfl <| gf rfl rfl <| gf rfl rfl <| st rfl <| pick1 rfl rfl (cd := cB) (v := true) rfl rfl <| seqN [(0, .d ((cLs (cXVariable cS cI) rfl).enc v0)), (3, .d (cI.enc (k164 : Int))), (4, .box ((cXVariable cS cI).enc x165)), (15, .d ((cLs (cXVariable cS cI) rfl).enc v0)), (16, .d (cI.enc (v0.length : Int))), (17, .d (cI.enc (k164 : Int))), (35, .d (cB.enc true))] (by kernel_rfl) <|
    xn <| cnd1 rfl rfl <| wpC_seq <| reg_s <| x_asg (sc cB false rfl) <| seqN [(2, .d (cB.enc false))] (by kernel_rfl) <|
    xn <| wpC_ret <| rt <| rt <| rb <| rt <| rt <| rt <| rb <| rt <| rt <| re <| fin h (r1 (ss rfl rfl) <| r0) rfl)
    (fun b288 h => gt' rfl b288 <| st rfl <| fab rfl rfl rfl rfl <| gt' rfl b288 <| st rfl <| lda rfl rfl rfl rfl rfl rfl <| gt' rfl b288 <| st rfl <| b_lss (k := .i64) rfl rfl <| st rfl <| pick0 rfl b288 (cd := cB) (v := (decide (x165.Levels < (2 : Int)))) rfl rfl <| st rfl <| mvd rfl rfl <| ite_k h (fun b289 h => gf rfl b289 <| gf rfl b289 <| gf rfl b289 <| st rfl <| pick1 rfl b289 (cd := cB) (v := true) rfl rfl <| seqN [(0, .d ((cLs (cXVariable cS cI) rfl).enc v0)), (3, .d (cI.enc (k164 : Int))), (4, .box ((cXVariable cS cI).enc x165)), (15, .d ((cLs (cXVariable cS cI) rfl).enc v0)), (16, .d (cI.enc (v0.length : Int))), (17, .d (cI.enc (k164 : Int))), (35, .d (cB.enc true))] (by kernel_rfl) <|
    xn <| cnd1 rfl rfl <| wpC_seq <| reg_s <| x_asg (sc cB false rfl) <| seqN [(2, .d (cB.enc false))] (by kernel_rfl) <|
    xn <| wpC_ret <| rt <| rt <| rb <| rt <| rt <| rt <| rb <| rt <| rt <| re <| fin h (r1 (ss rfl rfl) <| r0) rfl)
    (fun b289 h => gt' rfl b289 <| st rfl <| fab rfl rfl rfl rfl <| gt' rfl b289 <| st rfl <| lda rfl rfl rfl rfl rfl rfl <| gt' rfl b289 <| st rfl <| b_gtr (k := .i64) rfl rfl <| st rfl <| pick0 rfl b289 (cd := cB) (v := (decide ((8 : Int) < x165.Levels))) rfl rfl <| seqN [(0, .d ((cLs (cXVariable cS cI) rfl).enc v0)), (3, .d (cI.enc (k164 : Int))), (4, .box ((cXVariable cS cI).enc x165)), (15, .d ((cLs (cXVariable cS cI) rfl).enc v0)), (16, .d (cI.enc (v0.length : Int))), (17, .d (cI.enc (k164 : Int))), (35, .d (cB.enc (decide ((8 : Int) < x165.Levels))))] (by kernel_rfl) <|
    xn <| cnd rfl h (fun b290 h => wpC_seq <| reg_s <| x_asg (sc cB false rfl) <| seqN [(2, .d (cB.enc false))] (by kernel_rfl) <|
    xn <| wpC_ret <| rt <| rt <| rb <| rt <| rt <| rt <| rb <| rt <| rt <| re <| fin h (r1 (ss rfl rfl) <| r0) rfl)
    (fun b290 h => wpC_skip <| kpN [(0, .d ((cLs (cXVariable cS cI) rfl).enc v0)), (3, .d (cI.enc (k164 : Int))), (4, .box ((cXVariable cS cI).enc x165)), (15, .d ((cLs (cXVariable cS cI) rfl).enc v0)), (16, .d (cI.enc (v0.length : Int))), (17, .d (cI.enc (k164 : Int)))] (by kernel_rfl) <| xn <| wpC_seq <| reg_s <| st rfl <| mvd rfl rfl <| st rfl <| mvd rfl rfl <| ck_k h fun i293 h => st rfl <| o_sl rfl rfl lo0 (hi1 (k := .i64) rfl i293.1) i293.2 <| stw rfl <| lens rfl fun l294 => st rfl <| mvc cI (0 : Int) rfl <| seqN [(0, .d ((cLs (cXVariable cS cI) rfl).enc v0)), (4, .box ((cXVariable cS cI).enc x165)), (15, .d ((cLs (cXVariable cS cI) rfl).enc v0)), (16, .d (cI.enc (v0.length : Int))), (17, .d (cI.enc (k164 : Int))), (38, .d ((cLs (cXVariable cS cI) rfl).enc ((v0.take ((k164 : Int)).toNat).drop 0))), (39, .d (cI.enc (((v0.take ((k164 : Int)).toNat).drop 0).length : Int))), (40, .d (cI.enc (0 : Int)))] (by kernel_rfl) <|
    xn <| wpC_blk <| lpR (fun (k296 : Nat) (s295 : Unit) => [(0, .d ((cLs (cXVariable cS cI) rfl).enc v0)), (4, .box ((cXVariable cS cI).enc x165)), (15, .d ((cLs (cXVariable cS cI) rfl).enc v0)), (16, .d (cI.enc (v0.length : Int))), (17, .d (cI.enc (k164 : Int))), (38, .d ((cLs (cXVariable cS cI) rfl).enc ((v0.take ((k164 : Int)).toNat).drop 0))), (39, .d (cI.enc (((v0.take ((k164 : Int)).toNat).drop 0).length : Int))), (40, .d (cI.enc (k296 : Int)))]) () rfl h
    (fun G304 s295 h => wpC_seq <| reg_s <| st rfl <| b_lss (k := .i64) rfl rfl <| seqN [(0, .d ((cLs (cXVariable cS cI) rfl).enc v0)), (4, .box ((cXVariable cS cI).enc x165)), (15, .d ((cLs (cXVariable cS cI) rfl).enc v0)), (16, .d (cI.enc (v0.length : Int))), (17, .d (cI.enc (k164 : Int))), (38, .d ((cLs (cXVariable cS cI) rfl).enc ((v0.take ((k164 : Int)).toNat).drop 0))), (39, .d (cI.enc (((v0.take ((k164 : Int)).toNat).drop 0).length : Int))), (40, .d (cI.enc (((v0.take ((k164 : Int)).toNat).drop 0).length : Int))), (41, .d (cB.enc (decide ((((v0.take ((k164 : Int)).toNat).drop 0).length : Int) < (((v0.take ((k164 : Int)).toNat).drop 0).length : Int)))))] (by kernel_rfl) <|
    xn <| wpC_seq <| wpC_kp <| cnd0 rfl (dlf _) <| wpC_exit <| xt <| xt <| xt <| xb <| xbb <| kpN [(0, .d ((cLs (cXVariable cS cI) rfl).enc v0)), (15, .d ((cLs (cXVariable cS cI) rfl).enc v0)), (16, .d (cI.enc (v0.length : Int))), (17, .d (cI.enc (k164 : Int)))] (by kernel_rfl) <| xn <| reg_s <| st rfl <| b_inc rfl rfl l162 hk166 <| st rfl <| mvd rfl rfl <| seqN [(0, .d ((cLs (cXVariable cS cI) rfl).enc v0)), (15, .d ((cLs (cXVariable cS cI) rfl).enc v0)), (16, .d (cI.enc (v0.length : Int))), (17, .d (cI.enc ((k164 + 1 : Nat) : Int)))] (by kernel_rfl) <|
    xn <| hn237 () h)
    (fun G304 nx302 k296 s295 x297 hk298 hx299 hn303 h => wpC_seq <| reg_s <| st rfl <| b_lss (k := .i64) rfl rfl <| seqN [(0, .d ((cLs (cXVariable cS cI) rfl).enc v0)), (4, .box ((cXVariable cS cI).enc x165)), (15, .d ((cLs (cXVariable cS cI) rfl).enc v0)), (16, .d (cI.enc (v0.length : Int))), (17, .d (cI.enc (k164 : Int))), (38, .d ((cLs (cXVariable cS cI) rfl).enc ((v0.take ((k164 : Int)).toNat).drop 0))), (39, .d (cI.enc (((v0.take ((k164 : Int)).toNat).drop 0).length : Int))), (40, .d (cI.enc (k296 : Int))), (41, .d (cB.enc (decide ((k296 : Int) < (((v0.take ((k164 : Int)).toNat).drop 0).length : Int)))))] (by kernel_rfl) <|
    xn <| wpC_seq <| wpC_kp <| cnd1 rfl (dlt hk298) <| wpC_skip <| kpN [(0, .d ((cLs (cXVariable cS cI) rfl).enc v0)), (4, .box ((cXVariable cS cI).enc x165)), (15, .d ((cLs (cXVariable cS cI) rfl).enc v0)), (16, .d (cI.enc (v0.length : Int))), (17, .d (cI.enc (k164 : Int))), (38, .d ((cLs (cXVariable cS cI) rfl).enc ((v0.take ((k164 : Int)).toNat).drop 0))), (39, .d (cI.enc (((v0.take ((k164 : Int)).toNat).drop 0).length : Int))), (40, .d (cI.enc (k296 : Int)))] (by kernel_rfl) <| xn <| wpC_seq <| wpC_kp <| wpC_blk <| wpC_seq <| reg_s <| st rfl <| ias rfl rfl (Int.natCast_nonneg _) hx299 rfl <| st rfl <| ldi rfl rfl rfl rfl <| x_all (cXVariable cS cI) (⟨([] : List UInt8), (0 : Int)⟩ : XVariable) rfl <| x_stb (ss rfl rfl) rfl (Cd.h_sz _ _) rfl <| seqN [(0, .d ((cLs (cXVariable cS cI) rfl).enc v0)), (4, .box ((cXVariable cS cI).enc x165)), (6, .box ((cXVariable cS cI).enc x297)), (15, .d ((cLs (cXVariable cS cI) rfl).enc v0)), (16, .d (cI.enc (v0.length : Int))), (17, .d (cI.enc (k164 : Int))), (38, .d ((cLs (cXVariable cS cI) rfl).enc ((v0.take ((k164 : Int)).toNat).drop 0))), (39, .d (cI.enc (((v0.take ((k164 : Int)).toNat).drop 0).length : Int))), (40, .d (cI.enc (k296 : Int)))] (by kernel_rfl) <|
    xn <| wpC_seq <| reg_s <| st rfl <| fab rfl rfl rfl rfl <| st rfl <| lda rfl rfl rfl rfl rfl rfl <| st rfl <| fab rfl rfl rfl rfl <| st rfl <| lda rfl rfl rfl rfl rfl rfl <| st rfl <| b_seq rfl rfl <| seqN [(0, .d ((cLs (cXVariable cS cI) rfl).enc v0)), (4, .box ((cXVariable cS cI).enc x165)), (15, .d ((cLs (cXVariable cS cI) rfl).enc v0)), (16, .d (cI.enc (v0.length : Int))), (17, .d (cI.enc (k164 : Int))), (38, .d ((cLs (cXVariable cS cI) rfl).enc ((v0.take ((k164 : Int)).toNat).drop 0))), (39, .d (cI.enc (((v0.take ((k164 : Int)).toNat).drop 0).length : Int))), (40, .d (cI.enc (k296 : Int))), (48, .d (cB.enc (decide (x297.Name = x165.Name))))] (by kernel_rfl) <|
    xn <| cnd rfl h (fun b306 h => wpC_seq <| reg_s <| x_asg (sc cB false rfl) <| seqN [(2, .d (cB.enc false))] (by kernel_rfl) <|
    xn <| wpC_ret <| rb <| rt <| rt <| rt <| rb <| rb <| rt <| rt <| rt <| rb <| rt <| rt <| re <| fin h (r1 (ss rfl rfl) <| r0) rfl)
    (fun b306 h => wpC_skip <| xbb <| kpN [(0, .d ((cLs (cXVariable cS cI) rfl).enc v0)), (4, .box ((cXVariable cS cI).enc x165)), (15, .d ((cLs (cXVariable cS cI) rfl).enc v0)), (16, .d (cI.enc (v0.length : Int))), (17, .d (cI.enc (k164 : Int))), (38, .d ((cLs (cXVariable cS cI) rfl).enc ((v0.take ((k164 : Int)).toNat).drop 0))), (39, .d (cI.enc (((v0.take ((k164 : Int)).toNat).drop 0).length : Int))), (40, .d (cI.enc (k296 : Int)))] (by kernel_rfl) <| xn <| reg_s <| st rfl <| b_inc rfl rfl l294 hk298 <| st rfl <| mvd rfl rfl <| seqN [(0, .d ((cLs (cXVariable cS cI) rfl).enc v0)), (4, .box ((cXVariable cS cI).enc x165)), (15, .d ((cLs (cXVariable cS cI) rfl).enc v0)), (16, .d (cI.enc (v0.length : Int))), (17, .d (cI.enc (k164 : Int))), (38, .d ((cLs (cXVariable cS cI) rfl).enc ((v0.take ((k164 : Int)).toNat).drop 0))), (39, .d (cI.enc (((v0.take ((k164 : Int)).toNat).drop 0).length : Int))), (40, .d (cI.enc ((k296 + 1 : Nat) : Int)))] (by kernel_rfl) <|
    xn <| hn303 () h))))))))

def rs_impl_areVars (r : Bool) : List D := [cB.enc r]
def m62 : MC := .seq (.reg [⟨some 4, .asg (.c (.bool false)), none⟩] [0, 1])
  (.seq (.reg [⟨some 5, .asg (.c (.int .i64 (-1))), none⟩] [0, 1, 5])
  (.seq (.kp [] (.seq (.reg [⟨some 8, .mv (.t 1), none⟩,
    ⟨some 9, .len false (.t 8), none⟩,
    ⟨some 10, .mv (.c (.int .i64 0)), none⟩] [0, 1, 5, 8, 9, 10])
  (.blk 0 (.loop (.seq (.reg [⟨some 11, .bin .lss (.t 10) (.t 9), none⟩] [0, 1, 5, 8, 9, 10, 11])
  (.seq (.kp [0, 1, 5, 8, 9, 10] (.cond (.t 11) (.skip) (.exit 0)))
  (.seq (.kp [0, 1, 5, 8, 9, 10] (.blk 1 (.seq (.reg [⟨some 12, .ia 8 (.t 10) 1, none⟩,
    ⟨some 13, .ld 12 1 false, none⟩,
    ⟨some 7, .asg (.t 13), none⟩] [0, 1, 5, 7, 8, 9, 10])
  (.seq (.kp [0, 1, 7, 8, 9, 10] (.seq (.reg [⟨some 14, .mv (.t 7), none⟩,
    ⟨some 15, .mv (.t 5), none⟩,
    ⟨some 16, .bin .leq (.t 14) (.t 15), none⟩,
    ⟨some 17, .mv (.t 16), none⟩,
    ⟨some 18, .mv (.t 7), some (17, false)⟩,
    ⟨some 19, .mv (.t 0), some (17, false)⟩,
    ⟨some 20, .len false (.t 19), some (17, false)⟩,
    ⟨some 21, .bin .geq (.t 18) (.t 20), some (17, false)⟩,
    ⟨some 22, .pick (.t 17) (.c (.bool true)) (.t 21), none⟩] [0, 1, 7, 8, 9, 10, 22])
  (.cond (.t 22) (.seq (.reg [⟨some 4, .asg (.c (.bool false)), none⟩] [4])
  (.ret)) (.skip))))
  (.reg [⟨some 23, .mv (.t 7), none⟩,
    ⟨some 5, .asg (.t 23), none⟩] [0, 1, 5, 8, 9, 10])))))
  (.reg [⟨some 24, .bin .add (.t 10) (.c (.int .i64 1)), none⟩,
    ⟨some 10, .mv (.t 24), none⟩] [0, 1, 5, 8, 9, 10]))))))))
  (.seq (.reg [⟨some 4, .asg (.c (.bool true)), none⟩] [4])
  (.ret))))
theorem con_impl_areVars {v0 : (List XVariable)} {v1 : (List Int)} {r : Bool} (h : sh_impl_areVars v0 v1 = some r) : Con Try.prog 62 [(cLs (cXVariable cS cI) rfl).enc v0, (cLs cI rfl).enc v1] [] (rs_impl_areVars r) := by
  delta sh_impl_areVars at h
  refine top (out := none) (f := Try.f62) (m := m62) (rs := [.t 4]) (by kernel_rfl) rfl (by kernel_rfl) (by kernel_rfl) (by kernel_rfl) (by kernel_rfl) (by kernel_rfl) ?_
  exact
   ini [(0, .d ((cLs (cXVariable cS cI) rfl).enc v0)), (1, .d ((cLs cI rfl).enc v1))] rfl <| wpC_seq <| reg_s <| x_asg (sc cB false rfl) <| seqN [(0, .d ((cLs (cXVariable cS cI) rfl).enc v0)), (1, .d ((cLs cI rfl).enc v1))] (by kernel_rfl) <|
    xn <| wpC_seq <| reg_s <| x_asg (sc cI (-1 : Int) rfl) <| seqN [(0, .d ((cLs (cXVariable cS cI) rfl).enc v0)), (1, .d ((cLs cI rfl).enc v1)), (5, .d (cI.enc (-1 : Int)))] (by kernel_rfl) <|
    xn <| wpC_seq <| wpC_kp <| wpC_seq <| reg_s <| st rfl <| mvd rfl rfl <| stw rfl <| lens rfl fun l72 => st rfl <| mvc cI (0 : Int) rfl <| seqN [(0, .d ((cLs (cXVariable cS cI) rfl).enc v0)), (1, .d ((cLs cI rfl).enc v1)), (5, .d (cI.enc (-1 : Int))), (8, .d ((cLs cI rfl).enc v1)), (9, .d (cI.enc (v1.length : Int))), (10, .d (cI.enc (0 : Int)))] (by kernel_rfl) <|
    xn <| wpC_blk <| lpR (fun (k74 : Nat) (s73 : Int) => [(0, .d ((cLs (cXVariable cS cI) rfl).enc v0)), (1, .d ((cLs cI rfl).enc v1)), (5, .d (cI.enc s73)), (8, .d ((cLs cI rfl).enc v1)), (9, .d (cI.enc (v1.length : Int))), (10, .d (cI.enc (k74 : Int)))]) (-1 : Int) rfl h
    (fun G120 s73 h => wpC_seq <| reg_s <| st rfl <| b_lss (k := .i64) rfl rfl <| seqN [(0, .d ((cLs (cXVariable cS cI) rfl).enc v0)), (1, .d ((cLs cI rfl).enc v1)), (5, .d (cI.enc s73)), (8, .d ((cLs cI rfl).enc v1)), (9, .d (cI.enc (v1.length : Int))), (10, .d (cI.enc (v1.length : Int))), (11, .d (cB.enc (decide ((v1.length : Int) < (v1.length : Int)))))] (by kernel_rfl) <|
    xn <| wpC_seq <| wpC_kp <| cnd0 rfl (dlf _) <| wpC_exit <| xt <| xt <| xt <| xb <| kpN [] (by kernel_rfl) <| xn <| wpC_seq <| reg_s <| x_asg (sc cB true rfl) <| seqN [(4, .d (cB.enc true))] (by kernel_rfl) <|
    xn <| wpC_ret <| re <| fin h (r1 (ss rfl rfl) <| r0) rfl)
    (fun G120 nx118 k74 s73 x75 hk76 hx77 hn119 h => wpC_seq <| reg_s <| st rfl <| b_lss (k := .i64) rfl rfl <| seqN [(0, .d ((cLs (cXVariable cS cI) rfl).enc v0)), (1, .d ((cLs cI rfl).enc v1)), (5, .d (cI.enc s73)), (8, .d ((cLs cI rfl).enc v1)), (9, .d (cI.enc (v1.length : Int))), (10, .d (cI.enc (k74 : Int))), (11, .d (cB.enc (decide ((k74 : Int) < (v1.length : Int)))))] (by kernel_rfl) <|
    xn <| wpC_seq <| wpC_kp <| cnd1 rfl (dlt hk76) <| wpC_skip <| kpN [(0, .d ((cLs (cXVariable cS cI) rfl).enc v0)), (1, .d ((cLs cI rfl).enc v1)), (5, .d (cI.enc s73)), (8, .d ((cLs cI rfl).enc v1)), (9, .d (cI.enc (v1.length : Int))), (10, .d (cI.enc (k74 : Int)))] (by kernel_rfl) <| xn <| wpC_seq <| wpC_kp <| wpC_blk <| wpC_seq <| reg_s <| st rfl <| ias rfl rfl (Int.natCast_nonneg _) hx77 rfl <| st rfl <| ldi rfl rfl rfl rfl <| x_asg (ss rfl rfl) <| seqN [(0, .d ((cLs (cXVariable cS cI) rfl).enc v0)), (1, .d ((cLs cI rfl).enc v1)), (5, .d (cI.enc s73)), (7, .d (cI.enc x75)), (8, .d ((cLs cI rfl).enc v1)), (9, .d (cI.enc (v1.length : Int))), (10, .d (cI.enc (k74 : Int)))] (by kernel_rfl) <|
    xn <| wpC_seq <| wpC_kp <| wpC_seq <| reg_s <| st rfl <| mvd rfl rfl <| st rfl <| mvd rfl rfl <| st rfl <| b_leq (k := .i64) rfl rfl <| st rfl <| mvd rfl rfl <| ite_k h (fun b138 h => gf rfl b138 <| gf rfl b138 <| gf rfl b138 <| gf rfl b138 <| st rfl <| pick1 rfl b138 (cd := cB) (v := true) rfl rfl <| seqN [(0, .d ((cLs (cXVariable cS cI) rfl).enc v0)), (1, .d ((cLs cI rfl).enc v1)), (7, .d (cI.enc x75)), (8, .d ((cLs cI rfl).enc v1)), (9, .d (cI.enc (v1.length : Int))), (10, .d (cI.enc (k74 : Int))), (22, .d (cB.enc true))] (by kernel_rfl) <|
    xn <| cnd1 rfl rfl <| wpC_seq <| reg_s <| x_asg (sc cB false rfl) <| seqN [(4, .d (cB.enc false))] (by kernel_rfl) <|
    xn <| wpC_ret <| rt <| rt <| rb <| rt <| rt <| rt <| rb <| rt <| rt <| re <| fin h (r1 (ss rfl rfl) <| r0) rfl)
    (fun b138 h => gt' rfl b138 <| st rfl <| mvd rfl rfl <| gt' rfl b138 <| st rfl <| mvd rfl rfl <| gt' rfl b138 <| stw rfl <| lens rfl fun l139 => gt' rfl b138 <| st rfl <| b_geq (k := .i64) rfl rfl <| st rfl <| pick0 rfl b138 (cd := cB) (v := (decide ((v0.length : Int) ≤ x75))) rfl rfl <| seqN [(0, .d ((cLs (cXVariable cS cI) rfl).enc v0)), (1, .d ((cLs cI rfl).enc v1)), (7, .d (cI.enc x75)), (8, .d ((cLs cI rfl).enc v1)), (9, .d (cI.enc (v1.length : Int))), (10, .d (cI.enc (k74 : Int))), (22, .d (cB.enc (decide ((v0.length : Int) ≤ x75))))] (by kernel_rfl) <|
    xn <| cnd rfl h (fun b140 h => wpC_seq <| reg_s <| x_asg (sc cB false rfl) <| seqN [(4, .d (cB.enc false))] (by kernel_rfl) <|
    xn <| wpC_ret <| rt <| rt <| rb <| rt <| rt <| rt <| rb <| rt <| rt <| re <| fin h (r1 (ss rfl rfl) <| r0) rfl)
    (fun b140 h => wpC_skip <| kpN [(0, .d ((cLs (cXVariable cS cI) rfl).enc v0)), (1, .d ((cLs cI rfl).enc v1)), (7, .d (cI.enc x75)), (8, .d ((cLs cI rfl).enc v1)), (9, .d (cI.enc (v1.length : Int))), (10, .d (cI.enc (k74 : Int)))] (by kernel_rfl) <| xn <| reg_s <| st rfl <| mvd rfl rfl <| x_asg (ss rfl rfl) <| seqN [(0, .d ((cLs (cXVariable cS cI) rfl).enc v0)), (1, .d ((cLs cI rfl).enc v1)), (5, .d (cI.enc x75)), (8, .d ((cLs cI rfl).enc v1)), (9, .d (cI.enc (v1.length : Int))), (10, .d (cI.enc (k74 : Int)))] (by kernel_rfl) <|
    xbb <| kpN [(0, .d ((cLs (cXVariable cS cI) rfl).enc v0)), (1, .d ((cLs cI rfl).enc v1)), (5, .d (cI.enc x75)), (8, .d ((cLs cI rfl).enc v1)), (9, .d (cI.enc (v1.length : Int))), (10, .d (cI.enc (k74 : Int)))] (by kernel_rfl) <| xn <| reg_s <| st rfl <| b_inc rfl rfl l72 hk76 <| st rfl <| mvd rfl rfl <| seqN [(0, .d ((cLs (cXVariable cS cI) rfl).enc v0)), (1, .d ((cLs cI rfl).enc v1)), (5, .d (cI.enc x75)), (8, .d ((cLs cI rfl).enc v1)), (9, .d (cI.enc (v1.length : Int))), (10, .d (cI.enc ((k74 + 1 : Nat) : Int)))] (by kernel_rfl) <|
    xn <| hn119 x75 h)))

def rs_impl_fullSet (r : Int) : List D := [cI.enc r]
def m65 : MC := .seq (.reg [⟨some 1, .box (.t 0), none⟩,
    ⟨some 2, .asg (.c (.int .i64 0)), none⟩] [1])
  (.seq (.reg [⟨some 3, .fa 1 1 1, none⟩,
    ⟨some 4, .ld 3 1 false, none⟩,
    ⟨some 5, .bin .shl (.c (.int .i64 1)) (.t 4), none⟩,
    ⟨some 6, .bin .sub (.t 5) (.c (.int .i64 1)), none⟩,
    ⟨some 2, .asg (.t 6), none⟩] [2])
  (.ret))
theorem con_impl_fullSet {v0 : XVariable} {r : Int} (h : sh_impl_fullSet v0 = some r) : Con Try.prog 65 [(cXVariable cS cI).enc v0] [] (rs_impl_fullSet r) := by
  delta sh_impl_fullSet at h
  refine top (out := none) (f := Try.f65) (m := m65) (rs := [.t 2]) (by kernel_rfl) rfl (by kernel_rfl) (by kernel_rfl) (by kernel_rfl) (by kernel_rfl) (by kernel_rfl) ?_
  exact
   ini [(0, .d ((cXVariable cS cI).enc v0))] rfl <| wpC_seq <| reg_s <| x_box (ss rfl rfl) <| x_asg (sc cI (0 : Int) rfl) <| seqN [(1, .box ((cXVariable cS cI).enc v0))] (by kernel_rfl) <|
    xn <| wpC_seq <| reg_s <| st rfl <| fab rfl rfl rfl rfl <| st rfl <| lda rfl rfl rfl rfl rfl rfl <| ck_k h fun i4 h => ckI_k h fun i5 h => st rfl <| b_shl (k := .i64) (k' := .i64) rfl rfl i4 rfl i5 <| ckI_k h fun i6 h => st rfl <| b_sub (k := .i64) rfl rfl i6 <| x_asg (ss rfl rfl) <| seqN [(2, .d (cI.enc (((1 : Int) * 2 ^ (v0.Levels).toNat) - (1 : Int))))] (by kernel_rfl) <|
    xn <| wpC_ret <| re <| fin h (r1 (ss rfl rfl) <| r0) rfl

def rs_impl_isWhere (r : Bool) : List D := [cB.enc r]
def m63 : MC := .seq (.reg [⟨some 4, .asg (.c (.bool false)), none⟩] [0, 1])
  (.seq (.kp [0, 1] (.seq (.reg [⟨some 7, .mv (.t 1), none⟩,
    ⟨some 8, .len false (.t 7), none⟩,
    ⟨some 9, .mv (.t 0), none⟩,
    ⟨some 10, .len false (.t 9), none⟩,
    ⟨some 11, .bin .neq (.t 8) (.t 10), none⟩] [0, 1, 11])
  (.cond (.t 11) (.seq (.reg [⟨some 4, .asg (.c (.bool false)), none⟩] [4])
  (.ret)) (.skip))))
  (.seq (.kp [] (.seq (.reg [⟨some 12, .mv (.t 1), none⟩,
    ⟨some 13, .len false (.t 12), none⟩,
    ⟨some 14, .mv (.c (.int .i64 0)), none⟩] [0, 1, 12, 13, 14])
  (.blk 0 (.loop (.seq (.reg [⟨some 15, .bin .lss (.t 14) (.t 13), none⟩] [0, 1, 12, 13, 14, 15])
  (.seq (.kp [0, 1, 12, 13, 14] (.cond (.t 15) (.skip) (.exit 0)))
  (.seq (.kp [0, 1, 12, 13, 14] (.blk 1 (.seq (.reg [⟨some 16, .mv (.t 14), none⟩,
    ⟨some 17, .ia 12 (.t 14) 1, none⟩,
    ⟨some 18, .ld 17 1 false, none⟩,
    ⟨some 5, .asg (.t 16), none⟩,
    ⟨some 6, .asg (.t 18), none⟩] [0, 1, 5, 6, 12, 13, 14])
  (.seq (.reg [⟨some 19, .mv (.t 6), none⟩,
    ⟨some 20, .bin .lss (.t 19) (.c (.int .i64 0)), none⟩,
    ⟨some 21, .mv (.t 20), none⟩,
    ⟨some 22, .mv (.t 6), some (21, false)⟩,
    ⟨some 23, .mv (.t 0), some (21, false)⟩,
    ⟨some 24, .mv (.t 5), some (21, false)⟩,
    ⟨some 25, .ia 23 (.t 24) 2, some (21, false)⟩,
    ⟨some 26, .ld 25 2 true, some (21, false)⟩,
    ⟨some 27, .call 65 [(.t 26)], some (21, false)⟩,
    ⟨some 28, .bin .gtr (.t 22) (.t 27), some (21, false)⟩,
    ⟨some 29, .pick (.t 21) (.c (.bool true)) (.t 28), none⟩] [0, 1, 12, 13, 14, 29])
  (.cond (.t 29) (.seq (.reg [⟨some 4, .asg (.c (.bool false)), none⟩] [4])
  (.ret)) (.skip))))))
  (.reg [⟨some 30, .bin .add (.t 14) (.c (.int .i64 1)), none⟩,
    ⟨some 14, .mv (.t 30), none⟩] [0, 1, 12, 13, 14]))))))))
  (.seq (.reg [⟨some 4, .asg (.c (.bool true)), none⟩] [4])
  (.ret))))
theorem con_impl_isWhere {v0 : (List XVariable)} {v1 : (List Int)} {r : Bool} (h : sh_impl_isWhere v0 v1 = some r) : Con Try.prog 63 [(cLs (cXVariable cS cI) rfl).enc v0, (cLs cI rfl).enc v1] [] (rs_impl_isWhere r) := by
  delta sh_impl_isWhere at h
  refine top (out := none) (f := Try.f63) (m := m63) (rs := [.t 4]) (by kernel_rfl) rfl (by kernel_rfl) (by kernel_rfl) (by kernel_rfl) (by kernel_rfl) (by kernel_rfl) ?_
  exact
   ini [(0, .d ((cLs (cXVariable cS cI) rfl).enc v0)), (1, .d ((cLs cI rfl).enc v1))] rfl <| wpC_seq <| reg_s <| x_asg (sc cB false rfl) <| seqN [(0, .d ((cLs (cXVariable cS cI) rfl).enc v0)), (1, .d ((cLs cI rfl).enc v1))] (by kernel_rfl) <|
    xn <| wpC_seq <| wpC_kp <| wpC_seq <| reg_s <| st rfl <| mvd rfl rfl <| stw rfl <| lens rfl fun l8 => st rfl <| mvd rfl rfl <| stw rfl <| lens rfl fun l9 => st rfl <| b_neq (k := .i64) rfl rfl <| seqN [(0, .d ((cLs (cXVariable cS cI) rfl).enc v0)), (1, .d ((cLs cI rfl).enc v1)), (11, .d (cB.enc (decide ((v1.length : Int) ≠ (v0.length : Int)))))] (by kernel_rfl) <|
    xn <| cnd rfl h (fun b10 h => wpC_seq <| reg_s <| x_asg (sc cB false rfl) <| seqN [(4, .d (cB.enc false))] (by kernel_rfl) <|
    xn <| wpC_ret <| rt <| rt <| re <| fin h (r1 (ss rfl rfl) <| r0) rfl)
    (fun b10 h => wpC_skip <| kpN [(0, .d ((cLs (cXVariable cS cI) rfl).enc v0)), (1, .d ((cLs cI rfl).enc v1))] (by kernel_rfl) <| xn <| wpC_seq <| wpC_kp <| wpC_seq <| reg_s <| st rfl <| mvd rfl rfl <| stw rfl <| lens rfl fun l74 => st rfl <| mvc cI (0 : Int) rfl <| seqN [(0, .d ((cLs (cXVariable cS cI) rfl).enc v0)), (1, .d ((cLs cI rfl).enc v1)), (12, .d ((cLs cI rfl).enc v1)), (13, .d (cI.enc (v1.length : Int))), (14, .d (cI.enc (0 : Int)))] (by kernel_rfl) <|
    xn <| wpC_blk <| lpR (fun (k76 : Nat) (s75 : Unit) => [(0, .d ((cLs (cXVariable cS cI) rfl).enc v0)), (1, .d ((cLs cI rfl).enc v1)), (12, .d ((cLs cI rfl).enc v1)), (13, .d (cI.enc (v1.length : Int))), (14, .d (cI.enc (k76 : Int)))]) () rfl h
    (fun G108 s75 h => wpC_seq <| reg_s <| st rfl <| b_lss (k := .i64) rfl rfl <| seqN [(0, .d ((cLs (cXVariable cS cI) rfl).enc v0)), (1, .d ((cLs cI rfl).enc v1)), (12, .d ((cLs cI rfl).enc v1)), (13, .d (cI.enc (v1.length : Int))), (14, .d (cI.enc (v1.length : Int))), (15, .d (cB.enc (decide ((v1.length : Int) < (v1.length : Int)))))] (by kernel_rfl) <|
    xn <| wpC_seq <| wpC_kp <| cnd0 rfl (dlf _) <| wpC_exit <| xt <| xt <| xt <| xb <| kpN [] (by kernel_rfl) <| xn <| wpC_seq <| reg_s <| x_asg (sc cB true rfl) <| seqN [(4, .d (cB.enc true))] (by kernel_rfl) <|
    xn <| wpC_ret <| re <| fin h (r1 (ss rfl rfl) <| r0) rfl)
    (fun G108 nx106 k76 s75 x77 hk78 hx79 hn107 h => wpC_seq <| reg_s <| st rfl <| b_lss (k := .i64) rfl rfl <| seqN [(0, .d ((cLs (cXVariable cS cI) rfl).enc v0)), (1, .d ((cLs cI rfl).enc v1)), (12, .d ((cLs cI rfl).enc v1)), (13, .d (cI.enc (v1.length : Int))), (14, .d (cI.enc (k76 : Int))), (15, .d (cB.enc (decide ((k76 : Int) < (v1.length : Int)))))] (by kernel_rfl) <|
    xn <| wpC_seq <| wpC_kp <| cnd1 rfl (dlt hk78) <| wpC_skip <| kpN [(0, .d ((cLs (cXVariable cS cI) rfl).enc v0)), (1, .d ((cLs cI rfl).enc v1)), (12, .d ((cLs cI rfl).enc v1)), (13, .d (cI.enc (v1.length : Int))), (14, .d (cI.enc (k76 : Int)))] (by kernel_rfl) <| xn <| wpC_seq <| wpC_kp <| wpC_blk <| wpC_seq <| reg_s <| st rfl <| mvd rfl rfl <| st rfl <| ias rfl rfl (Int.natCast_nonneg _) hx79 rfl <| st rfl <| ldi rfl rfl rfl rfl <| x_asg (ss rfl rfl) <| x_asg (ss rfl rfl) <| seqN [(0, .d ((cLs (cXVariable cS cI) rfl).enc v0)), (1, .d ((cLs cI rfl).enc v1)), (5, .d (cI.enc (k76 : Int))), (6, .d (cI.enc x77)), (12, .d ((cLs cI rfl).enc v1)), (13, .d (cI.enc (v1.length : Int))), (14, .d (cI.enc (k76 : Int)))] (by kernel_rfl) <|
    xn <| wpC_seq <| reg_s <| st rfl <| mvd rfl rfl <| st rfl <| b_lss (k := .i64) rfl rfl <| st rfl <| mvd rfl rfl <| ite_k h (fun b128 h => gf rfl b128 <| gf rfl b128 <| gf rfl b128 <| gf rfl b128 <| gf rfl b128 <| gf rfl b128 <| gf rfl b128 <| st rfl <| pick1 rfl b128 (cd := cB) (v := true) rfl rfl <| seqN [(0, .d ((cLs (cXVariable cS cI) rfl).enc v0)), (1, .d ((cLs cI rfl).enc v1)), (12, .d ((cLs cI rfl).enc v1)), (13, .d (cI.enc (v1.length : Int))), (14, .d (cI.enc (k76 : Int))), (29, .d (cB.enc true))] (by kernel_rfl) <|
    xn <| cnd1 rfl rfl <| wpC_seq <| reg_s <| x_asg (sc cB false rfl) <| seqN [(4, .d (cB.enc false))] (by kernel_rfl) <|
    xn <| wpC_ret <| rb <| rt <| rt <| rt <| rb <| rt <| rt <| re <| fin h (r1 (ss rfl rfl) <| r0) rfl)
    (fun b128 h => gt' rfl b128 <| st rfl <| mvd rfl rfl <| gt' rfl b128 <| st rfl <| mvd rfl rfl <| gt' rfl b128 <| st rfl <| mvd rfl rfl <| gt' rfl b128 <| getO_k h fun x129 i130 g131 h => st rfl <| ias rfl rfl i130 g131 rfl <| gt' rfl b128 <| st rfl <| ldi rfl rfl rfl rfl <| gt' rfl b128 <| bnd h fun x132 e133 h => st rfl <| o_call (a1 (c := (cXVariable cS cI)) (tXVariable tS tK) rfl a0) (con_impl_fullSet e133) (.inl (so1 sK so0)) <| gt' rfl b128 <| st rfl <| b_gtr (k := .i64) rfl rfl <| st rfl <| pick0 rfl b128 (cd := cB) (v := (decide (x132 < x77))) rfl rfl <| seqN [(0, .d ((cLs (cXVariable cS cI) rfl).enc v0)), (1, .d ((cLs cI rfl).enc v1)), (12, .d ((cLs cI rfl).enc v1)), (13, .d (cI.enc (v1.length : Int))), (14, .d (cI.enc (k76 : Int))), (29, .d (cB.enc (decide (x132 < x77))))] (by kernel_rfl) <|
    xn <| cnd rfl h (fun b134 h => wpC_seq <| reg_s <| x_asg (sc cB false rfl) <| seqN [(4, .d (cB.enc false))] (by kernel_rfl) <|
    xn <| wpC_ret <| rb <| rt <| rt <| rt <| rb <| rt <| rt <| re <| fin h (r1 (ss rfl rfl) <| r0) rfl)
    (fun b134 h => wpC_skip <| xbb <| kpN [(0, .d ((cLs (cXVariable cS cI) rfl).enc v0)), (1, .d ((cLs cI rfl).enc v1)), (12, .d ((cLs cI rfl).enc v1)), (13, .d (cI.enc (v1.length : Int))), (14, .d (cI.enc (k76 : Int)))] (by kernel_rfl) <| xn <| reg_s <| st rfl <| b_inc rfl rfl l74 hk78 <| st rfl <| mvd rfl rfl <| seqN [(0, .d ((cLs (cXVariable cS cI) rfl).enc v0)), (1, .d ((cLs cI rfl).enc v1)), (12, .d ((cLs cI rfl).enc v1)), (13, .d (cI.enc (v1.length : Int))), (14, .d (cI.enc ((k76 + 1 : Nat) : Int)))] (by kernel_rfl) <|
    xn <| hn107 () h))))

def rs_impl_depthOf (r : Int) : List D := [cI.enc r]
def m74 : MC := .seq (.reg [⟨some 2, .box (.t 0), none⟩,
    ⟨some 4, .asg (.c (.int .i64 0)), none⟩] [1, 2])
  (.seq (.reg [⟨some 5, .asg (.c (.int .i64 0)), none⟩] [1, 2, 5])
  (.seq (.kp [5] (.blk 0 (.loop (.kp [1, 2, 5] (.seq (.kp [1, 2, 5] (.seq (.reg [⟨some 6, .mv (.t 1), none⟩,
    ⟨some 7, .bin .gtr (.t 6) (.c (.int .i64 0)), none⟩] [1, 2, 5, 7])
  (.cond (.t 7) (.skip) (.exit 0))))
  (.blk 1 (.seq (.reg [⟨some 8, .fa 2 0 0, none⟩,
    ⟨some 9, .ld 8 1 false, none⟩,
    ⟨some 10, .mv (.t 1), none⟩,
    ⟨some 11, .ia 9 (.t 10) 1, none⟩,
    ⟨some 12, .ld 11 1 false, none⟩,
    ⟨some 1, .asg (.t 12), none⟩] [1, 2, 5])
  (.reg [⟨some 13, .mv (.t 5), none⟩,
    ⟨some 14, .bin .add (.t 13) (.c (.int .i64 1)), none⟩,
    ⟨some 5, .asg (.t 14), none⟩] [1, 2, 5]))))))))
  (.seq (.reg [⟨some 15, .mv (.t 5), none⟩,
    ⟨some 4, .asg (.t 15), none⟩] [4])
  (.ret))))
theorem con_impl_depthOf {v0 : XGeo} {v1 : Int} {r : Int} (h : sh_impl_depthOf v0 v1 = some r) : Con Try.prog 74 [(cXGeo (cLs cI rfl)).enc v0, cI.enc v1] [] (rs_impl_depthOf r) := by
  delta sh_impl_depthOf at h
  refine top (out := none) (f := Try.f74) (m := m74) (rs := [.t 4]) (by kernel_rfl) rfl (by kernel_rfl) (by kernel_rfl) (by kernel_rfl) (by kernel_rfl) (by kernel_rfl) ?_
  exact
   ini [(0, .d ((cXGeo (cLs cI rfl)).enc v0)), (1, .d (cI.enc v1))] rfl <| wpC_seq <| reg_s <| x_box (ss rfl rfl) <| x_asg (sc cI (0 : Int) rfl) <| seqN [(1, .d (cI.enc v1)), (2, .box ((cXGeo (cLs cI rfl)).enc v0))] (by kernel_rfl) <|
    xn <| wpC_seq <| reg_s <| x_asg (sc cI (0 : Int) rfl) <| seqN [(1, .d (cI.enc v1)), (2, .box ((cXGeo (cLs cI rfl)).enc v0)), (5, .d (cI.enc (0 : Int)))] (by kernel_rfl) <|
    xn <| wpC_seq <| wpC_kp <| wpC_blk <| lpF (fun (s36 : (Int × Int)) => [(1, .d (cI.enc s36.1)), (2, .box ((cXGeo (cLs cI rfl)).enc v0)), (5, .d (cI.enc s36.2))]) (v1, (0 : Int)) rfl h
    fun G61 nx59 s36 hn60 h => wpC_kp <| wpC_seq <| wpC_kp <| wpC_seq <| reg_s <| st rfl <| mvd rfl rfl <| st rfl <| b_gtr (k := .i64) rfl rfl <| seqN [(1, .d (cI.enc s36.1)), (2, .box ((cXGeo (cLs cI rfl)).enc v0)), (5, .d (cI.enc s36.2)), (7, .d (cB.enc (decide ((0 : Int) < s36.1))))] (by kernel_rfl) <|
    xn <| cnd rfl h (fun b63 h => wpC_skip <| kpN [(1, .d (cI.enc s36.1)), (2, .box ((cXGeo (cLs cI rfl)).enc v0)), (5, .d (cI.enc s36.2))] (by kernel_rfl) <| xn <| wpC_blk <| wpC_seq <| reg_s <| st rfl <| fab rfl rfl rfl rfl <| st rfl <| lda rfl rfl rfl rfl rfl rfl <| st rfl <| mvd rfl rfl <| getO_k h fun x67 i68 g69 h => st rfl <| ias rfl rfl i68 g69 rfl <| st rfl <| ldi rfl rfl rfl rfl <| x_asg (ss rfl rfl) <| seqN [(1, .d (cI.enc x67)), (2, .box ((cXGeo (cLs cI rfl)).enc v0)), (5, .d (cI.enc s36.2))] (by kernel_rfl) <|
    xn <| reg_s <| st rfl <| mvd rfl rfl <| ckI_k h fun i70 h => st rfl <| b_add (k := .i64) rfl rfl i70 <| x_asg (ss rfl rfl) <| seqN [(1, .d (cI.enc x67)), (2, .box ((cXGeo (cLs cI rfl)).enc v0)), (5, .d (cI.enc (s36.2 + (1 : Int))))] (by kernel_rfl) <|
    xbb <| kpN [(1, .d (cI.enc x67)), (2, .box ((cXGeo (cLs cI rfl)).enc v0)), (5, .d (cI.enc (s36.2 + (1 : Int))))] (by kernel_rfl) <| xn <| hn60 (x67, (s36.2 + (1 : Int))) h)
    (fun b63 h => wpC_exit <| xt <| xt <| xt <| xt <| xb <| kpN [(5, .d (cI.enc s36.2))] (by kernel_rfl) <| xn <| wpC_seq <| reg_s <| st rfl <| mvd rfl rfl <| x_asg (ss rfl rfl) <| seqN [(4, .d (cI.enc s36.2))] (by kernel_rfl) <|
    xn <| wpC_ret <| re <| fin h (r1 (ss rfl rfl) <| r0) rfl)

def rs_impl_areasAt (r : (List Int)) : List D := [(cLo cI).enc r]
def m71 : MC := .seq (.reg [⟨some 2, .box (.t 0), none⟩,
    ⟨some 4, .asg (.c (.slice true [])), none⟩] [1, 2])
  (.seq (.reg [⟨some 5, .asg (.c (.slice true [])), none⟩] [1, 2, 5])
  (.seq (.kp [5] (.seq (.reg [⟨some 7, .fa 2 0 0, none⟩,
    ⟨some 8, .ld 7 1 false, none⟩,
    ⟨some 9, .len false (.t 8), none⟩,
    ⟨some 10, .mv (.c (.int .i64 0)), none⟩] [1, 2, 5, 9, 10])
  (.blk 0 (.loop (.seq (.reg [⟨some 11, .bin .lss (.t 10) (.t 9), none⟩] [1, 2, 5, 9, 10, 11])
  (.seq (.kp [1, 2, 5, 9, 10] (.cond (.t 11) (.skip) (.exit 0)))
  (.seq (.kp [1, 2, 5, 9, 10] (.blk 1 (.seq (.reg [⟨some 12, .mv (.t 10), none⟩,
    ⟨some 6, .asg (.t 12), none⟩] [1, 2, 5, 6, 9, 10])
  (.seq (.reg [⟨some 13, .ld 2 1 true, none⟩,
    ⟨some 14, .mv (.t 6), none⟩,
    ⟨some 15, .call 74 [(.t 13), (.t 14)], none⟩,
    ⟨some 16, .mv (.t 1), none⟩,
    ⟨some 17, .bin .eql (.t 15) (.t 16), none⟩] [1, 2, 5, 6, 9, 10, 17])
  (.cond (.t 17) (.reg [⟨some 18, .mv (.t 5), none⟩,
    ⟨some 19, .mv (.t 6), none⟩,
    ⟨some 20, .bsl [(.t 19)] 1, none⟩,
    ⟨some 21, .app (.t 18) (.t 20) 1, none⟩,
    ⟨some 5, .asg (.t 21), none⟩] [1, 2, 5, 9, 10]) (.skip))))))
  (.reg [⟨some 22, .bin .add (.t 10) (.c (.int .i64 1)), none⟩,
    ⟨some 10, .mv (.t 22), none⟩] [1, 2, 5, 9, 10]))))))))
  (.seq (.reg [⟨some 23, .mv (.t 5), none⟩,
    ⟨some 4, .asg (.t 23), none⟩] [4])
  (.ret))))
theorem con_impl_areasAt {v0 : XGeo} {v1 : Int} {r : (List Int)} (h : sh_impl_areasAt v0 v1 = some r) : Con Try.prog 71 [(cXGeo (cLs cI rfl)).enc v0, cI.enc v1] [] (rs_impl_areasAt r) := by
  delta sh_impl_areasAt at h
  refine top (out := none) (f := Try.f71) (m := m71) (rs := [.t 4]) (by kernel_rfl) rfl (by kernel_rfl) (by kernel_rfl) (by kernel_rfl) (by kernel_rfl) (by kernel_rfl) ?_
  exact
   ini [(0, .d ((cXGeo (cLs cI rfl)).enc v0)), (1, .d (cI.enc v1))] rfl <| wpC_seq <| reg_s <| x_box (ss rfl rfl) <| x_asg (sc (cLo cI) ([] : List Int) rfl) <| seqN [(1, .d (cI.enc v1)), (2, .box ((cXGeo (cLs cI rfl)).enc v0))] (by kernel_rfl) <|
    xn <| wpC_seq <| reg_s <| x_asg (sc (cLo cI) ([] : List Int) rfl) <| seqN [(1, .d (cI.enc v1)), (2, .box ((cXGeo (cLs cI rfl)).enc v0)), (5, .d ((cLo cI).enc ([] : List Int)))] (by kernel_rfl) <|
    xn <| wpC_seq <| wpC_kp <| wpC_seq <| reg_s <| st rfl <| fab rfl rfl rfl rfl <| st rfl <| lda rfl rfl rfl rfl rfl rfl <| stw rfl <| lens rfl fun l48 => st rfl <| mvc cI (0 : Int) rfl <| seqN [(1, .d (cI.enc v1)), (2, .box ((cXGeo (cLs cI rfl)).enc v0)), (5, .d ((cLo cI).enc ([] : List Int))), (9, .d (cI.enc (v0.Parents.length : Int))), (10, .d (cI.enc (0 : Int)))] (by kernel_rfl) <|
    xn <| wpC_blk <| lpR (fun (k50 : Nat) (s49 : (List Int)) => [(1, .d (cI.enc v1)), (2, .box ((cXGeo (cLs cI rfl)).enc v0)), (5, .d ((cLo cI).enc s49)), (9, .d (cI.enc (v0.Parents.length : Int))), (10, .d (cI.enc (k50 : Int)))]) ([] : List Int) rfl h
    (fun G80 s49 h => wpC_seq <| reg_s <| st rfl <| b_lss (k := .i64) rfl rfl <| seqN [(1, .d (cI.enc v1)), (2, .box ((cXGeo (cLs cI rfl)).enc v0)), (5, .d ((cLo cI).enc s49)), (9, .d (cI.enc (v0.Parents.length : Int))), (10, .d (cI.enc (v0.Parents.length : Int))), (11, .d (cB.enc (decide ((v0.Parents.length : Int) < (v0.Parents.length : Int)))))] (by kernel_rfl) <|
    xn <| wpC_seq <| wpC_kp <| cnd0 rfl (dlf _) <| wpC_exit <| xt <| xt <| xt <| xb <| kpN [(5, .d ((cLo cI).enc s49))] (by kernel_rfl) <| xn <| wpC_seq <| reg_s <| st rfl <| mvo rfl rfl <| x_asg (sr rfl rfl) <| seqN [(4, .d ((cLo cI).enc s49))] (by kernel_rfl) <|
    xn <| wpC_ret <| re <| fin h (r1 (so rfl rfl) <| r0) rfl)
    (fun G80 nx78 k50 s49 x51 hk52 hx53 hn79 h => wpC_seq <| reg_s <| st rfl <| b_lss (k := .i64) rfl rfl <| seqN [(1, .d (cI.enc v1)), (2, .box ((cXGeo (cLs cI rfl)).enc v0)), (5, .d ((cLo cI).enc s49)), (9, .d (cI.enc (v0.Parents.length : Int))), (10, .d (cI.enc (k50 : Int))), (11, .d (cB.enc (decide ((k50 : Int) < (v0.Parents.length : Int)))))] (by kernel_rfl) <|
    xn <| wpC_seq <| wpC_kp <| cnd1 rfl (dlt hk52) <| wpC_skip <| kpN [(1, .d (cI.enc v1)), (2, .box ((cXGeo (cLs cI rfl)).enc v0)), (5, .d ((cLo cI).enc s49)), (9, .d (cI.enc (v0.Parents.length : Int))), (10, .d (cI.enc (k50 : Int)))] (by kernel_rfl) <| xn <| wpC_seq <| wpC_kp <| wpC_blk <| wpC_seq <| reg_s <| st rfl <| mvd rfl rfl <| x_asg (ss rfl rfl) <| seqN [(1, .d (cI.enc v1)), (2, .box ((cXGeo (cLs cI rfl)).enc v0)), (5, .d ((cLo cI).enc s49)), (6, .d (cI.enc (k50 : Int))), (9, .d (cI.enc (v0.Parents.length : Int))), (10, .d (cI.enc (k50 : Int)))] (by kernel_rfl) <|
    xn <| wpC_seq <| reg_s <| st rfl <| ldb rfl rfl rfl rfl <| st rfl <| mvd rfl rfl <| bnd h fun x89 e90 h => st rfl <| o_call (a1 (c := (cXGeo (cLs cI rfl))) (tXGeo (tLs tK)) rfl (a1 (c := cI) tK rfl a0)) (con_impl_depthOf e90) (.inl (so1 sK so0)) <| st rfl <| mvd rfl rfl <| st rfl <| b_eql (k := .i64) rfl rfl <| seqN [(1, .d (cI.enc v1)), (2, .box ((cXGeo (cLs cI rfl)).enc v0)), (5, .d ((cLo cI).enc s49)), (6, .d (cI.enc (k50 : Int))), (9, .d (cI.enc (v0.Parents.length : Int))), (10, .d (cI.enc (k50 : Int))), (17, .d (cB.enc (decide (x89 = v1))))] (by kernel_rfl) <|
    xn <| cnd rfl h (fun b91 h => reg_s <| st rfl <| mvo rfl rfl <| st rfl <| mvd rfl rfl <| x_bsl cI [(k50 : Int)] (t1 (ss rfl rfl) rfl t0) rfl rfl <| lnO_k h fun l92 h => x_app (sr rfl rfl) (to rfl rfl) l92 rfl <| x_asg (so rfl rfl) <| seqN [(1, .d (cI.enc v1)), (2, .box ((cXGeo (cLs cI rfl)).enc v0)), (5, .d ((cLo cI).enc (s49 ++ [(k50 : Int)]))), (9, .d (cI.enc (v0.Parents.length : Int))), (10, .d (cI.enc (k50 : Int)))] (by kernel_rfl) <|
    xbb <| kpN [(1, .d (cI.enc v1)), (2, .box ((cXGeo (cLs cI rfl)).enc v0)), (5, .d ((cLo cI).enc (s49 ++ [(k50 : Int)]))), (9, .d (cI.enc (v0.Parents.length : Int))), (10, .d (cI.enc (k50 : Int)))] (by kernel_rfl) <| xn <| reg_s <| st rfl <| b_inc rfl rfl l48 hk52 <| st rfl <| mvd rfl rfl <| seqN [(1, .d (cI.enc v1)), (2, .box ((cXGeo (cLs cI rfl)).enc v0)), (5, .d ((cLo cI).enc (s49 ++ [(k50 : Int)]))), (9, .d (cI.enc (v0.Parents.length : Int))), (10, .d (cI.enc ((k50 + 1 : Nat) : Int)))] (by kernel_rfl) <|
    xn <| hn79 (s49 ++ [(k50 : Int)]) h)
    (fun b91 h => wpC_skip <| xbb <| kpN [(1, .d (cI.enc v1)), (2, .box ((cXGeo (cLs cI rfl)).enc v0)), (5, .d ((cLo cI).enc s49)), (9, .d (cI.enc (v0.Parents.length : Int))), (10, .d (cI.enc (k50 : Int)))] (by kernel_rfl) <| xn <| reg_s <| st rfl <| b_inc rfl rfl l48 hk52 <| st rfl <| mvd rfl rfl <| seqN [(1, .d (cI.enc v1)), (2, .box ((cXGeo (cLs cI rfl)).enc v0)), (5, .d ((cLo cI).enc s49)), (9, .d (cI.enc (v0.Parents.length : Int))), (10, .d (cI.enc ((k50 + 1 : Nat) : Int)))] (by kernel_rfl) <|
    xn <| hn79 s49 h))

def rs_impl_crossed (r : (List XVariable)) : List D := [(cLo (cXVariable cS cI)).enc r]
def m73 : MC := .seq (.reg [⟨some 3, .box (.t 1), none⟩,
    ⟨some 4, .asg (.c (.slice true [])), none⟩] [0, 3])
  (.seq (.reg [⟨some 8, .fa 3 1 1, none⟩,
    ⟨some 9, .ld 8 1 false, none⟩,
    ⟨some 10, .len false (.t 9), none⟩,
    ⟨some 11, .mk (.agg [.str [], .int .i64 0]) (.t 10), none⟩,
    ⟨some 5, .asg (.t 11), none⟩] [0, 3, 5])
  (.seq (.kp [5] (.seq (.reg [⟨some 12, .fa 3 1 1, none⟩,
    ⟨some 13, .ld 12 1 false, none⟩,
    ⟨some 14, .len false (.t 13), none⟩,
    ⟨some 15, .mv (.c (.int .i64 0)), none⟩] [0, 3, 5, 12, 13, 14, 15])
  (.blk 0 (.loop (.seq (.reg [⟨some 16, .bin .lss (.t 15) (.t 14), none⟩] [0, 3, 5, 12, 13, 14, 15, 16])
  (.seq (.kp [0, 3, 5, 12, 13, 14, 15] (.cond (.t 16) (.skip) (.exit 0)))
  (.seq (.kp [0, 3, 5, 12, 13, 14, 15] (.blk 1 (.seq (.reg [⟨some 17, .mv (.t 15), none⟩,
    ⟨some 18, .ia 13 (.t 15) 1, none⟩,
    ⟨some 19, .ld 18 1 false, none⟩,
    ⟨some 6, .asg (.t 17), none⟩,
    ⟨some 7, .asg (.t 19), none⟩] [0, 3, 5, 6, 7, 12, 13, 14, 15])
  (.reg [⟨some 20, .mv (.t 5), none⟩,
    ⟨some 21, .mv (.t 6), none⟩,
    ⟨some 22, .mv (.t 0), none⟩,
    ⟨some 23, .mv (.t 7), none⟩,
    ⟨some 24, .ia 22 (.t 23) 2, none⟩,
    ⟨some 25, .ld 24 2 true, none⟩,
    ⟨some 26, .ia 20 (.t 21) 2, none⟩,
    ⟨none, .st 26 (.t 25) 2, none⟩] [0, 3, 5, 12, 13, 14, 15]))))
  (.reg [⟨some 27, .bin .add (.t 15) (.c (.int .i64 1)), none⟩,
    ⟨some 15, .mv (.t 27), none⟩] [0, 3, 5, 12, 13, 14, 15]))))))))
  (.seq (.reg [⟨some 28, .mv (.t 5), none⟩,
    ⟨some 4, .asg (.t 28), none⟩] [4])
  (.ret))))
theorem con_impl_crossed {v0 : (List XVariable)} {v1 : XTable} {r : (List XVariable)} (h : sh_impl_crossed v0 v1 = some r) : Con Try.prog 73 [(cLs (cXVariable cS cI) rfl).enc v0, (cXTable cI (cLs cI rfl) (cLs cI rfl) cI).enc v1] [] (rs_impl_crossed r) := by
  delta sh_impl_crossed at h
  refine top (out := none) (f := Try.f73) (m := m73) (rs := [.t 4]) (by kernel_rfl) rfl (by kernel_rfl) (by kernel_rfl) (by kernel_rfl) (by kernel_rfl) (by kernel_rfl) ?_
  exact
   ini [(0, .d ((cLs (cXVariable cS cI) rfl).enc v0)), (1, .d ((cXTable cI (cLs cI rfl) (cLs cI rfl) cI).enc v1))] rfl <| wpC_seq <| reg_s <| x_box (ss rfl rfl) <| x_asg (sc (cLo (cXVariable cS cI)) ([] : List XVariable) rfl) <| seqN [(0, .d ((cLs (cXVariable cS cI) rfl).enc v0)), (3, .box ((cXTable cI (cLs cI rfl) (cLs cI rfl) cI).enc v1))] (by kernel_rfl) <|
    xn <| wpC_seq <| reg_s <| st rfl <| fab rfl rfl rfl rfl <| st rfl <| lda rfl rfl rfl rfl rfl rfl <| stw rfl <| lens rfl fun l4 => mkO_k h fun i5 l6 h => st rfl <| o_mk (c := (cXVariable cS cI)) (a0 := (⟨([] : List UInt8), (0 : Int)⟩ : XVariable)) rfl (k := .i64) rfl i5 l6 <| x_asg (so rfl rfl) <| seqN [(0, .d ((cLs (cXVariable cS cI) rfl).enc v0)), (3, .box ((cXTable cI (cLs cI rfl) (cLs cI rfl) cI).enc v1)), (5, .d ((cLo (cXVariable cS cI)).enc (List.replicate ((v1.Vars.length : Int)).toNat (⟨([] : List UInt8), (0 : Int)⟩ : XVariable))))] (by kernel_rfl) <|
    xn <| wpC_seq <| wpC_kp <| wpC_seq <| reg_s <| st rfl <| fab rfl rfl rfl rfl <| st rfl <| lda rfl rfl rfl rfl rfl rfl <| stw rfl <| lens rfl fun l54 => st rfl <| mvc cI (0 : Int) rfl <| seqN [(0, .d ((cLs (cXVariable cS cI) rfl).enc v0)), (3, .box ((cXTable cI (cLs cI rfl) (cLs cI rfl) cI).enc v1)), (5, .d ((cLo (cXVariable cS cI)).enc (List.replicate ((v1.Vars.length : Int)).toNat (⟨([] : List UInt8), (0 : Int)⟩ : XVariable)))), (12, .adr 3 [.fld 1]), (13, .d ((cLs cI rfl).enc v1.Vars)), (14, .d (cI.enc (v1.Vars.length : Int))), (15, .d (cI.enc (0 : Int)))] (by kernel_rfl) <|
    xn <| wpC_blk <| lpR (fun (k56 : Nat) (s55 : (List XVariable)) => [(0, .d ((cLs (cXVariable cS cI) rfl).enc v0)), (3, .box ((cXTable cI (cLs cI rfl) (cLs cI rfl) cI).enc v1)), (5, .d ((cLo (cXVariable cS cI)).enc s55)), (12, .adr 3 [.fld 1]), (13, .d ((cLs cI rfl).enc v1.Vars)), (14, .d (cI.enc (v1.Vars.length : Int))), (15, .d (cI.enc (k56 : Int)))]) (List.replicate ((v1.Vars.length : Int)).toNat (⟨([] : List UInt8), (0 : Int)⟩ : XVariable)) rfl h
    (fun G86 s55 h => wpC_seq <| reg_s <| st rfl <| b_lss (k := .i64) rfl rfl <| seqN [(0, .d ((cLs (cXVariable cS cI) rfl).enc v0)), (3, .box ((cXTable cI (cLs cI rfl) (cLs cI rfl) cI).enc v1)), (5, .d ((cLo (cXVariable cS cI)).enc s55)), (12, .adr 3 [.fld 1]), (13, .d ((cLs cI rfl).enc v1.Vars)), (14, .d (cI.enc (v1.Vars.length : Int))), (15, .d (cI.enc (v1.Vars.length : Int))), (16, .d (cB.enc (decide ((v1.Vars.length : Int) < (v1.Vars.length : Int)))))] (by kernel_rfl) <|
    xn <| wpC_seq <| wpC_kp <| cnd0 rfl (dlf _) <| wpC_exit <| xt <| xt <| xt <| xb <| kpN [(5, .d ((cLo (cXVariable cS cI)).enc s55))] (by kernel_rfl) <| xn <| wpC_seq <| reg_s <| st rfl <| mvo rfl rfl <| x_asg (sr rfl rfl) <| seqN [(4, .d ((cLo (cXVariable cS cI)).enc s55))] (by kernel_rfl) <|
    xn <| wpC_ret <| re <| fin h (r1 (so rfl rfl) <| r0) rfl)
    (fun G86 nx84 k56 s55 x57 hk58 hx59 hn85 h => wpC_seq <| reg_s <| st rfl <| b_lss (k := .i64) rfl rfl <| seqN [(0, .d ((cLs (cXVariable cS cI) rfl).enc v0)), (3, .box ((cXTable cI (cLs cI rfl) (cLs cI rfl) cI).enc v1)), (5, .d ((cLo (cXVariable cS cI)).enc s55)), (12, .adr 3 [.fld 1]), (13, .d ((cLs cI rfl).enc v1.Vars)), (14, .d (cI.enc (v1.Vars.length : Int))), (15, .d (cI.enc (k56 : Int))), (16, .d (cB.enc (decide ((k56 : Int) < (v1.Vars.length : Int)))))] (by kernel_rfl) <|
    xn <| wpC_seq <| wpC_kp <| cnd1 rfl (dlt hk58) <| wpC_skip <| kpN [(0, .d ((cLs (cXVariable cS cI) rfl).enc v0)), (3, .box ((cXTable cI (cLs cI rfl) (cLs cI rfl) cI).enc v1)), (5, .d ((cLo (cXVariable cS cI)).enc s55)), (12, .adr 3 [.fld 1]), (13, .d ((cLs cI rfl).enc v1.Vars)), (14, .d (cI.enc (v1.Vars.length : Int))), (15, .d (cI.enc (k56 : Int)))] (by kernel_rfl) <| xn <| wpC_seq <| wpC_kp <| wpC_blk <| wpC_seq <| reg_s <| st rfl <| mvd rfl rfl <| st rfl <| ias rfl rfl (Int.natCast_nonneg _) hx59 rfl <| st rfl <| ldi rfl rfl rfl rfl <| x_asg (ss rfl rfl) <| x_asg (ss rfl rfl) <| seqN [(0, .d ((cLs (cXVariable cS cI) rfl).enc v0)), (3, .box ((cXTable cI (cLs cI rfl) (cLs cI rfl) cI).enc v1)), (5, .d ((cLo (cXVariable cS cI)).enc s55)), (6, .d (cI.enc (k56 : Int))), (7, .d (cI.enc x57)), (12, .adr 3 [.fld 1]), (13, .d ((cLs cI rfl).enc v1.Vars)), (14, .d (cI.enc (v1.Vars.length : Int))), (15, .d (cI.enc (k56 : Int)))] (by kernel_rfl) <|
    xn <| reg_s <| st rfl <| mvo rfl rfl <| st rfl <| mvd rfl rfl <| st rfl <| mvd rfl rfl <| st rfl <| mvd rfl rfl <| getO_k h fun x93 i94 g95 h => st rfl <| ias rfl rfl i94 g95 rfl <| st rfl <| ldi rfl rfl rfl rfl <| getO_k h fun x96 i97 g98 h => st rfl <| iar rfl rfl rfl rfl i97 g98 rfl <| x_sta ((cLo (cXVariable cS cI)).enc (s55.set ((k56 : Int)).toNat x93)) (ss rfl rfl) rfl rfl (Ln.idx g98 Ln.nil) (Cd.h_sz (cXVariable cS cI) _) rfl <| seqN [(0, .d ((cLs (cXVariable cS cI) rfl).enc v0)), (3, .box ((cXTable cI (cLs cI rfl) (cLs cI rfl) cI).enc v1)), (5, .d ((cLo (cXVariable cS cI)).enc (s55.set ((k56 : Int)).toNat x93))), (12, .adr 3 [.fld 1]), (13, .d ((cLs cI rfl).enc v1.Vars)), (14, .d (cI.enc (v1.Vars.length : Int))), (15, .d (cI.enc (k56 : Int)))] (by kernel_rfl) <|
    xbb <| kpN [(0, .d ((cLs (cXVariable cS cI) rfl).enc v0)), (3, .box ((cXTable cI (cLs cI rfl) (cLs cI rfl) cI).enc v1)), (5, .d ((cLo (cXVariable cS cI)).enc (s55.set ((k56 : Int)).toNat x93))), (12, .adr 3 [.fld 1]), (13, .d ((cLs cI rfl).enc v1.Vars)), (14, .d (cI.enc (v1.Vars.length : Int))), (15, .d (cI.enc (k56 : Int)))] (by kernel_rfl) <| xn <| reg_s <| st rfl <| b_inc rfl rfl l54 hk58 <| st rfl <| mvd rfl rfl <| seqN [(0, .d ((cLs (cXVariable cS cI) rfl).enc v0)), (3, .box ((cXTable cI (cLs cI rfl) (cLs cI rfl) cI).enc v1)), (5, .d ((cLo (cXVariable cS cI)).enc (s55.set ((k56 : Int)).toNat x93))), (12, .adr 3 [.fld 1]), (13, .d ((cLs cI rfl).enc v1.Vars)), (14, .d (cI.enc (v1.Vars.length : Int))), (15, .d (cI.enc ((k56 + 1 : Nat) : Int)))] (by kernel_rfl) <|
    xn <| hn85 (s55.set ((k56 : Int)).toNat x93) h)

def rs_impl_combinations (r : Int) : List D := [cI.enc r]
def m72 : MC := .seq (.reg [⟨some 2, .asg (.c (.int .i64 0)), none⟩] [0])
  (.seq (.reg [⟨some 3, .asg (.c (.int .i64 1)), none⟩] [0, 3])
  (.seq (.kp [3] (.seq (.reg [⟨some 6, .mv (.t 0), none⟩,
    ⟨some 7, .len false (.t 6), none⟩,
    ⟨some 8, .mv (.c (.int .i64 0)), none⟩] [0, 3, 6, 7, 8])
  (.blk 0 (.loop (.seq (.reg [⟨some 9, .bin .lss (.t 8) (.t 7), none⟩] [0, 3, 6, 7, 8, 9])
  (.seq (.kp [0, 3, 6, 7, 8] (.cond (.t 9) (.skip) (.exit 0)))
  (.seq (.kp [0, 3, 6, 7, 8] (.blk 1 (.seq (.reg [⟨some 10, .ia 6 (.t 8) 2, none⟩,
    ⟨some 11, .ld 10 2 true, none⟩,
    ⟨some 5, .alloc (.agg [.str [], .int .i64 0]), none⟩,
    ⟨none, .st 5 (.t 11) 2, none⟩] [0, 3, 5, 6, 7, 8])
  (.reg [⟨some 12, .mv (.t 3), none⟩,
    ⟨some 13, .fa 5 1 1, none⟩,
    ⟨some 14, .ld 13 1 false, none⟩,
    ⟨some 15, .bin .mul (.t 12) (.t 14), none⟩,
    ⟨some 3, .asg (.t 15), none⟩] [0, 3, 6, 7, 8]))))
  (.reg [⟨some 16, .bin .add (.t 8) (.c (.int .i64 1)), none⟩,
    ⟨some 8, .mv (.t 16), none⟩] [0, 3, 6, 7, 8]))))))))
  (.seq (.reg [⟨some 17, .mv (.t 3), none⟩,
    ⟨some 2, .asg (.t 17), none⟩] [2])
  (.ret))))
theorem con_impl_combinations {v0 : (List XVariable)} {r : Int} (h : sh_impl_combinations v0 = some r) : Con Try.prog 72 [(cLs (cXVariable cS cI) rfl).enc v0] [] (rs_impl_combinations r) := by
  delta sh_impl_combinations at h
  refine top (out := none) (f := Try.f72) (m := m72) (rs := [.t 2]) (by kernel_rfl) rfl (by kernel_rfl) (by kernel_rfl) (by kernel_rfl) (by kernel_rfl) (by kernel_rfl) ?_
  exact
   ini [(0, .d ((cLs (cXVariable cS cI) rfl).enc v0))] rfl <| wpC_seq <| reg_s <| x_asg (sc cI (0 : Int) rfl) <| seqN [(0, .d ((cLs (cXVariable cS cI) rfl).enc v0))] (by kernel_rfl) <|
    xn <| wpC_seq <| reg_s <| x_asg (sc cI (1 : Int) rfl) <| seqN [(0, .d ((cLs (cXVariable cS cI) rfl).enc v0)), (3, .d (cI.enc (1 : Int)))] (by kernel_rfl) <|
    xn <| wpC_seq <| wpC_kp <| wpC_seq <| reg_s <| st rfl <| mvd rfl rfl <| stw rfl <| lens rfl fun l18 => st rfl <| mvc cI (0 : Int) rfl <| seqN [(0, .d ((cLs (cXVariable cS cI) rfl).enc v0)), (3, .d (cI.enc (1 : Int))), (6, .d ((cLs (cXVariable cS cI) rfl).enc v0)), (7, .d (cI.enc (v0.length : Int))), (8, .d (cI.enc (0 : Int)))] (by kernel_rfl) <|
    xn <| wpC_blk <| lpR (fun (k20 : Nat) (s19 : Int) => [(0, .d ((cLs (cXVariable cS cI) rfl).enc v0)), (3, .d (cI.enc s19)), (6, .d ((cLs (cXVariable cS cI) rfl).enc v0)), (7, .d (cI.enc (v0.length : Int))), (8, .d (cI.enc (k20 : Int)))]) (1 : Int) rfl h
    (fun G30 s19 h => wpC_seq <| reg_s <| st rfl <| b_lss (k := .i64) rfl rfl <| seqN [(0, .d ((cLs (cXVariable cS cI) rfl).enc v0)), (3, .d (cI.enc s19)), (6, .d ((cLs (cXVariable cS cI) rfl).enc v0)), (7, .d (cI.enc (v0.length : Int))), (8, .d (cI.enc (v0.length : Int))), (9, .d (cB.enc (decide ((v0.length : Int) < (v0.length : Int)))))] (by kernel_rfl) <|
    xn <| wpC_seq <| wpC_kp <| cnd0 rfl (dlf _) <| wpC_exit <| xt <| xt <| xt <| xb <| kpN [(3, .d (cI.enc s19))] (by kernel_rfl) <| xn <| wpC_seq <| reg_s <| st rfl <| mvd rfl rfl <| x_asg (ss rfl rfl) <| seqN [(2, .d (cI.enc s19))] (by kernel_rfl) <|
    xn <| wpC_ret <| re <| fin h (r1 (ss rfl rfl) <| r0) rfl)
    (fun G30 nx28 k20 s19 x21 hk22 hx23 hn29 h => wpC_seq <| reg_s <| st rfl <| b_lss (k := .i64) rfl rfl <| seqN [(0, .d ((cLs (cXVariable cS cI) rfl).enc v0)), (3, .d (cI.enc s19)), (6, .d ((cLs (cXVariable cS cI) rfl).enc v0)), (7, .d (cI.enc (v0.length : Int))), (8, .d (cI.enc (k20 : Int))), (9, .d (cB.enc (decide ((k20 : Int) < (v0.length : Int)))))] (by kernel_rfl) <|
    xn <| wpC_seq <| wpC_kp <| cnd1 rfl (dlt hk22) <| wpC_skip <| kpN [(0, .d ((cLs (cXVariable cS cI) rfl).enc v0)), (3, .d (cI.enc s19)), (6, .d ((cLs (cXVariable cS cI) rfl).enc v0)), (7, .d (cI.enc (v0.length : Int))), (8, .d (cI.enc (k20 : Int)))] (by kernel_rfl) <| xn <| wpC_seq <| wpC_kp <| wpC_blk <| wpC_seq <| reg_s <| st rfl <| ias rfl rfl (Int.natCast_nonneg _) hx23 rfl <| st rfl <| ldi rfl rfl rfl rfl <| x_all (cXVariable cS cI) (⟨([] : List UInt8), (0 : Int)⟩ : XVariable) rfl <| x_stb (ss rfl rfl) rfl (Cd.h_sz _ _) rfl <| seqN [(0, .d ((cLs (cXVariable cS cI) rfl).enc v0)), (3, .d (cI.enc s19)), (5, .box ((cXVariable cS cI).enc x21)), (6, .d ((cLs (cXVariable cS cI) rfl).enc v0)), (7, .d (cI.enc (v0.length : Int))), (8, .d (cI.enc (k20 : Int)))] (by kernel_rfl) <|
    xn <| reg_s <| st rfl <| mvd rfl rfl <| st rfl <| fab rfl rfl rfl rfl <| st rfl <| lda rfl rfl rfl rfl rfl rfl <| ckI_k h fun i32 h => st rfl <| b_mul (k := .i64) rfl rfl i32 <| x_asg (ss rfl rfl) <| seqN [(0, .d ((cLs (cXVariable cS cI) rfl).enc v0)), (3, .d (cI.enc (s19 * x21.Levels))), (6, .d ((cLs (cXVariable cS cI) rfl).enc v0)), (7, .d (cI.enc (v0.length : Int))), (8, .d (cI.enc (k20 : Int)))] (by kernel_rfl) <|
    xbb <| kpN [(0, .d ((cLs (cXVariable cS cI) rfl).enc v0)), (3, .d (cI.enc (s19 * x21.Levels))), (6, .d ((cLs (cXVariable cS cI) rfl).enc v0)), (7, .d (cI.enc (v0.length : Int))), (8, .d (cI.enc (k20 : Int)))] (by kernel_rfl) <| xn <| reg_s <| st rfl <| b_inc rfl rfl l18 hk22 <| st rfl <| mvd rfl rfl <| seqN [(0, .d ((cLs (cXVariable cS cI) rfl).enc v0)), (3, .d (cI.enc (s19 * x21.Levels))), (6, .d ((cLs (cXVariable cS cI) rfl).enc v0)), (7, .d (cI.enc (v0.length : Int))), (8, .d (cI.enc ((k20 + 1 : Nat) : Int)))] (by kernel_rfl) <|
    xn <| hn29 (s19 * x21.Levels) h)

def rs_impl_cellCount (r : Int) : List D := [cI.enc r]
def m64 : MC := .seq (.reg [⟨some 3, .box (.t 0), none⟩,
    ⟨some 5, .box (.t 2), none⟩,
    ⟨some 6, .asg (.c (.int .i64 0)), none⟩] [1, 3, 5])
  (.seq (.drw [⟨0, ⟨some 7, .ld 3 1 true, none⟩, [8, 9, 10, 11, 12, 13, 14, 15, 16]⟩,
    ⟨1, ⟨some 8, .fa 5 0 0, none⟩, [7, 9, 10, 11, 12, 13, 14, 15, 16]⟩,
    ⟨2, ⟨some 9, .ld 8 1 false, none⟩, [7, 10, 11, 12, 13, 14, 15, 16]⟩,
    ⟨3, ⟨some 10, .call 71 [(.t 7), (.t 9)], none⟩, [11, 12, 13, 14, 15, 16]⟩,
    ⟨4, ⟨some 11, .len false (.t 10), none⟩, [12, 13, 14, 15, 16]⟩,
    ⟨5, ⟨some 12, .mv (.t 1), none⟩, [7, 8, 9, 10, 11, 13, 14, 15, 16]⟩,
    ⟨6, ⟨some 13, .ld 5 4 true, none⟩, [7, 8, 9, 10, 11, 12, 14, 15, 16]⟩,
    ⟨7, ⟨some 14, .call 73 [(.t 12), (.t 13)], none⟩, [11, 15, 16]⟩,
    ⟨8, ⟨some 15, .call 72 [(.t 14)], none⟩, [11, 16]⟩,
    ⟨9, ⟨some 16, .bin .mul (.t 11) (.t 15), none⟩, []⟩]
    [(10, ⟨some 6, .asg (.t 16), none⟩)] [6])
  (.ret))
theorem con_impl_cellCount {v0 : XGeo} {v1 : (List XVariable)} {v2 : XTable} {r : Int} (h : sh_impl_cellCount v0 v1 v2 = some r) : Con Try.prog 64 [(cXGeo (cLs cI rfl)).enc v0, (cLs (cXVariable cS cI) rfl).enc v1, (cXTable cI (cLs cI rfl) (cLs cI rfl) cI).enc v2] [] (rs_impl_cellCount r) := by
  delta sh_impl_cellCount at h
  refine top (out := none) (f := Try.f64) (m := m64) (rs := [.t 6]) (by kernel_rfl) rfl (by kernel_rfl) (by kernel_rfl) (by kernel_rfl) (by kernel_rfl) (by kernel_rfl) ?_
  exact
   ini [(0, .d ((cXGeo (cLs cI rfl)).enc v0)), (1, .d ((cLs (cXVariable cS cI) rfl).enc v1)), (2, .d ((cXTable cI (cLs cI rfl) (cLs cI rfl) cI).enc v2))] rfl <| wpC_seq <| reg_s <| x_box (ss rfl rfl) <| x_box (ss rfl rfl) <| x_asg (sc cI (0 : Int) rfl) <| seqN [(1, .d ((cLs (cXVariable cS cI) rfl).enc v1)), (3, .box ((cXGeo (cLs cI rfl)).enc v0)), (5, .box ((cXTable cI (cLs cI rfl) (cLs cI rfl) cI).enc v2))] (by kernel_rfl) <|
    xn <| wpC_seq <| drw_s <| pst rfl <| ldb rfl rfl rfl rfl ⟨rfl, pst rfl <| fab rfl rfl rfl rfl ⟨rfl, pst rfl <| lda rfl rfl rfl rfl rfl rfl ⟨rfl, bndp h fun x9 e10 h => pst rfl <| o_call (a1 (c := (cXGeo (cLs cI rfl))) (tXGeo (tLs tK)) rfl (a1 (c := cI) tK rfl a0)) (con_impl_areasAt e10) (.inl (so1 (sLo sK) so0)) ⟨rfl, lmO_kp h fun l11 h => pst rfl <| plno rfl l11 ⟨rfl, pst rfl <| mvd rfl rfl ⟨rfl, pst rfl <| ldb rfl rfl rfl rfl ⟨rfl, bndp h fun x12 e13 h => pst rfl <| o_call (a1 (c := (cLs (cXVariable cS cI) rfl)) (tLs (tXVariable tS tK)) rfl (a1 (c := (cXTable cI (cLs cI rfl) (cLs cI rfl) cI)) (tXTable tK (tLs tK) (tLs tK) tK) rfl a0)) (con_impl_crossed e13) (.inl (so1 (sLo (sXVariable sS sK)) so0)) ⟨rfl, bndp h fun x14 e15 h => pst rfl <| o_call (a1 (c := (cLo (cXVariable cS cI))) (tLo (tXVariable tS tK)) rfl a0) (con_impl_combinations e15) (.inl (so1 sK so0)) ⟨rfl, ckI_kp h fun i16 h => pst rfl <| b_mul (k := .i64) rfl rfl i16 ⟨rfl, preN <| x_asg (ss rfl rfl) <| seqN [(6, .d (cI.enc ((x9.length : Int) * x14)))] (by kernel_rfl) <|
    xn <| wpC_ret <| re <| fin h (r1 (ss rfl rfl) <| r0) rfl⟩⟩⟩⟩⟩⟩⟩⟩⟩⟩

def rs_impl_isTable (r : Bool) : List D := [cB.enc r]
def m47 : MC := .seq (.reg [⟨some 3, .box (.t 0), none⟩,
    ⟨some 5, .box (.t 2), none⟩,
    ⟨some 6, .asg (.c (.bool false)), none⟩] [1, 3, 5])
  (.seq (.kp [1, 3, 5] (.seq (.reg [⟨some 8, .mv (.t 1), none⟩,
    ⟨some 9, .fa 5 1 1, none⟩,
    ⟨some 10, .ld 9 1 false, none⟩,
    ⟨some 11, .call 62 [(.t 8), (.t 10)], none⟩,
    ⟨some 12, .nt (.t 11), none⟩,
    ⟨some 13, .mv (.t 12), none⟩,
    ⟨some 14, .mv (.t 1), some (13, false)⟩,
    ⟨some 15, .fa 5 2 2, some (13, false)⟩,
    ⟨some 16, .ld 15 1 false, some (13, false)⟩,
    ⟨some 17, .call 63 [(.t 14), (.t 16)], some (13, false)⟩,
    ⟨some 18, .nt (.t 17), some (13, false)⟩,
    ⟨some 19, .pick (.t 13) (.c (.bool true)) (.t 18), none⟩,
    ⟨some 20, .mv (.t 19), none⟩,
    ⟨some 21, .fa 5 3 3, some (20, false)⟩,
    ⟨some 22, .ld 21 1 false, some (20, false)⟩,
    ⟨some 23, .bin .lss (.t 22) (.c (.int .i64 (-1))), some (20, false)⟩,
    ⟨some 24, .pick (.t 20) (.c (.bool true)) (.t 23), none⟩,
    ⟨some 25, .mv (.t 24), none⟩,
    ⟨some 26, .fa 5 3 3, some (25, false)⟩,
    ⟨some 27, .ld 26 1 false, some (25, false)⟩,
    ⟨some 28, .mv (.t 1), some (25, false)⟩,
    ⟨some 29, .len false (.t 28), some (25, false)⟩,
    ⟨some 30, .bin .geq (.t 27) (.t 29), some (25, false)⟩,
    ⟨some 31, .pick (.t 25) (.c (.bool true)) (.t 30), none⟩] [1, 3, 5, 31])
  (.cond (.t 31) (.seq (.reg [⟨some 6, .asg (.c (.bool false)), none⟩] [6])
  (.ret)) (.skip))))
  (.seq (.reg [⟨some 32, .ld 3 1 true, none⟩,
    ⟨some 33, .mv (.t 1), none⟩,
    ⟨some 34, .ld 5 4 true, none⟩,
    ⟨some 35, .call 64 [(.t 32), (.t 33), (.t 34)], none⟩,
    ⟨some 7, .asg (.t 35), none⟩] [7])
  (.seq (.reg [⟨some 36, .mv (.t 7), none⟩,
    ⟨some 37, .bin .gtr (.t 36) (.c (.int .i64 0)), none⟩,
    ⟨some 38, .mv (.t 37), none⟩,
    ⟨some 39, .mv (.t 7), some (38, true)⟩,
    ⟨some 40, .bin .leq (.t 39) (.c (.int .i64 600)), some (38, true)⟩,
    ⟨some 41, .pick (.t 38) (.t 40) (.c (.bool false)), none⟩,
    ⟨some 6, .asg (.t 41), none⟩] [6])
  (.ret))))
theorem con_impl_isTable {v0 : XGeo} {v1 : (List XVariable)} {v2 : XTable} {r : Bool} (h : sh_impl_isTable v0 v1 v2 = some r) : Con Try.prog 47 [(cXGeo (cLs cI rfl)).enc v0, (cLs (cXVariable cS cI) rfl).enc v1, (cXTable cI (cLs cI rfl) (cLs cI rfl) cI).enc v2] [] (rs_impl_isTable r) := by
  delta sh_impl_isTable at h
  refine top (out := none) (f := Try.f47) (m := m47) (rs := [.t 6]) (by kernel_rfl) rfl (by kernel_rfl) (by kernel_rfl) (by kernel_rfl) (by kernel_rfl) (by kernel_rfl) ?_
  exact
   ini [(0, .d ((cXGeo (cLs cI rfl)).enc v0)), (1, .d ((cLs (cXVariable cS cI) rfl).enc v1)), (2, .d ((cXTable cI (cLs cI rfl) (cLs cI rfl) cI).enc v2))] rfl <| wpC_seq <| reg_s <| x_box (ss rfl rfl) <| x_box (ss rfl rfl) <| x_asg (sc cB false rfl) <| seqN [(1, .d ((cLs (cXVariable cS cI) rfl).enc v1)), (3, .box ((cXGeo (cLs cI rfl)).enc v0)), (5, .box ((cXTable cI (cLs cI rfl) (cLs cI rfl) cI).enc v2))] (by kernel_rfl) <|
    xn <| wpC_seq <| wpC_kp <| wpC_seq <| jw (fun (s28 : Bool) => [(1, .d ((cLs (cXVariable cS cI) rfl).enc v1)), (3, .box ((cXGeo (cLs cI rfl)).enc v0)), (5, .box ((cXTable cI (cLs cI rfl) (cLs cI rfl) cI).enc v2)), (31, .d (cB.enc s28))]) h (fun s28 h => xn <| cnd rfl h (fun b30 h => wpC_seq <| reg_s <| x_asg (sc cB false rfl) <| seqN [(6, .d (cB.enc false))] (by kernel_rfl) <|
    xn <| wpC_ret <| rt <| rt <| re <| fin h (r1 (ss rfl rfl) <| r0) rfl)
    (fun b30 h => wpC_skip <| kpN [(1, .d ((cLs (cXVariable cS cI) rfl).enc v1)), (3, .box ((cXGeo (cLs cI rfl)).enc v0)), (5, .box ((cXTable cI (cLs cI rfl) (cLs cI rfl) cI).enc v2))] (by kernel_rfl) <| xn <| wpC_seq <| reg_s <| st rfl <| ldb rfl rfl rfl rfl <| st rfl <| mvd rfl rfl <| st rfl <| ldb rfl rfl rfl rfl <| bnd h fun x33 e34 h => st rfl <| o_call (a1 (c := (cXGeo (cLs cI rfl))) (tXGeo (tLs tK)) rfl (a1 (c := (cLs (cXVariable cS cI) rfl)) (tLs (tXVariable tS tK)) rfl (a1 (c := (cXTable cI (cLs cI rfl) (cLs cI rfl) cI)) (tXTable tK (tLs tK) (tLs tK) tK) rfl a0))) (con_impl_cellCount e34) (.inl (so1 sK so0)) <| x_asg (ss rfl rfl) <| seqN [(7, .d (cI.enc x33))] (by kernel_rfl) <|
    xn <| wpC_seq <| reg_s <| st rfl <| mvd rfl rfl <| st rfl <| b_gtr (k := .i64) rfl rfl <| st rfl <| mvd rfl rfl <| ite_k h (fun b36 h => gt' rfl b36 <| st rfl <| mvd rfl rfl <| gt' rfl b36 <| st rfl <| b_leq (k := .i64) rfl rfl <| st rfl <| pick1 rfl b36 (cd := cB) (v := (decide (x33 ≤ (600 : Int)))) rfl rfl <| x_asg (ss rfl rfl) <| seqN [(6, .d (cB.enc (decide (x33 ≤ (600 : Int)))))] (by kernel_rfl) <|
    xn <| wpC_ret <| re <| fin h (r1 (ss rfl rfl) <| r0) rfl)
    (fun b36 h => gf rfl b36 <| gf rfl b36 <| st rfl <| pick0 rfl b36 (cd := cB) (v := false) rfl rfl <| x_asg (ss rfl rfl) <| seqN [(6, .d (cB.enc false))] (by kernel_rfl) <|
    xn <| wpC_ret <| re <| fin h (r1 (ss rfl rfl) <| r0) rfl)))
    fun s28' q29 h => reg_s <| st rfl <| mvd rfl rfl <| st rfl <| fab rfl rfl rfl rfl <| st rfl <| lda rfl rfl rfl rfl rfl rfl <| bnd h fun x37 e38 h => st rfl <| o_call (a1 (c := (cLs (cXVariable cS cI) rfl)) (tLs (tXVariable tS tK)) rfl (a1 (c := (cLs cI rfl)) (tLs tK) rfl a0)) (con_impl_areVars e38) (.inl (so1 sB so0)) <| st rfl <| o_nt rfl <| st rfl <| mvd rfl rfl <| ite_k h (fun b39 h => gf rfl b39 <| gf rfl b39 <| gf rfl b39 <| gf rfl b39 <| gf rfl b39 <| st rfl <| pick1 rfl b39 (cd := cB) (v := true) rfl rfl <| st rfl <| mvd rfl rfl <| gf rfl rfl <| gf rfl rfl <| gf rfl rfl <| st rfl <| pick1 rfl rfl (cd := cB) (v := true) rfl rfl <| st rfl <| mvd rfl rfl <| gf rfl rfl <| gf rfl rfl <| gf rfl rfl <| gf rfl rfl <| gf rfl rfl <| st rfl <| pick1 rfl rfl (cd := cB) (v := true) rfl rfl <| seqN [(1, .d ((cLs (cXVariable cS cI) rfl).enc v1)), (3, .box ((cXGeo (cLs cI rfl)).enc v0)), (5, .box ((cXTable cI (cLs cI rfl) (cLs cI rfl) cI).enc v2)), (31, .d (cB.enc true))] (by kernel_rfl) <|
    lfn (S := (fun (s28 : Bool) => [(1, .d ((cLs (cXVariable cS cI) rfl).enc v1)), (3, .box ((cXGeo (cLs cI rfl)).enc v0)), (5, .box ((cXTable cI (cLs cI rfl) (cLs cI rfl) cI).enc v2)), (31, .d (cB.enc s28))])) h q29 rfl)
    (fun b39 h => gt' rfl b39 <| st rfl <| mvd rfl rfl <| gt' rfl b39 <| st rfl <| fab rfl rfl rfl rfl <| gt' rfl b39 <| st rfl <| lda rfl rfl rfl rfl rfl rfl <| gt' rfl b39 <| bnd h fun x40 e41 h => st rfl <| o_call (a1 (c := (cLs (cXVariable cS cI) rfl)) (tLs (tXVariable tS tK)) rfl (a1 (c := (cLs cI rfl)) (tLs tK) rfl a0)) (con_impl_isWhere e41) (.inl (so1 sB so0)) <| gt' rfl b39 <| st rfl <| o_nt rfl <| st rfl <| pick0 rfl b39 (cd := cB) (v := (!x40)) rfl rfl <| st rfl <| mvd rfl rfl <| ite_k h (fun b42 h => gf rfl b42 <| gf rfl b42 <| gf rfl b42 <| st rfl <| pick1 rfl b42 (cd := cB) (v := true) rfl rfl <| st rfl <| mvd rfl rfl <| gf rfl rfl <| gf rfl rfl <| gf rfl rfl <| gf rfl rfl <| gf rfl rfl <| st rfl <| pick1 rfl rfl (cd := cB) (v := true) rfl rfl <| seqN [(1, .d ((cLs (cXVariable cS cI) rfl).enc v1)), (3, .box ((cXGeo (cLs cI rfl)).enc v0)), (5, .box ((cXTable cI (cLs cI rfl) (cLs cI rfl) cI).enc v2)), (31, .d (cB.enc true))] (by kernel_rfl) <|
    lfn (S := (fun (s28 : Bool) => [(1, .d ((cLs (cXVariable cS cI) rfl).enc v1)), (3, .box ((cXGeo (cLs cI rfl)).enc v0)), (5, .box ((cXTable cI (cLs cI rfl) (cLs cI rfl) cI).enc v2)), (31, .d (cB.enc s28))])) h q29 rfl)
    (fun b42 h => gt' rfl b42 <| st rfl <| fab rfl rfl rfl rfl <| gt' rfl b42 <| st rfl <| lda rfl rfl rfl rfl rfl rfl <| gt' rfl b42 <| st rfl <| b_lss (k := .i64) rfl rfl <| st rfl <| pick0 rfl b42 (cd := cB) (v := (decide (v2.Sum < (-1 : Int)))) rfl rfl <| st rfl <| mvd rfl rfl <| ite_k h (fun b43 h => gf rfl b43 <| gf rfl b43 <| gf rfl b43 <| gf rfl b43 <| gf rfl b43 <| st rfl <| pick1 rfl b43 (cd := cB) (v := true) rfl rfl <| seqN [(1, .d ((cLs (cXVariable cS cI) rfl).enc v1)), (3, .box ((cXGeo (cLs cI rfl)).enc v0)), (5, .box ((cXTable cI (cLs cI rfl) (cLs cI rfl) cI).enc v2)), (31, .d (cB.enc true))] (by kernel_rfl) <|
    lfn (S := (fun (s28 : Bool) => [(1, .d ((cLs (cXVariable cS cI) rfl).enc v1)), (3, .box ((cXGeo (cLs cI rfl)).enc v0)), (5, .box ((cXTable cI (cLs cI rfl) (cLs cI rfl) cI).enc v2)), (31, .d (cB.enc s28))])) h q29 rfl)
    (fun b43 h => gt' rfl b43 <| st rfl <| fab rfl rfl rfl rfl <| gt' rfl b43 <| st rfl <| lda rfl rfl rfl rfl rfl rfl <| gt' rfl b43 <| st rfl <| mvd rfl rfl <| gt' rfl b43 <| stw rfl <| lens rfl fun l44 => gt' rfl b43 <| st rfl <| b_geq (k := .i64) rfl rfl <| st rfl <| pick0 rfl b43 (cd := cB) (v := (decide ((v1.length : Int) ≤ v2.Sum))) rfl rfl <| seqN [(1, .d ((cLs (cXVariable cS cI) rfl).enc v1)), (3, .box ((cXGeo (cLs cI rfl)).enc v0)), (5, .box ((cXTable cI (cLs cI rfl) (cLs cI rfl) cI).enc v2)), (31, .d (cB.enc (decide ((v1.length : Int) ≤ v2.Sum))))] (by kernel_rfl) <|
    lfn (S := (fun (s28 : Bool) => [(1, .d ((cLs (cXVariable cS cI) rfl).enc v1)), (3, .box ((cXGeo (cLs cI rfl)).enc v0)), (5, .box ((cXTable cI (cLs cI rfl) (cLs cI rfl) cI).enc v2)), (31, .d (cB.enc s28))])) h q29 rfl)))
end AS.W
