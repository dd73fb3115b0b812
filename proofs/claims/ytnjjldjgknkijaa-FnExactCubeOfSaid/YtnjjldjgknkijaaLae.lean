/- The program computes the plain functions. No condition. -/
import Derived.Test.YtnjjldjgknkijaaSae
import Derived.Test.YtnjjldjgknkijaaProg
import Derived.Test.YtnjjldjgknkijaaLad
set_option maxRecDepth 100000
set_option linter.unusedVariables false
set_option linter.unusedSimpArgs false
namespace AS.W
open Go Go.Proofs
def rs_spec_IsCube (r : Bool) : List D := [cB.enc r]
def m27 : MC := .seq (.reg [⟨some 1, .box (.t 0), none⟩,
    ⟨some 2, .asg (.c (.bool false)), none⟩] [1])
  (.seq (.reg [⟨some 3, .ld 1 2 true, none⟩,
    ⟨some 4, .call 66 [(.t 3)], none⟩,
    ⟨some 2, .asg (.t 4), none⟩] [2])
  (.ret))
theorem con_spec_IsCube {v0 : XCube} {r : Bool} (h : sh_spec_IsCube v0 = some r) : Con Try.prog 27 [(cXCube (cLs cI rfl) (cLs cI rfl)).enc v0] [] (rs_spec_IsCube r) := by
  delta sh_spec_IsCube at h
  refine top (out := none) (f := Try.f27) (m := m27) (rs := [.t 2]) (by kernel_rfl) rfl (by kernel_rfl) (by kernel_rfl) (by kernel_rfl) (by kernel_rfl) (by kernel_rfl) ?_
  exact
   ini [(0, .d ((cXCube (cLs cI rfl) (cLs cI rfl)).enc v0))] rfl <| wpC_seq <| reg_s <| x_box (ss rfl rfl) <| x_asg (sc cB false rfl) <| seqN [(1, .box ((cXCube (cLs cI rfl) (cLs cI rfl)).enc v0))] (by kernel_rfl) <|
    xn <| wpC_seq <| reg_s <| st rfl <| ldb rfl rfl rfl rfl <| bnd h fun x3 e4 h => st rfl <| o_call (a1 (c := (cXCube (cLs cI rfl) (cLs cI rfl))) (tXCube (tLs tK) (tLs tK)) rfl a0) (con_spec_cbGood e4) (.inl (so1 sB so0)) <| x_asg (ss rfl rfl) <| seqN [(2, .d (cB.enc x3))] (by kernel_rfl) <|
    xn <| wpC_ret <| re <| fin h (r1 (ss rfl rfl) <| r0) rfl

def rs_impl_IsCube (r : Bool) : List D := [cB.enc r]
def m29 : MC := .seq (.reg [⟨some 1, .box (.t 0), none⟩,
    ⟨some 2, .asg (.c (.bool false)), none⟩] [1])
  (.seq (.drw [⟨0, ⟨some 3, .ld 1 2 true, none⟩, [4, 5, 6, 7, 8, 9, 10, 11, 12]⟩,
    ⟨1, ⟨some 4, .call 67 [(.t 3)], none⟩, [5, 6, 7, 8, 9, 10, 11, 12]⟩,
    ⟨2, ⟨some 5, .mv (.t 4), none⟩, [6, 7, 8, 9, 10, 11, 12]⟩,
    ⟨3, ⟨some 6, .ld 1 2 true, some (5, true)⟩, [7, 8, 9, 10, 11, 12]⟩,
    ⟨4, ⟨some 7, .call 68 [(.t 6)], some (5, true)⟩, [8, 9, 10, 11, 12]⟩,
    ⟨5, ⟨some 8, .fa 1 1 1, some (5, true)⟩, [6, 7, 9, 10, 11, 12]⟩,
    ⟨6, ⟨some 9, .ld 8 1 false, some (5, true)⟩, [6, 7, 10, 11, 12]⟩,
    ⟨7, ⟨some 10, .len false (.t 9), some (5, true)⟩, [6, 7, 11, 12]⟩,
    ⟨8, ⟨some 11, .bin .eql (.t 7) (.t 10), some (5, true)⟩, [12]⟩,
    ⟨9, ⟨some 12, .pick (.t 5) (.t 11) (.c (.bool false)), none⟩, []⟩]
    [(10, ⟨some 2, .asg (.t 12), none⟩)] [2])
  (.ret))
theorem con_impl_IsCube {v0 : XCube} {r : Bool} (h : sh_impl_IsCube v0 = some r) : Con Try.prog 29 [(cXCube (cLs cI rfl) (cLs cI rfl)).enc v0] [] (rs_impl_IsCube r) := by
  delta sh_impl_IsCube at h
  refine top (out := none) (f := Try.f29) (m := m29) (rs := [.t 2]) (by kernel_rfl) rfl (by kernel_rfl) (by kernel_rfl) (by kernel_rfl) (by kernel_rfl) (by kernel_rfl) ?_
  exact
   ini [(0, .d ((cXCube (cLs cI rfl) (cLs cI rfl)).enc v0))] rfl <| wpC_seq <| reg_s <| x_box (ss rfl rfl) <| x_asg (sc cB false rfl) <| seqN [(1, .box ((cXCube (cLs cI rfl) (cLs cI rfl)).enc v0))] (by kernel_rfl) <|
    xn <| wpC_seq <| drw_s <| pst rfl <| ldb rfl rfl rfl rfl ⟨rfl, bndp h fun x7 e8 h => pst rfl <| o_call (a1 (c := (cXCube (cLs cI rfl) (cLs cI rfl))) (tXCube (tLs tK) (tLs tK)) rfl a0) (con_impl_hasRightForm e8) (.inl (so1 sB so0)) ⟨rfl, pst rfl <| mvd rfl rfl ⟨rfl, ite_kp h (fun b9 h => pgt rfl b9 <| pst rfl <| ldb rfl rfl rfl rfl ⟨rfl, pgt rfl b9 <| bndp h fun x10 e11 h => pst rfl <| o_call (a1 (c := (cXCube (cLs cI rfl) (cLs cI rfl))) (tXCube (tLs tK) (tLs tK)) rfl a0) (con_impl_firstBreak e11) (.inl (so1 sK so0)) ⟨rfl, pgt rfl b9 <| pst rfl <| fab rfl rfl rfl rfl ⟨rfl, pgt rfl b9 <| pst rfl <| lda rfl rfl rfl rfl rfl rfl ⟨rfl, pgt rfl b9 <| lmO_kp h fun l12 h => pst rfl <| plns rfl l12 ⟨rfl, pgt rfl b9 <| pst rfl <| b_eql (k := .i64) rfl rfl ⟨rfl, pst rfl <| pick1 rfl b9 (cd := cB) (v := (decide (x10 = (v0.Cells.length : Int)))) rfl rfl ⟨rfl, preN <| x_asg (ss rfl rfl) <| seqN [(2, .d (cB.enc (decide (x10 = (v0.Cells.length : Int)))))] (by kernel_rfl) <|
    xn <| wpC_ret <| re <| fin h (r1 (ss rfl rfl) <| r0) rfl⟩⟩⟩⟩⟩⟩⟩)
    (fun b9 h => pgf rfl rfl b9 <| pgf rfl rfl b9 <| pgf rfl rfl b9 <| pgf rfl rfl b9 <| pgf rfl rfl b9 <| pgf rfl rfl b9 <| pst rfl <| pick0 rfl b9 (cd := cB) (v := false) rfl rfl ⟨rfl, preN <| x_asg (ss rfl rfl) <| seqN [(2, .d (cB.enc false))] (by kernel_rfl) <|
    xn <| wpC_ret <| re <| fin h (r1 (ss rfl rfl) <| r0) rfl⟩)⟩⟩⟩

def rs_laws_FnExactIsCube (r : Bool) : List D := [cB.enc r]
def m5 : MC := .seq (.reg [⟨some 1, .box (.t 0), none⟩,
    ⟨some 2, .asg (.c (.bool false)), none⟩] [1])
  (.seq (.reg [⟨some 3, .asg (.c (.int .i64 1048576)), none⟩] [1, 3])
  (.seq (.reg [⟨some 7, .ld 1 2 true, none⟩,
    ⟨some 8, .mv (.t 3), none⟩,
    ⟨some 9, .call 26 [(.t 7), (.t 8)], none⟩,
    ⟨some 3, .asg (.t 9), none⟩] [1, 3])
  (.seq (.kp [1] (.seq (.reg [⟨some 10, .mv (.t 3), none⟩,
    ⟨some 11, .bin .lss (.t 10) (.c (.int .i64 0)), none⟩] [1, 11])
  (.cond (.t 11) (.seq (.reg [⟨some 2, .asg (.c (.bool true)), none⟩] [2])
  (.ret)) (.skip))))
  (.seq (.reg [⟨some 12, .ld 1 2 true, none⟩,
    ⟨some 13, .call 28 [(.t 12)], none⟩,
    ⟨some 14, .call 27 [(.t 13)], none⟩,
    ⟨some 4, .asg (.t 14), none⟩] [1, 4])
  (.seq (.reg [⟨some 15, .ld 1 2 true, none⟩,
    ⟨some 16, .call 28 [(.t 15)], none⟩,
    ⟨some 5, .alloc (.agg [.slice true [], .slice true []]), none⟩,
    ⟨none, .st 5 (.t 16) 2, none⟩] [1, 4, 5])
  (.seq (.reg [⟨some 17, .ld 5 2 true, none⟩,
    ⟨some 18, .call 29 [(.t 17)], none⟩,
    ⟨some 6, .asg (.t 18), none⟩] [1, 4, 5, 6])
  (.seq (.kp [1, 5] (.seq (.reg [⟨some 19, .mv (.t 6), none⟩,
    ⟨some 20, .mv (.t 4), none⟩,
    ⟨some 21, .eqb true (.t 19) (.t 20), none⟩] [1, 5, 21])
  (.cond (.t 21) (.seq (.reg [⟨some 2, .asg (.c (.bool false)), none⟩] [2])
  (.ret)) (.skip))))
  (.seq (.kp [] (.seq (.drw [⟨0, ⟨some 22, .ld 5 2 true, none⟩, [23, 24, 25, 26]⟩,
    ⟨1, ⟨some 23, .ld 1 2 true, none⟩, [22, 24, 25, 26]⟩,
    ⟨2, ⟨some 24, .call 28 [(.t 23)], none⟩, [22, 25, 26]⟩,
    ⟨3, ⟨some 25, .call 30 [(.t 22), (.t 24)], none⟩, [26]⟩,
    ⟨4, ⟨some 26, .nt (.t 25), none⟩, []⟩]
    [] [26])
  (.cond (.t 26) (.seq (.reg [⟨some 2, .asg (.c (.bool false)), none⟩] [2])
  (.ret)) (.skip))))
  (.seq (.reg [⟨some 2, .asg (.c (.bool true)), none⟩] [2])
  (.ret))))))))))
theorem con_laws_FnExactIsCube {v0 : XCube} {r : Bool} (h : sh_laws_FnExactIsCube v0 = some r) : Con Try.prog 5 [(cXCube (cLs cI rfl) (cLs cI rfl)).enc v0] [] (rs_laws_FnExactIsCube r) := by
  delta sh_laws_FnExactIsCube at h
  refine top (out := none) (f := Try.f5) (m := m5) (rs := [.t 2]) (by kernel_rfl) rfl (by kernel_rfl) (by kernel_rfl) (by kernel_rfl) (by kernel_rfl) (by kernel_rfl) ?_
  exact
   ini [(0, .d ((cXCube (cLs cI rfl) (cLs cI rfl)).enc v0))] rfl <| wpC_seq <| reg_s <| x_box (ss rfl rfl) <| x_asg (sc cB false rfl) <| seqN [(1, .box ((cXCube (cLs cI rfl) (cLs cI rfl)).enc v0))] (by kernel_rfl) <|
    xn <| wpC_seq <| reg_s <| x_asg (sc cI (1048576 : Int) rfl) <| seqN [(1, .box ((cXCube (cLs cI rfl) (cLs cI rfl)).enc v0)), (3, .d (cI.enc (1048576 : Int)))] (by kernel_rfl) <|
    xn <| wpC_seq <| reg_s <| st rfl <| ldb rfl rfl rfl rfl <| st rfl <| mvd rfl rfl <| bnd h fun x3 e4 h => st rfl <| o_call (a1 (c := (cXCube (cLs cI rfl) (cLs cI rfl))) (tXCube (tLs tK) (tLs tK)) rfl (a1 (c := cI) tK rfl a0)) (con_laws_szCube e4) (.inl (so1 sK so0)) <| x_asg (ss rfl rfl) <| seqN [(1, .box ((cXCube (cLs cI rfl) (cLs cI rfl)).enc v0)), (3, .d (cI.enc x3))] (by kernel_rfl) <|
    xn <| wpC_seq <| wpC_kp <| wpC_seq <| reg_s <| st rfl <| mvd rfl rfl <| st rfl <| b_lss (k := .i64) rfl rfl <| seqN [(1, .box ((cXCube (cLs cI rfl) (cLs cI rfl)).enc v0)), (11, .d (cB.enc (decide (x3 < (0 : Int)))))] (by kernel_rfl) <|
    xn <| cnd rfl h (fun b6 h => wpC_seq <| reg_s <| x_asg (sc cB true rfl) <| seqN [(2, .d (cB.enc true))] (by kernel_rfl) <|
    xn <| wpC_ret <| rt <| rt <| re <| fin h (r1 (ss rfl rfl) <| r0) rfl)
    (fun b6 h => wpC_skip <| kpN [(1, .box ((cXCube (cLs cI rfl) (cLs cI rfl)).enc v0))] (by kernel_rfl) <| xn <| wpC_seq <| reg_s <| st rfl <| ldb rfl rfl rfl rfl <| bnd h fun x11 e12 h => st rfl <| o_call (a1 (c := (cXCube (cLs cI rfl) (cLs cI rfl))) (tXCube (tLs tK) (tLs tK)) rfl a0) (con_laws_toCube e12) (.inl (so1 (sXCube (sLo sK) (sLo sK)) so0)) <| bnd h fun x13 e14 h => st rfl <| o_call (a1 (c := (cXCube (cLo cI) (cLo cI))) (tXCube (tLo tK) (tLo tK)) rfl a0) (con_spec_IsCube e14) (.inl (so1 sB so0)) <| x_asg (ss rfl rfl) <| seqN [(1, .box ((cXCube (cLs cI rfl) (cLs cI rfl)).enc v0)), (4, .d (cB.enc x13))] (by kernel_rfl) <|
    xn <| wpC_seq <| reg_s <| st rfl <| ldb rfl rfl rfl rfl <| bnd h fun x17 e18 h => st rfl <| o_call (a1 (c := (cXCube (cLs cI rfl) (cLs cI rfl))) (tXCube (tLs tK) (tLs tK)) rfl a0) (con_laws_toCube e18) (.inl (so1 (sXCube (sLo sK) (sLo sK)) so0)) <| x_all (cXCube (cLo cI) (cLo cI)) (⟨([] : List Int), ([] : List Int)⟩ : XCube) rfl <| x_stb (so rfl rfl) rfl (Cd.h_sz _ _) rfl <| seqN [(1, .box ((cXCube (cLs cI rfl) (cLs cI rfl)).enc v0)), (4, .d (cB.enc x13)), (5, .box ((cXCube (cLo cI) (cLo cI)).enc x17))] (by kernel_rfl) <|
    xn <| wpC_seq <| reg_s <| st rfl <| ldbo rfl rfl rfl rfl <| bnd h fun x21 e22 h => st rfl <| o_call (a1 (c := (cXCube (cLo cI) (cLo cI))) (tXCube (tLo tK) (tLo tK)) rfl a0) (con_impl_IsCube e22) (.inl (so1 sB so0)) <| x_asg (ss rfl rfl) <| seqN [(1, .box ((cXCube (cLs cI rfl) (cLs cI rfl)).enc v0)), (4, .d (cB.enc x13)), (5, .box ((cXCube (cLo cI) (cLo cI)).enc x17)), (6, .d (cB.enc x21))] (by kernel_rfl) <|
    xn <| wpC_seq <| wpC_kp <| wpC_seq <| reg_s <| st rfl <| mvd rfl rfl <| st rfl <| mvd rfl rfl <| st rfl <| eqb1 rfl rfl <| seqN [(1, .box ((cXCube (cLs cI rfl) (cLs cI rfl)).enc v0)), (5, .box ((cXCube (cLo cI) (cLo cI)).enc x17)), (21, .d (cB.enc (x21 != x13)))] (by kernel_rfl) <|
    xn <| cnd rfl h (fun b24 h => wpC_seq <| reg_s <| x_asg (sc cB false rfl) <| seqN [(2, .d (cB.enc false))] (by kernel_rfl) <|
    xn <| wpC_ret <| rt <| rt <| re <| fin h (r1 (ss rfl rfl) <| r0) rfl)
    (fun b24 h => wpC_skip <| kpN [(1, .box ((cXCube (cLs cI rfl) (cLs cI rfl)).enc v0)), (5, .box ((cXCube (cLo cI) (cLo cI)).enc x17))] (by kernel_rfl) <| xn <| wpC_seq <| wpC_kp <| wpC_seq <| drw_s <| pst rfl <| ldbo rfl rfl rfl rfl ⟨rfl, pst rfl <| ldb rfl rfl rfl rfl ⟨rfl, bndp h fun x38 e39 h => pst rfl <| o_call (a1 (c := (cXCube (cLs cI rfl) (cLs cI rfl))) (tXCube (tLs tK) (tLs tK)) rfl a0) (con_laws_toCube e39) (.inl (so1 (sXCube (sLo sK) (sLo sK)) so0)) ⟨rfl, bndp h fun x40 e41 h => pst rfl <| o_call (a1 (c := (cXCube (cLo cI) (cLo cI))) (tXCube (tLo tK) (tLo tK)) rfl (a1 (c := (cXCube (cLo cI) (cLo cI))) (tXCube (tLo tK) (tLo tK)) rfl a0)) (con_laws_eqCube e41) (.inl (so1 sB so0)) ⟨rfl, pst rfl <| o_nt rfl ⟨rfl, preN <| seqN [(26, .d (cB.enc (!x40)))] (by kernel_rfl) <|
    xn <| cnd rfl h (fun b42 h => wpC_seq <| reg_s <| x_asg (sc cB false rfl) <| seqN [(2, .d (cB.enc false))] (by kernel_rfl) <|
    xn <| wpC_ret <| rt <| rt <| re <| fin h (r1 (ss rfl rfl) <| r0) rfl)
    (fun b42 h => wpC_skip <| kpN [] (by kernel_rfl) <| xn <| wpC_seq <| reg_s <| x_asg (sc cB true rfl) <| seqN [(2, .d (cB.enc true))] (by kernel_rfl) <|
    xn <| wpC_ret <| re <| fin h (r1 (ss rfl rfl) <| r0) rfl)⟩⟩⟩⟩⟩))
end AS.W
