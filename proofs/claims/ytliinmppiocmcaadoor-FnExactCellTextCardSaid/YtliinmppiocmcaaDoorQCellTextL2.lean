/- The program computes the plain functions. No condition. -/
import Derived.Test.YtliinmppiocmcaaDoorQCellTextS
import Derived.Test.YtliinmppiocmcaaDoorProg
import Derived.Test.YtliinmppiocmcaaDoorQCellTextX
import Derived.Test.YtliinmppiocmcaaDoorQCellTextL1
set_option maxRecDepth 100000
set_option linter.unusedVariables false
set_option linter.unusedSimpArgs false
namespace AS.W
open Go Go.Proofs
def rs_impl_CellText (r : ((List UInt8) × Bool)) : List D := [cS.enc r.1, cB.enc r.2]
def m21 : MC := .seq (.reg [⟨some 4, .box (.t 0), none⟩,
    ⟨some 6, .box (.t 2), none⟩,
    ⟨some 8, .asg (.c (.str [])), none⟩,
    ⟨some 9, .asg (.c (.bool false)), none⟩] [1, 3, 4, 6])
  (.seq (.kp [1, 3, 4, 6] (.seq (.reg [⟨some 10, .ld 4 1 true, none⟩,
    ⟨some 11, .mv (.t 1), none⟩,
    ⟨some 12, .ld 6 4 true, none⟩,
    ⟨some 13, .call 48 [(.t 10), (.t 11), (.t 12)], none⟩,
    ⟨some 14, .nt (.t 13), none⟩,
    ⟨some 15, .mv (.t 14), none⟩,
    ⟨some 16, .mv (.t 3), some (15, false)⟩,
    ⟨some 17, .bin .lss (.t 16) (.c (.int .i64 0)), some (15, false)⟩,
    ⟨some 18, .pick (.t 15) (.c (.bool true)) (.t 17), none⟩,
    ⟨some 19, .mv (.t 18), none⟩,
    ⟨some 20, .mv (.t 3), some (19, false)⟩,
    ⟨some 21, .ld 4 1 true, some (19, false)⟩,
    ⟨some 22, .mv (.t 1), some (19, false)⟩,
    ⟨some 23, .ld 6 4 true, some (19, false)⟩,
    ⟨some 24, .call 54 [(.t 21), (.t 22), (.t 23)], some (19, false)⟩,
    ⟨some 25, .bin .geq (.t 20) (.t 24), some (19, false)⟩,
    ⟨some 26, .pick (.t 19) (.c (.bool true)) (.t 25), none⟩] [1, 3, 4, 6, 26])
  (.cond (.t 26) (.seq (.reg [⟨some 8, .asg (.c (.str [])), none⟩,
    ⟨some 9, .asg (.c (.bool false)), none⟩] [8, 9])
  (.ret)) (.skip))))
  (.seq (.reg [⟨some 27, .ld 4 1 true, none⟩,
    ⟨some 28, .mv (.t 1), none⟩,
    ⟨some 29, .ld 6 4 true, none⟩,
    ⟨some 30, .mv (.t 3), none⟩,
    ⟨some 31, .call 55 [(.t 27), (.t 28), (.t 29), (.t 30)], none⟩,
    ⟨some 8, .asg (.t 31), none⟩,
    ⟨some 9, .asg (.c (.bool true)), none⟩] [8, 9])
  (.ret)))
theorem con_impl_CellText {v0 : XGeo} {v1 : (List XVariable)} {v2 : XTable} {v3 : Int} {r : ((List UInt8) × Bool)} (h : sh_impl_CellText v0 v1 v2 v3 = some r) : Con Tryd.prog 21 [(cXGeo (cLs cI rfl)).enc v0, (cLs (cXVariable cS cI) rfl).enc v1, (cXTable cI (cLs cI rfl) (cLs cI rfl) cI).enc v2, cI.enc v3] [] (rs_impl_CellText r) := by
  delta sh_impl_CellText at h
  refine top (out := none) (f := Tryd.f21) (m := m21) (rs := [.t 8, .t 9]) (by kernel_rfl) rfl (by kernel_rfl) (by kernel_rfl) (by kernel_rfl) (by kernel_rfl) (by kernel_rfl) ?_
  exact
   ini [(0, .d ((cXGeo (cLs cI rfl)).enc v0)), (1, .d ((cLs (cXVariable cS cI) rfl).enc v1)), (2, .d ((cXTable cI (cLs cI rfl) (cLs cI rfl) cI).enc v2)), (3, .d (cI.enc v3))] rfl <| wpC_seq <| reg_s <| x_box (ss rfl rfl) <| x_box (ss rfl rfl) <| x_asg (sc cS ([] : List UInt8) rfl) <| x_asg (sc cB false rfl) <| seqN [(1, .d ((cLs (cXVariable cS cI) rfl).enc v1)), (3, .d (cI.enc v3)), (4, .box ((cXGeo (cLs cI rfl)).enc v0)), (6, .box ((cXTable cI (cLs cI rfl) (cLs cI rfl) cI).enc v2))] (by kernel_rfl) <|
    xn <| wpC_seq <| wpC_kp <| wpC_seq <| reg_s <| st rfl <| ldb rfl rfl rfl rfl <| st rfl <| mvd rfl rfl <| st rfl <| ldb rfl rfl rfl rfl <| bnd h fun x20 e21 h => st rfl <| o_call (a1 (c := (cXGeo (cLs cI rfl))) (tXGeo (tLs tK)) rfl (a1 (c := (cLs (cXVariable cS cI) rfl)) (tLs (tXVariable tS tK)) rfl (a1 (c := (cXTable cI (cLs cI rfl) (cLs cI rfl) cI)) (tXTable tK (tLs tK) (tLs tK) tK) rfl a0))) (con_impl_areTabled e21) (.inl (so1 sB so0)) <| st rfl <| o_nt rfl <| st rfl <| mvd rfl rfl <| ite_k h (fun b22 h => gf rfl b22 <| gf rfl b22 <| st rfl <| pick1 rfl b22 (cd := cB) (v := true) rfl rfl <| st rfl <| mvd rfl rfl <| gf rfl rfl <| gf rfl rfl <| gf rfl rfl <| gf rfl rfl <| gf rfl rfl <| gf rfl rfl <| st rfl <| pick1 rfl rfl (cd := cB) (v := true) rfl rfl <| seqN [(1, .d ((cLs (cXVariable cS cI) rfl).enc v1)), (3, .d (cI.enc v3)), (4, .box ((cXGeo (cLs cI rfl)).enc v0)), (6, .box ((cXTable cI (cLs cI rfl) (cLs cI rfl) cI).enc v2)), (26, .d (cB.enc true))] (by kernel_rfl) <|
    xn <| cnd1 rfl rfl <| wpC_seq <| reg_s <| x_asg (sc cS ([] : List UInt8) rfl) <| x_asg (sc cB false rfl) <| seqN [(8, .d (cS.enc ([] : List UInt8))), (9, .d (cB.enc false))] (by kernel_rfl) <|
    xn <| wpC_ret <| rt <| rt <| re <| fin h (r1 (ss rfl rfl) <| r1 (ss rfl rfl) <| r0) rfl)
    (fun b22 h => gt' rfl b22 <| st rfl <| mvd rfl rfl <| gt' rfl b22 <| st rfl <| b_lss (k := .i64) rfl rfl <| st rfl <| pick0 rfl b22 (cd := cB) (v := (decide (v3 < (0 : Int)))) rfl rfl <| st rfl <| mvd rfl rfl <| ite_k h (fun b23 h => gf rfl b23 <| gf rfl b23 <| gf rfl b23 <| gf rfl b23 <| gf rfl b23 <| gf rfl b23 <| st rfl <| pick1 rfl b23 (cd := cB) (v := true) rfl rfl <| seqN [(1, .d ((cLs (cXVariable cS cI) rfl).enc v1)), (3, .d (cI.enc v3)), (4, .box ((cXGeo (cLs cI rfl)).enc v0)), (6, .box ((cXTable cI (cLs cI rfl) (cLs cI rfl) cI).enc v2)), (26, .d (cB.enc true))] (by kernel_rfl) <|
    xn <| cnd1 rfl rfl <| wpC_seq <| reg_s <| x_asg (sc cS ([] : List UInt8) rfl) <| x_asg (sc cB false rfl) <| seqN [(8, .d (cS.enc ([] : List UInt8))), (9, .d (cB.enc false))] (by kernel_rfl) <|
    xn <| wpC_ret <| rt <| rt <| re <| fin h (r1 (ss rfl rfl) <| r1 (ss rfl rfl) <| r0) rfl)
    (fun b23 h => gt' rfl b23 <| st rfl <| mvd rfl rfl <| gt' rfl b23 <| st rfl <| ldb rfl rfl rfl rfl <| gt' rfl b23 <| st rfl <| mvd rfl rfl <| gt' rfl b23 <| st rfl <| ldb rfl rfl rfl rfl <| gt' rfl b23 <| bnd h fun x24 e25 h => st rfl <| o_call (a1 (c := (cXGeo (cLs cI rfl))) (tXGeo (tLs tK)) rfl (a1 (c := (cLs (cXVariable cS cI) rfl)) (tLs (tXVariable tS tK)) rfl (a1 (c := (cXTable cI (cLs cI rfl) (cLs cI rfl) cI)) (tXTable tK (tLs tK) (tLs tK) tK) rfl a0))) (con_impl_cellCount e25) (.inl (so1 sK so0)) <| gt' rfl b23 <| st rfl <| b_geq (k := .i64) rfl rfl <| st rfl <| pick0 rfl b23 (cd := cB) (v := (decide (x24 ≤ v3))) rfl rfl <| seqN [(1, .d ((cLs (cXVariable cS cI) rfl).enc v1)), (3, .d (cI.enc v3)), (4, .box ((cXGeo (cLs cI rfl)).enc v0)), (6, .box ((cXTable cI (cLs cI rfl) (cLs cI rfl) cI).enc v2)), (26, .d (cB.enc (decide (x24 ≤ v3))))] (by kernel_rfl) <|
    xn <| cnd rfl h (fun b26 h => wpC_seq <| reg_s <| x_asg (sc cS ([] : List UInt8) rfl) <| x_asg (sc cB false rfl) <| seqN [(8, .d (cS.enc ([] : List UInt8))), (9, .d (cB.enc false))] (by kernel_rfl) <|
    xn <| wpC_ret <| rt <| rt <| re <| fin h (r1 (ss rfl rfl) <| r1 (ss rfl rfl) <| r0) rfl)
    (fun b26 h => wpC_skip <| kpN [(1, .d ((cLs (cXVariable cS cI) rfl).enc v1)), (3, .d (cI.enc v3)), (4, .box ((cXGeo (cLs cI rfl)).enc v0)), (6, .box ((cXTable cI (cLs cI rfl) (cLs cI rfl) cI).enc v2))] (by kernel_rfl) <| xn <| wpC_seq <| reg_s <| st rfl <| ldb rfl rfl rfl rfl <| st rfl <| mvd rfl rfl <| st rfl <| ldb rfl rfl rfl rfl <| st rfl <| mvd rfl rfl <| bnd h fun x29 e30 h => st rfl <| o_call (a1 (c := (cXGeo (cLs cI rfl))) (tXGeo (tLs tK)) rfl (a1 (c := (cLs (cXVariable cS cI) rfl)) (tLs (tXVariable tS tK)) rfl (a1 (c := (cXTable cI (cLs cI rfl) (cLs cI rfl) cI)) (tXTable tK (tLs tK) (tLs tK) tK) rfl (a1 (c := cI) tK rfl a0)))) (con_impl_cellText e30) (.inl (so1 sS so0)) <| x_asg (ss rfl rfl) <| x_asg (sc cB true rfl) <| seqN [(8, .d (cS.enc x29)), (9, .d (cB.enc true))] (by kernel_rfl) <|
    xn <| wpC_ret <| re <| fin h (r1 (ss rfl rfl) <| r1 (ss rfl rfl) <| r0) rfl)))

def rs_laws_FnExactCellText (r : Bool) : List D := [cB.enc r]
def m4 : MC := .seq (.reg [⟨some 4, .box (.t 0), none⟩,
    ⟨some 6, .box (.t 2), none⟩,
    ⟨some 8, .asg (.c (.bool false)), none⟩] [1, 3, 4, 6])
  (.seq (.reg [⟨some 9, .asg (.c (.int .i64 1048576)), none⟩] [1, 3, 4, 6, 9])
  (.seq (.reg [⟨some 17, .ld 4 1 true, none⟩,
    ⟨some 18, .mv (.t 9), none⟩,
    ⟨some 19, .call 9 [(.t 17), (.t 18)], none⟩,
    ⟨some 9, .asg (.t 19), none⟩] [1, 3, 4, 6, 9])
  (.seq (.kp [1, 3, 4, 6, 9] (.seq (.reg [⟨some 20, .mv (.t 9), none⟩,
    ⟨some 21, .bin .lss (.t 20) (.c (.int .i64 0)), none⟩] [1, 3, 4, 6, 9, 21])
  (.cond (.t 21) (.seq (.reg [⟨some 8, .asg (.c (.bool true)), none⟩] [8])
  (.ret)) (.skip))))
  (.seq (.reg [⟨some 22, .mv (.t 1), none⟩,
    ⟨some 23, .mv (.t 9), none⟩,
    ⟨some 24, .call 10 [(.t 22), (.t 23)], none⟩,
    ⟨some 9, .asg (.t 24), none⟩] [1, 3, 4, 6, 9])
  (.seq (.kp [1, 3, 4, 6, 9] (.seq (.reg [⟨some 25, .mv (.t 9), none⟩,
    ⟨some 26, .bin .lss (.t 25) (.c (.int .i64 0)), none⟩] [1, 3, 4, 6, 9, 26])
  (.cond (.t 26) (.seq (.reg [⟨some 8, .asg (.c (.bool true)), none⟩] [8])
  (.ret)) (.skip))))
  (.seq (.reg [⟨some 27, .ld 6 4 true, none⟩,
    ⟨some 28, .mv (.t 9), none⟩,
    ⟨some 29, .call 11 [(.t 27), (.t 28)], none⟩,
    ⟨some 9, .asg (.t 29), none⟩] [1, 3, 4, 6, 9])
  (.seq (.kp [1, 3, 4, 6] (.seq (.reg [⟨some 30, .mv (.t 9), none⟩,
    ⟨some 31, .bin .lss (.t 30) (.c (.int .i64 0)), none⟩] [1, 3, 4, 6, 31])
  (.cond (.t 31) (.seq (.reg [⟨some 8, .asg (.c (.bool true)), none⟩] [8])
  (.ret)) (.skip))))
  (.seq (.drg [⟨0, ⟨some 33, .ld 4 1 true, none⟩, [34, 35, 36, 37, 38, 39, 40]⟩,
    ⟨1, ⟨some 34, .call 13 [(.t 33)], none⟩, [35, 36, 37, 38, 39, 40]⟩,
    ⟨2, ⟨some 35, .mv (.t 1), none⟩, [33, 34, 36, 37, 38, 39, 40]⟩,
    ⟨3, ⟨some 36, .call 14 [(.t 35)], none⟩, [37, 38, 39, 40]⟩,
    ⟨4, ⟨some 37, .ld 6 4 true, none⟩, [33, 34, 35, 36, 38, 39, 40]⟩,
    ⟨5, ⟨some 38, .call 15 [(.t 37)], none⟩, [39, 40]⟩,
    ⟨6, ⟨some 39, .mv (.t 3), none⟩, [33, 34, 35, 36, 37, 38, 40]⟩,
    ⟨7, ⟨some 40, .call 20 [(.t 34), (.t 36), (.t 38), (.t 39)], none⟩, []⟩]
    [(8, ⟨some 32, .mvt 40, none⟩),
    (9, ⟨some 41, .ext 32 0, none⟩),
    (10, ⟨some 42, .ext 32 1, none⟩),
    (11, ⟨some 10, .asg (.t 41), none⟩),
    (12, ⟨some 11, .asg (.t 42), none⟩)] [1, 3, 4, 6, 10, 11] [10, 11, 32, 40, 41, 42, 1, 3, 4, 6] [([false, false, false, false, false], 0), ([true, false, false, false, false], 1), ([true, false, false, false, false], 2), ([true, true, false, false, false], 2), ([true, true, false, false, false], 3), ([true, false, true, false, false], 1), ([true, true, true, false, false], 3), ([true, true, false, true, false], 2), ([true, true, true, true, false], 4)])
  (.seq (.reg [⟨some 43, .ld 4 1 true, none⟩,
    ⟨some 44, .call 13 [(.t 43)], none⟩,
    ⟨some 12, .alloc (.agg [.slice true []]), none⟩,
    ⟨none, .st 12 (.t 44) 1, none⟩] [1, 3, 4, 6, 10, 11, 12])
  (.seq (.reg [⟨some 45, .mv (.t 1), none⟩,
    ⟨some 46, .call 14 [(.t 45)], none⟩,
    ⟨some 13, .asg (.t 46), none⟩] [1, 3, 4, 6, 10, 11, 12, 13])
  (.seq (.reg [⟨some 47, .ld 6 4 true, none⟩,
    ⟨some 48, .call 15 [(.t 47)], none⟩,
    ⟨some 14, .alloc (.agg [.int .i64 0, .slice true [], .slice true [], .int .i64 0]), none⟩,
    ⟨none, .st 14 (.t 48) 4, none⟩] [1, 3, 4, 6, 10, 11, 12, 13, 14])
  (.seq (.reg [⟨some 50, .ld 12 1 true, none⟩,
    ⟨some 51, .mv (.t 13), none⟩,
    ⟨some 52, .ld 14 4 true, none⟩,
    ⟨some 53, .mv (.t 3), none⟩,
    ⟨some 54, .call 21 [(.t 50), (.t 51), (.t 52), (.t 53)], none⟩,
    ⟨some 49, .mvt 54, none⟩,
    ⟨some 55, .ext 49 0, none⟩,
    ⟨some 56, .ext 49 1, none⟩,
    ⟨some 15, .asg (.t 55), none⟩,
    ⟨some 16, .asg (.t 56), none⟩] [1, 4, 6, 10, 11, 12, 13, 14, 15, 16])
  (.seq (.kp [1, 4, 6, 12, 13, 14] (.seq (.reg [⟨some 57, .mv (.t 15), none⟩,
    ⟨some 58, .mv (.t 10), none⟩,
    ⟨some 59, .bin .neq (.t 57) (.t 58), none⟩,
    ⟨some 60, .mv (.t 59), none⟩,
    ⟨some 61, .mv (.t 16), some (60, false)⟩,
    ⟨some 62, .mv (.t 11), some (60, false)⟩,
    ⟨some 63, .eqb true (.t 61) (.t 62), some (60, false)⟩,
    ⟨some 64, .pick (.t 60) (.c (.bool true)) (.t 63), none⟩] [1, 4, 6, 12, 13, 14, 64])
  (.cond (.t 64) (.seq (.reg [⟨some 8, .asg (.c (.bool false)), none⟩] [8])
  (.ret)) (.skip))))
  (.seq (.kp [1, 6, 13, 14] (.seq (.drw [⟨0, ⟨some 65, .ld 12 1 true, none⟩, [66, 67, 68, 69]⟩,
    ⟨1, ⟨some 66, .ld 4 1 true, none⟩, [65, 67, 68, 69]⟩,
    ⟨2, ⟨some 67, .call 13 [(.t 66)], none⟩, [65, 68, 69]⟩,
    ⟨3, ⟨some 68, .call 17 [(.t 65), (.t 67)], none⟩, [69]⟩,
    ⟨4, ⟨some 69, .nt (.t 68), none⟩, []⟩]
    [] [1, 6, 13, 14, 69])
  (.cond (.t 69) (.seq (.reg [⟨some 8, .asg (.c (.bool false)), none⟩] [8])
  (.ret)) (.skip))))
  (.seq (.kp [6, 14] (.seq (.reg [⟨some 70, .mv (.t 13), none⟩,
    ⟨some 71, .mv (.t 1), none⟩,
    ⟨some 72, .call 14 [(.t 71)], none⟩,
    ⟨some 73, .call 18 [(.t 70), (.t 72)], none⟩,
    ⟨some 74, .nt (.t 73), none⟩] [6, 14, 74])
  (.cond (.t 74) (.seq (.reg [⟨some 8, .asg (.c (.bool false)), none⟩] [8])
  (.ret)) (.skip))))
  (.seq (.kp [] (.seq (.drw [⟨0, ⟨some 75, .ld 14 4 true, none⟩, [76, 77, 78, 79]⟩,
    ⟨1, ⟨some 76, .ld 6 4 true, none⟩, [75, 77, 78, 79]⟩,
    ⟨2, ⟨some 77, .call 15 [(.t 76)], none⟩, [75, 78, 79]⟩,
    ⟨3, ⟨some 78, .call 19 [(.t 75), (.t 77)], none⟩, [79]⟩,
    ⟨4, ⟨some 79, .nt (.t 78), none⟩, []⟩]
    [] [79])
  (.cond (.t 79) (.seq (.reg [⟨some 8, .asg (.c (.bool false)), none⟩] [8])
  (.ret)) (.skip))))
  (.seq (.reg [⟨some 8, .asg (.c (.bool true)), none⟩] [8])
  (.ret))))))))))))))))))
theorem con_laws_FnExactCellText {v0 : XGeo} {v1 : (List XVariable)} {v2 : XTable} {v3 : Int} {r : Bool} (h : sh_laws_FnExactCellText v0 v1 v2 v3 = some r) : Con Tryd.prog 4 [(cXGeo (cLs cI rfl)).enc v0, (cLs (cXVariable cS cI) rfl).enc v1, (cXTable cI (cLs cI rfl) (cLs cI rfl) cI).enc v2, cI.enc v3] [] (rs_laws_FnExactCellText r) := by
  delta sh_laws_FnExactCellText at h
  refine top (out := none) (f := Tryd.f4) (m := m4) (rs := [.t 8]) (by kernel_rfl) rfl (by kernel_rfl) (by kernel_rfl) (by kernel_rfl) (by kernel_rfl) (by kernel_rfl) ?_
  exact
   ini [(0, .d ((cXGeo (cLs cI rfl)).enc v0)), (1, .d ((cLs (cXVariable cS cI) rfl).enc v1)), (2, .d ((cXTable cI (cLs cI rfl) (cLs cI rfl) cI).enc v2)), (3, .d (cI.enc v3))] rfl <| wpC_seq <| reg_s <| x_box (ss rfl rfl) <| x_box (ss rfl rfl) <| x_asg (sc cB false rfl) <| seqN [(1, .d ((cLs (cXVariable cS cI) rfl).enc v1)), (3, .d (cI.enc v3)), (4, .box ((cXGeo (cLs cI rfl)).enc v0)), (6, .box ((cXTable cI (cLs cI rfl) (cLs cI rfl) cI).enc v2))] (by kernel_rfl) <|
    xn <| wpC_seq <| reg_s <| x_asg (sc cI (1048576 : Int) rfl) <| seqN [(1, .d ((cLs (cXVariable cS cI) rfl).enc v1)), (3, .d (cI.enc v3)), (4, .box ((cXGeo (cLs cI rfl)).enc v0)), (6, .box ((cXTable cI (cLs cI rfl) (cLs cI rfl) cI).enc v2)), (9, .d (cI.enc (1048576 : Int)))] (by kernel_rfl) <|
    xn <| wpC_seq <| reg_s <| st rfl <| ldb rfl rfl rfl rfl <| st rfl <| mvd rfl rfl <| bnd h fun x3 e4 h => st rfl <| o_call (a1 (c := (cXGeo (cLs cI rfl))) (tXGeo (tLs tK)) rfl (a1 (c := cI) tK rfl a0)) (con_laws_szGeo e4) (.inl (so1 sK so0)) <| x_asg (ss rfl rfl) <| seqN [(1, .d ((cLs (cXVariable cS cI) rfl).enc v1)), (3, .d (cI.enc v3)), (4, .box ((cXGeo (cLs cI rfl)).enc v0)), (6, .box ((cXTable cI (cLs cI rfl) (cLs cI rfl) cI).enc v2)), (9, .d (cI.enc x3))] (by kernel_rfl) <|
    xn <| wpC_seq <| wpC_kp <| wpC_seq <| reg_s <| st rfl <| mvd rfl rfl <| st rfl <| b_lss (k := .i64) rfl rfl <| seqN [(1, .d ((cLs (cXVariable cS cI) rfl).enc v1)), (3, .d (cI.enc v3)), (4, .box ((cXGeo (cLs cI rfl)).enc v0)), (6, .box ((cXTable cI (cLs cI rfl) (cLs cI rfl) cI).enc v2)), (9, .d (cI.enc x3)), (21, .d (cB.enc (decide (x3 < (0 : Int)))))] (by kernel_rfl) <|
    xn <| cnd rfl h (fun b6 h => wpC_seq <| reg_s <| x_asg (sc cB true rfl) <| seqN [(8, .d (cB.enc true))] (by kernel_rfl) <|
    xn <| wpC_ret <| rt <| rt <| re <| fin h (r1 (ss rfl rfl) <| r0) rfl)
    (fun b6 h => wpC_skip <| kpN [(1, .d ((cLs (cXVariable cS cI) rfl).enc v1)), (3, .d (cI.enc v3)), (4, .box ((cXGeo (cLs cI rfl)).enc v0)), (6, .box ((cXTable cI (cLs cI rfl) (cLs cI rfl) cI).enc v2)), (9, .d (cI.enc x3))] (by kernel_rfl) <| xn <| wpC_seq <| reg_s <| st rfl <| mvd rfl rfl <| st rfl <| mvd rfl rfl <| bnd h fun x9 e10 h => st rfl <| o_call (a1 (c := (cLs (cXVariable cS cI) rfl)) (tLs (tXVariable tS tK)) rfl (a1 (c := cI) tK rfl a0)) (con_laws_szVariableS e10) (.inl (so1 sK so0)) <| x_asg (ss rfl rfl) <| seqN [(1, .d ((cLs (cXVariable cS cI) rfl).enc v1)), (3, .d (cI.enc v3)), (4, .box ((cXGeo (cLs cI rfl)).enc v0)), (6, .box ((cXTable cI (cLs cI rfl) (cLs cI rfl) cI).enc v2)), (9, .d (cI.enc x9))] (by kernel_rfl) <|
    xn <| wpC_seq <| wpC_kp <| wpC_seq <| reg_s <| st rfl <| mvd rfl rfl <| st rfl <| b_lss (k := .i64) rfl rfl <| seqN [(1, .d ((cLs (cXVariable cS cI) rfl).enc v1)), (3, .d (cI.enc v3)), (4, .box ((cXGeo (cLs cI rfl)).enc v0)), (6, .box ((cXTable cI (cLs cI rfl) (cLs cI rfl) cI).enc v2)), (9, .d (cI.enc x9)), (26, .d (cB.enc (decide (x9 < (0 : Int)))))] (by kernel_rfl) <|
    xn <| cnd rfl h (fun b12 h => wpC_seq <| reg_s <| x_asg (sc cB true rfl) <| seqN [(8, .d (cB.enc true))] (by kernel_rfl) <|
    xn <| wpC_ret <| rt <| rt <| re <| fin h (r1 (ss rfl rfl) <| r0) rfl)
    (fun b12 h => wpC_skip <| kpN [(1, .d ((cLs (cXVariable cS cI) rfl).enc v1)), (3, .d (cI.enc v3)), (4, .box ((cXGeo (cLs cI rfl)).enc v0)), (6, .box ((cXTable cI (cLs cI rfl) (cLs cI rfl) cI).enc v2)), (9, .d (cI.enc x9))] (by kernel_rfl) <| xn <| wpC_seq <| reg_s <| st rfl <| ldb rfl rfl rfl rfl <| st rfl <| mvd rfl rfl <| bnd h fun x15 e16 h => st rfl <| o_call (a1 (c := (cXTable cI (cLs cI rfl) (cLs cI rfl) cI)) (tXTable tK (tLs tK) (tLs tK) tK) rfl (a1 (c := cI) tK rfl a0)) (con_laws_szTable e16) (.inl (so1 sK so0)) <| x_asg (ss rfl rfl) <| seqN [(1, .d ((cLs (cXVariable cS cI) rfl).enc v1)), (3, .d (cI.enc v3)), (4, .box ((cXGeo (cLs cI rfl)).enc v0)), (6, .box ((cXTable cI (cLs cI rfl) (cLs cI rfl) cI).enc v2)), (9, .d (cI.enc x15))] (by kernel_rfl) <|
    xn <| wpC_seq <| wpC_kp <| wpC_seq <| reg_s <| st rfl <| mvd rfl rfl <| st rfl <| b_lss (k := .i64) rfl rfl <| seqN [(1, .d ((cLs (cXVariable cS cI) rfl).enc v1)), (3, .d (cI.enc v3)), (4, .box ((cXGeo (cLs cI rfl)).enc v0)), (6, .box ((cXTable cI (cLs cI rfl) (cLs cI rfl) cI).enc v2)), (31, .d (cB.enc (decide (x15 < (0 : Int)))))] (by kernel_rfl) <|
    xn <| cnd rfl h (fun b18 h => wpC_seq <| reg_s <| x_asg (sc cB true rfl) <| seqN [(8, .d (cB.enc true))] (by kernel_rfl) <|
    xn <| wpC_ret <| rt <| rt <| re <| fin h (r1 (ss rfl rfl) <| r0) rfl)
    (fun b18 h => wpC_skip <| kpN [(1, .d ((cLs (cXVariable cS cI) rfl).enc v1)), (3, .d (cI.enc v3)), (4, .box ((cXGeo (cLs cI rfl)).enc v0)), (6, .box ((cXTable cI (cLs cI rfl) (cLs cI rfl) cI).enc v2))] (by kernel_rfl) <| xn <| wpC_seq <| drg_s <| pst rfl <| ldb rfl rfl rfl rfl ⟨rfl, bndp h fun x27 e28 h => pst rfl <| o_call (a1 (c := (cXGeo (cLs cI rfl))) (tXGeo (tLs tK)) rfl a0) (con_laws_toGeo e28) (.inl (so1 (sXGeo (sLo sK)) so0)) ⟨rfl, pst rfl <| mvd rfl rfl ⟨rfl, bndp h fun x29 e30 h => pst rfl <| o_call (a1 (c := (cLs (cXVariable cS cI) rfl)) (tLs (tXVariable tS tK)) rfl a0) (con_laws_toVariableS e30) (.inl (so1 (sLo (sXVariable sS sK)) so0)) ⟨rfl, pst rfl <| ldb rfl rfl rfl rfl ⟨rfl, bndp h fun x31 e32 h => pst rfl <| o_call (a1 (c := (cXTable cI (cLs cI rfl) (cLs cI rfl) cI)) (tXTable tK (tLs tK) (tLs tK) tK) rfl a0) (con_laws_toTable e32) (.inl (so1 (sXTable sK (sLo sK) (sLo sK) sK) so0)) ⟨rfl, pst rfl <| mvd rfl rfl ⟨rfl, bndp h fun x33 e34 h => pst rfl <| o_call (a1 (c := (cXGeo (cLo cI))) (tXGeo (tLo tK)) rfl (a1 (c := (cLo (cXVariable cS cI))) (tLo (tXVariable tS tK)) rfl (a1 (c := (cXTable cI (cLo cI) (cLo cI) cI)) (tXTable tK (tLo tK) (tLo tK) tK) rfl (a1 (c := cI) tK rfl a0)))) (con_spec_CellText e34) (.inl (so1 sS (so1 sB so0))) ⟨rfl, preN <| gr_s [(1, .d ((cLs (cXVariable cS cI) rfl).enc v1)), (3, .d (cI.enc v3)), (4, .box ((cXGeo (cLs cI rfl)).enc v0)), (6, .box ((cXTable cI (cLs cI rfl) (cLs cI rfl) cI).enc v2))] [([false, false, false, false, false], [(10, .un), (11, .un), (32, .un), (40, .tup [some (cS.enc x33.1), some (cB.enc x33.2)]), (41, .un), (42, .un)]),
     ([true, false, false, false, false], [(10, .un), (11, .un), (32, .tup [some (cS.enc x33.1), some (cB.enc x33.2)]), (40, .un), (41, .un), (42, .un)]),
     ([true, true, false, false, false], [(10, .un), (11, .un), (32, .tup [none, some (cB.enc x33.2)]), (40, .un), (41, .d (cS.enc x33.1)), (42, .un)]),
     ([true, false, true, false, false], [(10, .un), (11, .un), (32, .tup [some (cS.enc x33.1), none]), (40, .un), (41, .un), (42, .d (cB.enc x33.2))]),
     ([true, true, true, false, false], [(10, .un), (11, .un), (32, .tup [none, none]), (40, .un), (41, .d (cS.enc x33.1)), (42, .d (cB.enc x33.2))]),
     ([true, true, false, true, false], [(10, .d (cS.enc x33.1)), (11, .un), (32, .tup [none, some (cB.enc x33.2)]), (40, .un), (41, .d (cS.enc x33.1)), (42, .un)]),
     ([true, true, true, true, false], [(10, .d (cS.enc x33.1)), (11, .un), (32, .tup [none, none]), (40, .un), (41, .d (cS.enc x33.1)), (42, .d (cB.enc x33.2))]),
     ([true, true, true, true, true], [(10, .d (cS.enc x33.1)), (11, .d (cB.enc x33.2)), (32, .tup [none, none]), (40, .un), (41, .d (cS.enc x33.1)), (42, .d (cB.enc x33.2))])] [(1, .d ((cLs (cXVariable cS cI) rfl).enc v1)), (3, .d (cI.enc v3)), (4, .box ((cXGeo (cLs cI rfl)).enc v0)), (6, .box ((cXTable cI (cLs cI rfl) (cLs cI rfl) cI).enc v2)), (10, .d (cS.enc x33.1)), (11, .d (cB.enc x33.2))] [([false, false, false, false, false], [])] (by kernel_rfl) (sa1 rfl (by kernel_rfl) <| sa0) rfl
    (ob1 rfl rfl rfl (x_mvt rfl <| obN (by kernel_rfl)) <|
    ob1 rfl rfl rfl (x_ext rfl rfl <| obN (by kernel_rfl)) <|
    ob1 rfl rfl rfl (x_ext rfl rfl <| obN (by kernel_rfl)) <|
    ob1 rfl rfl rfl (x_ext rfl rfl <| obN (by kernel_rfl)) <|
    ob1 rfl rfl rfl (x_asg (ss rfl rfl) <| obN (by kernel_rfl)) <|
    ob1 rfl rfl rfl (x_ext rfl rfl <| obN (by kernel_rfl)) <|
    ob1 rfl rfl rfl (x_asg (ss rfl rfl) <| obN (by kernel_rfl)) <|
    ob1 rfl rfl rfl (x_ext rfl rfl <| obN (by kernel_rfl)) <|
    ob1 rfl rfl rfl (x_asg (ss rfl rfl) <| obN (by kernel_rfl)) <|
    ob0)
    (by kernel_rfl) <|
    xn <| wpC_seq <| reg_s <| st rfl <| ldb rfl rfl rfl rfl <| bnd h fun x37 e38 h => st rfl <| o_call (a1 (c := (cXGeo (cLs cI rfl))) (tXGeo (tLs tK)) rfl a0) (con_laws_toGeo e38) (.inl (so1 (sXGeo (sLo sK)) so0)) <| x_all (cXGeo (cLo cI)) (⟨([] : List Int)⟩ : XGeo) rfl <| x_stb (so rfl rfl) rfl (Cd.h_sz _ _) rfl <| seqN [(1, .d ((cLs (cXVariable cS cI) rfl).enc v1)), (3, .d (cI.enc v3)), (4, .box ((cXGeo (cLs cI rfl)).enc v0)), (6, .box ((cXTable cI (cLs cI rfl) (cLs cI rfl) cI).enc v2)), (10, .d (cS.enc x33.1)), (11, .d (cB.enc x33.2)), (12, .box ((cXGeo (cLo cI)).enc x37))] (by kernel_rfl) <|
    xn <| wpC_seq <| reg_s <| st rfl <| mvd rfl rfl <| bnd h fun x41 e42 h => st rfl <| o_call (a1 (c := (cLs (cXVariable cS cI) rfl)) (tLs (tXVariable tS tK)) rfl a0) (con_laws_toVariableS e42) (.inl (so1 (sLo (sXVariable sS sK)) so0)) <| x_asg (so rfl rfl) <| seqN [(1, .d ((cLs (cXVariable cS cI) rfl).enc v1)), (3, .d (cI.enc v3)), (4, .box ((cXGeo (cLs cI rfl)).enc v0)), (6, .box ((cXTable cI (cLs cI rfl) (cLs cI rfl) cI).enc v2)), (10, .d (cS.enc x33.1)), (11, .d (cB.enc x33.2)), (12, .box ((cXGeo (cLo cI)).enc x37)), (13, .d ((cLo (cXVariable cS cI)).enc x41))] (by kernel_rfl) <|
    xn <| wpC_seq <| reg_s <| st rfl <| ldb rfl rfl rfl rfl <| bnd h fun x45 e46 h => st rfl <| o_call (a1 (c := (cXTable cI (cLs cI rfl) (cLs cI rfl) cI)) (tXTable tK (tLs tK) (tLs tK) tK) rfl a0) (con_laws_toTable e46) (.inl (so1 (sXTable sK (sLo sK) (sLo sK) sK) so0)) <| x_all (cXTable cI (cLo cI) (cLo cI) cI) (⟨(0 : Int), ([] : List Int), ([] : List Int), (0 : Int)⟩ : XTable) rfl <| x_stb (so rfl rfl) rfl (Cd.h_sz _ _) rfl <| seqN [(1, .d ((cLs (cXVariable cS cI) rfl).enc v1)), (3, .d (cI.enc v3)), (4, .box ((cXGeo (cLs cI rfl)).enc v0)), (6, .box ((cXTable cI (cLs cI rfl) (cLs cI rfl) cI).enc v2)), (10, .d (cS.enc x33.1)), (11, .d (cB.enc x33.2)), (12, .box ((cXGeo (cLo cI)).enc x37)), (13, .d ((cLo (cXVariable cS cI)).enc x41)), (14, .box ((cXTable cI (cLo cI) (cLo cI) cI).enc x45))] (by kernel_rfl) <|
    xn <| wpC_seq <| reg_s <| st rfl <| ldbo rfl rfl rfl rfl <| st rfl <| mvo rfl rfl <| st rfl <| ldbo rfl rfl rfl rfl <| st rfl <| mvd rfl rfl <| bnd h fun x49 e50 h => st rfl <| o_call (a1 (c := (cXGeo (cLo cI))) (tXGeo (tLo tK)) rfl (a1 (c := (cLo (cXVariable cS cI))) (tLo (tXVariable tS tK)) rfl (a1 (c := (cXTable cI (cLo cI) (cLo cI) cI)) (tXTable tK (tLo tK) (tLo tK) tK) rfl (a1 (c := cI) tK rfl a0)))) (con_impl_CellText e50) (.inl (so1 sS (so1 sB so0))) <| x_mvt rfl <| x_ext rfl rfl <| x_ext rfl rfl <| x_asg (ss rfl rfl) <| x_asg (ss rfl rfl) <| seqN [(1, .d ((cLs (cXVariable cS cI) rfl).enc v1)), (4, .box ((cXGeo (cLs cI rfl)).enc v0)), (6, .box ((cXTable cI (cLs cI rfl) (cLs cI rfl) cI).enc v2)), (10, .d (cS.enc x33.1)), (11, .d (cB.enc x33.2)), (12, .box ((cXGeo (cLo cI)).enc x37)), (13, .d ((cLo (cXVariable cS cI)).enc x41)), (14, .box ((cXTable cI (cLo cI) (cLo cI) cI).enc x45)), (15, .d (cS.enc x49.1)), (16, .d (cB.enc x49.2))] (by kernel_rfl) <|
    xn <| wpC_seq <| wpC_kp <| wpC_seq <| reg_s <| st rfl <| mvd rfl rfl <| st rfl <| mvd rfl rfl <| st rfl <| b_sne rfl rfl <| st rfl <| mvd rfl rfl <| ite_k h (fun b55 h => gf rfl b55 <| gf rfl b55 <| gf rfl b55 <| st rfl <| pick1 rfl b55 (cd := cB) (v := true) rfl rfl <| seqN [(1, .d ((cLs (cXVariable cS cI) rfl).enc v1)), (4, .box ((cXGeo (cLs cI rfl)).enc v0)), (6, .box ((cXTable cI (cLs cI rfl) (cLs cI rfl) cI).enc v2)), (12, .box ((cXGeo (cLo cI)).enc x37)), (13, .d ((cLo (cXVariable cS cI)).enc x41)), (14, .box ((cXTable cI (cLo cI) (cLo cI) cI).enc x45)), (64, .d (cB.enc true))] (by kernel_rfl) <|
    xn <| cnd1 rfl rfl <| wpC_seq <| reg_s <| x_asg (sc cB false rfl) <| seqN [(8, .d (cB.enc false))] (by kernel_rfl) <|
    xn <| wpC_ret <| rt <| rt <| re <| fin h (r1 (ss rfl rfl) <| r0) rfl)
    (fun b55 h => gt' rfl b55 <| st rfl <| mvd rfl rfl <| gt' rfl b55 <| st rfl <| mvd rfl rfl <| gt' rfl b55 <| st rfl <| eqb1 rfl rfl <| st rfl <| pick0 rfl b55 (cd := cB) (v := (x49.2 != x33.2)) rfl rfl <| seqN [(1, .d ((cLs (cXVariable cS cI) rfl).enc v1)), (4, .box ((cXGeo (cLs cI rfl)).enc v0)), (6, .box ((cXTable cI (cLs cI rfl) (cLs cI rfl) cI).enc v2)), (12, .box ((cXGeo (cLo cI)).enc x37)), (13, .d ((cLo (cXVariable cS cI)).enc x41)), (14, .box ((cXTable cI (cLo cI) (cLo cI) cI).enc x45)), (64, .d (cB.enc (x49.2 != x33.2)))] (by kernel_rfl) <|
    xn <| cnd rfl h (fun b56 h => wpC_seq <| reg_s <| x_asg (sc cB false rfl) <| seqN [(8, .d (cB.enc false))] (by kernel_rfl) <|
    xn <| wpC_ret <| rt <| rt <| re <| fin h (r1 (ss rfl rfl) <| r0) rfl)
    (fun b56 h => wpC_skip <| kpN [(1, .d ((cLs (cXVariable cS cI) rfl).enc v1)), (4, .box ((cXGeo (cLs cI rfl)).enc v0)), (6, .box ((cXTable cI (cLs cI rfl) (cLs cI rfl) cI).enc v2)), (12, .box ((cXGeo (cLo cI)).enc x37)), (13, .d ((cLo (cXVariable cS cI)).enc x41)), (14, .box ((cXTable cI (cLo cI) (cLo cI) cI).enc x45))] (by kernel_rfl) <| xn <| wpC_seq <| wpC_kp <| wpC_seq <| drw_s <| pst rfl <| ldbo rfl rfl rfl rfl ⟨rfl, pst rfl <| ldb rfl rfl rfl rfl ⟨rfl, bndp h fun x70 e71 h => pst rfl <| o_call (a1 (c := (cXGeo (cLs cI rfl))) (tXGeo (tLs tK)) rfl a0) (con_laws_toGeo e71) (.inl (so1 (sXGeo (sLo sK)) so0)) ⟨rfl, bndp h fun x72 e73 h => pst rfl <| o_call (a1 (c := (cXGeo (cLo cI))) (tXGeo (tLo tK)) rfl (a1 (c := (cXGeo (cLo cI))) (tXGeo (tLo tK)) rfl a0)) (con_laws_eqGeo e73) (.inl (so1 sB so0)) ⟨rfl, pst rfl <| o_nt rfl ⟨rfl, preN <| seqN [(1, .d ((cLs (cXVariable cS cI) rfl).enc v1)), (6, .box ((cXTable cI (cLs cI rfl) (cLs cI rfl) cI).enc v2)), (13, .d ((cLo (cXVariable cS cI)).enc x41)), (14, .box ((cXTable cI (cLo cI) (cLo cI) cI).enc x45)), (69, .d (cB.enc (!x72)))] (by kernel_rfl) <|
    xn <| cnd rfl h (fun b74 h => wpC_seq <| reg_s <| x_asg (sc cB false rfl) <| seqN [(8, .d (cB.enc false))] (by kernel_rfl) <|
    xn <| wpC_ret <| rt <| rt <| re <| fin h (r1 (ss rfl rfl) <| r0) rfl)
    (fun b74 h => wpC_skip <| kpN [(1, .d ((cLs (cXVariable cS cI) rfl).enc v1)), (6, .box ((cXTable cI (cLs cI rfl) (cLs cI rfl) cI).enc v2)), (13, .d ((cLo (cXVariable cS cI)).enc x41)), (14, .box ((cXTable cI (cLo cI) (cLo cI) cI).enc x45))] (by kernel_rfl) <| xn <| wpC_seq <| wpC_kp <| wpC_seq <| reg_s <| st rfl <| mvo rfl rfl <| st rfl <| mvd rfl rfl <| bnd h fun x88 e89 h => st rfl <| o_call (a1 (c := (cLs (cXVariable cS cI) rfl)) (tLs (tXVariable tS tK)) rfl a0) (con_laws_toVariableS e89) (.inl (so1 (sLo (sXVariable sS sK)) so0)) <| bnd h fun x90 e91 h => st rfl <| o_call (a1 (c := (cLo (cXVariable cS cI))) (tLo (tXVariable tS tK)) rfl (a1 (c := (cLo (cXVariable cS cI))) (tLo (tXVariable tS tK)) rfl a0)) (con_laws_eqVariableS e91) (.inl (so1 sB so0)) <| st rfl <| o_nt rfl <| seqN [(6, .box ((cXTable cI (cLs cI rfl) (cLs cI rfl) cI).enc v2)), (14, .box ((cXTable cI (cLo cI) (cLo cI) cI).enc x45)), (74, .d (cB.enc (!x90)))] (by kernel_rfl) <|
    xn <| cnd rfl h (fun b92 h => wpC_seq <| reg_s <| x_asg (sc cB false rfl) <| seqN [(8, .d (cB.enc false))] (by kernel_rfl) <|
    xn <| wpC_ret <| rt <| rt <| re <| fin h (r1 (ss rfl rfl) <| r0) rfl)
    (fun b92 h => wpC_skip <| kpN [(6, .box ((cXTable cI (cLs cI rfl) (cLs cI rfl) cI).enc v2)), (14, .box ((cXTable cI (cLo cI) (cLo cI) cI).enc x45))] (by kernel_rfl) <| xn <| wpC_seq <| wpC_kp <| wpC_seq <| drw_s <| pst rfl <| ldbo rfl rfl rfl rfl ⟨rfl, pst rfl <| ldb rfl rfl rfl rfl ⟨rfl, bndp h fun x106 e107 h => pst rfl <| o_call (a1 (c := (cXTable cI (cLs cI rfl) (cLs cI rfl) cI)) (tXTable tK (tLs tK) (tLs tK) tK) rfl a0) (con_laws_toTable e107) (.inl (so1 (sXTable sK (sLo sK) (sLo sK) sK) so0)) ⟨rfl, bndp h fun x108 e109 h => pst rfl <| o_call (a1 (c := (cXTable cI (cLo cI) (cLo cI) cI)) (tXTable tK (tLo tK) (tLo tK) tK) rfl (a1 (c := (cXTable cI (cLo cI) (cLo cI) cI)) (tXTable tK (tLo tK) (tLo tK) tK) rfl a0)) (con_laws_eqTable e109) (.inl (so1 sB so0)) ⟨rfl, pst rfl <| o_nt rfl ⟨rfl, preN <| seqN [(79, .d (cB.enc (!x108)))] (by kernel_rfl) <|
    xn <| cnd rfl h (fun b110 h => wpC_seq <| reg_s <| x_asg (sc cB false rfl) <| seqN [(8, .d (cB.enc false))] (by kernel_rfl) <|
    xn <| wpC_ret <| rt <| rt <| re <| fin h (r1 (ss rfl rfl) <| r0) rfl)
    (fun b110 h => wpC_skip <| kpN [] (by kernel_rfl) <| xn <| wpC_seq <| reg_s <| x_asg (sc cB true rfl) <| seqN [(8, .d (cB.enc true))] (by kernel_rfl) <|
    xn <| wpC_ret <| re <| fin h (r1 (ss rfl rfl) <| r0) rfl)⟩⟩⟩⟩⟩))⟩⟩⟩⟩⟩))⟩⟩⟩⟩⟩⟩⟩⟩)))
end AS.W
