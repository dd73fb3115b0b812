/- The program computes the plain functions. No condition. -/
import Derived.Test.YtpllepipjbiefaaDoorQReportTextS
import Derived.Test.YtpllepipjbiefaaDoorProg
import Derived.Test.YtpllepipjbiefaaDoorQReportTextX
import Derived.Test.YtpllepipjbiefaaDoorQReportTextL1
set_option maxRecDepth 100000
set_option linter.unusedVariables false
set_option linter.unusedSimpArgs false
namespace AS.W
open Go Go.Proofs
def rs_impl_cellText (r : (List UInt8)) : List D := [cS.enc r]
def m33 : MC := .seq (.reg [⟨some 4, .box (.t 0), none⟩,
    ⟨some 6, .box (.t 2), none⟩,
    ⟨some 8, .asg (.c (.str [])), none⟩] [1, 3, 4, 6])
  (.seq (.reg [⟨some 15, .ld 4 1 true, none⟩,
    ⟨some 16, .mv (.t 1), none⟩,
    ⟨some 17, .ld 6 4 true, none⟩,
    ⟨some 18, .mv (.t 3), none⟩,
    ⟨some 19, .call 59 [(.t 15), (.t 16), (.t 17), (.t 18)], none⟩,
    ⟨some 14, .mvt 19, none⟩,
    ⟨some 20, .ext 14 0, none⟩,
    ⟨some 21, .ext 14 1, none⟩,
    ⟨some 9, .asg (.t 20), none⟩,
    ⟨some 10, .asg (.t 21), none⟩] [1, 6, 9, 10])
  (.seq (.reg [⟨some 22, .mv (.t 9), none⟩,
    ⟨some 23, .call 34 [(.t 22)], none⟩,
    ⟨some 24, .bin .add (.c (.str [97, 114, 101, 97, 32])) (.t 23), none⟩,
    ⟨some 11, .asg (.t 24), none⟩] [1, 6, 10, 11])
  (.seq (.kp [11] (.seq (.reg [⟨some 25, .fa 6 1 1, none⟩,
    ⟨some 26, .ld 25 1 false, none⟩,
    ⟨some 27, .len false (.t 26), none⟩,
    ⟨some 28, .mv (.c (.int .i64 0)), none⟩] [1, 6, 10, 11, 25, 26, 27, 28])
  (.blk 0 (.loop (.seq (.reg [⟨some 29, .bin .lss (.t 28) (.t 27), none⟩] [1, 6, 10, 11, 25, 26, 27, 28, 29])
  (.seq (.kp [1, 6, 10, 11, 25, 26, 27, 28] (.cond (.t 29) (.skip) (.exit 0)))
  (.seq (.kp [1, 6, 10, 11, 25, 26, 27, 28] (.blk 1 (.seq (.reg [⟨some 30, .mv (.t 28), none⟩,
    ⟨some 31, .ia 26 (.t 28) 1, none⟩,
    ⟨some 32, .ld 31 1 false, none⟩,
    ⟨some 12, .asg (.t 30), none⟩,
    ⟨some 13, .asg (.t 32), none⟩] [1, 6, 10, 11, 12, 13, 25, 26, 27, 28])
  (.drw [⟨0, ⟨some 33, .mv (.t 11), none⟩, [34, 35, 36, 37, 38, 39, 40, 41, 42, 43, 44, 45, 46, 47]⟩,
    ⟨1, ⟨some 34, .mv (.t 1), none⟩, [33, 35, 36, 37, 38, 39, 40, 41, 42, 43, 44, 45, 46, 47]⟩,
    ⟨2, ⟨some 35, .mv (.t 13), none⟩, [33, 34, 36, 37, 38, 39, 40, 41, 42, 43, 44, 45, 46, 47]⟩,
    ⟨3, ⟨some 36, .ia 34 (.t 35) 2, none⟩, [33, 37, 38, 39, 40, 41, 42, 43, 44, 45, 46, 47]⟩,
    ⟨4, ⟨some 37, .fa 36 0 0, none⟩, [33, 38, 39, 40, 41, 42, 43, 44, 45, 46, 47]⟩,
    ⟨5, ⟨some 38, .ld 37 1 false, none⟩, [33, 39, 40, 41, 42, 43, 44, 45, 46, 47]⟩,
    ⟨6, ⟨some 39, .bin .add (.c (.str [32])) (.t 38), none⟩, [33, 40, 41, 42, 43, 44, 45, 46, 47]⟩,
    ⟨7, ⟨some 40, .bin .add (.t 39) (.c (.str [61])), none⟩, [33, 41, 42, 43, 44, 45, 46, 47]⟩,
    ⟨8, ⟨some 41, .mv (.t 10), none⟩, [33, 34, 35, 36, 37, 38, 39, 40, 42, 43, 44, 45, 46, 47]⟩,
    ⟨9, ⟨some 42, .mv (.t 12), none⟩, [33, 34, 35, 36, 37, 38, 39, 40, 41, 43, 44, 45, 46, 47]⟩,
    ⟨10, ⟨some 43, .ia 41 (.t 42) 1, none⟩, [33, 34, 35, 36, 37, 38, 39, 40, 44, 45, 46, 47]⟩,
    ⟨11, ⟨some 44, .ld 43 1 false, none⟩, [33, 34, 35, 36, 37, 38, 39, 40, 45, 46, 47]⟩,
    ⟨12, ⟨some 45, .call 34 [(.t 44)], none⟩, [33, 34, 35, 36, 37, 38, 39, 40, 46, 47]⟩,
    ⟨13, ⟨some 46, .bin .add (.t 40) (.t 45), none⟩, [33, 47]⟩,
    ⟨14, ⟨some 47, .bin .add (.t 33) (.t 46), none⟩, []⟩]
    [(15, ⟨some 11, .asg (.t 47), none⟩)] [1, 6, 10, 11, 25, 26, 27, 28]))))
  (.reg [⟨some 48, .bin .add (.t 28) (.c (.int .i64 1)), none⟩,
    ⟨some 28, .mv (.t 48), none⟩] [1, 6, 10, 11, 25, 26, 27, 28]))))))))
  (.seq (.reg [⟨some 49, .mv (.t 11), none⟩,
    ⟨some 8, .asg (.t 49), none⟩] [8])
  (.ret)))))
theorem con_impl_cellText {v0 : XGeo} {v1 : (List XVariable)} {v2 : XTable} {v3 : Int} {r : (List UInt8)} (h : sh_impl_cellText v0 v1 v2 v3 = some r) : Con Tryd.prog 33 [(cXGeo (cLs cI rfl)).enc v0, (cLs (cXVariable cS cI) rfl).enc v1, (cXTable cI (cLs cI rfl) (cLs cI rfl) cI).enc v2, cI.enc v3] [] (rs_impl_cellText r) := by
  delta sh_impl_cellText at h
  refine top (out := none) (f := Tryd.f33) (m := m33) (rs := [.t 8]) (by kernel_rfl) rfl (by kernel_rfl) (by kernel_rfl) (by kernel_rfl) (by kernel_rfl) (by kernel_rfl) ?_
  exact
   ini [(0, .d ((cXGeo (cLs cI rfl)).enc v0)), (1, .d ((cLs (cXVariable cS cI) rfl).enc v1)), (2, .d ((cXTable cI (cLs cI rfl) (cLs cI rfl) cI).enc v2)), (3, .d (cI.enc v3))] rfl <| wpC_seq <| reg_s <| x_box (ss rfl rfl) <| x_box (ss rfl rfl) <| x_asg (sc cS ([] : List UInt8) rfl) <| seqN [(1, .d ((cLs (cXVariable cS cI) rfl).enc v1)), (3, .d (cI.enc v3)), (4, .box ((cXGeo (cLs cI rfl)).enc v0)), (6, .box ((cXTable cI (cLs cI rfl) (cLs cI rfl) cI).enc v2))] (by kernel_rfl) <|
    xn <| wpC_seq <| reg_s <| st rfl <| ldb rfl rfl rfl rfl <| st rfl <| mvd rfl rfl <| st rfl <| ldb rfl rfl rfl rfl <| st rfl <| mvd rfl rfl <| bnd h fun x3 e4 h => st rfl <| o_call (a1 (c := (cXGeo (cLs cI rfl))) (tXGeo (tLs tK)) rfl (a1 (c := (cLs (cXVariable cS cI) rfl)) (tLs (tXVariable tS tK)) rfl (a1 (c := (cXTable cI (cLs cI rfl) (cLs cI rfl) cI)) (tXTable tK (tLs tK) (tLs tK) tK) rfl (a1 (c := cI) tK rfl a0)))) (con_impl_cellAt e4) (.inl (so1 sK (so1 (sLo sK) so0))) <| x_mvt rfl <| x_ext rfl rfl <| x_ext rfl rfl <| x_asg (ss rfl rfl) <| x_asg (so rfl rfl) <| seqN [(1, .d ((cLs (cXVariable cS cI) rfl).enc v1)), (6, .box ((cXTable cI (cLs cI rfl) (cLs cI rfl) cI).enc v2)), (9, .d (cI.enc x3.1)), (10, .d ((cLo cI).enc x3.2))] (by kernel_rfl) <|
    xn <| wpC_seq <| reg_s <| st rfl <| mvd rfl rfl <| bnd h fun x8 e9 h => st rfl <| o_call (a1 (c := cI) tK rfl a0) (con_strconv_Itoa e9) (.inl (so1 sS so0)) <| lnO_k h fun l10 h => st rfl <| b_cat rfl rfl l10 <| x_asg (ss rfl rfl) <| seqN [(1, .d ((cLs (cXVariable cS cI) rfl).enc v1)), (6, .box ((cXTable cI (cLs cI rfl) (cLs cI rfl) cI).enc v2)), (10, .d ((cLo cI).enc x3.2)), (11, .d (cS.enc (([97, 114, 101, 97, 32] : List UInt8) ++ x8)))] (by kernel_rfl) <|
    xn <| wpC_seq <| wpC_kp <| wpC_seq <| reg_s <| st rfl <| fab rfl rfl rfl rfl <| st rfl <| lda rfl rfl rfl rfl rfl rfl <| stw rfl <| lens rfl fun l94 => st rfl <| mvc cI (0 : Int) rfl <| seqN [(1, .d ((cLs (cXVariable cS cI) rfl).enc v1)), (6, .box ((cXTable cI (cLs cI rfl) (cLs cI rfl) cI).enc v2)), (10, .d ((cLo cI).enc x3.2)), (11, .d (cS.enc (([97, 114, 101, 97, 32] : List UInt8) ++ x8))), (25, .adr 6 [.fld 1]), (26, .d ((cLs cI rfl).enc v2.Vars)), (27, .d (cI.enc (v2.Vars.length : Int))), (28, .d (cI.enc (0 : Int)))] (by kernel_rfl) <|
    xn <| wpC_blk <| lpR (fun (k96 : Nat) (s95 : (List UInt8)) => [(1, .d ((cLs (cXVariable cS cI) rfl).enc v1)), (6, .box ((cXTable cI (cLs cI rfl) (cLs cI rfl) cI).enc v2)), (10, .d ((cLo cI).enc x3.2)), (11, .d (cS.enc s95)), (25, .adr 6 [.fld 1]), (26, .d ((cLs cI rfl).enc v2.Vars)), (27, .d (cI.enc (v2.Vars.length : Int))), (28, .d (cI.enc (k96 : Int)))]) (([97, 114, 101, 97, 32] : List UInt8) ++ x8) rfl h
    (fun G150 s95 h => wpC_seq <| reg_s <| st rfl <| b_lss (k := .i64) rfl rfl <| seqN [(1, .d ((cLs (cXVariable cS cI) rfl).enc v1)), (6, .box ((cXTable cI (cLs cI rfl) (cLs cI rfl) cI).enc v2)), (10, .d ((cLo cI).enc x3.2)), (11, .d (cS.enc s95)), (25, .adr 6 [.fld 1]), (26, .d ((cLs cI rfl).enc v2.Vars)), (27, .d (cI.enc (v2.Vars.length : Int))), (28, .d (cI.enc (v2.Vars.length : Int))), (29, .d (cB.enc (decide ((v2.Vars.length : Int) < (v2.Vars.length : Int)))))] (by kernel_rfl) <|
    xn <| wpC_seq <| wpC_kp <| cnd0 rfl (dlf _) <| wpC_exit <| xt <| xt <| xt <| xb <| kpN [(11, .d (cS.enc s95))] (by kernel_rfl) <| xn <| wpC_seq <| reg_s <| st rfl <| mvd rfl rfl <| x_asg (ss rfl rfl) <| seqN [(8, .d (cS.enc s95))] (by kernel_rfl) <|
    xn <| wpC_ret <| re <| fin h (r1 (ss rfl rfl) <| r0) rfl)
    (fun G150 nx148 k96 s95 x97 hk98 hx99 hn149 h => wpC_seq <| reg_s <| st rfl <| b_lss (k := .i64) rfl rfl <| seqN [(1, .d ((cLs (cXVariable cS cI) rfl).enc v1)), (6, .box ((cXTable cI (cLs cI rfl) (cLs cI rfl) cI).enc v2)), (10, .d ((cLo cI).enc x3.2)), (11, .d (cS.enc s95)), (25, .adr 6 [.fld 1]), (26, .d ((cLs cI rfl).enc v2.Vars)), (27, .d (cI.enc (v2.Vars.length : Int))), (28, .d (cI.enc (k96 : Int))), (29, .d (cB.enc (decide ((k96 : Int) < (v2.Vars.length : Int)))))] (by kernel_rfl) <|
    xn <| wpC_seq <| wpC_kp <| cnd1 rfl (dlt hk98) <| wpC_skip <| kpN [(1, .d ((cLs (cXVariable cS cI) rfl).enc v1)), (6, .box ((cXTable cI (cLs cI rfl) (cLs cI rfl) cI).enc v2)), (10, .d ((cLo cI).enc x3.2)), (11, .d (cS.enc s95)), (25, .adr 6 [.fld 1]), (26, .d ((cLs cI rfl).enc v2.Vars)), (27, .d (cI.enc (v2.Vars.length : Int))), (28, .d (cI.enc (k96 : Int)))] (by kernel_rfl) <| xn <| wpC_seq <| wpC_kp <| wpC_blk <| wpC_seq <| reg_s <| st rfl <| mvd rfl rfl <| st rfl <| ias rfl rfl (Int.natCast_nonneg _) hx99 rfl <| st rfl <| ldi rfl rfl rfl rfl <| x_asg (ss rfl rfl) <| x_asg (ss rfl rfl) <| seqN [(1, .d ((cLs (cXVariable cS cI) rfl).enc v1)), (6, .box ((cXTable cI (cLs cI rfl) (cLs cI rfl) cI).enc v2)), (10, .d ((cLo cI).enc x3.2)), (11, .d (cS.enc s95)), (12, .d (cI.enc (k96 : Int))), (13, .d (cI.enc x97)), (25, .adr 6 [.fld 1]), (26, .d ((cLs cI rfl).enc v2.Vars)), (27, .d (cI.enc (v2.Vars.length : Int))), (28, .d (cI.enc (k96 : Int)))] (by kernel_rfl) <|
    xn <| drw_s <| pst rfl <| mvd rfl rfl ⟨rfl, pst rfl <| mvd rfl rfl ⟨rfl, pst rfl <| mvd rfl rfl ⟨rfl, getO_kp h fun x163 i164 g165 h => pst rfl <| ias rfl rfl i164 g165 rfl ⟨rfl, pst rfl <| fai rfl rfl rfl rfl ⟨rfl, pst rfl <| ldi rfl rfl rfl rfl ⟨rfl, lnO_kp h fun l166 h => pst rfl <| b_cat rfl rfl l166 ⟨rfl, lnO_kp h fun l167 h => pst rfl <| b_cat rfl rfl l167 ⟨rfl, pst rfl <| mvo rfl rfl ⟨rfl, pst rfl <| mvd rfl rfl ⟨rfl, getO_kp h fun x168 i169 g170 h => pst rfl <| iar rfl rfl rfl rfl i169 g170 rfl ⟨rfl, pst rfl <| lda rfl rfl (Gt.idx g170 Gt.nil) rfl rfl rfl ⟨rfl, bndp h fun x171 e172 h => pst rfl <| o_call (a1 (c := cI) tK rfl a0) (con_strconv_Itoa e172) (.inl (so1 sS so0)) ⟨rfl, lnO_kp h fun l173 h => pst rfl <| b_cat rfl rfl l173 ⟨rfl, lnO_kp h fun l174 h => pst rfl <| b_cat rfl rfl l174 ⟨rfl, preN <| x_asg (ss rfl rfl) <| seqN [(1, .d ((cLs (cXVariable cS cI) rfl).enc v1)), (6, .box ((cXTable cI (cLs cI rfl) (cLs cI rfl) cI).enc v2)), (10, .d ((cLo cI).enc x3.2)), (11, .d (cS.enc (s95 ++ (((([32] : List UInt8) ++ x163.Name) ++ ([61] : List UInt8)) ++ x171)))), (25, .adr 6 [.fld 1]), (26, .d ((cLs cI rfl).enc v2.Vars)), (27, .d (cI.enc (v2.Vars.length : Int))), (28, .d (cI.enc (k96 : Int)))] (by kernel_rfl) <|
    xbb <| kpN [(1, .d ((cLs (cXVariable cS cI) rfl).enc v1)), (6, .box ((cXTable cI (cLs cI rfl) (cLs cI rfl) cI).enc v2)), (10, .d ((cLo cI).enc x3.2)), (11, .d (cS.enc (s95 ++ (((([32] : List UInt8) ++ x163.Name) ++ ([61] : List UInt8)) ++ x171)))), (25, .adr 6 [.fld 1]), (26, .d ((cLs cI rfl).enc v2.Vars)), (27, .d (cI.enc (v2.Vars.length : Int))), (28, .d (cI.enc (k96 : Int)))] (by kernel_rfl) <| xn <| reg_s <| st rfl <| b_inc rfl rfl l94 hk98 <| st rfl <| mvd rfl rfl <| seqN [(1, .d ((cLs (cXVariable cS cI) rfl).enc v1)), (6, .box ((cXTable cI (cLs cI rfl) (cLs cI rfl) cI).enc v2)), (10, .d ((cLo cI).enc x3.2)), (11, .d (cS.enc (s95 ++ (((([32] : List UInt8) ++ x163.Name) ++ ([61] : List UInt8)) ++ x171)))), (25, .adr 6 [.fld 1]), (26, .d ((cLs cI rfl).enc v2.Vars)), (27, .d (cI.enc (v2.Vars.length : Int))), (28, .d (cI.enc ((k96 + 1 : Nat) : Int)))] (by kernel_rfl) <|
    xn <| hn149 (s95 ++ (((([32] : List UInt8) ++ x163.Name) ++ ([61] : List UInt8)) ++ x171)) h⟩⟩⟩⟩⟩⟩⟩⟩⟩⟩⟩⟩⟩⟩⟩)

def rs_impl_ReportText (r : (List UInt8) × Bool) : List D := [cS.enc r.1, cB.enc r.2]
def txR (f : Int → Option (List UInt8)) (j : Nat) : List UInt8 := (f (j : Int)).getD []
theorem repS_acc {f : Int → Option (List UInt8)} {cs : List Int} : ∀ {l : List Int} {k : Nat} {a r : List UInt8}, k ≤ cs.length → cs.drop k = l → a = accR (txR f) cs k → sh_repS f l k a = some r →
    r = accR (txR f) cs cs.length ∧ ∀ j, k ≤ j → j < cs.length → f (j : Int) = some (txR f j) ∧ (txR f j).length ≤ 1048576 ∧ (accR (txR f) cs (j + 1)).length ≤ 1099511627776 ∧
      -9223372036854775808 ≤ cs.getD j 0 ∧ cs.getD j 0 ≤ 9223372036854775807
  | [], k, a, r, hk, hd, ha, h => by
    simp only [sh_repS, Option.some.injEq] at h
    have hk2 : cs.length ≤ k := by simpa using hd
    have e : k = cs.length := by omega
    subst e
    exact ⟨by rw [← h, ha], fun j h1 h2 => by omega⟩
  | x :: l, k, a, r, hk, hd, ha, h => by
    have hk2 : k < cs.length := by
      rcases Nat.lt_or_ge k cs.length with h' | h'
      · exact h'
      · rw [List.drop_of_length_le h'] at hd; cases hd
    have hdc := List.drop_eq_getElem_cons hk2
    rw [hd] at hdc
    simp only [List.cons.injEq] at hdc
    have hx : cs.getD k 0 = x := by rw [hdc.1]; simp [List.getD_eq_getElem?_getD, List.getElem?_eq_getElem hk2]
    simp only [sh_repS] at h
    obtain ⟨c, hc, h⟩ := Option.bind_eq_some_iff.1 h
    unfold ck at h
    split at h
    · rename_i hck
      have htx : txR f k = c := by simp [txR, hc]
      have ha' : accR (txR f) cs (k + 1) = a ++ (((c ++ [58, 32]) ++ Go.Lib.itoa x) ++ [10]) := by
        simp only [accR]
        rw [← ha, hx, htx]
      obtain ⟨h1, h2⟩ := repS_acc (k := k + 1) hk2 hdc.2.symm ha'.symm h
      refine ⟨h1, fun j hj hj2 => ?_⟩
      by_cases e : j = k
      · subst e
        rw [htx, hx, ha']
        exact ⟨hc, hck.1, hck.2.1, hck.2.2⟩
      · exact h2 j (by omega) hj2
    · cases h
theorem con_impl_ReportText {v0 : XGeo} {v1 : (List XVariable)} {v2 : XTable} {v3 : (List Int)} {r : ((List UInt8) × Bool)} (h : sh_impl_ReportText v0 v1 v2 v3 = some r) : Con Tryd.prog 13 [(cXGeo (cLs cI rfl)).enc v0, (cLs (cXVariable cS cI) rfl).enc v1, (cXTable cI (cLs cI rfl) (cLs cI rfl) cI).enc v2, (cLs cI rfl).enc v3] [] (rs_impl_ReportText r) := by
  unfold sh_impl_ReportText at h
  unfold ck at h
  split at h
  · rename_i hn
    obtain ⟨ra, hra, h⟩ := Option.bind_eq_some_iff.1 h
    refine ⟨⟨Tryd.f13, _, Tryd.func13, rfl, by kernel_rfl⟩, ?_⟩
    intro w Z vs F hrep h1 h2 h3 htz
    obtain ⟨gv, _, f1, _, rfl, e1, r1, sv, _, f2, _, rfl, e2, r2, tv, _, f3, _, rfl, e3, r3, cv, _, f4, _, rfl, e4, r4, rfl, e5⟩ := hrep
    have r1 := r1.imm0 ((cXGeo (cLs cI rfl)).h_im v0)
    have r2 := r2.imm0 ((cLs (cXVariable cS cI) rfl).h_im v1)
    have r3 := r3.imm0 ((cXTable cI (cLs cI rfl) (cLs cI rfl) cI).h_im v2)
    have r4 := r4.imm0 ((cLs cI rfl).h_im v3)
    -- what the values are made of
    have hg : ∃ g0, gv = .agg #[g0] := by
      have hl := RepX.len _ r1.2
      have ha : vAgg gv = true := r1.1
      obtain ⟨g0, hg0⟩ : ∃ g0, gv.cells.toList = [g0] := List.length_eq_one_iff.1 hl
      exact ⟨g0, agg_val ha hg0⟩
    have ht : ∃ t0 t1 t2 t3, tv = .agg #[t0, t1, t2, t3] := by
      have hl := RepX.len _ r3.2
      have ha : vAgg tv = true := r3.1
      have hl4 : tv.cells.toList.length = 4 := hl
      match hq : tv.cells.toList, hl4 with
      | [t0, t1, t2, t3], _ => exact ⟨t0, t1, t2, t3, agg_val ha hq⟩
    obtain ⟨g0, rfl⟩ := hg
    obtain ⟨t0, t1, t2, t3, rfl⟩ := ht
    have hc : ∃ ao cap, cv = .slice ao v3.length cap ∧ (v3 = [] ∨ ∃ gc off, ao = some ⟨gc, off, none⟩ ∧ ∀ j u, v3[j]? = some u → w.cell? ⟨gc, off + j, none⟩ = some (.int .i64 u)) := by
      obtain ⟨k1, k2⟩ := r4
      have k2 : RepX w Z (.slice false (v3.map cI.enc)) cv.cells.toList (fun _ => 0) := k2
      simp only [RepX] at k2
      rcases k2 with ⟨hnl, _, a, cap, hcc, _⟩ | ⟨hne, g, off, cap, xs, sz, f5, hcc, hcap, hle, hxl, hsz, hxs, ho⟩
      · have hv : v3 = [] := by simpa using hnl
        subst hv
        exact ⟨a, cap, cells_single k1 hcc, .inl rfl⟩
      · refine ⟨_, cap, by rw [cells_single k1 hcc, List.length_map], .inr ⟨g, off, rfl, fun j u hu => ?_⟩⟩
        rcases ho with ⟨_, _, _, _, hcell⟩ | ⟨ho, _⟩
        · refine hcell j _ ?_
          have hint : ∀ {l : List Int} {xs : List Value} {f : FP}, RepXs w Z (l.map cI.enc) xs f → xs = l.map fun n => Value.int .i64 n := by
            intro l
            induction l with
            | nil => intro xs f h; simp only [List.map_nil, RepXs] at h; exact h.1
            | cons n l ih =>
              intro xs f h
              simp only [List.map_cons, RepXs] at h
              obtain ⟨c1, c2, f1, f2, rfl, _, h3, h4⟩ := h
              have h5 : RepX w Z (.int .i64 n) c1 f1 := h3
              simp only [RepX] at h5
              rw [h5.1, ih h4]; rfl
          rw [hint hxs, List.getElem?_map, hu]; rfl
        · cases ho
    obtain ⟨ao, cap, rfl, hcc⟩ := hc
    have hZ : ∀ b, Z b → b < w.heap.size := fun b hb => (h3 b hb).1
    have hkeep : ∀ {w1 : World}, Go.RowKit.Below w.heap.size w w1 → ∀ b, Z b → Z b ∧ w1.heap[b]? = w.heap[b]? := fun hb b hz => ⟨hz, hb.block b (hZ b hz)⟩
    have rep3 : ∀ {w1 : World}, Go.RowKit.Below w.heap.size w w1 → RepVs w1 Z [(cXGeo (cLs cI rfl)).enc v0, (cLs (cXVariable cS cI) rfl).enc v1, (cXTable cI (cLs cI rfl) (cLs cI rfl) cI).enc v2] [.agg #[g0], sv, .agg #[t0, t1, t2, t3]] (fun _ => 0) := fun hb =>
      RepVs.mono (hkeep hb) _ (fun b h => absurd h (Nat.lt_irrefl 0)) (RepVs.one r1 (RepVs.one r2 (RepVs.one r3 RepVs.none)))
    have hZ1 : ∀ {w1 : World}, Go.RowKit.Below w.heap.size w w1 → ∀ b, Z b → b < w1.heap.size := fun hb b hz => Nat.lt_of_lt_of_le (hZ b hz) hb.size
    have hT1 : ∀ {w1 : World}, Go.RowKit.Below w.heap.size w w1 → TZ w1 Z := fun hb => TZ.mono (hkeep hb) htz
    have hA : ∀ w1, Go.RowKit.Below w.heap.size w w1 → Calls Tryd.prog 29 #[.agg #[g0], sv, .agg #[t0, t1, t2, t3]] w1 fun e w' => e = .returned (.bool ra) ∧ Go.RowKit.Below w1.heap.size w1 w' := fun w1 hb => by
      refine (con_calls (con_impl_areTabled hra) (rep3 hb) (hZ1 hb) (hT1 hb)).mono ?_
      rintro e w' ⟨v, Z', G, rfl, hr, hbl⟩
      obtain ⟨rfl, _⟩ := RepV.bool hr
      exact ⟨rfl, hbl⟩
    cases ra with
    | false =>
      simp only [Bool.false_eq_true, if_false, Option.some.injEq] at h
      subst h
      have hw := report_walk (w := w) (g0 := g0) (t0 := t0) (t1 := t1) (t2 := t2) (t3 := t3) (s := sv) (ao := ao) (cap := cap) (cs := v3) (tx := fun _ => []) (ra := false) (rs := false) (n := 0) htz.2 hcc (fun h => by cases h) hA (fun h => by cases h) (fun h => by cases h) (fun h => by cases h) (fun h => by cases h) hn
      refine hw.mono ?_
      rintro e w' ⟨rfl, hbl⟩
      exact ⟨_, Z, fun _ => 0, fun _ => 0, rfl, ret_two (l := []) (b := false) (Nat.zero_le _) hbl⟩
    | true =>
      simp only [if_true] at h
      obtain ⟨n, hcn, h⟩ := Option.bind_eq_some_iff.1 h
      obtain ⟨rs, hrs, h⟩ := Option.bind_eq_some_iff.1 h
      have hC : ∀ w1, Go.RowKit.Below w.heap.size w w1 → Calls Tryd.prog 31 #[.agg #[g0], sv, .agg #[t0, t1, t2, t3]] w1 fun e w' => e = .returned (.int .i64 n) ∧ Go.RowKit.Below w1.heap.size w1 w' := fun w1 hb => by
        refine (con_calls (con_impl_cellCount hcn) (rep3 hb) (hZ1 hb) (hT1 hb)).mono ?_
        rintro e w' ⟨v, Z', G, rfl, hr, hbl⟩
        obtain ⟨rfl, _⟩ := RepV.int hr
        exact ⟨rfl, hbl⟩
      have hS : ∀ w1, Go.RowKit.Below w.heap.size w w1 → Calls Tryd.prog 30 #[.slice ao v3.length cap, .int .i64 n] w1 fun e w' => e = .returned (.bool rs) ∧ Go.RowKit.Below w1.heap.size w1 w' := fun w1 hb => by
        have rp : RepVs w1 Z [(cLs cI rfl).enc v3, cI.enc n] [.slice ao v3.length cap, .int .i64 n] (fun _ => 0) :=
          RepVs.one (RepV.mono (hkeep hb) (fun b h => absurd h (Nat.lt_irrefl 0)) r4) (RepVs.one ⟨rfl, by simp [cI, cK, RepX, Value.cells]⟩ RepVs.none)
        refine (con_calls (con_impl_areSmallIntegers hrs) rp (hZ1 hb) (hT1 hb)).mono ?_
        rintro e w' ⟨v, Z', G, rfl, hr, hbl⟩
        obtain ⟨rfl, _⟩ := RepV.bool hr
        exact ⟨rfl, hbl⟩
      cases rs with
      | false =>
        simp only [Bool.false_eq_true, if_false, Option.some.injEq] at h
        subst h
        have hw := report_walk (w := w) (g0 := g0) (t0 := t0) (t1 := t1) (t2 := t2) (t3 := t3) (s := sv) (ao := ao) (cap := cap) (cs := v3) (tx := fun _ => []) (ra := true) (rs := false) (n := n) htz.2 hcc (fun _ h => by cases h) hA (fun _ => hC) (fun _ => hS) (fun _ h => by cases h) (fun _ h => by cases h) hn
        refine hw.mono ?_
        rintro e w' ⟨rfl, hbl⟩
        exact ⟨_, Z, fun _ => 0, fun _ => 0, rfl, ret_two (l := []) (b := false) (Nat.zero_le _) hbl⟩
      | true =>
        simp only [if_true] at h
        obtain ⟨a, ha, h⟩ := Option.bind_eq_some_iff.1 h
        simp only [Option.some.injEq] at h
        subst h
        obtain ⟨q1, q2⟩ := repS_acc (cs := v3) (k := 0) (Nat.zero_le _) rfl rfl ha
        have hT : ∀ k, k < v3.length → ∀ w1, Go.RowKit.Below w.heap.size w w1 → Calls Tryd.prog 33 #[.agg #[g0], sv, .agg #[t0, t1, t2, t3], .int .i64 k] w1 fun e w' => e = .returned (.string ⟨(txR (sh_impl_cellText v0 v1 v2) k).toArray⟩) ∧ Go.RowKit.Below w1.heap.size w1 w' := fun k hk w1 hb => by
          have rp : RepVs w1 Z [(cXGeo (cLs cI rfl)).enc v0, (cLs (cXVariable cS cI) rfl).enc v1, (cXTable cI (cLs cI rfl) (cLs cI rfl) cI).enc v2, cI.enc (k : Int)] [.agg #[g0], sv, .agg #[t0, t1, t2, t3], .int .i64 k] (fun _ => 0) :=
            RepVs.one (RepV.mono (hkeep hb) (fun b h => absurd h (Nat.lt_irrefl 0)) r1) (RepVs.one (RepV.mono (hkeep hb) (fun b h => absurd h (Nat.lt_irrefl 0)) r2) (RepVs.one (RepV.mono (hkeep hb) (fun b h => absurd h (Nat.lt_irrefl 0)) r3) (RepVs.one ⟨rfl, by simp [cI, cK, RepX, Value.cells]⟩ RepVs.none)))
          refine (con_calls (con_impl_cellText (q2 k (Nat.zero_le _) hk).1) rp (hZ1 hb) (hT1 hb)).mono ?_
          rintro e w' ⟨v, Z', G, rfl, hr, hbl⟩
          obtain ⟨rfl, _, _⟩ := RepV.str hr
          exact ⟨rfl, hbl⟩
        have hw := report_walk (w := w) (g0 := g0) (t0 := t0) (t1 := t1) (t2 := t2) (t3 := t3) (s := sv) (ao := ao) (cap := cap) (cs := v3) (tx := txR (sh_impl_cellText v0 v1 v2)) (ra := true) (rs := true) (n := n) htz.2 hcc (fun _ _ u hu => by
            obtain ⟨j, hj⟩ := List.getElem?_of_mem hu
            obtain ⟨hj1, hj2⟩ := List.getElem?_eq_some_iff.1 hj
            have := (q2 j (Nat.zero_le _) hj1).2.2.2
            rw [List.getD_eq_getElem?_getD, hj] at this
            exact this) hA (fun _ => hC) (fun _ => hS) (fun _ _ => hT) (fun _ _ k hk => ⟨(q2 k (Nat.zero_le _) hk).2.1, (q2 k (Nat.zero_le _) hk).2.2.1⟩) hn
        refine hw.mono ?_
        rintro e w' ⟨rfl, hbl⟩
        have hal : a.length ≤ maxLen := by
          have hN : maxLen = 9223372036854775807 := rfl
          rw [q1]
          cases hq : v3.length with
          | zero => exact Nat.zero_le _
          | succ m => have := (q2 m (Nat.zero_le _) (by omega)).2.2.1; omega
        refine ⟨_, Z, fun _ => 0, fun _ => 0, rfl, ?_⟩
        rw [← q1]
        exact ret_two (l := a) (b := true) hal hbl
  · cases h

def rs_laws_eqIntS (r : Bool) : List D := [cB.enc r]
def m17 : MC := .seq (.reg [⟨some 4, .asg (.c (.bool false)), none⟩] [0, 1])
  (.seq (.kp [0, 1] (.seq (.reg [⟨some 6, .mv (.t 0), none⟩,
    ⟨some 7, .len false (.t 6), none⟩,
    ⟨some 8, .mv (.t 1), none⟩,
    ⟨some 9, .len false (.t 8), none⟩,
    ⟨some 10, .bin .neq (.t 7) (.t 9), none⟩] [0, 1, 10])
  (.cond (.t 10) (.seq (.reg [⟨some 4, .asg (.c (.bool false)), none⟩] [4])
  (.ret)) (.skip))))
  (.seq (.kp [] (.seq (.reg [⟨some 5, .asg (.c (.int .i64 0)), none⟩] [0, 1, 5])
  (.blk 0 (.loop (.seq (.kp [0, 1, 5] (.seq (.reg [⟨some 11, .mv (.t 5), none⟩,
    ⟨some 12, .mv (.t 0), none⟩,
    ⟨some 13, .len false (.t 12), none⟩,
    ⟨some 14, .bin .lss (.t 11) (.t 13), none⟩] [0, 1, 5, 14])
  (.cond (.t 14) (.skip) (.exit 0))))
  (.seq (.kp [0, 1, 5] (.blk 1 (.seq (.drw [⟨0, ⟨some 17, .mv (.t 0), none⟩, [18, 19, 20, 21, 22, 23, 24, 25]⟩,
    ⟨1, ⟨some 18, .mv (.t 5), none⟩, [17, 19, 20, 21, 22, 23, 24, 25]⟩,
    ⟨2, ⟨some 19, .ia 17 (.t 18) 1, none⟩, [20, 21, 22, 23, 24, 25]⟩,
    ⟨3, ⟨some 20, .ld 19 1 false, none⟩, [21, 22, 23, 24, 25]⟩,
    ⟨4, ⟨some 21, .mv (.t 1), none⟩, [17, 18, 19, 20, 22, 23, 24, 25]⟩,
    ⟨5, ⟨some 22, .mv (.t 5), none⟩, [17, 18, 19, 20, 21, 23, 24, 25]⟩,
    ⟨6, ⟨some 23, .ia 21 (.t 22) 1, none⟩, [17, 18, 19, 20, 24, 25]⟩,
    ⟨7, ⟨some 24, .ld 23 1 false, none⟩, [17, 18, 19, 20, 25]⟩,
    ⟨8, ⟨some 25, .bin .neq (.t 20) (.t 24), none⟩, []⟩]
    [] [0, 1, 5, 25])
  (.cond (.t 25) (.seq (.reg [⟨some 4, .asg (.c (.bool false)), none⟩] [4])
  (.ret)) (.skip)))))
  (.reg [⟨some 15, .mv (.t 5), none⟩,
    ⟨some 16, .bin .add (.t 15) (.c (.int .i64 1)), none⟩,
    ⟨some 5, .asg (.t 16), none⟩] [0, 1, 5])))))))
  (.seq (.reg [⟨some 4, .asg (.c (.bool true)), none⟩] [4])
  (.ret))))
theorem con_laws_eqIntS {v0 : (List Int)} {v1 : (List Int)} {r : Bool} (h : sh_laws_eqIntS v0 v1 = some r) : Con Tryd.prog 17 [(cLs cI rfl).enc v0, (cLs cI rfl).enc v1] [] (rs_laws_eqIntS r) := by
  delta sh_laws_eqIntS at h
  refine top (out := none) (f := Tryd.f17) (m := m17) (rs := [.t 4]) (by kernel_rfl) rfl (by kernel_rfl) (by kernel_rfl) (by kernel_rfl) (by kernel_rfl) (by kernel_rfl) ?_
  exact
   ini [(0, .d ((cLs cI rfl).enc v0)), (1, .d ((cLs cI rfl).enc v1))] rfl <| wpC_seq <| reg_s <| x_asg (sc cB false rfl) <| seqN [(0, .d ((cLs cI rfl).enc v0)), (1, .d ((cLs cI rfl).enc v1))] (by kernel_rfl) <|
    xn <| wpC_seq <| wpC_kp <| wpC_seq <| reg_s <| st rfl <| mvd rfl rfl <| stw rfl <| lens rfl fun l8 => st rfl <| mvd rfl rfl <| stw rfl <| lens rfl fun l9 => st rfl <| b_neq (k := .i64) rfl rfl <| seqN [(0, .d ((cLs cI rfl).enc v0)), (1, .d ((cLs cI rfl).enc v1)), (10, .d (cB.enc (decide ((v0.length : Int) ≠ (v1.length : Int)))))] (by kernel_rfl) <|
    xn <| cnd rfl h (fun b10 h => wpC_seq <| reg_s <| x_asg (sc cB false rfl) <| seqN [(4, .d (cB.enc false))] (by kernel_rfl) <|
    xn <| wpC_ret <| rt <| rt <| re <| fin h (r1 (ss rfl rfl) <| r0) rfl)
    (fun b10 h => wpC_skip <| kpN [(0, .d ((cLs cI rfl).enc v0)), (1, .d ((cLs cI rfl).enc v1))] (by kernel_rfl) <| xn <| wpC_seq <| wpC_kp <| wpC_seq <| reg_s <| x_asg (sc cI (0 : Int) rfl) <| seqN [(0, .d ((cLs cI rfl).enc v0)), (1, .d ((cLs cI rfl).enc v1)), (5, .d (cI.enc (0 : Int)))] (by kernel_rfl) <|
    xn <| wpC_blk <| lpF (fun (s118 : Int) => [(0, .d ((cLs cI rfl).enc v0)), (1, .d ((cLs cI rfl).enc v1)), (5, .d (cI.enc s118))]) (0 : Int) rfl h
    fun G191 nx189 s118 hn190 h => wpC_seq <| wpC_kp <| wpC_seq <| reg_s <| st rfl <| mvd rfl rfl <| st rfl <| mvd rfl rfl <| stw rfl <| lens rfl fun l196 => st rfl <| b_lss (k := .i64) rfl rfl <| seqN [(0, .d ((cLs cI rfl).enc v0)), (1, .d ((cLs cI rfl).enc v1)), (5, .d (cI.enc s118)), (14, .d (cB.enc (decide (s118 < (v0.length : Int)))))] (by kernel_rfl) <|
    xn <| cnd rfl h (fun b197 h => wpC_skip <| kpN [(0, .d ((cLs cI rfl).enc v0)), (1, .d ((cLs cI rfl).enc v1)), (5, .d (cI.enc s118))] (by kernel_rfl) <| xn <| wpC_seq <| wpC_kp <| wpC_blk <| wpC_seq <| drw_s <| pst rfl <| mvd rfl rfl ⟨rfl, pst rfl <| mvd rfl rfl ⟨rfl, getO_kp h fun x217 i218 g219 h => pst rfl <| ias rfl rfl i218 g219 rfl ⟨rfl, pst rfl <| ldi rfl rfl rfl rfl ⟨rfl, pst rfl <| mvd rfl rfl ⟨rfl, pst rfl <| mvd rfl rfl ⟨rfl, getO_kp h fun x220 i221 g222 h => pst rfl <| ias rfl rfl i221 g222 rfl ⟨rfl, pst rfl <| ldi rfl rfl rfl rfl ⟨rfl, pst rfl <| b_neq (k := .i64) rfl rfl ⟨rfl, preN <| seqN [(0, .d ((cLs cI rfl).enc v0)), (1, .d ((cLs cI rfl).enc v1)), (5, .d (cI.enc s118)), (25, .d (cB.enc (decide (x217 ≠ x220))))] (by kernel_rfl) <|
    xn <| cnd rfl h (fun b223 h => wpC_seq <| reg_s <| x_asg (sc cB false rfl) <| seqN [(4, .d (cB.enc false))] (by kernel_rfl) <|
    xn <| wpC_ret <| rb <| rt <| rt <| rt <| rb <| rt <| rt <| re <| fin h (r1 (ss rfl rfl) <| r0) rfl)
    (fun b223 h => wpC_skip <| xbb <| kpN [(0, .d ((cLs cI rfl).enc v0)), (1, .d ((cLs cI rfl).enc v1)), (5, .d (cI.enc s118))] (by kernel_rfl) <| xn <| reg_s <| st rfl <| mvd rfl rfl <| ckI_k h fun i224 h => st rfl <| b_add (k := .i64) rfl rfl i224 <| x_asg (ss rfl rfl) <| seqN [(0, .d ((cLs cI rfl).enc v0)), (1, .d ((cLs cI rfl).enc v1)), (5, .d (cI.enc (s118 + (1 : Int))))] (by kernel_rfl) <|
    xn <| hn190 (s118 + (1 : Int)) h)⟩⟩⟩⟩⟩⟩⟩⟩⟩)
    (fun b197 h => wpC_exit <| xt <| xt <| xt <| xb <| kpN [] (by kernel_rfl) <| xn <| wpC_seq <| reg_s <| x_asg (sc cB true rfl) <| seqN [(4, .d (cB.enc true))] (by kernel_rfl) <|
    xn <| wpC_ret <| re <| fin h (r1 (ss rfl rfl) <| r0) rfl))

def rs_laws_eqGeo (r : Bool) : List D := [cB.enc r]
def m14 : MC := .seq (.reg [⟨some 2, .box (.t 0), none⟩,
    ⟨some 3, .box (.t 1), none⟩,
    ⟨some 4, .asg (.c (.bool false)), none⟩] [2, 3])
  (.seq (.kp [] (.seq (.reg [⟨some 5, .fa 2 0 0, none⟩,
    ⟨some 6, .ld 5 1 false, none⟩,
    ⟨some 7, .fa 3 0 0, none⟩,
    ⟨some 8, .ld 7 1 false, none⟩,
    ⟨some 9, .call 17 [(.t 6), (.t 8)], none⟩,
    ⟨some 10, .nt (.t 9), none⟩] [10])
  (.cond (.t 10) (.seq (.reg [⟨some 4, .asg (.c (.bool false)), none⟩] [4])
  (.ret)) (.skip))))
  (.seq (.reg [⟨some 4, .asg (.c (.bool true)), none⟩] [4])
  (.ret)))
theorem con_laws_eqGeo {v0 : XGeo} {v1 : XGeo} {r : Bool} (h : sh_laws_eqGeo v0 v1 = some r) : Con Tryd.prog 14 [(cXGeo (cLs cI rfl)).enc v0, (cXGeo (cLs cI rfl)).enc v1] [] (rs_laws_eqGeo r) := by
  delta sh_laws_eqGeo at h
  refine top (out := none) (f := Tryd.f14) (m := m14) (rs := [.t 4]) (by kernel_rfl) rfl (by kernel_rfl) (by kernel_rfl) (by kernel_rfl) (by kernel_rfl) (by kernel_rfl) ?_
  exact
   ini [(0, .d ((cXGeo (cLs cI rfl)).enc v0)), (1, .d ((cXGeo (cLs cI rfl)).enc v1))] rfl <| wpC_seq <| reg_s <| x_box (ss rfl rfl) <| x_box (ss rfl rfl) <| x_asg (sc cB false rfl) <| seqN [(2, .box ((cXGeo (cLs cI rfl)).enc v0)), (3, .box ((cXGeo (cLs cI rfl)).enc v1))] (by kernel_rfl) <|
    xn <| wpC_seq <| wpC_kp <| wpC_seq <| reg_s <| st rfl <| fab rfl rfl rfl rfl <| st rfl <| lda rfl rfl rfl rfl rfl rfl <| st rfl <| fab rfl rfl rfl rfl <| st rfl <| lda rfl rfl rfl rfl rfl rfl <| bnd h fun x8 e9 h => st rfl <| o_call (a1 (c := (cLs cI rfl)) (tLs tK) rfl (a1 (c := (cLs cI rfl)) (tLs tK) rfl a0)) (con_laws_eqIntS e9) (.inl (so1 sB so0)) <| st rfl <| o_nt rfl <| seqN [(10, .d (cB.enc (!x8)))] (by kernel_rfl) <|
    xn <| cnd rfl h (fun b10 h => wpC_seq <| reg_s <| x_asg (sc cB false rfl) <| seqN [(4, .d (cB.enc false))] (by kernel_rfl) <|
    xn <| wpC_ret <| rt <| rt <| re <| fin h (r1 (ss rfl rfl) <| r0) rfl)
    (fun b10 h => wpC_skip <| kpN [] (by kernel_rfl) <| xn <| wpC_seq <| reg_s <| x_asg (sc cB true rfl) <| seqN [(4, .d (cB.enc true))] (by kernel_rfl) <|
    xn <| wpC_ret <| re <| fin h (r1 (ss rfl rfl) <| r0) rfl)

def rs_laws_eqVariable (r : Bool) : List D := [cB.enc r]
def m36 : MC := .seq (.reg [⟨some 2, .box (.t 0), none⟩,
    ⟨some 3, .box (.t 1), none⟩,
    ⟨some 4, .asg (.c (.bool false)), none⟩] [2, 3])
  (.seq (.kp [2, 3] (.seq (.reg [⟨some 5, .fa 2 0 0, none⟩,
    ⟨some 6, .ld 5 1 false, none⟩,
    ⟨some 7, .fa 3 0 0, none⟩,
    ⟨some 8, .ld 7 1 false, none⟩,
    ⟨some 9, .bin .neq (.t 6) (.t 8), none⟩] [2, 3, 9])
  (.cond (.t 9) (.seq (.reg [⟨some 4, .asg (.c (.bool false)), none⟩] [4])
  (.ret)) (.skip))))
  (.seq (.kp [] (.seq (.reg [⟨some 10, .fa 2 1 1, none⟩,
    ⟨some 11, .ld 10 1 false, none⟩,
    ⟨some 12, .fa 3 1 1, none⟩,
    ⟨some 13, .ld 12 1 false, none⟩,
    ⟨some 14, .bin .neq (.t 11) (.t 13), none⟩] [14])
  (.cond (.t 14) (.seq (.reg [⟨some 4, .asg (.c (.bool false)), none⟩] [4])
  (.ret)) (.skip))))
  (.seq (.reg [⟨some 4, .asg (.c (.bool true)), none⟩] [4])
  (.ret))))
theorem con_laws_eqVariable {v0 : XVariable} {v1 : XVariable} {r : Bool} (h : sh_laws_eqVariable v0 v1 = some r) : Con Tryd.prog 36 [(cXVariable cS cI).enc v0, (cXVariable cS cI).enc v1] [] (rs_laws_eqVariable r) := by
  delta sh_laws_eqVariable at h
  refine top (out := none) (f := Tryd.f36) (m := m36) (rs := [.t 4]) (by kernel_rfl) rfl (by kernel_rfl) (by kernel_rfl) (by kernel_rfl) (by kernel_rfl) (by kernel_rfl) ?_
  exact
   ini [(0, .d ((cXVariable cS cI).enc v0)), (1, .d ((cXVariable cS cI).enc v1))] rfl <| wpC_seq <| reg_s <| x_box (ss rfl rfl) <| x_box (ss rfl rfl) <| x_asg (sc cB false rfl) <| seqN [(2, .box ((cXVariable cS cI).enc v0)), (3, .box ((cXVariable cS cI).enc v1))] (by kernel_rfl) <|
    xn <| wpC_seq <| wpC_kp <| wpC_seq <| reg_s <| st rfl <| fab rfl rfl rfl rfl <| st rfl <| lda rfl rfl rfl rfl rfl rfl <| st rfl <| fab rfl rfl rfl rfl <| st rfl <| lda rfl rfl rfl rfl rfl rfl <| st rfl <| b_sne rfl rfl <| seqN [(2, .box ((cXVariable cS cI).enc v0)), (3, .box ((cXVariable cS cI).enc v1)), (9, .d (cB.enc (decide (v0.Name ≠ v1.Name))))] (by kernel_rfl) <|
    xn <| cnd rfl h (fun b2 h => wpC_seq <| reg_s <| x_asg (sc cB false rfl) <| seqN [(4, .d (cB.enc false))] (by kernel_rfl) <|
    xn <| wpC_ret <| rt <| rt <| re <| fin h (r1 (ss rfl rfl) <| r0) rfl)
    (fun b2 h => wpC_skip <| kpN [(2, .box ((cXVariable cS cI).enc v0)), (3, .box ((cXVariable cS cI).enc v1))] (by kernel_rfl) <| xn <| wpC_seq <| wpC_kp <| wpC_seq <| reg_s <| st rfl <| fab rfl rfl rfl rfl <| st rfl <| lda rfl rfl rfl rfl rfl rfl <| st rfl <| fab rfl rfl rfl rfl <| st rfl <| lda rfl rfl rfl rfl rfl rfl <| st rfl <| b_neq (k := .i64) rfl rfl <| seqN [(14, .d (cB.enc (decide (v0.Levels ≠ v1.Levels))))] (by kernel_rfl) <|
    xn <| cnd rfl h (fun b4 h => wpC_seq <| reg_s <| x_asg (sc cB false rfl) <| seqN [(4, .d (cB.enc false))] (by kernel_rfl) <|
    xn <| wpC_ret <| rt <| rt <| re <| fin h (r1 (ss rfl rfl) <| r0) rfl)
    (fun b4 h => wpC_skip <| kpN [] (by kernel_rfl) <| xn <| wpC_seq <| reg_s <| x_asg (sc cB true rfl) <| seqN [(4, .d (cB.enc true))] (by kernel_rfl) <|
    xn <| wpC_ret <| re <| fin h (r1 (ss rfl rfl) <| r0) rfl))

def rs_laws_eqVariableS (r : Bool) : List D := [cB.enc r]
def m15 : MC := .seq (.reg [⟨some 4, .asg (.c (.bool false)), none⟩] [0, 1])
  (.seq (.kp [0, 1] (.seq (.reg [⟨some 6, .mv (.t 0), none⟩,
    ⟨some 7, .len false (.t 6), none⟩,
    ⟨some 8, .mv (.t 1), none⟩,
    ⟨some 9, .len false (.t 8), none⟩,
    ⟨some 10, .bin .neq (.t 7) (.t 9), none⟩] [0, 1, 10])
  (.cond (.t 10) (.seq (.reg [⟨some 4, .asg (.c (.bool false)), none⟩] [4])
  (.ret)) (.skip))))
  (.seq (.kp [] (.seq (.reg [⟨some 5, .asg (.c (.int .i64 0)), none⟩] [0, 1, 5])
  (.blk 0 (.loop (.seq (.kp [0, 1, 5] (.seq (.reg [⟨some 11, .mv (.t 5), none⟩,
    ⟨some 12, .mv (.t 0), none⟩,
    ⟨some 13, .len false (.t 12), none⟩,
    ⟨some 14, .bin .lss (.t 11) (.t 13), none⟩] [0, 1, 5, 14])
  (.cond (.t 14) (.skip) (.exit 0))))
  (.seq (.kp [0, 1, 5] (.blk 1 (.seq (.drw [⟨0, ⟨some 17, .mv (.t 0), none⟩, [18, 19, 20, 21, 22, 23, 24, 25, 26]⟩,
    ⟨1, ⟨some 18, .mv (.t 5), none⟩, [17, 19, 20, 21, 22, 23, 24, 25, 26]⟩,
    ⟨2, ⟨some 19, .ia 17 (.t 18) 2, none⟩, [20, 21, 22, 23, 24, 25, 26]⟩,
    ⟨3, ⟨some 20, .ld 19 2 true, none⟩, [21, 22, 23, 24, 25, 26]⟩,
    ⟨4, ⟨some 21, .mv (.t 1), none⟩, [17, 18, 19, 20, 22, 23, 24, 25, 26]⟩,
    ⟨5, ⟨some 22, .mv (.t 5), none⟩, [17, 18, 19, 20, 21, 23, 24, 25, 26]⟩,
    ⟨6, ⟨some 23, .ia 21 (.t 22) 2, none⟩, [17, 18, 19, 20, 24, 25, 26]⟩,
    ⟨7, ⟨some 24, .ld 23 2 true, none⟩, [17, 18, 19, 20, 25, 26]⟩,
    ⟨8, ⟨some 25, .call 36 [(.t 20), (.t 24)], none⟩, [26]⟩,
    ⟨9, ⟨some 26, .nt (.t 25), none⟩, []⟩]
    [] [0, 1, 5, 26])
  (.cond (.t 26) (.seq (.reg [⟨some 4, .asg (.c (.bool false)), none⟩] [4])
  (.ret)) (.skip)))))
  (.reg [⟨some 15, .mv (.t 5), none⟩,
    ⟨some 16, .bin .add (.t 15) (.c (.int .i64 1)), none⟩,
    ⟨some 5, .asg (.t 16), none⟩] [0, 1, 5])))))))
  (.seq (.reg [⟨some 4, .asg (.c (.bool true)), none⟩] [4])
  (.ret))))
theorem con_laws_eqVariableS {v0 : (List XVariable)} {v1 : (List XVariable)} {r : Bool} (h : sh_laws_eqVariableS v0 v1 = some r) : Con Tryd.prog 15 [(cLs (cXVariable cS cI) rfl).enc v0, (cLs (cXVariable cS cI) rfl).enc v1] [] (rs_laws_eqVariableS r) := by
  delta sh_laws_eqVariableS at h
  refine top (out := none) (f := Tryd.f15) (m := m15) (rs := [.t 4]) (by kernel_rfl) rfl (by kernel_rfl) (by kernel_rfl) (by kernel_rfl) (by kernel_rfl) (by kernel_rfl) ?_
  exact
   ini [(0, .d ((cLs (cXVariable cS cI) rfl).enc v0)), (1, .d ((cLs (cXVariable cS cI) rfl).enc v1))] rfl <| wpC_seq <| reg_s <| x_asg (sc cB false rfl) <| seqN [(0, .d ((cLs (cXVariable cS cI) rfl).enc v0)), (1, .d ((cLs (cXVariable cS cI) rfl).enc v1))] (by kernel_rfl) <|
    xn <| wpC_seq <| wpC_kp <| wpC_seq <| reg_s <| st rfl <| mvd rfl rfl <| stw rfl <| lens rfl fun l8 => st rfl <| mvd rfl rfl <| stw rfl <| lens rfl fun l9 => st rfl <| b_neq (k := .i64) rfl rfl <| seqN [(0, .d ((cLs (cXVariable cS cI) rfl).enc v0)), (1, .d ((cLs (cXVariable cS cI) rfl).enc v1)), (10, .d (cB.enc (decide ((v0.length : Int) ≠ (v1.length : Int)))))] (by kernel_rfl) <|
    xn <| cnd rfl h (fun b10 h => wpC_seq <| reg_s <| x_asg (sc cB false rfl) <| seqN [(4, .d (cB.enc false))] (by kernel_rfl) <|
    xn <| wpC_ret <| rt <| rt <| re <| fin h (r1 (ss rfl rfl) <| r0) rfl)
    (fun b10 h => wpC_skip <| kpN [(0, .d ((cLs (cXVariable cS cI) rfl).enc v0)), (1, .d ((cLs (cXVariable cS cI) rfl).enc v1))] (by kernel_rfl) <| xn <| wpC_seq <| wpC_kp <| wpC_seq <| reg_s <| x_asg (sc cI (0 : Int) rfl) <| seqN [(0, .d ((cLs (cXVariable cS cI) rfl).enc v0)), (1, .d ((cLs (cXVariable cS cI) rfl).enc v1)), (5, .d (cI.enc (0 : Int)))] (by kernel_rfl) <|
    xn <| wpC_blk <| lpF (fun (s142 : Int) => [(0, .d ((cLs (cXVariable cS cI) rfl).enc v0)), (1, .d ((cLs (cXVariable cS cI) rfl).enc v1)), (5, .d (cI.enc s142))]) (0 : Int) rfl h
    fun G231 nx229 s142 hn230 h => wpC_seq <| wpC_kp <| wpC_seq <| reg_s <| st rfl <| mvd rfl rfl <| st rfl <| mvd rfl rfl <| stw rfl <| lens rfl fun l236 => st rfl <| b_lss (k := .i64) rfl rfl <| seqN [(0, .d ((cLs (cXVariable cS cI) rfl).enc v0)), (1, .d ((cLs (cXVariable cS cI) rfl).enc v1)), (5, .d (cI.enc s142)), (14, .d (cB.enc (decide (s142 < (v0.length : Int)))))] (by kernel_rfl) <|
    xn <| cnd rfl h (fun b237 h => wpC_skip <| kpN [(0, .d ((cLs (cXVariable cS cI) rfl).enc v0)), (1, .d ((cLs (cXVariable cS cI) rfl).enc v1)), (5, .d (cI.enc s142))] (by kernel_rfl) <| xn <| wpC_seq <| wpC_kp <| wpC_blk <| wpC_seq <| drw_s <| pst rfl <| mvd rfl rfl ⟨rfl, pst rfl <| mvd rfl rfl ⟨rfl, getO_kp h fun x263 i264 g265 h => pst rfl <| ias rfl rfl i264 g265 rfl ⟨rfl, pst rfl <| ldi rfl rfl rfl rfl ⟨rfl, pst rfl <| mvd rfl rfl ⟨rfl, pst rfl <| mvd rfl rfl ⟨rfl, getO_kp h fun x266 i267 g268 h => pst rfl <| ias rfl rfl i267 g268 rfl ⟨rfl, pst rfl <| ldi rfl rfl rfl rfl ⟨rfl, bndp h fun x269 e270 h => pst rfl <| o_call (a1 (c := (cXVariable cS cI)) (tXVariable tS tK) rfl (a1 (c := (cXVariable cS cI)) (tXVariable tS tK) rfl a0)) (con_laws_eqVariable e270) (.inl (so1 sB so0)) ⟨rfl, pst rfl <| o_nt rfl ⟨rfl, preN <| seqN [(0, .d ((cLs (cXVariable cS cI) rfl).enc v0)), (1, .d ((cLs (cXVariable cS cI) rfl).enc v1)), (5, .d (cI.enc s142)), (26, .d (cB.enc (!x269)))] (by kernel_rfl) <|
    xn <| cnd rfl h (fun b271 h => wpC_seq <| reg_s <| x_asg (sc cB false rfl) <| seqN [(4, .d (cB.enc false))] (by kernel_rfl) <|
    xn <| wpC_ret <| rb <| rt <| rt <| rt <| rb <| rt <| rt <| re <| fin h (r1 (ss rfl rfl) <| r0) rfl)
    (fun b271 h => wpC_skip <| xbb <| kpN [(0, .d ((cLs (cXVariable cS cI) rfl).enc v0)), (1, .d ((cLs (cXVariable cS cI) rfl).enc v1)), (5, .d (cI.enc s142))] (by kernel_rfl) <| xn <| reg_s <| st rfl <| mvd rfl rfl <| ckI_k h fun i272 h => st rfl <| b_add (k := .i64) rfl rfl i272 <| x_asg (ss rfl rfl) <| seqN [(0, .d ((cLs (cXVariable cS cI) rfl).enc v0)), (1, .d ((cLs (cXVariable cS cI) rfl).enc v1)), (5, .d (cI.enc (s142 + (1 : Int))))] (by kernel_rfl) <|
    xn <| hn230 (s142 + (1 : Int)) h)⟩⟩⟩⟩⟩⟩⟩⟩⟩⟩)
    (fun b237 h => wpC_exit <| xt <| xt <| xt <| xb <| kpN [] (by kernel_rfl) <| xn <| wpC_seq <| reg_s <| x_asg (sc cB true rfl) <| seqN [(4, .d (cB.enc true))] (by kernel_rfl) <|
    xn <| wpC_ret <| re <| fin h (r1 (ss rfl rfl) <| r0) rfl))

def rs_laws_eqTable (r : Bool) : List D := [cB.enc r]
def m16 : MC := .seq (.reg [⟨some 2, .box (.t 0), none⟩,
    ⟨some 3, .box (.t 1), none⟩,
    ⟨some 4, .asg (.c (.bool false)), none⟩] [2, 3])
  (.seq (.kp [2, 3] (.seq (.reg [⟨some 5, .fa 2 0 0, none⟩,
    ⟨some 6, .ld 5 1 false, none⟩,
    ⟨some 7, .fa 3 0 0, none⟩,
    ⟨some 8, .ld 7 1 false, none⟩,
    ⟨some 9, .bin .neq (.t 6) (.t 8), none⟩] [2, 3, 9])
  (.cond (.t 9) (.seq (.reg [⟨some 4, .asg (.c (.bool false)), none⟩] [4])
  (.ret)) (.skip))))
  (.seq (.kp [2, 3] (.seq (.reg [⟨some 10, .fa 2 1 1, none⟩,
    ⟨some 11, .ld 10 1 false, none⟩,
    ⟨some 12, .fa 3 1 1, none⟩,
    ⟨some 13, .ld 12 1 false, none⟩,
    ⟨some 14, .call 17 [(.t 11), (.t 13)], none⟩,
    ⟨some 15, .nt (.t 14), none⟩] [2, 3, 15])
  (.cond (.t 15) (.seq (.reg [⟨some 4, .asg (.c (.bool false)), none⟩] [4])
  (.ret)) (.skip))))
  (.seq (.kp [2, 3] (.seq (.reg [⟨some 16, .fa 2 2 2, none⟩,
    ⟨some 17, .ld 16 1 false, none⟩,
    ⟨some 18, .fa 3 2 2, none⟩,
    ⟨some 19, .ld 18 1 false, none⟩,
    ⟨some 20, .call 17 [(.t 17), (.t 19)], none⟩,
    ⟨some 21, .nt (.t 20), none⟩] [2, 3, 21])
  (.cond (.t 21) (.seq (.reg [⟨some 4, .asg (.c (.bool false)), none⟩] [4])
  (.ret)) (.skip))))
  (.seq (.kp [] (.seq (.reg [⟨some 22, .fa 2 3 3, none⟩,
    ⟨some 23, .ld 22 1 false, none⟩,
    ⟨some 24, .fa 3 3 3, none⟩,
    ⟨some 25, .ld 24 1 false, none⟩,
    ⟨some 26, .bin .neq (.t 23) (.t 25), none⟩] [26])
  (.cond (.t 26) (.seq (.reg [⟨some 4, .asg (.c (.bool false)), none⟩] [4])
  (.ret)) (.skip))))
  (.seq (.reg [⟨some 4, .asg (.c (.bool true)), none⟩] [4])
  (.ret))))))
theorem con_laws_eqTable {v0 : XTable} {v1 : XTable} {r : Bool} (h : sh_laws_eqTable v0 v1 = some r) : Con Tryd.prog 16 [(cXTable cI (cLs cI rfl) (cLs cI rfl) cI).enc v0, (cXTable cI (cLs cI rfl) (cLs cI rfl) cI).enc v1] [] (rs_laws_eqTable r) := by
  delta sh_laws_eqTable at h
  refine top (out := none) (f := Tryd.f16) (m := m16) (rs := [.t 4]) (by kernel_rfl) rfl (by kernel_rfl) (by kernel_rfl) (by kernel_rfl) (by kernel_rfl) (by kernel_rfl) ?_
  exact
   ini [(0, .d ((cXTable cI (cLs cI rfl) (cLs cI rfl) cI).enc v0)), (1, .d ((cXTable cI (cLs cI rfl) (cLs cI rfl) cI).enc v1))] rfl <| wpC_seq <| reg_s <| x_box (ss rfl rfl) <| x_box (ss rfl rfl) <| x_asg (sc cB false rfl) <| seqN [(2, .box ((cXTable cI (cLs cI rfl) (cLs cI rfl) cI).enc v0)), (3, .box ((cXTable cI (cLs cI rfl) (cLs cI rfl) cI).enc v1))] (by kernel_rfl) <|
    xn <| wpC_seq <| wpC_kp <| wpC_seq <| reg_s <| st rfl <| fab rfl rfl rfl rfl <| st rfl <| lda rfl rfl rfl rfl rfl rfl <| st rfl <| fab rfl rfl rfl rfl <| st rfl <| lda rfl rfl rfl rfl rfl rfl <| st rfl <| b_neq (k := .i64) rfl rfl <| seqN [(2, .box ((cXTable cI (cLs cI rfl) (cLs cI rfl) cI).enc v0)), (3, .box ((cXTable cI (cLs cI rfl) (cLs cI rfl) cI).enc v1)), (9, .d (cB.enc (decide (v0.Level ≠ v1.Level))))] (by kernel_rfl) <|
    xn <| cnd rfl h (fun b2 h => wpC_seq <| reg_s <| x_asg (sc cB false rfl) <| seqN [(4, .d (cB.enc false))] (by kernel_rfl) <|
    xn <| wpC_ret <| rt <| rt <| re <| fin h (r1 (ss rfl rfl) <| r0) rfl)
    (fun b2 h => wpC_skip <| kpN [(2, .box ((cXTable cI (cLs cI rfl) (cLs cI rfl) cI).enc v0)), (3, .box ((cXTable cI (cLs cI rfl) (cLs cI rfl) cI).enc v1))] (by kernel_rfl) <| xn <| wpC_seq <| wpC_kp <| wpC_seq <| reg_s <| st rfl <| fab rfl rfl rfl rfl <| st rfl <| lda rfl rfl rfl rfl rfl rfl <| st rfl <| fab rfl rfl rfl rfl <| st rfl <| lda rfl rfl rfl rfl rfl rfl <| bnd h fun x10 e11 h => st rfl <| o_call (a1 (c := (cLs cI rfl)) (tLs tK) rfl (a1 (c := (cLs cI rfl)) (tLs tK) rfl a0)) (con_laws_eqIntS e11) (.inl (so1 sB so0)) <| st rfl <| o_nt rfl <| seqN [(2, .box ((cXTable cI (cLs cI rfl) (cLs cI rfl) cI).enc v0)), (3, .box ((cXTable cI (cLs cI rfl) (cLs cI rfl) cI).enc v1)), (15, .d (cB.enc (!x10)))] (by kernel_rfl) <|
    xn <| cnd rfl h (fun b12 h => wpC_seq <| reg_s <| x_asg (sc cB false rfl) <| seqN [(4, .d (cB.enc false))] (by kernel_rfl) <|
    xn <| wpC_ret <| rt <| rt <| re <| fin h (r1 (ss rfl rfl) <| r0) rfl)
    (fun b12 h => wpC_skip <| kpN [(2, .box ((cXTable cI (cLs cI rfl) (cLs cI rfl) cI).enc v0)), (3, .box ((cXTable cI (cLs cI rfl) (cLs cI rfl) cI).enc v1))] (by kernel_rfl) <| xn <| wpC_seq <| wpC_kp <| wpC_seq <| reg_s <| st rfl <| fab rfl rfl rfl rfl <| st rfl <| lda rfl rfl rfl rfl rfl rfl <| st rfl <| fab rfl rfl rfl rfl <| st rfl <| lda rfl rfl rfl rfl rfl rfl <| bnd h fun x20 e21 h => st rfl <| o_call (a1 (c := (cLs cI rfl)) (tLs tK) rfl (a1 (c := (cLs cI rfl)) (tLs tK) rfl a0)) (con_laws_eqIntS e21) (.inl (so1 sB so0)) <| st rfl <| o_nt rfl <| seqN [(2, .box ((cXTable cI (cLs cI rfl) (cLs cI rfl) cI).enc v0)), (3, .box ((cXTable cI (cLs cI rfl) (cLs cI rfl) cI).enc v1)), (21, .d (cB.enc (!x20)))] (by kernel_rfl) <|
    xn <| cnd rfl h (fun b22 h => wpC_seq <| reg_s <| x_asg (sc cB false rfl) <| seqN [(4, .d (cB.enc false))] (by kernel_rfl) <|
    xn <| wpC_ret <| rt <| rt <| re <| fin h (r1 (ss rfl rfl) <| r0) rfl)
    (fun b22 h => wpC_skip <| kpN [(2, .box ((cXTable cI (cLs cI rfl) (cLs cI rfl) cI).enc v0)), (3, .box ((cXTable cI (cLs cI rfl) (cLs cI rfl) cI).enc v1))] (by kernel_rfl) <| xn <| wpC_seq <| wpC_kp <| wpC_seq <| reg_s <| st rfl <| fab rfl rfl rfl rfl <| st rfl <| lda rfl rfl rfl rfl rfl rfl <| st rfl <| fab rfl rfl rfl rfl <| st rfl <| lda rfl rfl rfl rfl rfl rfl <| st rfl <| b_neq (k := .i64) rfl rfl <| seqN [(26, .d (cB.enc (decide (v0.Sum ≠ v1.Sum))))] (by kernel_rfl) <|
    xn <| cnd rfl h (fun b24 h => wpC_seq <| reg_s <| x_asg (sc cB false rfl) <| seqN [(4, .d (cB.enc false))] (by kernel_rfl) <|
    xn <| wpC_ret <| rt <| rt <| re <| fin h (r1 (ss rfl rfl) <| r0) rfl)
    (fun b24 h => wpC_skip <| kpN [] (by kernel_rfl) <| xn <| wpC_seq <| reg_s <| x_asg (sc cB true rfl) <| seqN [(4, .d (cB.enc true))] (by kernel_rfl) <|
    xn <| wpC_ret <| re <| fin h (r1 (ss rfl rfl) <| r0) rfl))))

def rs_laws_FnExactReportText (r : Bool) : List D := [cB.enc r]
def m3 : MC := .seq (.reg [⟨some 4, .box (.t 0), none⟩,
    ⟨some 6, .box (.t 2), none⟩,
    ⟨some 8, .asg (.c (.bool false)), none⟩] [1, 3, 4, 6])
  (.seq (.kp [1, 3, 4, 6] (.seq (.reg [⟨some 18, .mv (.t 3), none⟩,
    ⟨some 19, .len false (.t 18), none⟩,
    ⟨some 20, .bin .gtr (.t 19) (.c (.int .i64 1048576)), none⟩] [1, 3, 4, 6, 20])
  (.cond (.t 20) (.seq (.reg [⟨some 8, .asg (.c (.bool true)), none⟩] [8])
  (.ret)) (.skip))))
  (.seq (.reg [⟨some 9, .asg (.c (.int .i64 1048576)), none⟩] [1, 3, 4, 6, 9])
  (.seq (.reg [⟨some 21, .ld 4 1 true, none⟩,
    ⟨some 22, .mv (.t 9), none⟩,
    ⟨some 23, .call 5 [(.t 21), (.t 22)], none⟩,
    ⟨some 9, .asg (.t 23), none⟩] [1, 3, 4, 6, 9])
  (.seq (.kp [1, 3, 4, 6, 9] (.seq (.reg [⟨some 24, .mv (.t 9), none⟩,
    ⟨some 25, .bin .lss (.t 24) (.c (.int .i64 0)), none⟩] [1, 3, 4, 6, 9, 25])
  (.cond (.t 25) (.seq (.reg [⟨some 8, .asg (.c (.bool true)), none⟩] [8])
  (.ret)) (.skip))))
  (.seq (.reg [⟨some 26, .mv (.t 1), none⟩,
    ⟨some 27, .mv (.t 9), none⟩,
    ⟨some 28, .call 6 [(.t 26), (.t 27)], none⟩,
    ⟨some 9, .asg (.t 28), none⟩] [1, 3, 4, 6, 9])
  (.seq (.kp [1, 3, 4, 6, 9] (.seq (.reg [⟨some 29, .mv (.t 9), none⟩,
    ⟨some 30, .bin .lss (.t 29) (.c (.int .i64 0)), none⟩] [1, 3, 4, 6, 9, 30])
  (.cond (.t 30) (.seq (.reg [⟨some 8, .asg (.c (.bool true)), none⟩] [8])
  (.ret)) (.skip))))
  (.seq (.reg [⟨some 31, .ld 6 4 true, none⟩,
    ⟨some 32, .mv (.t 9), none⟩,
    ⟨some 33, .call 7 [(.t 31), (.t 32)], none⟩,
    ⟨some 9, .asg (.t 33), none⟩] [1, 3, 4, 6, 9])
  (.seq (.kp [1, 3, 4, 6] (.seq (.reg [⟨some 34, .mv (.t 9), none⟩,
    ⟨some 35, .bin .lss (.t 34) (.c (.int .i64 0)), none⟩] [1, 3, 4, 6, 35])
  (.cond (.t 35) (.seq (.reg [⟨some 8, .asg (.c (.bool true)), none⟩] [8])
  (.ret)) (.skip))))
  (.seq (.drg [⟨0, ⟨some 37, .ld 4 1 true, none⟩, [38, 39, 40, 41, 42, 43, 44, 45]⟩,
    ⟨1, ⟨some 38, .call 9 [(.t 37)], none⟩, [39, 40, 41, 42, 43, 44, 45]⟩,
    ⟨2, ⟨some 39, .mv (.t 1), none⟩, [37, 38, 40, 41, 42, 43, 44, 45]⟩,
    ⟨3, ⟨some 40, .call 10 [(.t 39)], none⟩, [41, 42, 43, 44, 45]⟩,
    ⟨4, ⟨some 41, .ld 6 4 true, none⟩, [37, 38, 39, 40, 42, 43, 44, 45]⟩,
    ⟨5, ⟨some 42, .call 11 [(.t 41)], none⟩, [43, 44, 45]⟩,
    ⟨6, ⟨some 43, .mv (.t 3), none⟩, [37, 38, 39, 40, 41, 42, 44, 45]⟩,
    ⟨7, ⟨some 44, .call 12 [(.t 43)], none⟩, [45]⟩,
    ⟨8, ⟨some 45, .call 8 [(.t 38), (.t 40), (.t 42), (.t 44)], none⟩, []⟩]
    [(9, ⟨some 36, .mvt 45, none⟩),
    (10, ⟨some 46, .ext 36 0, none⟩),
    (11, ⟨some 47, .ext 36 1, none⟩),
    (12, ⟨some 10, .asg (.t 46), none⟩),
    (13, ⟨some 11, .asg (.t 47), none⟩)] [1, 3, 4, 6, 10, 11] [10, 11, 36, 45, 46, 47, 1, 3, 4, 6] [([false, false, false, false, false], 0), ([true, false, false, false, false], 1), ([true, false, false, false, false], 2), ([true, true, false, false, false], 2), ([true, true, false, false, false], 3), ([true, false, true, false, false], 1), ([true, true, true, false, false], 3), ([true, true, false, true, false], 2), ([true, true, true, true, false], 4)])
  (.seq (.reg [⟨some 48, .ld 4 1 true, none⟩,
    ⟨some 49, .call 9 [(.t 48)], none⟩,
    ⟨some 12, .alloc (.agg [.slice true []]), none⟩,
    ⟨none, .st 12 (.t 49) 1, none⟩] [1, 3, 4, 6, 10, 11, 12])
  (.seq (.reg [⟨some 50, .mv (.t 1), none⟩,
    ⟨some 51, .call 10 [(.t 50)], none⟩,
    ⟨some 13, .asg (.t 51), none⟩] [1, 3, 4, 6, 10, 11, 12, 13])
  (.seq (.reg [⟨some 52, .ld 6 4 true, none⟩,
    ⟨some 53, .call 11 [(.t 52)], none⟩,
    ⟨some 14, .alloc (.agg [.int .i64 0, .slice true [], .slice true [], .int .i64 0]), none⟩,
    ⟨none, .st 14 (.t 53) 4, none⟩] [1, 3, 4, 6, 10, 11, 12, 13, 14])
  (.seq (.reg [⟨some 54, .mv (.t 3), none⟩,
    ⟨some 55, .call 12 [(.t 54)], none⟩,
    ⟨some 15, .asg (.t 55), none⟩] [1, 3, 4, 6, 10, 11, 12, 13, 14, 15])
  (.seq (.reg [⟨some 57, .ld 12 1 true, none⟩,
    ⟨some 58, .mv (.t 13), none⟩,
    ⟨some 59, .ld 14 4 true, none⟩,
    ⟨some 60, .mv (.t 15), none⟩,
    ⟨some 61, .call 13 [(.t 57), (.t 58), (.t 59), (.t 60)], none⟩,
    ⟨some 56, .mvt 61, none⟩,
    ⟨some 62, .ext 56 0, none⟩,
    ⟨some 63, .ext 56 1, none⟩,
    ⟨some 16, .asg (.t 62), none⟩,
    ⟨some 17, .asg (.t 63), none⟩] [1, 3, 4, 6, 10, 11, 12, 13, 14, 15, 16, 17])
  (.seq (.kp [1, 3, 4, 6, 12, 13, 14, 15] (.seq (.reg [⟨some 64, .mv (.t 16), none⟩,
    ⟨some 65, .mv (.t 10), none⟩,
    ⟨some 66, .bin .neq (.t 64) (.t 65), none⟩,
    ⟨some 67, .mv (.t 66), none⟩,
    ⟨some 68, .mv (.t 17), some (67, false)⟩,
    ⟨some 69, .mv (.t 11), some (67, false)⟩,
    ⟨some 70, .eqb true (.t 68) (.t 69), some (67, false)⟩,
    ⟨some 71, .pick (.t 67) (.c (.bool true)) (.t 70), none⟩] [1, 3, 4, 6, 12, 13, 14, 15, 71])
  (.cond (.t 71) (.seq (.reg [⟨some 8, .asg (.c (.bool false)), none⟩] [8])
  (.ret)) (.skip))))
  (.seq (.kp [1, 3, 6, 13, 14, 15] (.seq (.drw [⟨0, ⟨some 72, .ld 12 1 true, none⟩, [73, 74, 75, 76]⟩,
    ⟨1, ⟨some 73, .ld 4 1 true, none⟩, [72, 74, 75, 76]⟩,
    ⟨2, ⟨some 74, .call 9 [(.t 73)], none⟩, [72, 75, 76]⟩,
    ⟨3, ⟨some 75, .call 14 [(.t 72), (.t 74)], none⟩, [76]⟩,
    ⟨4, ⟨some 76, .nt (.t 75), none⟩, []⟩]
    [] [1, 3, 6, 13, 14, 15, 76])
  (.cond (.t 76) (.seq (.reg [⟨some 8, .asg (.c (.bool false)), none⟩] [8])
  (.ret)) (.skip))))
  (.seq (.kp [3, 6, 14, 15] (.seq (.reg [⟨some 77, .mv (.t 13), none⟩,
    ⟨some 78, .mv (.t 1), none⟩,
    ⟨some 79, .call 10 [(.t 78)], none⟩,
    ⟨some 80, .call 15 [(.t 77), (.t 79)], none⟩,
    ⟨some 81, .nt (.t 80), none⟩] [3, 6, 14, 15, 81])
  (.cond (.t 81) (.seq (.reg [⟨some 8, .asg (.c (.bool false)), none⟩] [8])
  (.ret)) (.skip))))
  (.seq (.kp [3, 15] (.seq (.drw [⟨0, ⟨some 82, .ld 14 4 true, none⟩, [83, 84, 85, 86]⟩,
    ⟨1, ⟨some 83, .ld 6 4 true, none⟩, [82, 84, 85, 86]⟩,
    ⟨2, ⟨some 84, .call 11 [(.t 83)], none⟩, [82, 85, 86]⟩,
    ⟨3, ⟨some 85, .call 16 [(.t 82), (.t 84)], none⟩, [86]⟩,
    ⟨4, ⟨some 86, .nt (.t 85), none⟩, []⟩]
    [] [3, 15, 86])
  (.cond (.t 86) (.seq (.reg [⟨some 8, .asg (.c (.bool false)), none⟩] [8])
  (.ret)) (.skip))))
  (.seq (.kp [] (.seq (.reg [⟨some 87, .mv (.t 15), none⟩,
    ⟨some 88, .mv (.t 3), none⟩,
    ⟨some 89, .call 12 [(.t 88)], none⟩,
    ⟨some 90, .call 17 [(.t 87), (.t 89)], none⟩,
    ⟨some 91, .nt (.t 90), none⟩] [91])
  (.cond (.t 91) (.seq (.reg [⟨some 8, .asg (.c (.bool false)), none⟩] [8])
  (.ret)) (.skip))))
  (.seq (.reg [⟨some 8, .asg (.c (.bool true)), none⟩] [8])
  (.ret)))))))))))))))))))))
theorem con_laws_FnExactReportText {v0 : XGeo} {v1 : (List XVariable)} {v2 : XTable} {v3 : (List Int)} {r : Bool} (h : sh_laws_FnExactReportText v0 v1 v2 v3 = some r) : Con Tryd.prog 3 [(cXGeo (cLs cI rfl)).enc v0, (cLs (cXVariable cS cI) rfl).enc v1, (cXTable cI (cLs cI rfl) (cLs cI rfl) cI).enc v2, (cLs cI rfl).enc v3] [] (rs_laws_FnExactReportText r) := by
  delta sh_laws_FnExactReportText at h
  refine top (out := none) (f := Tryd.f3) (m := m3) (rs := [.t 8]) (by kernel_rfl) rfl (by kernel_rfl) (by kernel_rfl) (by kernel_rfl) (by kernel_rfl) (by kernel_rfl) ?_
  exact
   ini [(0, .d ((cXGeo (cLs cI rfl)).enc v0)), (1, .d ((cLs (cXVariable cS cI) rfl).enc v1)), (2, .d ((cXTable cI (cLs cI rfl) (cLs cI rfl) cI).enc v2)), (3, .d ((cLs cI rfl).enc v3))] rfl <| wpC_seq <| reg_s <| x_box (ss rfl rfl) <| x_box (ss rfl rfl) <| x_asg (sc cB false rfl) <| seqN [(1, .d ((cLs (cXVariable cS cI) rfl).enc v1)), (3, .d ((cLs cI rfl).enc v3)), (4, .box ((cXGeo (cLs cI rfl)).enc v0)), (6, .box ((cXTable cI (cLs cI rfl) (cLs cI rfl) cI).enc v2))] (by kernel_rfl) <|
    xn <| wpC_seq <| wpC_kp <| wpC_seq <| reg_s <| st rfl <| mvd rfl rfl <| stw rfl <| lens rfl fun l5 => st rfl <| b_gtr (k := .i64) rfl rfl <| seqN [(1, .d ((cLs (cXVariable cS cI) rfl).enc v1)), (3, .d ((cLs cI rfl).enc v3)), (4, .box ((cXGeo (cLs cI rfl)).enc v0)), (6, .box ((cXTable cI (cLs cI rfl) (cLs cI rfl) cI).enc v2)), (20, .d (cB.enc (decide ((1048576 : Int) < (v3.length : Int)))))] (by kernel_rfl) <|
    xn <| cnd rfl h (fun b6 h => wpC_seq <| reg_s <| x_asg (sc cB true rfl) <| seqN [(8, .d (cB.enc true))] (by kernel_rfl) <|
    xn <| wpC_ret <| rt <| rt <| re <| fin h (r1 (ss rfl rfl) <| r0) rfl)
    (fun b6 h => wpC_skip <| kpN [(1, .d ((cLs (cXVariable cS cI) rfl).enc v1)), (3, .d ((cLs cI rfl).enc v3)), (4, .box ((cXGeo (cLs cI rfl)).enc v0)), (6, .box ((cXTable cI (cLs cI rfl) (cLs cI rfl) cI).enc v2))] (by kernel_rfl) <| xn <| wpC_seq <| reg_s <| x_asg (sc cI (1048576 : Int) rfl) <| seqN [(1, .d ((cLs (cXVariable cS cI) rfl).enc v1)), (3, .d ((cLs cI rfl).enc v3)), (4, .box ((cXGeo (cLs cI rfl)).enc v0)), (6, .box ((cXTable cI (cLs cI rfl) (cLs cI rfl) cI).enc v2)), (9, .d (cI.enc (1048576 : Int)))] (by kernel_rfl) <|
    xn <| wpC_seq <| reg_s <| st rfl <| ldb rfl rfl rfl rfl <| st rfl <| mvd rfl rfl <| bnd h fun x9 e10 h => st rfl <| o_call (a1 (c := (cXGeo (cLs cI rfl))) (tXGeo (tLs tK)) rfl (a1 (c := cI) tK rfl a0)) (con_laws_szGeo e10) (.inl (so1 sK so0)) <| x_asg (ss rfl rfl) <| seqN [(1, .d ((cLs (cXVariable cS cI) rfl).enc v1)), (3, .d ((cLs cI rfl).enc v3)), (4, .box ((cXGeo (cLs cI rfl)).enc v0)), (6, .box ((cXTable cI (cLs cI rfl) (cLs cI rfl) cI).enc v2)), (9, .d (cI.enc x9))] (by kernel_rfl) <|
    xn <| wpC_seq <| wpC_kp <| wpC_seq <| reg_s <| st rfl <| mvd rfl rfl <| st rfl <| b_lss (k := .i64) rfl rfl <| seqN [(1, .d ((cLs (cXVariable cS cI) rfl).enc v1)), (3, .d ((cLs cI rfl).enc v3)), (4, .box ((cXGeo (cLs cI rfl)).enc v0)), (6, .box ((cXTable cI (cLs cI rfl) (cLs cI rfl) cI).enc v2)), (9, .d (cI.enc x9)), (25, .d (cB.enc (decide (x9 < (0 : Int)))))] (by kernel_rfl) <|
    xn <| cnd rfl h (fun b12 h => wpC_seq <| reg_s <| x_asg (sc cB true rfl) <| seqN [(8, .d (cB.enc true))] (by kernel_rfl) <|
    xn <| wpC_ret <| rt <| rt <| re <| fin h (r1 (ss rfl rfl) <| r0) rfl)
    (fun b12 h => wpC_skip <| kpN [(1, .d ((cLs (cXVariable cS cI) rfl).enc v1)), (3, .d ((cLs cI rfl).enc v3)), (4, .box ((cXGeo (cLs cI rfl)).enc v0)), (6, .box ((cXTable cI (cLs cI rfl) (cLs cI rfl) cI).enc v2)), (9, .d (cI.enc x9))] (by kernel_rfl) <| xn <| wpC_seq <| reg_s <| st rfl <| mvd rfl rfl <| st rfl <| mvd rfl rfl <| bnd h fun x15 e16 h => st rfl <| o_call (a1 (c := (cLs (cXVariable cS cI) rfl)) (tLs (tXVariable tS tK)) rfl (a1 (c := cI) tK rfl a0)) (con_laws_szVariableS e16) (.inl (so1 sK so0)) <| x_asg (ss rfl rfl) <| seqN [(1, .d ((cLs (cXVariable cS cI) rfl).enc v1)), (3, .d ((cLs cI rfl).enc v3)), (4, .box ((cXGeo (cLs cI rfl)).enc v0)), (6, .box ((cXTable cI (cLs cI rfl) (cLs cI rfl) cI).enc v2)), (9, .d (cI.enc x15))] (by kernel_rfl) <|
    xn <| wpC_seq <| wpC_kp <| wpC_seq <| reg_s <| st rfl <| mvd rfl rfl <| st rfl <| b_lss (k := .i64) rfl rfl <| seqN [(1, .d ((cLs (cXVariable cS cI) rfl).enc v1)), (3, .d ((cLs cI rfl).enc v3)), (4, .box ((cXGeo (cLs cI rfl)).enc v0)), (6, .box ((cXTable cI (cLs cI rfl) (cLs cI rfl) cI).enc v2)), (9, .d (cI.enc x15)), (30, .d (cB.enc (decide (x15 < (0 : Int)))))] (by kernel_rfl) <|
    xn <| cnd rfl h (fun b18 h => wpC_seq <| reg_s <| x_asg (sc cB true rfl) <| seqN [(8, .d (cB.enc true))] (by kernel_rfl) <|
    xn <| wpC_ret <| rt <| rt <| re <| fin h (r1 (ss rfl rfl) <| r0) rfl)
    (fun b18 h => wpC_skip <| kpN [(1, .d ((cLs (cXVariable cS cI) rfl).enc v1)), (3, .d ((cLs cI rfl).enc v3)), (4, .box ((cXGeo (cLs cI rfl)).enc v0)), (6, .box ((cXTable cI (cLs cI rfl) (cLs cI rfl) cI).enc v2)), (9, .d (cI.enc x15))] (by kernel_rfl) <| xn <| wpC_seq <| reg_s <| st rfl <| ldb rfl rfl rfl rfl <| st rfl <| mvd rfl rfl <| bnd h fun x21 e22 h => st rfl <| o_call (a1 (c := (cXTable cI (cLs cI rfl) (cLs cI rfl) cI)) (tXTable tK (tLs tK) (tLs tK) tK) rfl (a1 (c := cI) tK rfl a0)) (con_laws_szTable e22) (.inl (so1 sK so0)) <| x_asg (ss rfl rfl) <| seqN [(1, .d ((cLs (cXVariable cS cI) rfl).enc v1)), (3, .d ((cLs cI rfl).enc v3)), (4, .box ((cXGeo (cLs cI rfl)).enc v0)), (6, .box ((cXTable cI (cLs cI rfl) (cLs cI rfl) cI).enc v2)), (9, .d (cI.enc x21))] (by kernel_rfl) <|
    xn <| wpC_seq <| wpC_kp <| wpC_seq <| reg_s <| st rfl <| mvd rfl rfl <| st rfl <| b_lss (k := .i64) rfl rfl <| seqN [(1, .d ((cLs (cXVariable cS cI) rfl).enc v1)), (3, .d ((cLs cI rfl).enc v3)), (4, .box ((cXGeo (cLs cI rfl)).enc v0)), (6, .box ((cXTable cI (cLs cI rfl) (cLs cI rfl) cI).enc v2)), (35, .d (cB.enc (decide (x21 < (0 : Int)))))] (by kernel_rfl) <|
    xn <| cnd rfl h (fun b24 h => wpC_seq <| reg_s <| x_asg (sc cB true rfl) <| seqN [(8, .d (cB.enc true))] (by kernel_rfl) <|
    xn <| wpC_ret <| rt <| rt <| re <| fin h (r1 (ss rfl rfl) <| r0) rfl)
    (fun b24 h => wpC_skip <| kpN [(1, .d ((cLs (cXVariable cS cI) rfl).enc v1)), (3, .d ((cLs cI rfl).enc v3)), (4, .box ((cXGeo (cLs cI rfl)).enc v0)), (6, .box ((cXTable cI (cLs cI rfl) (cLs cI rfl) cI).enc v2))] (by kernel_rfl) <| xn <| wpC_seq <| drg_s <| pst rfl <| ldb rfl rfl rfl rfl ⟨rfl, bndp h fun x35 e36 h => pst rfl <| o_call (a1 (c := (cXGeo (cLs cI rfl))) (tXGeo (tLs tK)) rfl a0) (con_laws_toGeo e36) (.inl (so1 (sXGeo (sLo sK)) so0)) ⟨rfl, pst rfl <| mvd rfl rfl ⟨rfl, bndp h fun x37 e38 h => pst rfl <| o_call (a1 (c := (cLs (cXVariable cS cI) rfl)) (tLs (tXVariable tS tK)) rfl a0) (con_laws_toVariableS e38) (.inl (so1 (sLo (sXVariable sS sK)) so0)) ⟨rfl, pst rfl <| ldb rfl rfl rfl rfl ⟨rfl, bndp h fun x39 e40 h => pst rfl <| o_call (a1 (c := (cXTable cI (cLs cI rfl) (cLs cI rfl) cI)) (tXTable tK (tLs tK) (tLs tK) tK) rfl a0) (con_laws_toTable e40) (.inl (so1 (sXTable sK (sLo sK) (sLo sK) sK) so0)) ⟨rfl, pst rfl <| mvd rfl rfl ⟨rfl, bndp h fun x41 e42 h => pst rfl <| o_call (a1 (c := (cLs cI rfl)) (tLs tK) rfl a0) (con_laws_toIntS e42) (.inl (so1 (sLo sK) so0)) ⟨rfl, bndp h fun x43 e44 h => pst rfl <| o_call (a1 (c := (cXGeo (cLo cI))) (tXGeo (tLo tK)) rfl (a1 (c := (cLo (cXVariable cS cI))) (tLo (tXVariable tS tK)) rfl (a1 (c := (cXTable cI (cLo cI) (cLo cI) cI)) (tXTable tK (tLo tK) (tLo tK) tK) rfl (a1 (c := (cLo cI)) (tLo tK) rfl a0)))) (con_spec_ReportText e44) (.inl (so1 sS (so1 sB so0))) ⟨rfl, preN <| gr_s [(1, .d ((cLs (cXVariable cS cI) rfl).enc v1)), (3, .d ((cLs cI rfl).enc v3)), (4, .box ((cXGeo (cLs cI rfl)).enc v0)), (6, .box ((cXTable cI (cLs cI rfl) (cLs cI rfl) cI).enc v2))] [([false, false, false, false, false], [(10, .un), (11, .un), (36, .un), (45, .tup [some (cS.enc x43.1), some (cB.enc x43.2)]), (46, .un), (47, .un)]),
     ([true, false, false, false, false], [(10, .un), (11, .un), (36, .tup [some (cS.enc x43.1), some (cB.enc x43.2)]), (45, .un), (46, .un), (47, .un)]),
     ([true, true, false, false, false], [(10, .un), (11, .un), (36, .tup [none, some (cB.enc x43.2)]), (45, .un), (46, .d (cS.enc x43.1)), (47, .un)]),
     ([true, false, true, false, false], [(10, .un), (11, .un), (36, .tup [some (cS.enc x43.1), none]), (45, .un), (46, .un), (47, .d (cB.enc x43.2))]),
     ([true, true, true, false, false], [(10, .un), (11, .un), (36, .tup [none, none]), (45, .un), (46, .d (cS.enc x43.1)), (47, .d (cB.enc x43.2))]),
     ([true, true, false, true, false], [(10, .d (cS.enc x43.1)), (11, .un), (36, .tup [none, some (cB.enc x43.2)]), (45, .un), (46, .d (cS.enc x43.1)), (47, .un)]),
     ([true, true, true, true, false], [(10, .d (cS.enc x43.1)), (11, .un), (36, .tup [none, none]), (45, .un), (46, .d (cS.enc x43.1)), (47, .d (cB.enc x43.2))]),
     ([true, true, true, true, true], [(10, .d (cS.enc x43.1)), (11, .d (cB.enc x43.2)), (36, .tup [none, none]), (45, .un), (46, .d (cS.enc x43.1)), (47, .d (cB.enc x43.2))])] [(1, .d ((cLs (cXVariable cS cI) rfl).enc v1)), (3, .d ((cLs cI rfl).enc v3)), (4, .box ((cXGeo (cLs cI rfl)).enc v0)), (6, .box ((cXTable cI (cLs cI rfl) (cLs cI rfl) cI).enc v2)), (10, .d (cS.enc x43.1)), (11, .d (cB.enc x43.2))] [([false, false, false, false, false], [])] (by kernel_rfl) (sa1 rfl (by kernel_rfl) <| sa0) rfl
    (ob1 rfl rfl rfl (x_mvt rfl <| obN (by kernel_rfl)) <|
    ob1 rfl rfl rfl (x_ext rfl rfl <| obN (by kernel_rfl)) <|
    ob1 rfl rfl rfl (x_ext rfl rfl <| obN (by kernel_rfl)) <|
    ob1 rfl rfl rfl (x_ext rfl rfl <| obN (by kernel_rfl)) <|
    ob1 rfl rfl rfl (x_asg (ss rfl rfl) <| obN (by kernel_rfl)) <|
    ob1 rfl rfl rfl (x_ext rfl rfl <| obN (by kernel_rfl)) <|
    ob1 rfl rfl rfl (x_asg (ss rfl rfl) <| obN (by kernel_rfl)) <|
    ob1 rfl rfl rfl (x_ext rfl rfl <| obN (by kernel_rfl)) <|
    ob1 rfl rfl rfl (x_asg (ss rfl rfl) <| obN (by kernel_rfl)) <|
    ob0)
    (by kernel_rfl) <|
    xn <| wpC_seq <| reg_s <| st rfl <| ldb rfl rfl rfl rfl <| bnd h fun x47 e48 h => st rfl <| o_call (a1 (c := (cXGeo (cLs cI rfl))) (tXGeo (tLs tK)) rfl a0) (con_laws_toGeo e48) (.inl (so1 (sXGeo (sLo sK)) so0)) <| x_all (cXGeo (cLo cI)) (⟨([] : List Int)⟩ : XGeo) rfl <| x_stb (so rfl rfl) rfl (Cd.h_sz _ _) rfl <| seqN [(1, .d ((cLs (cXVariable cS cI) rfl).enc v1)), (3, .d ((cLs cI rfl).enc v3)), (4, .box ((cXGeo (cLs cI rfl)).enc v0)), (6, .box ((cXTable cI (cLs cI rfl) (cLs cI rfl) cI).enc v2)), (10, .d (cS.enc x43.1)), (11, .d (cB.enc x43.2)), (12, .box ((cXGeo (cLo cI)).enc x47))] (by kernel_rfl) <|
    xn <| wpC_seq <| reg_s <| st rfl <| mvd rfl rfl <| bnd h fun x51 e52 h => st rfl <| o_call (a1 (c := (cLs (cXVariable cS cI) rfl)) (tLs (tXVariable tS tK)) rfl a0) (con_laws_toVariableS e52) (.inl (so1 (sLo (sXVariable sS sK)) so0)) <| x_asg (so rfl rfl) <| seqN [(1, .d ((cLs (cXVariable cS cI) rfl).enc v1)), (3, .d ((cLs cI rfl).enc v3)), (4, .box ((cXGeo (cLs cI rfl)).enc v0)), (6, .box ((cXTable cI (cLs cI rfl) (cLs cI rfl) cI).enc v2)), (10, .d (cS.enc x43.1)), (11, .d (cB.enc x43.2)), (12, .box ((cXGeo (cLo cI)).enc x47)), (13, .d ((cLo (cXVariable cS cI)).enc x51))] (by kernel_rfl) <|
    xn <| wpC_seq <| reg_s <| st rfl <| ldb rfl rfl rfl rfl <| bnd h fun x55 e56 h => st rfl <| o_call (a1 (c := (cXTable cI (cLs cI rfl) (cLs cI rfl) cI)) (tXTable tK (tLs tK) (tLs tK) tK) rfl a0) (con_laws_toTable e56) (.inl (so1 (sXTable sK (sLo sK) (sLo sK) sK) so0)) <| x_all (cXTable cI (cLo cI) (cLo cI) cI) (⟨(0 : Int), ([] : List Int), ([] : List Int), (0 : Int)⟩ : XTable) rfl <| x_stb (so rfl rfl) rfl (Cd.h_sz _ _) rfl <| seqN [(1, .d ((cLs (cXVariable cS cI) rfl).enc v1)), (3, .d ((cLs cI rfl).enc v3)), (4, .box ((cXGeo (cLs cI rfl)).enc v0)), (6, .box ((cXTable cI (cLs cI rfl) (cLs cI rfl) cI).enc v2)), (10, .d (cS.enc x43.1)), (11, .d (cB.enc x43.2)), (12, .box ((cXGeo (cLo cI)).enc x47)), (13, .d ((cLo (cXVariable cS cI)).enc x51)), (14, .box ((cXTable cI (cLo cI) (cLo cI) cI).enc x55))] (by kernel_rfl) <|
    xn <| wpC_seq <| reg_s <| st rfl <| mvd rfl rfl <| bnd h fun x59 e60 h => st rfl <| o_call (a1 (c := (cLs cI rfl)) (tLs tK) rfl a0) (con_laws_toIntS e60) (.inl (so1 (sLo sK) so0)) <| x_asg (so rfl rfl) <| seqN [(1, .d ((cLs (cXVariable cS cI) rfl).enc v1)), (3, .d ((cLs cI rfl).enc v3)), (4, .box ((cXGeo (cLs cI rfl)).enc v0)), (6, .box ((cXTable cI (cLs cI rfl) (cLs cI rfl) cI).enc v2)), (10, .d (cS.enc x43.1)), (11, .d (cB.enc x43.2)), (12, .box ((cXGeo (cLo cI)).enc x47)), (13, .d ((cLo (cXVariable cS cI)).enc x51)), (14, .box ((cXTable cI (cLo cI) (cLo cI) cI).enc x55)), (15, .d ((cLo cI).enc x59))] (by kernel_rfl) <|
    xn <| wpC_seq <| reg_s <| st rfl <| ldbo rfl rfl rfl rfl <| st rfl <| mvo rfl rfl <| st rfl <| ldbo rfl rfl rfl rfl <| st rfl <| mvo rfl rfl <| bnd h fun x63 e64 h => st rfl <| o_call (a1 (c := (cXGeo (cLo cI))) (tXGeo (tLo tK)) rfl (a1 (c := (cLo (cXVariable cS cI))) (tLo (tXVariable tS tK)) rfl (a1 (c := (cXTable cI (cLo cI) (cLo cI) cI)) (tXTable tK (tLo tK) (tLo tK) tK) rfl (a1 (c := (cLo cI)) (tLo tK) rfl a0)))) (con_impl_ReportText e64) (.inl (so1 sS (so1 sB so0))) <| x_mvt rfl <| x_ext rfl rfl <| x_ext rfl rfl <| x_asg (ss rfl rfl) <| x_asg (ss rfl rfl) <| seqN [(1, .d ((cLs (cXVariable cS cI) rfl).enc v1)), (3, .d ((cLs cI rfl).enc v3)), (4, .box ((cXGeo (cLs cI rfl)).enc v0)), (6, .box ((cXTable cI (cLs cI rfl) (cLs cI rfl) cI).enc v2)), (10, .d (cS.enc x43.1)), (11, .d (cB.enc x43.2)), (12, .box ((cXGeo (cLo cI)).enc x47)), (13, .d ((cLo (cXVariable cS cI)).enc x51)), (14, .box ((cXTable cI (cLo cI) (cLo cI) cI).enc x55)), (15, .d ((cLo cI).enc x59)), (16, .d (cS.enc x63.1)), (17, .d (cB.enc x63.2))] (by kernel_rfl) <|
    xn <| wpC_seq <| wpC_kp <| wpC_seq <| reg_s <| st rfl <| mvd rfl rfl <| st rfl <| mvd rfl rfl <| st rfl <| b_sne rfl rfl <| st rfl <| mvd rfl rfl <| ite_k h (fun b69 h => gf rfl b69 <| gf rfl b69 <| gf rfl b69 <| st rfl <| pick1 rfl b69 (cd := cB) (v := true) rfl rfl <| seqN [(1, .d ((cLs (cXVariable cS cI) rfl).enc v1)), (3, .d ((cLs cI rfl).enc v3)), (4, .box ((cXGeo (cLs cI rfl)).enc v0)), (6, .box ((cXTable cI (cLs cI rfl) (cLs cI rfl) cI).enc v2)), (12, .box ((cXGeo (cLo cI)).enc x47)), (13, .d ((cLo (cXVariable cS cI)).enc x51)), (14, .box ((cXTable cI (cLo cI) (cLo cI) cI).enc x55)), (15, .d ((cLo cI).enc x59)), (71, .d (cB.enc true))] (by kernel_rfl) <|
    xn <| cnd1 rfl rfl <| wpC_seq <| reg_s <| x_asg (sc cB false rfl) <| seqN [(8, .d (cB.enc false))] (by kernel_rfl) <|
    xn <| wpC_ret <| rt <| rt <| re <| fin h (r1 (ss rfl rfl) <| r0) rfl)
    (fun b69 h => gt' rfl b69 <| st rfl <| mvd rfl rfl <| gt' rfl b69 <| st rfl <| mvd rfl rfl <| gt' rfl b69 <| st rfl <| eqb1 rfl rfl <| st rfl <| pick0 rfl b69 (cd := cB) (v := (x63.2 != x43.2)) rfl rfl <| seqN [(1, .d ((cLs (cXVariable cS cI) rfl).enc v1)), (3, .d ((cLs cI rfl).enc v3)), (4, .box ((cXGeo (cLs cI rfl)).enc v0)), (6, .box ((cXTable cI (cLs cI rfl) (cLs cI rfl) cI).enc v2)), (12, .box ((cXGeo (cLo cI)).enc x47)), (13, .d ((cLo (cXVariable cS cI)).enc x51)), (14, .box ((cXTable cI (cLo cI) (cLo cI) cI).enc x55)), (15, .d ((cLo cI).enc x59)), (71, .d (cB.enc (x63.2 != x43.2)))] (by kernel_rfl) <|
    xn <| cnd rfl h (fun b70 h => wpC_seq <| reg_s <| x_asg (sc cB false rfl) <| seqN [(8, .d (cB.enc false))] (by kernel_rfl) <|
    xn <| wpC_ret <| rt <| rt <| re <| fin h (r1 (ss rfl rfl) <| r0) rfl)
    (fun b70 h => wpC_skip <| kpN [(1, .d ((cLs (cXVariable cS cI) rfl).enc v1)), (3, .d ((cLs cI rfl).enc v3)), (4, .box ((cXGeo (cLs cI rfl)).enc v0)), (6, .box ((cXTable cI (cLs cI rfl) (cLs cI rfl) cI).enc v2)), (12, .box ((cXGeo (cLo cI)).enc x47)), (13, .d ((cLo (cXVariable cS cI)).enc x51)), (14, .box ((cXTable cI (cLo cI) (cLo cI) cI).enc x55)), (15, .d ((cLo cI).enc x59))] (by kernel_rfl) <| xn <| wpC_seq <| wpC_kp <| wpC_seq <| drw_s <| pst rfl <| ldbo rfl rfl rfl rfl ⟨rfl, pst rfl <| ldb rfl rfl rfl rfl ⟨rfl, bndp h fun x84 e85 h => pst rfl <| o_call (a1 (c := (cXGeo (cLs cI rfl))) (tXGeo (tLs tK)) rfl a0) (con_laws_toGeo e85) (.inl (so1 (sXGeo (sLo sK)) so0)) ⟨rfl, bndp h fun x86 e87 h => pst rfl <| o_call (a1 (c := (cXGeo (cLo cI))) (tXGeo (tLo tK)) rfl (a1 (c := (cXGeo (cLo cI))) (tXGeo (tLo tK)) rfl a0)) (con_laws_eqGeo e87) (.inl (so1 sB so0)) ⟨rfl, pst rfl <| o_nt rfl ⟨rfl, preN <| seqN [(1, .d ((cLs (cXVariable cS cI) rfl).enc v1)), (3, .d ((cLs cI rfl).enc v3)), (6, .box ((cXTable cI (cLs cI rfl) (cLs cI rfl) cI).enc v2)), (13, .d ((cLo (cXVariable cS cI)).enc x51)), (14, .box ((cXTable cI (cLo cI) (cLo cI) cI).enc x55)), (15, .d ((cLo cI).enc x59)), (76, .d (cB.enc (!x86)))] (by kernel_rfl) <|
    xn <| cnd rfl h (fun b88 h => wpC_seq <| reg_s <| x_asg (sc cB false rfl) <| seqN [(8, .d (cB.enc false))] (by kernel_rfl) <|
    xn <| wpC_ret <| rt <| rt <| re <| fin h (r1 (ss rfl rfl) <| r0) rfl)
    (fun b88 h => wpC_skip <| kpN [(1, .d ((cLs (cXVariable cS cI) rfl).enc v1)), (3, .d ((cLs cI rfl).enc v3)), (6, .box ((cXTable cI (cLs cI rfl) (cLs cI rfl) cI).enc v2)), (13, .d ((cLo (cXVariable cS cI)).enc x51)), (14, .box ((cXTable cI (cLo cI) (cLo cI) cI).enc x55)), (15, .d ((cLo cI).enc x59))] (by kernel_rfl) <| xn <| wpC_seq <| wpC_kp <| wpC_seq <| reg_s <| st rfl <| mvo rfl rfl <| st rfl <| mvd rfl rfl <| bnd h fun x102 e103 h => st rfl <| o_call (a1 (c := (cLs (cXVariable cS cI) rfl)) (tLs (tXVariable tS tK)) rfl a0) (con_laws_toVariableS e103) (.inl (so1 (sLo (sXVariable sS sK)) so0)) <| bnd h fun x104 e105 h => st rfl <| o_call (a1 (c := (cLo (cXVariable cS cI))) (tLo (tXVariable tS tK)) rfl (a1 (c := (cLo (cXVariable cS cI))) (tLo (tXVariable tS tK)) rfl a0)) (con_laws_eqVariableS e105) (.inl (so1 sB so0)) <| st rfl <| o_nt rfl <| seqN [(3, .d ((cLs cI rfl).enc v3)), (6, .box ((cXTable cI (cLs cI rfl) (cLs cI rfl) cI).enc v2)), (14, .box ((cXTable cI (cLo cI) (cLo cI) cI).enc x55)), (15, .d ((cLo cI).enc x59)), (81, .d (cB.enc (!x104)))] (by kernel_rfl) <|
    xn <| cnd rfl h (fun b106 h => wpC_seq <| reg_s <| x_asg (sc cB false rfl) <| seqN [(8, .d (cB.enc false))] (by kernel_rfl) <|
    xn <| wpC_ret <| rt <| rt <| re <| fin h (r1 (ss rfl rfl) <| r0) rfl)
    (fun b106 h => wpC_skip <| kpN [(3, .d ((cLs cI rfl).enc v3)), (6, .box ((cXTable cI (cLs cI rfl) (cLs cI rfl) cI).enc v2)), (14, .box ((cXTable cI (cLo cI) (cLo cI) cI).enc x55)), (15, .d ((cLo cI).enc x59))] (by kernel_rfl) <| xn <| wpC_seq <| wpC_kp <| wpC_seq <| drw_s <| pst rfl <| ldbo rfl rfl rfl rfl ⟨rfl, pst rfl <| ldb rfl rfl rfl rfl ⟨rfl, bndp h fun x120 e121 h => pst rfl <| o_call (a1 (c := (cXTable cI (cLs cI rfl) (cLs cI rfl) cI)) (tXTable tK (tLs tK) (tLs tK) tK) rfl a0) (con_laws_toTable e121) (.inl (so1 (sXTable sK (sLo sK) (sLo sK) sK) so0)) ⟨rfl, bndp h fun x122 e123 h => pst rfl <| o_call (a1 (c := (cXTable cI (cLo cI) (cLo cI) cI)) (tXTable tK (tLo tK) (tLo tK) tK) rfl (a1 (c := (cXTable cI (cLo cI) (cLo cI) cI)) (tXTable tK (tLo tK) (tLo tK) tK) rfl a0)) (con_laws_eqTable e123) (.inl (so1 sB so0)) ⟨rfl, pst rfl <| o_nt rfl ⟨rfl, preN <| seqN [(3, .d ((cLs cI rfl).enc v3)), (15, .d ((cLo cI).enc x59)), (86, .d (cB.enc (!x122)))] (by kernel_rfl) <|
    xn <| cnd rfl h (fun b124 h => wpC_seq <| reg_s <| x_asg (sc cB false rfl) <| seqN [(8, .d (cB.enc false))] (by kernel_rfl) <|
    xn <| wpC_ret <| rt <| rt <| re <| fin h (r1 (ss rfl rfl) <| r0) rfl)
    (fun b124 h => wpC_skip <| kpN [(3, .d ((cLs cI rfl).enc v3)), (15, .d ((cLo cI).enc x59))] (by kernel_rfl) <| xn <| wpC_seq <| wpC_kp <| wpC_seq <| reg_s <| st rfl <| mvo rfl rfl <| st rfl <| mvd rfl rfl <| bnd h fun x138 e139 h => st rfl <| o_call (a1 (c := (cLs cI rfl)) (tLs tK) rfl a0) (con_laws_toIntS e139) (.inl (so1 (sLo sK) so0)) <| bnd h fun x140 e141 h => st rfl <| o_call (a1 (c := (cLo cI)) (tLo tK) rfl (a1 (c := (cLo cI)) (tLo tK) rfl a0)) (con_laws_eqIntS e141) (.inl (so1 sB so0)) <| st rfl <| o_nt rfl <| seqN [(91, .d (cB.enc (!x140)))] (by kernel_rfl) <|
    xn <| cnd rfl h (fun b142 h => wpC_seq <| reg_s <| x_asg (sc cB false rfl) <| seqN [(8, .d (cB.enc false))] (by kernel_rfl) <|
    xn <| wpC_ret <| rt <| rt <| re <| fin h (r1 (ss rfl rfl) <| r0) rfl)
    (fun b142 h => wpC_skip <| kpN [] (by kernel_rfl) <| xn <| wpC_seq <| reg_s <| x_asg (sc cB true rfl) <| seqN [(8, .d (cB.enc true))] (by kernel_rfl) <|
    xn <| wpC_ret <| re <| fin h (r1 (ss rfl rfl) <| r0) rfl))⟩⟩⟩⟩⟩))⟩⟩⟩⟩⟩))⟩⟩⟩⟩⟩⟩⟩⟩⟩))))
end AS.W
