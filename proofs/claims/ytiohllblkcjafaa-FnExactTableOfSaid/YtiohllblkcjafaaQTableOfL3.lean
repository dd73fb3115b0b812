/- The program computes the plain functions. No condition. -/
import Derived.Test.YtiohllblkcjafaaQTableOfS
import Derived.Test.YtiohllblkcjafaaProg
import Derived.Test.YtiohllblkcjafaaQTableOfL2
set_option maxRecDepth 100000
set_option linter.unusedVariables false
set_option linter.unusedSimpArgs false
namespace AS.W
open Go Go.Proofs
def rs_impl_isSurvey (r : Bool) : List D := [cB.enc r]
def m88 : MC := .seq (.reg [⟨some 3, .box (.t 0), none⟩,
    ⟨some 6, .asg (.c (.bool false)), none⟩] [1, 2, 3])
  (.seq (.kp [2, 3] (.seq (.reg [⟨some 9, .mv (.t 1), none⟩,
    ⟨some 10, .mv (.t 2), none⟩,
    ⟨some 11, .call 131 [(.t 9), (.t 10)], none⟩,
    ⟨some 12, .nt (.t 11), none⟩] [2, 3, 12])
  (.cond (.t 12) (.seq (.reg [⟨some 6, .asg (.c (.bool false)), none⟩] [6])
  (.ret)) (.skip))))
  (.seq (.kp [] (.seq (.reg [⟨some 13, .mv (.t 2), none⟩,
    ⟨some 14, .len false (.t 13), none⟩,
    ⟨some 15, .mv (.c (.int .i64 0)), none⟩] [2, 3, 13, 14, 15])
  (.blk 0 (.loop (.seq (.reg [⟨some 16, .bin .lss (.t 15) (.t 14), none⟩] [2, 3, 13, 14, 15, 16])
  (.seq (.kp [2, 3, 13, 14, 15] (.cond (.t 16) (.skip) (.exit 0)))
  (.seq (.kp [2, 3, 13, 14, 15] (.blk 1 (.seq (.reg [⟨some 17, .ia 13 (.t 15) 3, none⟩,
    ⟨some 18, .ld 17 3 true, none⟩,
    ⟨some 8, .alloc (.agg [.int .i64 0, .int .i64 0, .slice true []]), none⟩,
    ⟨none, .st 8 (.t 18) 3, none⟩] [2, 3, 8, 13, 14, 15])
  (.seq (.reg [⟨some 19, .ld 3 1 true, none⟩,
    ⟨some 20, .fa 8 0 0, none⟩,
    ⟨some 21, .ld 20 1 false, none⟩,
    ⟨some 22, .call 70 [(.t 19), (.t 21)], none⟩,
    ⟨some 23, .nt (.t 22), none⟩,
    ⟨some 24, .mv (.t 23), none⟩,
    ⟨some 25, .ld 3 1 true, some (24, false)⟩,
    ⟨some 26, .fa 8 0 0, some (24, false)⟩,
    ⟨some 27, .ld 26 1 false, some (24, false)⟩,
    ⟨some 28, .call 71 [(.t 25), (.t 27)], some (24, false)⟩,
    ⟨some 29, .nt (.t 28), some (24, false)⟩,
    ⟨some 30, .pick (.t 24) (.c (.bool true)) (.t 29), none⟩] [2, 3, 13, 14, 15, 30])
  (.cond (.t 30) (.seq (.reg [⟨some 6, .asg (.c (.bool false)), none⟩] [6])
  (.ret)) (.skip))))))
  (.reg [⟨some 31, .bin .add (.t 15) (.c (.int .i64 1)), none⟩,
    ⟨some 15, .mv (.t 31), none⟩] [2, 3, 13, 14, 15]))))))))
  (.seq (.reg [⟨some 6, .asg (.c (.bool true)), none⟩] [6])
  (.ret))))
theorem con_impl_isSurvey {v0 : XGeo} {v1 : (List XVariable)} {v2 : (List XRecord)} {r : Bool} (h : sh_impl_isSurvey v0 v1 v2 = some r) : Con Try.prog 88 [(cXGeo (cLs cI rfl)).enc v0, (cLs (cXVariable cS cI) rfl).enc v1, (cLs (cXRecord cI cI (cLs cI rfl)) rfl).enc v2] [] (rs_impl_isSurvey r) := by
  delta sh_impl_isSurvey at h
  refine top (out := none) (f := Try.f88) (m := m88) (rs := [.t 6]) (by kernel_rfl) rfl (by kernel_rfl) (by kernel_rfl) (by kernel_rfl) (by kernel_rfl) (by kernel_rfl) ?_
  exact
   ini [(0, .d ((cXGeo (cLs cI rfl)).enc v0)), (1, .d ((cLs (cXVariable cS cI) rfl).enc v1)), (2, .d ((cLs (cXRecord cI cI (cLs cI rfl)) rfl).enc v2))] rfl <| wpC_seq <| reg_s <| x_box (ss rfl rfl) <| x_asg (sc cB false rfl) <| seqN [(1, .d ((cLs (cXVariable cS cI) rfl).enc v1)), (2, .d ((cLs (cXRecord cI cI (cLs cI rfl)) rfl).enc v2)), (3, .box ((cXGeo (cLs cI rfl)).enc v0))] (by kernel_rfl) <|
    xn <| wpC_seq <| wpC_kp <| wpC_seq <| reg_s <| st rfl <| mvd rfl rfl <| st rfl <| mvd rfl rfl <| bnd h fun x8 e9 h => st rfl <| o_call (a1 (c := (cLs (cXVariable cS cI) rfl)) (tLs (tXVariable tS tK)) rfl (a1 (c := (cLs (cXRecord cI cI (cLs cI rfl)) rfl)) (tLs (tXRecord tK tK (tLs tK))) rfl a0)) (con_impl_isData e9) (.inl (so1 sB so0)) <| st rfl <| o_nt rfl <| seqN [(2, .d ((cLs (cXRecord cI cI (cLs cI rfl)) rfl).enc v2)), (3, .box ((cXGeo (cLs cI rfl)).enc v0)), (12, .d (cB.enc (!x8)))] (by kernel_rfl) <|
    xn <| cnd rfl h (fun b10 h => wpC_seq <| reg_s <| x_asg (sc cB false rfl) <| seqN [(6, .d (cB.enc false))] (by kernel_rfl) <|
    xn <| wpC_ret <| rt <| rt <| re <| fin h (r1 (ss rfl rfl) <| r0) rfl)
    (fun b10 h => wpC_skip <| kpN [(2, .d ((cLs (cXRecord cI cI (cLs cI rfl)) rfl).enc v2)), (3, .box ((cXGeo (cLs cI rfl)).enc v0))] (by kernel_rfl) <| xn <| wpC_seq <| wpC_kp <| wpC_seq <| reg_s <| st rfl <| mvd rfl rfl <| stw rfl <| lens rfl fun l66 => st rfl <| mvc cI (0 : Int) rfl <| seqN [(2, .d ((cLs (cXRecord cI cI (cLs cI rfl)) rfl).enc v2)), (3, .box ((cXGeo (cLs cI rfl)).enc v0)), (13, .d ((cLs (cXRecord cI cI (cLs cI rfl)) rfl).enc v2)), (14, .d (cI.enc (v2.length : Int))), (15, .d (cI.enc (0 : Int)))] (by kernel_rfl) <|
    xn <| wpC_blk <| lpR (fun (k68 : Nat) (s67 : Unit) => [(2, .d ((cLs (cXRecord cI cI (cLs cI rfl)) rfl).enc v2)), (3, .box ((cXGeo (cLs cI rfl)).enc v0)), (13, .d ((cLs (cXRecord cI cI (cLs cI rfl)) rfl).enc v2)), (14, .d (cI.enc (v2.length : Int))), (15, .d (cI.enc (k68 : Int)))]) () rfl h
    (fun G96 s67 h => wpC_seq <| reg_s <| st rfl <| b_lss (k := .i64) rfl rfl <| seqN [(2, .d ((cLs (cXRecord cI cI (cLs cI rfl)) rfl).enc v2)), (3, .box ((cXGeo (cLs cI rfl)).enc v0)), (13, .d ((cLs (cXRecord cI cI (cLs cI rfl)) rfl).enc v2)), (14, .d (cI.enc (v2.length : Int))), (15, .d (cI.enc (v2.length : Int))), (16, .d (cB.enc (decide ((v2.length : Int) < (v2.length : Int)))))] (by kernel_rfl) <|
    xn <| wpC_seq <| wpC_kp <| cnd0 rfl (dlf _) <| wpC_exit <| xt <| xt <| xt <| xb <| kpN [] (by kernel_rfl) <| xn <| wpC_seq <| reg_s <| x_asg (sc cB true rfl) <| seqN [(6, .d (cB.enc true))] (by kernel_rfl) <|
    xn <| wpC_ret <| re <| fin h (r1 (ss rfl rfl) <| r0) rfl)
    (fun G96 nx94 k68 s67 x69 hk70 hx71 hn95 h => wpC_seq <| reg_s <| st rfl <| b_lss (k := .i64) rfl rfl <| seqN [(2, .d ((cLs (cXRecord cI cI (cLs cI rfl)) rfl).enc v2)), (3, .box ((cXGeo (cLs cI rfl)).enc v0)), (13, .d ((cLs (cXRecord cI cI (cLs cI rfl)) rfl).enc v2)), (14, .d (cI.enc (v2.length : Int))), (15, .d (cI.enc (k68 : Int))), (16, .d (cB.enc (decide ((k68 : Int) < (v2.length : Int)))))] (by kernel_rfl) <|
    xn <| wpC_seq <| wpC_kp <| cnd1 rfl (dlt hk70) <| wpC_skip <| kpN [(2, .d ((cLs (cXRecord cI cI (cLs cI rfl)) rfl).enc v2)), (3, .box ((cXGeo (cLs cI rfl)).enc v0)), (13, .d ((cLs (cXRecord cI cI (cLs cI rfl)) rfl).enc v2)), (14, .d (cI.enc (v2.length : Int))), (15, .d (cI.enc (k68 : Int)))] (by kernel_rfl) <| xn <| wpC_seq <| wpC_kp <| wpC_blk <| wpC_seq <| reg_s <| st rfl <| ias rfl rfl (Int.natCast_nonneg _) hx71 rfl <| st rfl <| ldi rfl rfl rfl rfl <| x_all (cXRecord cI cI (cLo cI)) (⟨(0 : Int), (0 : Int), ([] : List Int)⟩ : XRecord) rfl <| x_stb (ss rfl rfl) rfl (Cd.h_sz _ _) rfl <| seqN [(2, .d ((cLs (cXRecord cI cI (cLs cI rfl)) rfl).enc v2)), (3, .box ((cXGeo (cLs cI rfl)).enc v0)), (8, .box ((cXRecord cI cI (cLs cI rfl)).enc x69)), (13, .d ((cLs (cXRecord cI cI (cLs cI rfl)) rfl).enc v2)), (14, .d (cI.enc (v2.length : Int))), (15, .d (cI.enc (k68 : Int)))] (by kernel_rfl) <|
    xn <| wpC_seq <| reg_s <| st rfl <| ldb rfl rfl rfl rfl <| st rfl <| fab rfl rfl rfl rfl <| st rfl <| lda rfl rfl rfl rfl rfl rfl <| bnd h fun x113 e114 h => st rfl <| o_call (a1 (c := (cXGeo (cLs cI rfl))) (tXGeo (tLs tK)) rfl (a1 (c := cI) tK rfl a0)) (con_impl_isArea e114) (.inl (so1 sB so0)) <| st rfl <| o_nt rfl <| st rfl <| mvd rfl rfl <| ite_k h (fun b115 h => gf rfl b115 <| gf rfl b115 <| gf rfl b115 <| gf rfl b115 <| gf rfl b115 <| st rfl <| pick1 rfl b115 (cd := cB) (v := true) rfl rfl <| seqN [(2, .d ((cLs (cXRecord cI cI (cLs cI rfl)) rfl).enc v2)), (3, .box ((cXGeo (cLs cI rfl)).enc v0)), (13, .d ((cLs (cXRecord cI cI (cLs cI rfl)) rfl).enc v2)), (14, .d (cI.enc (v2.length : Int))), (15, .d (cI.enc (k68 : Int))), (30, .d (cB.enc true))] (by kernel_rfl) <|
    xn <| cnd1 rfl rfl <| wpC_seq <| reg_s <| x_asg (sc cB false rfl) <| seqN [(6, .d (cB.enc false))] (by kernel_rfl) <|
    xn <| wpC_ret <| rb <| rt <| rt <| rt <| rb <| rt <| rt <| re <| fin h (r1 (ss rfl rfl) <| r0) rfl)
    (fun b115 h => gt' rfl b115 <| st rfl <| ldb rfl rfl rfl rfl <| gt' rfl b115 <| st rfl <| fab rfl rfl rfl rfl <| gt' rfl b115 <| st rfl <| lda rfl rfl rfl rfl rfl rfl <| gt' rfl b115 <| bnd h fun x116 e117 h => st rfl <| o_call (a1 (c := (cXGeo (cLs cI rfl))) (tXGeo (tLs tK)) rfl (a1 (c := cI) tK rfl a0)) (con_impl_isLeaf e117) (.inl (so1 sB so0)) <| gt' rfl b115 <| st rfl <| o_nt rfl <| st rfl <| pick0 rfl b115 (cd := cB) (v := (!x116)) rfl rfl <| seqN [(2, .d ((cLs (cXRecord cI cI (cLs cI rfl)) rfl).enc v2)), (3, .box ((cXGeo (cLs cI rfl)).enc v0)), (13, .d ((cLs (cXRecord cI cI (cLs cI rfl)) rfl).enc v2)), (14, .d (cI.enc (v2.length : Int))), (15, .d (cI.enc (k68 : Int))), (30, .d (cB.enc (!x116)))] (by kernel_rfl) <|
    xn <| cnd rfl h (fun b118 h => wpC_seq <| reg_s <| x_asg (sc cB false rfl) <| seqN [(6, .d (cB.enc false))] (by kernel_rfl) <|
    xn <| wpC_ret <| rb <| rt <| rt <| rt <| rb <| rt <| rt <| re <| fin h (r1 (ss rfl rfl) <| r0) rfl)
    (fun b118 h => wpC_skip <| xbb <| kpN [(2, .d ((cLs (cXRecord cI cI (cLs cI rfl)) rfl).enc v2)), (3, .box ((cXGeo (cLs cI rfl)).enc v0)), (13, .d ((cLs (cXRecord cI cI (cLs cI rfl)) rfl).enc v2)), (14, .d (cI.enc (v2.length : Int))), (15, .d (cI.enc (k68 : Int)))] (by kernel_rfl) <| xn <| reg_s <| st rfl <| b_inc rfl rfl l66 hk70 <| st rfl <| mvd rfl rfl <| seqN [(2, .d ((cLs (cXRecord cI cI (cLs cI rfl)) rfl).enc v2)), (3, .box ((cXGeo (cLs cI rfl)).enc v0)), (13, .d ((cLs (cXRecord cI cI (cLs cI rfl)) rfl).enc v2)), (14, .d (cI.enc (v2.length : Int))), (15, .d (cI.enc ((k68 + 1 : Nat) : Int)))] (by kernel_rfl) <|
    xn <| hn95 () h))))

def rs_laws_eqRecordS (r : Bool) : List D := [cB.enc r]
def m48 : MC := .seq (.reg [⟨some 4, .asg (.c (.bool false)), none⟩] [0, 1])
  (.seq (.kp [0, 1] (.seq (.reg [⟨some 6, .mv (.t 0), none⟩,
    ⟨some 7, .len false (.t 6), none⟩,
    ⟨some 8, .mv (.t 1), none⟩,
    ⟨some 9, .len false (.t 8), none⟩,
    ⟨some 10, .bin .neq (.t 7) (.t 9), none⟩] [0, 1, 10])
  (.cond (.t 10) (.seq (.reg [⟨some 4, .asg (.c (.bool false)), none⟩] [4])
  (.ret)) (.skip))))
  (.seq (.kp [] (.seq (.reg [⟨some 5, .asg (.c (.int .i64 0)), none⟩] [0, 1, 5])
  (.blk 0 (.loop (.seq (.kp [0, 1, 5] (.seq (.reg [⟨some 11, .mv (.t 5), none⟩,
    ⟨some 12, .mv (.t 0), none⟩,
    ⟨some 13, .len false (.t 12), none⟩,
    ⟨some 14, .bin .lss (.t 11) (.t 13), none⟩] [0, 1, 5, 14])
  (.cond (.t 14) (.skip) (.exit 0))))
  (.seq (.kp [0, 1, 5] (.blk 1 (.seq (.drw [⟨0, ⟨some 17, .mv (.t 0), none⟩, [18, 19, 20, 21, 22, 23, 24, 25, 26]⟩,
    ⟨1, ⟨some 18, .mv (.t 5), none⟩, [17, 19, 20, 21, 22, 23, 24, 25, 26]⟩,
    ⟨2, ⟨some 19, .ia 17 (.t 18) 3, none⟩, [20, 21, 22, 23, 24, 25, 26]⟩,
    ⟨3, ⟨some 20, .ld 19 3 true, none⟩, [21, 22, 23, 24, 25, 26]⟩,
    ⟨4, ⟨some 21, .mv (.t 1), none⟩, [17, 18, 19, 20, 22, 23, 24, 25, 26]⟩,
    ⟨5, ⟨some 22, .mv (.t 5), none⟩, [17, 18, 19, 20, 21, 23, 24, 25, 26]⟩,
    ⟨6, ⟨some 23, .ia 21 (.t 22) 3, none⟩, [17, 18, 19, 20, 24, 25, 26]⟩,
    ⟨7, ⟨some 24, .ld 23 3 true, none⟩, [17, 18, 19, 20, 25, 26]⟩,
    ⟨8, ⟨some 25, .call 28 [(.t 20), (.t 24)], none⟩, [26]⟩,
    ⟨9, ⟨some 26, .nt (.t 25), none⟩, []⟩]
    [] [0, 1, 5, 26])
  (.cond (.t 26) (.seq (.reg [⟨some 4, .asg (.c (.bool false)), none⟩] [4])
  (.ret)) (.skip)))))
  (.reg [⟨some 15, .mv (.t 5), none⟩,
    ⟨some 16, .bin .add (.t 15) (.c (.int .i64 1)), none⟩,
    ⟨some 5, .asg (.t 16), none⟩] [0, 1, 5])))))))
  (.seq (.reg [⟨some 4, .asg (.c (.bool true)), none⟩] [4])
  (.ret))))
theorem con_laws_eqRecordS {v0 : (List XRecord)} {v1 : (List XRecord)} {r : Bool} (h : sh_laws_eqRecordS v0 v1 = some r) : Con Try.prog 48 [(cLs (cXRecord cI cI (cLs cI rfl)) rfl).enc v0, (cLs (cXRecord cI cI (cLs cI rfl)) rfl).enc v1] [] (rs_laws_eqRecordS r) := by
  delta sh_laws_eqRecordS at h
  refine top (out := none) (f := Try.f48) (m := m48) (rs := [.t 4]) (by kernel_rfl) rfl (by kernel_rfl) (by kernel_rfl) (by kernel_rfl) (by kernel_rfl) (by kernel_rfl) ?_
  exact
   ini [(0, .d ((cLs (cXRecord cI cI (cLs cI rfl)) rfl).enc v0)), (1, .d ((cLs (cXRecord cI cI (cLs cI rfl)) rfl).enc v1))] rfl <| wpC_seq <| reg_s <| x_asg (sc cB false rfl) <| seqN [(0, .d ((cLs (cXRecord cI cI (cLs cI rfl)) rfl).enc v0)), (1, .d ((cLs (cXRecord cI cI (cLs cI rfl)) rfl).enc v1))] (by kernel_rfl) <|
    xn <| wpC_seq <| wpC_kp <| wpC_seq <| reg_s <| st rfl <| mvd rfl rfl <| stw rfl <| lens rfl fun l8 => st rfl <| mvd rfl rfl <| stw rfl <| lens rfl fun l9 => st rfl <| b_neq (k := .i64) rfl rfl <| seqN [(0, .d ((cLs (cXRecord cI cI (cLs cI rfl)) rfl).enc v0)), (1, .d ((cLs (cXRecord cI cI (cLs cI rfl)) rfl).enc v1)), (10, .d (cB.enc (decide ((v0.length : Int) ≠ (v1.length : Int)))))] (by kernel_rfl) <|
    xn <| cnd rfl h (fun b10 h => wpC_seq <| reg_s <| x_asg (sc cB false rfl) <| seqN [(4, .d (cB.enc false))] (by kernel_rfl) <|
    xn <| wpC_ret <| rt <| rt <| re <| fin h (r1 (ss rfl rfl) <| r0) rfl)
    (fun b10 h => wpC_skip <| kpN [(0, .d ((cLs (cXRecord cI cI (cLs cI rfl)) rfl).enc v0)), (1, .d ((cLs (cXRecord cI cI (cLs cI rfl)) rfl).enc v1))] (by kernel_rfl) <| xn <| wpC_seq <| wpC_kp <| wpC_seq <| reg_s <| x_asg (sc cI (0 : Int) rfl) <| seqN [(0, .d ((cLs (cXRecord cI cI (cLs cI rfl)) rfl).enc v0)), (1, .d ((cLs (cXRecord cI cI (cLs cI rfl)) rfl).enc v1)), (5, .d (cI.enc (0 : Int)))] (by kernel_rfl) <|
    xn <| wpC_blk <| lpF (fun (s142 : Int) => [(0, .d ((cLs (cXRecord cI cI (cLs cI rfl)) rfl).enc v0)), (1, .d ((cLs (cXRecord cI cI (cLs cI rfl)) rfl).enc v1)), (5, .d (cI.enc s142))]) (0 : Int) rfl h
    fun G231 nx229 s142 hn230 h => wpC_seq <| wpC_kp <| wpC_seq <| reg_s <| st rfl <| mvd rfl rfl <| st rfl <| mvd rfl rfl <| stw rfl <| lens rfl fun l236 => st rfl <| b_lss (k := .i64) rfl rfl <| seqN [(0, .d ((cLs (cXRecord cI cI (cLs cI rfl)) rfl).enc v0)), (1, .d ((cLs (cXRecord cI cI (cLs cI rfl)) rfl).enc v1)), (5, .d (cI.enc s142)), (14, .d (cB.enc (decide (s142 < (v0.length : Int)))))] (by kernel_rfl) <|
    xn <| cnd rfl h (fun b237 h => wpC_skip <| kpN [(0, .d ((cLs (cXRecord cI cI (cLs cI rfl)) rfl).enc v0)), (1, .d ((cLs (cXRecord cI cI (cLs cI rfl)) rfl).enc v1)), (5, .d (cI.enc s142))] (by kernel_rfl) <| xn <| wpC_seq <| wpC_kp <| wpC_blk <| wpC_seq <| drw_s <| pst rfl <| mvd rfl rfl ⟨rfl, pst rfl <| mvd rfl rfl ⟨rfl, getO_kp h fun x263 i264 g265 h => pst rfl <| ias rfl rfl i264 g265 rfl ⟨rfl, pst rfl <| ldi rfl rfl rfl rfl ⟨rfl, pst rfl <| mvd rfl rfl ⟨rfl, pst rfl <| mvd rfl rfl ⟨rfl, getO_kp h fun x266 i267 g268 h => pst rfl <| ias rfl rfl i267 g268 rfl ⟨rfl, pst rfl <| ldi rfl rfl rfl rfl ⟨rfl, bndp h fun x269 e270 h => pst rfl <| o_call (a1 (c := (cXRecord cI cI (cLs cI rfl))) (tXRecord tK tK (tLs tK)) rfl (a1 (c := (cXRecord cI cI (cLs cI rfl))) (tXRecord tK tK (tLs tK)) rfl a0)) (con_laws_eqRecord e270) (.inl (so1 sB so0)) ⟨rfl, pst rfl <| o_nt rfl ⟨rfl, preN <| seqN [(0, .d ((cLs (cXRecord cI cI (cLs cI rfl)) rfl).enc v0)), (1, .d ((cLs (cXRecord cI cI (cLs cI rfl)) rfl).enc v1)), (5, .d (cI.enc s142)), (26, .d (cB.enc (!x269)))] (by kernel_rfl) <|
    xn <| cnd rfl h (fun b271 h => wpC_seq <| reg_s <| x_asg (sc cB false rfl) <| seqN [(4, .d (cB.enc false))] (by kernel_rfl) <|
    xn <| wpC_ret <| rb <| rt <| rt <| rt <| rb <| rt <| rt <| re <| fin h (r1 (ss rfl rfl) <| r0) rfl)
    (fun b271 h => wpC_skip <| xbb <| kpN [(0, .d ((cLs (cXRecord cI cI (cLs cI rfl)) rfl).enc v0)), (1, .d ((cLs (cXRecord cI cI (cLs cI rfl)) rfl).enc v1)), (5, .d (cI.enc s142))] (by kernel_rfl) <| xn <| reg_s <| st rfl <| mvd rfl rfl <| ckI_k h fun i272 h => st rfl <| b_add (k := .i64) rfl rfl i272 <| x_asg (ss rfl rfl) <| seqN [(0, .d ((cLs (cXRecord cI cI (cLs cI rfl)) rfl).enc v0)), (1, .d ((cLs (cXRecord cI cI (cLs cI rfl)) rfl).enc v1)), (5, .d (cI.enc (s142 + (1 : Int))))] (by kernel_rfl) <|
    xn <| hn230 (s142 + (1 : Int)) h)⟩⟩⟩⟩⟩⟩⟩⟩⟩⟩)
    (fun b237 h => wpC_exit <| xt <| xt <| xt <| xb <| kpN [] (by kernel_rfl) <| xn <| wpC_seq <| reg_s <| x_asg (sc cB true rfl) <| seqN [(4, .d (cB.enc true))] (by kernel_rfl) <|
    xn <| wpC_ret <| re <| fin h (r1 (ss rfl rfl) <| r0) rfl))

def os_laws_markIntS (r : ((List Int) × Int)) : D := (cLo cI).enc r.1
def rs_laws_markIntS (r : ((List Int) × Int)) : List D := [cI.enc r.2]
def m38 : MC := .seq (.reg [⟨some 4, .asg (.c (.int .i64 0)), none⟩] [0, 1])
  (.seq (.kp [0, 1] (.seq (.reg [⟨some 5, .asg (.c (.int .i64 0)), none⟩] [0, 1, 5])
  (.blk 0 (.loop (.seq (.kp [0, 1, 5] (.seq (.reg [⟨some 6, .mv (.t 5), none⟩,
    ⟨some 7, .mv (.t 0), none⟩,
    ⟨some 8, .len false (.t 7), none⟩,
    ⟨some 9, .bin .lss (.t 6) (.t 8), none⟩] [0, 1, 5, 9])
  (.cond (.t 9) (.skip) (.exit 0))))
  (.seq (.kp [0, 1, 5] (.blk 1 (.seq (.reg [⟨some 12, .mv (.t 0), none⟩,
    ⟨some 13, .mv (.t 5), none⟩,
    ⟨some 14, .mv (.t 1), none⟩,
    ⟨some 15, .ia 12 (.t 13) 1, none⟩,
    ⟨none, .st 15 (.t 14) 1, none⟩] [0, 1, 5])
  (.reg [⟨some 16, .mv (.t 1), none⟩,
    ⟨some 17, .bin .add (.t 16) (.c (.int .i64 1)), none⟩,
    ⟨some 1, .asg (.t 17), none⟩] [0, 1, 5]))))
  (.reg [⟨some 10, .mv (.t 5), none⟩,
    ⟨some 11, .bin .add (.t 10) (.c (.int .i64 1)), none⟩,
    ⟨some 5, .asg (.t 11), none⟩] [0, 1, 5])))))))
  (.seq (.reg [⟨some 18, .mv (.t 1), none⟩,
    ⟨some 4, .asg (.t 18), none⟩] [0, 4])
  (.ret)))
theorem con_laws_markIntS {v0 : (List Int)} {v1 : Int} {r : ((List Int) × Int)} (h : sh_laws_markIntS v0 v1 = some r) : Con Try.prog 38 [(cLo cI).enc v0, cI.enc v1] (outsOf (some (os_laws_markIntS r))) (rs_laws_markIntS r) := by
  delta sh_laws_markIntS at h
  refine top (out := some (os_laws_markIntS r)) (f := Try.f38) (m := m38) (rs := [.t 4]) (by kernel_rfl) rfl (by kernel_rfl) (by kernel_rfl) (by kernel_rfl) (by kernel_rfl) (by kernel_rfl) ?_
  exact
   ini [(0, .d ((cLo cI).enc v0)), (1, .d (cI.enc v1))] rfl <| wpC_seq <| reg_s <| x_asg (sc cI (0 : Int) rfl) <| seqN [(0, .d ((cLo cI).enc v0)), (1, .d (cI.enc v1))] (by kernel_rfl) <|
    xn <| wpC_seq <| wpC_kp <| wpC_seq <| reg_s <| x_asg (sc cI (0 : Int) rfl) <| seqN [(0, .d ((cLo cI).enc v0)), (1, .d (cI.enc v1)), (5, .d (cI.enc (0 : Int)))] (by kernel_rfl) <|
    xn <| wpC_blk <| lpF (fun (s72 : ((List Int) × Int × Int)) => [(0, .d ((cLo cI).enc s72.1)), (1, .d (cI.enc s72.2.1)), (5, .d (cI.enc s72.2.2))]) (v0, v1, (0 : Int)) rfl h
    fun G121 nx119 s72 hn120 h => wpC_seq <| wpC_kp <| wpC_seq <| reg_s <| st rfl <| mvd rfl rfl <| st rfl <| mvo rfl rfl <| stw rfl <| leno rfl fun l126 => st rfl <| b_lss (k := .i64) rfl rfl <| seqN [(0, .d ((cLo cI).enc s72.1)), (1, .d (cI.enc s72.2.1)), (5, .d (cI.enc s72.2.2)), (9, .d (cB.enc (decide (s72.2.2 < (s72.1.length : Int)))))] (by kernel_rfl) <|
    xn <| cnd rfl h (fun b127 h => wpC_skip <| kpN [(0, .d ((cLo cI).enc s72.1)), (1, .d (cI.enc s72.2.1)), (5, .d (cI.enc s72.2.2))] (by kernel_rfl) <| xn <| wpC_seq <| wpC_kp <| wpC_blk <| wpC_seq <| reg_s <| st rfl <| mvo rfl rfl <| st rfl <| mvd rfl rfl <| st rfl <| mvd rfl rfl <| getO_k h fun x138 i139 g140 h => st rfl <| iar rfl rfl rfl rfl i139 g140 rfl <| x_sta ((cLo cI).enc (s72.1.set (s72.2.2).toNat s72.2.1)) (ss rfl rfl) rfl rfl (Ln.idx g140 Ln.nil) (Cd.h_sz cI _) rfl <| seqN [(0, .d ((cLo cI).enc (s72.1.set (s72.2.2).toNat s72.2.1))), (1, .d (cI.enc s72.2.1)), (5, .d (cI.enc s72.2.2))] (by kernel_rfl) <|
    xn <| reg_s <| st rfl <| mvd rfl rfl <| ckI_k h fun i141 h => st rfl <| b_add (k := .i64) rfl rfl i141 <| x_asg (ss rfl rfl) <| seqN [(0, .d ((cLo cI).enc (s72.1.set (s72.2.2).toNat s72.2.1))), (1, .d (cI.enc (s72.2.1 + (1 : Int)))), (5, .d (cI.enc s72.2.2))] (by kernel_rfl) <|
    xbb <| kpN [(0, .d ((cLo cI).enc (s72.1.set (s72.2.2).toNat s72.2.1))), (1, .d (cI.enc (s72.2.1 + (1 : Int)))), (5, .d (cI.enc s72.2.2))] (by kernel_rfl) <| xn <| reg_s <| st rfl <| mvd rfl rfl <| ckI_k h fun i142 h => st rfl <| b_add (k := .i64) rfl rfl i142 <| x_asg (ss rfl rfl) <| seqN [(0, .d ((cLo cI).enc (s72.1.set (s72.2.2).toNat s72.2.1))), (1, .d (cI.enc (s72.2.1 + (1 : Int)))), (5, .d (cI.enc (s72.2.2 + (1 : Int))))] (by kernel_rfl) <|
    xn <| hn120 ((s72.1.set (s72.2.2).toNat s72.2.1), (s72.2.1 + (1 : Int)), (s72.2.2 + (1 : Int))) h)
    (fun b127 h => wpC_exit <| xt <| xt <| xt <| xb <| kpN [(0, .d ((cLo cI).enc s72.1)), (1, .d (cI.enc s72.2.1))] (by kernel_rfl) <| xn <| wpC_seq <| reg_s <| st rfl <| mvd rfl rfl <| x_asg (ss rfl rfl) <| seqN [(0, .d ((cLo cI).enc s72.1)), (4, .d (cI.enc s72.2.1))] (by kernel_rfl) <|
    xn <| wpC_ret <| re <| finO h (r1 (ss rfl rfl) <| r0) rfl rfl)

def os_laws_markGeo (r : (XGeo × Int)) : D := (cXGeo (cLo cI)).enc r.1
def rs_laws_markGeo (r : (XGeo × Int)) : List D := [cI.enc r.2]
def m31 : MC := .seq (.reg [⟨some 2, .boxm 0, none⟩,
    ⟨some 4, .asg (.c (.int .i64 0)), none⟩] [0, 1, 2])
  (.seq (.reg [⟨some 5, .fa 2 0 0, none⟩,
    ⟨some 6, .ld 5 1 false, none⟩,
    ⟨some 7, .mv (.t 1), none⟩,
    ⟨some 8, .callO 38 [(.t 6), (.t 7)], none⟩,
    ⟨some 1, .asg (.t 8), none⟩] [0, 1])
  (.seq (.reg [⟨some 9, .mv (.t 1), none⟩,
    ⟨some 4, .asg (.t 9), none⟩] [0, 4])
  (.ret)))
theorem con_laws_markGeo {v0 : XGeo} {v1 : Int} {r : (XGeo × Int)} (h : sh_laws_markGeo v0 v1 = some r) : Con Try.prog 31 [(cXGeo (cLo cI)).enc v0, cI.enc v1] (outsOf (some (os_laws_markGeo r))) (rs_laws_markGeo r) := by
  delta sh_laws_markGeo at h
  refine top (out := some (os_laws_markGeo r)) (f := Try.f31) (m := m31) (rs := [.t 4]) (by kernel_rfl) rfl (by kernel_rfl) (by kernel_rfl) (by kernel_rfl) (by kernel_rfl) (by kernel_rfl) ?_
  exact
   ini [(0, .d ((cXGeo (cLo cI)).enc v0)), (1, .d (cI.enc v1))] rfl <| wpC_seq <| reg_s <| x_boxm rfl rfl <| x_asg (sc cI (0 : Int) rfl) <| seqN [(0, .d ((cXGeo (cLo cI)).enc v0)), (1, .d (cI.enc v1)), (2, .mad 0 [])] (by kernel_rfl) <|
    xn <| wpC_seq <| reg_s <| st rfl <| fam rfl rfl rfl rfl rfl rfl <| st rfl <| ldmo rfl rfl rfl rfl rfl rfl <| st rfl <| mvd rfl rfl <| bnd h fun x3 e4 h => x_clr (c := (cLo cI)) (c' := (cLo cI)) ((cXGeo (cLo cI)).enc (⟨x3.1⟩ : XGeo)) (sLo sK) rfl (a1 (c := cI) tK rfl a0) rfl (Ln.fld rfl rfl Ln.nil rfl) (con_laws_markIntS e4) rfl rfl (so1 sK so0) <| x_asg (ss rfl rfl) <| seqN [(0, .d ((cXGeo (cLo cI)).enc (⟨x3.1⟩ : XGeo))), (1, .d (cI.enc x3.2))] (by kernel_rfl) <|
    xn <| wpC_seq <| reg_s <| st rfl <| mvd rfl rfl <| x_asg (ss rfl rfl) <| seqN [(0, .d ((cXGeo (cLo cI)).enc (⟨x3.1⟩ : XGeo))), (4, .d (cI.enc x3.2))] (by kernel_rfl) <|
    xn <| wpC_ret <| re <| finO h (r1 (ss rfl rfl) <| r0) rfl rfl

def rs_laws_markText (r : (List UInt8)) : List D := [cS.enc r]
def m79 : MC := .seq (.reg [⟨some 2, .asg (.c (.str [])), none⟩] [0])
  (.seq (.kp [0] (.seq (.reg [⟨some 4, .mv (.t 0), none⟩,
    ⟨some 5, .bin .leq (.t 4) (.c (.int .i64 0)), none⟩] [0, 5])
  (.cond (.t 5) (.seq (.reg [⟨some 2, .asg (.c (.str [109, 48])), none⟩] [2])
  (.ret)) (.skip))))
  (.seq (.reg [⟨some 3, .asg (.c (.str [])), none⟩] [0, 3])
  (.seq (.kp [3] (.blk 0 (.loop (.kp [0, 3] (.seq (.kp [0, 3] (.seq (.reg [⟨some 6, .mv (.t 0), none⟩,
    ⟨some 7, .bin .gtr (.t 6) (.c (.int .i64 0)), none⟩] [0, 3, 7])
  (.cond (.t 7) (.skip) (.exit 0))))
  (.blk 1 (.seq (.reg [⟨some 8, .mv (.t 0), none⟩,
    ⟨some 9, .bin .rem (.t 8) (.c (.int .i64 10)), none⟩,
    ⟨some 10, .bin .add (.c (.int .i64 48)) (.t 9), none⟩,
    ⟨some 11, .cvi .u8 (.t 10), none⟩,
    ⟨some 12, .bsl [(.t 11)] 1, none⟩,
    ⟨some 13, .b2s (.t 12), none⟩,
    ⟨some 14, .mv (.t 3), none⟩,
    ⟨some 15, .bin .add (.t 13) (.t 14), none⟩,
    ⟨some 3, .asg (.t 15), none⟩] [0, 3])
  (.reg [⟨some 16, .mv (.t 0), none⟩,
    ⟨some 17, .bin .quo (.t 16) (.c (.int .i64 10)), none⟩,
    ⟨some 0, .asg (.t 17), none⟩] [0, 3]))))))))
  (.seq (.reg [⟨some 18, .mv (.t 3), none⟩,
    ⟨some 19, .bin .add (.c (.str [109])) (.t 18), none⟩,
    ⟨some 2, .asg (.t 19), none⟩] [2])
  (.ret)))))
theorem con_laws_markText {v0 : Int} {r : (List UInt8)} (h : sh_laws_markText v0 = some r) : Con Try.prog 79 [cI.enc v0] [] (rs_laws_markText r) := by
  delta sh_laws_markText at h
  refine top (out := none) (f := Try.f79) (m := m79) (rs := [.t 2]) (by kernel_rfl) rfl (by kernel_rfl) (by kernel_rfl) (by kernel_rfl) (by kernel_rfl) (by kernel_rfl) ?_
  exact
   ini [(0, .d (cI.enc v0))] rfl <| wpC_seq <| reg_s <| x_asg (sc cS ([] : List UInt8) rfl) <| seqN [(0, .d (cI.enc v0))] (by kernel_rfl) <|
    xn <| wpC_seq <| wpC_kp <| wpC_seq <| reg_s <| st rfl <| mvd rfl rfl <| st rfl <| b_leq (k := .i64) rfl rfl <| seqN [(0, .d (cI.enc v0)), (5, .d (cB.enc (decide (v0 ≤ (0 : Int)))))] (by kernel_rfl) <|
    xn <| cnd rfl h (fun b2 h => wpC_seq <| reg_s <| x_asg (sc cS ([109, 48] : List UInt8) rfl) <| seqN [(2, .d (cS.enc ([109, 48] : List UInt8)))] (by kernel_rfl) <|
    xn <| wpC_ret <| rt <| rt <| re <| fin h (r1 (ss rfl rfl) <| r0) rfl)
    (fun b2 h => wpC_skip <| kpN [(0, .d (cI.enc v0))] (by kernel_rfl) <| xn <| wpC_seq <| reg_s <| x_asg (sc cS ([] : List UInt8) rfl) <| seqN [(0, .d (cI.enc v0)), (3, .d (cS.enc ([] : List UInt8)))] (by kernel_rfl) <|
    xn <| wpC_seq <| wpC_kp <| wpC_blk <| lpF (fun (s59 : (Int × (List UInt8))) => [(0, .d (cI.enc s59.1)), (3, .d (cS.enc s59.2))]) (v0, ([] : List UInt8)) rfl h
    fun G98 nx96 s59 hn97 h => wpC_kp <| wpC_seq <| wpC_kp <| wpC_seq <| reg_s <| st rfl <| mvd rfl rfl <| st rfl <| b_gtr (k := .i64) rfl rfl <| seqN [(0, .d (cI.enc s59.1)), (3, .d (cS.enc s59.2)), (7, .d (cB.enc (decide ((0 : Int) < s59.1))))] (by kernel_rfl) <|
    xn <| cnd rfl h (fun b100 h => wpC_skip <| kpN [(0, .d (cI.enc s59.1)), (3, .d (cS.enc s59.2))] (by kernel_rfl) <| xn <| wpC_blk <| wpC_seq <| reg_s <| st rfl <| mvd rfl rfl <| ck_k h fun i107 h => st rfl <| b_rem (k := .i64) rfl rfl i107 <| ckI_k h fun i108 h => st rfl <| b_add (k := .i64) rfl rfl i108 <| ckU_k h fun i109 h => st rfl <| o_cvi (k := .i64) (k' := .u8) rfl i109 <| x_bsl cU [((48 : Int) + (s59.1.tmod (10 : Int)))] (t1 (ss rfl rfl) rfl t0) rfl rfl <| ck_k h fun i110 h => st rfl <| o_b2s rfl rfl i110 <| st rfl <| mvd rfl rfl <| lnO_k h fun l112 h => st rfl <| b_cat rfl rfl l112 <| x_asg (ss rfl rfl) <| seqN [(0, .d (cI.enc s59.1)), (3, .d (cS.enc ((bytesOf [((48 : Int) + (s59.1.tmod (10 : Int)))]) ++ s59.2)))] (by kernel_rfl) <|
    xn <| reg_s <| st rfl <| mvd rfl rfl <| ck_k h fun i113 h => ckI_k h fun i114 h => st rfl <| b_quo (k := .i64) rfl rfl i113 i114 <| x_asg (ss rfl rfl) <| seqN [(0, .d (cI.enc (s59.1.tdiv (10 : Int)))), (3, .d (cS.enc ((bytesOf [((48 : Int) + (s59.1.tmod (10 : Int)))]) ++ s59.2)))] (by kernel_rfl) <|
    xbb <| kpN [(0, .d (cI.enc (s59.1.tdiv (10 : Int)))), (3, .d (cS.enc ((bytesOf [((48 : Int) + (s59.1.tmod (10 : Int)))]) ++ s59.2)))] (by kernel_rfl) <| xn <| hn97 ((s59.1.tdiv (10 : Int)), ((bytesOf [((48 : Int) + (s59.1.tmod (10 : Int)))]) ++ s59.2)) h)
    (fun b100 h => wpC_exit <| xt <| xt <| xt <| xt <| xb <| kpN [(3, .d (cS.enc s59.2))] (by kernel_rfl) <| xn <| wpC_seq <| reg_s <| st rfl <| mvd rfl rfl <| lnO_k h fun l116 h => st rfl <| b_cat rfl rfl l116 <| x_asg (ss rfl rfl) <| seqN [(2, .d (cS.enc (([109] : List UInt8) ++ s59.2)))] (by kernel_rfl) <|
    xn <| wpC_ret <| re <| fin h (r1 (ss rfl rfl) <| r0) rfl))

def os_laws_markVariableS (r : ((List XVariable) × Int)) : D := (cLo (cXVariable cS cI)).enc r.1
def rs_laws_markVariableS (r : ((List XVariable) × Int)) : List D := [cI.enc r.2]
def m32 : MC := .seq (.reg [⟨some 4, .asg (.c (.int .i64 0)), none⟩] [0, 1])
  (.seq (.kp [0, 1] (.seq (.reg [⟨some 5, .asg (.c (.int .i64 0)), none⟩] [0, 1, 5])
  (.blk 0 (.loop (.seq (.kp [0, 1, 5] (.seq (.reg [⟨some 6, .mv (.t 5), none⟩,
    ⟨some 7, .mv (.t 0), none⟩,
    ⟨some 8, .len false (.t 7), none⟩,
    ⟨some 9, .bin .lss (.t 6) (.t 8), none⟩] [0, 1, 5, 9])
  (.cond (.t 9) (.skip) (.exit 0))))
  (.seq (.kp [0, 1, 5] (.blk 1 (.seq (.reg [⟨some 12, .mv (.t 0), none⟩,
    ⟨some 13, .mv (.t 5), none⟩,
    ⟨some 14, .mv (.t 1), none⟩,
    ⟨some 15, .call 79 [(.t 14)], none⟩,
    ⟨some 16, .ia 12 (.t 13) 2, none⟩,
    ⟨some 17, .fa 16 0 0, none⟩,
    ⟨none, .st 17 (.t 15) 1, none⟩] [0, 1, 5])
  (.seq (.reg [⟨some 18, .mv (.t 1), none⟩,
    ⟨some 19, .bin .add (.t 18) (.c (.int .i64 1)), none⟩,
    ⟨some 1, .asg (.t 19), none⟩] [0, 1, 5])
  (.seq (.reg [⟨some 20, .mv (.t 0), none⟩,
    ⟨some 21, .mv (.t 5), none⟩,
    ⟨some 22, .mv (.t 1), none⟩,
    ⟨some 23, .ia 20 (.t 21) 2, none⟩,
    ⟨some 24, .fa 23 1 1, none⟩,
    ⟨none, .st 24 (.t 22) 1, none⟩] [0, 1, 5])
  (.reg [⟨some 25, .mv (.t 1), none⟩,
    ⟨some 26, .bin .add (.t 25) (.c (.int .i64 1)), none⟩,
    ⟨some 1, .asg (.t 26), none⟩] [0, 1, 5]))))))
  (.reg [⟨some 10, .mv (.t 5), none⟩,
    ⟨some 11, .bin .add (.t 10) (.c (.int .i64 1)), none⟩,
    ⟨some 5, .asg (.t 11), none⟩] [0, 1, 5])))))))
  (.seq (.reg [⟨some 27, .mv (.t 1), none⟩,
    ⟨some 4, .asg (.t 27), none⟩] [0, 4])
  (.ret)))
theorem con_laws_markVariableS {v0 : (List XVariable)} {v1 : Int} {r : ((List XVariable) × Int)} (h : sh_laws_markVariableS v0 v1 = some r) : Con Try.prog 32 [(cLo (cXVariable cS cI)).enc v0, cI.enc v1] (outsOf (some (os_laws_markVariableS r))) (rs_laws_markVariableS r) := by
  delta sh_laws_markVariableS at h
  refine top (out := some (os_laws_markVariableS r)) (f := Try.f32) (m := m32) (rs := [.t 4]) (by kernel_rfl) rfl (by kernel_rfl) (by kernel_rfl) (by kernel_rfl) (by kernel_rfl) (by kernel_rfl) ?_
  exact
   ini [(0, .d ((cLo (cXVariable cS cI)).enc v0)), (1, .d (cI.enc v1))] rfl <| wpC_seq <| reg_s <| x_asg (sc cI (0 : Int) rfl) <| seqN [(0, .d ((cLo (cXVariable cS cI)).enc v0)), (1, .d (cI.enc v1))] (by kernel_rfl) <|
    xn <| wpC_seq <| wpC_kp <| wpC_seq <| reg_s <| x_asg (sc cI (0 : Int) rfl) <| seqN [(0, .d ((cLo (cXVariable cS cI)).enc v0)), (1, .d (cI.enc v1)), (5, .d (cI.enc (0 : Int)))] (by kernel_rfl) <|
    xn <| wpC_blk <| lpF (fun (s144 : ((List XVariable) × Int × Int)) => [(0, .d ((cLo (cXVariable cS cI)).enc s144.1)), (1, .d (cI.enc s144.2.1)), (5, .d (cI.enc s144.2.2))]) (v0, v1, (0 : Int)) rfl h
    fun G241 nx239 s144 hn240 h => wpC_seq <| wpC_kp <| wpC_seq <| reg_s <| st rfl <| mvd rfl rfl <| st rfl <| mvo rfl rfl <| stw rfl <| leno rfl fun l246 => st rfl <| b_lss (k := .i64) rfl rfl <| seqN [(0, .d ((cLo (cXVariable cS cI)).enc s144.1)), (1, .d (cI.enc s144.2.1)), (5, .d (cI.enc s144.2.2)), (9, .d (cB.enc (decide (s144.2.2 < (s144.1.length : Int)))))] (by kernel_rfl) <|
    xn <| cnd rfl h (fun b247 h => wpC_skip <| kpN [(0, .d ((cLo (cXVariable cS cI)).enc s144.1)), (1, .d (cI.enc s144.2.1)), (5, .d (cI.enc s144.2.2))] (by kernel_rfl) <| xn <| wpC_seq <| wpC_kp <| wpC_blk <| wpC_seq <| reg_s <| st rfl <| mvo rfl rfl <| st rfl <| mvd rfl rfl <| st rfl <| mvd rfl rfl <| bnd h fun x272 e273 h => st rfl <| o_call (a1 (c := cI) tK rfl a0) (con_laws_markText e273) (.inl (so1 sS so0)) <| getO_k h fun x274 i275 g276 h => st rfl <| iar rfl rfl rfl rfl i275 g276 rfl <| st rfl <| faa rfl rfl (Gt.idx g276 Gt.nil) rfl rfl rfl <| x_sta ((cLo (cXVariable cS cI)).enc (s144.1.set (s144.2.2).toNat (⟨x272, x274.Levels⟩ : XVariable))) (ss rfl rfl) rfl rfl (Ln.idx g276 (Ln.fld rfl rfl Ln.nil rfl)) (Cd.h_sz cS _) rfl <| seqN [(0, .d ((cLo (cXVariable cS cI)).enc (s144.1.set (s144.2.2).toNat (⟨x272, x274.Levels⟩ : XVariable)))), (1, .d (cI.enc s144.2.1)), (5, .d (cI.enc s144.2.2))] (by kernel_rfl) <|
    xn <| wpC_seq <| reg_s <| st rfl <| mvd rfl rfl <| ckI_k h fun i278 h => st rfl <| b_add (k := .i64) rfl rfl i278 <| x_asg (ss rfl rfl) <| seqN [(0, .d ((cLo (cXVariable cS cI)).enc (s144.1.set (s144.2.2).toNat (⟨x272, x274.Levels⟩ : XVariable)))), (1, .d (cI.enc (s144.2.1 + (1 : Int)))), (5, .d (cI.enc s144.2.2))] (by kernel_rfl) <|
    xn <| wpC_seq <| reg_s <| st rfl <| mvo rfl rfl <| st rfl <| mvd rfl rfl <| st rfl <| mvd rfl rfl <| getO_k h fun x282 i283 g284 h => st rfl <| iar rfl rfl rfl rfl i283 g284 rfl <| st rfl <| faa rfl rfl (Gt.idx g284 Gt.nil) rfl rfl rfl <| x_sta ((cLo (cXVariable cS cI)).enc ((s144.1.set (s144.2.2).toNat (⟨x272, x274.Levels⟩ : XVariable)).set (s144.2.2).toNat (⟨x282.Name, (s144.2.1 + (1 : Int))⟩ : XVariable))) (ss rfl rfl) rfl rfl (Ln.idx g284 (Ln.fld rfl rfl Ln.nil rfl)) (Cd.h_sz cI _) rfl <| seqN [(0, .d ((cLo (cXVariable cS cI)).enc ((s144.1.set (s144.2.2).toNat (⟨x272, x274.Levels⟩ : XVariable)).set (s144.2.2).toNat (⟨x282.Name, (s144.2.1 + (1 : Int))⟩ : XVariable)))), (1, .d (cI.enc (s144.2.1 + (1 : Int)))), (5, .d (cI.enc s144.2.2))] (by kernel_rfl) <|
    xn <| reg_s <| st rfl <| mvd rfl rfl <| ckI_k h fun i285 h => st rfl <| b_add (k := .i64) rfl rfl i285 <| x_asg (ss rfl rfl) <| seqN [(0, .d ((cLo (cXVariable cS cI)).enc ((s144.1.set (s144.2.2).toNat (⟨x272, x274.Levels⟩ : XVariable)).set (s144.2.2).toNat (⟨x282.Name, (s144.2.1 + (1 : Int))⟩ : XVariable)))), (1, .d (cI.enc ((s144.2.1 + (1 : Int)) + (1 : Int)))), (5, .d (cI.enc s144.2.2))] (by kernel_rfl) <|
    xbb <| kpN [(0, .d ((cLo (cXVariable cS cI)).enc ((s144.1.set (s144.2.2).toNat (⟨x272, x274.Levels⟩ : XVariable)).set (s144.2.2).toNat (⟨x282.Name, (s144.2.1 + (1 : Int))⟩ : XVariable)))), (1, .d (cI.enc ((s144.2.1 + (1 : Int)) + (1 : Int)))), (5, .d (cI.enc s144.2.2))] (by kernel_rfl) <| xn <| reg_s <| st rfl <| mvd rfl rfl <| ckI_k h fun i286 h => st rfl <| b_add (k := .i64) rfl rfl i286 <| x_asg (ss rfl rfl) <| seqN [(0, .d ((cLo (cXVariable cS cI)).enc ((s144.1.set (s144.2.2).toNat (⟨x272, x274.Levels⟩ : XVariable)).set (s144.2.2).toNat (⟨x282.Name, (s144.2.1 + (1 : Int))⟩ : XVariable)))), (1, .d (cI.enc ((s144.2.1 + (1 : Int)) + (1 : Int)))), (5, .d (cI.enc (s144.2.2 + (1 : Int))))] (by kernel_rfl) <|
    xn <| hn240 (((s144.1.set (s144.2.2).toNat (⟨x272, x274.Levels⟩ : XVariable)).set (s144.2.2).toNat (⟨x282.Name, (s144.2.1 + (1 : Int))⟩ : XVariable)), ((s144.2.1 + (1 : Int)) + (1 : Int)), (s144.2.2 + (1 : Int))) h)
    (fun b247 h => wpC_exit <| xt <| xt <| xt <| xb <| kpN [(0, .d ((cLo (cXVariable cS cI)).enc s144.1)), (1, .d (cI.enc s144.2.1))] (by kernel_rfl) <| xn <| wpC_seq <| reg_s <| st rfl <| mvd rfl rfl <| x_asg (ss rfl rfl) <| seqN [(0, .d ((cLo (cXVariable cS cI)).enc s144.1)), (4, .d (cI.enc s144.2.1))] (by kernel_rfl) <|
    xn <| wpC_ret <| re <| finO h (r1 (ss rfl rfl) <| r0) rfl rfl)

def os_laws_markTable (r : (XTable × Int)) : D := (cXTable cI (cLo cI) (cLo cI) cI).enc r.1
def rs_laws_markTable (r : (XTable × Int)) : List D := [cI.enc r.2]
def m42 : MC := .seq (.reg [⟨some 2, .boxm 0, none⟩,
    ⟨some 4, .asg (.c (.int .i64 0)), none⟩] [0, 1, 2])
  (.seq (.reg [⟨some 5, .fa 2 1 1, none⟩,
    ⟨some 6, .ld 5 1 false, none⟩,
    ⟨some 7, .mv (.t 1), none⟩,
    ⟨some 8, .callO 38 [(.t 6), (.t 7)], none⟩,
    ⟨some 1, .asg (.t 8), none⟩] [0, 1, 2])
  (.seq (.reg [⟨some 9, .fa 2 2 2, none⟩,
    ⟨some 10, .ld 9 1 false, none⟩,
    ⟨some 11, .mv (.t 1), none⟩,
    ⟨some 12, .callO 38 [(.t 10), (.t 11)], none⟩,
    ⟨some 1, .asg (.t 12), none⟩] [0, 1])
  (.seq (.reg [⟨some 13, .mv (.t 1), none⟩,
    ⟨some 4, .asg (.t 13), none⟩] [0, 4])
  (.ret))))
theorem con_laws_markTable {v0 : XTable} {v1 : Int} {r : (XTable × Int)} (h : sh_laws_markTable v0 v1 = some r) : Con Try.prog 42 [(cXTable cI (cLo cI) (cLo cI) cI).enc v0, cI.enc v1] (outsOf (some (os_laws_markTable r))) (rs_laws_markTable r) := by
  delta sh_laws_markTable at h
  refine top (out := some (os_laws_markTable r)) (f := Try.f42) (m := m42) (rs := [.t 4]) (by kernel_rfl) rfl (by kernel_rfl) (by kernel_rfl) (by kernel_rfl) (by kernel_rfl) (by kernel_rfl) ?_
  exact
   ini [(0, .d ((cXTable cI (cLo cI) (cLo cI) cI).enc v0)), (1, .d (cI.enc v1))] rfl <| wpC_seq <| reg_s <| x_boxm rfl rfl <| x_asg (sc cI (0 : Int) rfl) <| seqN [(0, .d ((cXTable cI (cLo cI) (cLo cI) cI).enc v0)), (1, .d (cI.enc v1)), (2, .mad 0 [])] (by kernel_rfl) <|
    xn <| wpC_seq <| reg_s <| st rfl <| fam rfl rfl rfl rfl rfl rfl <| st rfl <| ldmo rfl rfl rfl rfl rfl rfl <| st rfl <| mvd rfl rfl <| bnd h fun x3 e4 h => x_clr (c := (cLo cI)) (c' := (cLo cI)) ((cXTable cI (cLo cI) (cLo cI) cI).enc (⟨v0.Level, x3.1, v0.Where, v0.Sum⟩ : XTable)) (sLo sK) rfl (a1 (c := cI) tK rfl a0) rfl (Ln.fld rfl rfl Ln.nil rfl) (con_laws_markIntS e4) rfl rfl (so1 sK so0) <| x_asg (ss rfl rfl) <| seqN [(0, .d ((cXTable cI (cLo cI) (cLo cI) cI).enc (⟨v0.Level, x3.1, v0.Where, v0.Sum⟩ : XTable))), (1, .d (cI.enc x3.2)), (2, .mad 0 [])] (by kernel_rfl) <|
    xn <| wpC_seq <| reg_s <| st rfl <| fam rfl rfl rfl rfl rfl rfl <| st rfl <| ldmo rfl rfl rfl rfl rfl rfl <| st rfl <| mvd rfl rfl <| bnd h fun x7 e8 h => x_clr (c := (cLo cI)) (c' := (cLo cI)) ((cXTable cI (cLo cI) (cLo cI) cI).enc (⟨v0.Level, x3.1, x7.1, v0.Sum⟩ : XTable)) (sLo sK) rfl (a1 (c := cI) tK rfl a0) rfl (Ln.fld rfl rfl Ln.nil rfl) (con_laws_markIntS e8) rfl rfl (so1 sK so0) <| x_asg (ss rfl rfl) <| seqN [(0, .d ((cXTable cI (cLo cI) (cLo cI) cI).enc (⟨v0.Level, x3.1, x7.1, v0.Sum⟩ : XTable))), (1, .d (cI.enc x7.2))] (by kernel_rfl) <|
    xn <| wpC_seq <| reg_s <| st rfl <| mvd rfl rfl <| x_asg (ss rfl rfl) <| seqN [(0, .d ((cXTable cI (cLo cI) (cLo cI) cI).enc (⟨v0.Level, x3.1, x7.1, v0.Sum⟩ : XTable))), (4, .d (cI.enc x7.2))] (by kernel_rfl) <|
    xn <| wpC_ret <| re <| finO h (r1 (ss rfl rfl) <| r0) rfl rfl

def os_laws_markRecordS (r : ((List XRecord) × Int)) : D := (cLo (cXRecord cI cI (cLo cI))).enc r.1
def rs_laws_markRecordS (r : ((List XRecord) × Int)) : List D := [cI.enc r.2]
def m49 : MC := .seq (.reg [⟨some 4, .asg (.c (.int .i64 0)), none⟩] [0, 1])
  (.seq (.kp [0, 1] (.seq (.reg [⟨some 5, .asg (.c (.int .i64 0)), none⟩] [0, 1, 5])
  (.blk 0 (.loop (.seq (.kp [0, 1, 5] (.seq (.reg [⟨some 6, .mv (.t 5), none⟩,
    ⟨some 7, .mv (.t 0), none⟩,
    ⟨some 8, .len false (.t 7), none⟩,
    ⟨some 9, .bin .lss (.t 6) (.t 8), none⟩] [0, 1, 5, 9])
  (.cond (.t 9) (.skip) (.exit 0))))
  (.seq (.kp [0, 1, 5] (.blk 1 (.seq (.reg [⟨some 12, .mv (.t 0), none⟩,
    ⟨some 13, .mv (.t 5), none⟩,
    ⟨some 14, .mv (.t 1), none⟩,
    ⟨some 15, .ia 12 (.t 13) 3, none⟩,
    ⟨some 16, .fa 15 0 0, none⟩,
    ⟨none, .st 16 (.t 14) 1, none⟩] [0, 1, 5])
  (.seq (.reg [⟨some 17, .mv (.t 1), none⟩,
    ⟨some 18, .bin .add (.t 17) (.c (.int .i64 1)), none⟩,
    ⟨some 1, .asg (.t 18), none⟩] [0, 1, 5])
  (.seq (.reg [⟨some 19, .mv (.t 0), none⟩,
    ⟨some 20, .mv (.t 5), none⟩,
    ⟨some 21, .mv (.t 1), none⟩,
    ⟨some 22, .ia 19 (.t 20) 3, none⟩,
    ⟨some 23, .fa 22 1 1, none⟩,
    ⟨none, .st 23 (.t 21) 1, none⟩] [0, 1, 5])
  (.seq (.reg [⟨some 24, .mv (.t 1), none⟩,
    ⟨some 25, .bin .add (.t 24) (.c (.int .i64 1)), none⟩,
    ⟨some 1, .asg (.t 25), none⟩] [0, 1, 5])
  (.reg [⟨some 26, .mv (.t 0), none⟩,
    ⟨some 27, .mv (.t 5), none⟩,
    ⟨some 28, .ia 26 (.t 27) 3, none⟩,
    ⟨some 29, .fa 28 2 2, none⟩,
    ⟨some 30, .ld 29 1 false, none⟩,
    ⟨some 31, .mv (.t 1), none⟩,
    ⟨some 32, .callO 38 [(.t 30), (.t 31)], none⟩,
    ⟨some 1, .asg (.t 32), none⟩] [0, 1, 5])))))))
  (.reg [⟨some 10, .mv (.t 5), none⟩,
    ⟨some 11, .bin .add (.t 10) (.c (.int .i64 1)), none⟩,
    ⟨some 5, .asg (.t 11), none⟩] [0, 1, 5])))))))
  (.seq (.reg [⟨some 33, .mv (.t 1), none⟩,
    ⟨some 4, .asg (.t 33), none⟩] [0, 4])
  (.ret)))
theorem con_laws_markRecordS {v0 : (List XRecord)} {v1 : Int} {r : ((List XRecord) × Int)} (h : sh_laws_markRecordS v0 v1 = some r) : Con Try.prog 49 [(cLo (cXRecord cI cI (cLo cI))).enc v0, cI.enc v1] (outsOf (some (os_laws_markRecordS r))) (rs_laws_markRecordS r) := by
  delta sh_laws_markRecordS at h
  refine top (out := some (os_laws_markRecordS r)) (f := Try.f49) (m := m49) (rs := [.t 4]) (by kernel_rfl) rfl (by kernel_rfl) (by kernel_rfl) (by kernel_rfl) (by kernel_rfl) (by kernel_rfl) ?_
  exact
   ini [(0, .d ((cLo (cXRecord cI cI (cLo cI))).enc v0)), (1, .d (cI.enc v1))] rfl <| wpC_seq <| reg_s <| x_asg (sc cI (0 : Int) rfl) <| seqN [(0, .d ((cLo (cXRecord cI cI (cLo cI))).enc v0)), (1, .d (cI.enc v1))] (by kernel_rfl) <|
    xn <| wpC_seq <| wpC_kp <| wpC_seq <| reg_s <| x_asg (sc cI (0 : Int) rfl) <| seqN [(0, .d ((cLo (cXRecord cI cI (cLo cI))).enc v0)), (1, .d (cI.enc v1)), (5, .d (cI.enc (0 : Int)))] (by kernel_rfl) <|
    xn <| wpC_blk <| lpF (fun (s156 : ((List XRecord) × Int × Int)) => [(0, .d ((cLo (cXRecord cI cI (cLo cI))).enc s156.1)), (1, .d (cI.enc s156.2.1)), (5, .d (cI.enc s156.2.2))]) (v0, v1, (0 : Int)) rfl h
    fun G261 nx259 s156 hn260 h => wpC_seq <| wpC_kp <| wpC_seq <| reg_s <| st rfl <| mvd rfl rfl <| st rfl <| mvo rfl rfl <| stw rfl <| leno rfl fun l266 => st rfl <| b_lss (k := .i64) rfl rfl <| seqN [(0, .d ((cLo (cXRecord cI cI (cLo cI))).enc s156.1)), (1, .d (cI.enc s156.2.1)), (5, .d (cI.enc s156.2.2)), (9, .d (cB.enc (decide (s156.2.2 < (s156.1.length : Int)))))] (by kernel_rfl) <|
    xn <| cnd rfl h (fun b267 h => wpC_skip <| kpN [(0, .d ((cLo (cXRecord cI cI (cLo cI))).enc s156.1)), (1, .d (cI.enc s156.2.1)), (5, .d (cI.enc s156.2.2))] (by kernel_rfl) <| xn <| wpC_seq <| wpC_kp <| wpC_blk <| wpC_seq <| reg_s <| st rfl <| mvo rfl rfl <| st rfl <| mvd rfl rfl <| st rfl <| mvd rfl rfl <| getO_k h fun x292 i293 g294 h => st rfl <| iar rfl rfl rfl rfl i293 g294 rfl <| st rfl <| faa rfl rfl (Gt.idx g294 Gt.nil) rfl rfl rfl <| x_sta ((cLo (cXRecord cI cI (cLo cI))).enc (s156.1.set (s156.2.2).toNat (⟨s156.2.1, x292.House, x292.Values⟩ : XRecord))) (ss rfl rfl) rfl rfl (Ln.idx g294 (Ln.fld rfl rfl Ln.nil rfl)) (Cd.h_sz cI _) rfl <| seqN [(0, .d ((cLo (cXRecord cI cI (cLo cI))).enc (s156.1.set (s156.2.2).toNat (⟨s156.2.1, x292.House, x292.Values⟩ : XRecord)))), (1, .d (cI.enc s156.2.1)), (5, .d (cI.enc s156.2.2))] (by kernel_rfl) <|
    xn <| wpC_seq <| reg_s <| st rfl <| mvd rfl rfl <| ckI_k h fun i296 h => st rfl <| b_add (k := .i64) rfl rfl i296 <| x_asg (ss rfl rfl) <| seqN [(0, .d ((cLo (cXRecord cI cI (cLo cI))).enc (s156.1.set (s156.2.2).toNat (⟨s156.2.1, x292.House, x292.Values⟩ : XRecord)))), (1, .d (cI.enc (s156.2.1 + (1 : Int)))), (5, .d (cI.enc s156.2.2))] (by kernel_rfl) <|
    xn <| wpC_seq <| reg_s <| st rfl <| mvo rfl rfl <| st rfl <| mvd rfl rfl <| st rfl <| mvd rfl rfl <| getO_k h fun x300 i301 g302 h => st rfl <| iar rfl rfl rfl rfl i301 g302 rfl <| st rfl <| faa rfl rfl (Gt.idx g302 Gt.nil) rfl rfl rfl <| x_sta ((cLo (cXRecord cI cI (cLo cI))).enc ((s156.1.set (s156.2.2).toNat (⟨s156.2.1, x292.House, x292.Values⟩ : XRecord)).set (s156.2.2).toNat (⟨x300.Area, (s156.2.1 + (1 : Int)), x300.Values⟩ : XRecord))) (ss rfl rfl) rfl rfl (Ln.idx g302 (Ln.fld rfl rfl Ln.nil rfl)) (Cd.h_sz cI _) rfl <| seqN [(0, .d ((cLo (cXRecord cI cI (cLo cI))).enc ((s156.1.set (s156.2.2).toNat (⟨s156.2.1, x292.House, x292.Values⟩ : XRecord)).set (s156.2.2).toNat (⟨x300.Area, (s156.2.1 + (1 : Int)), x300.Values⟩ : XRecord)))), (1, .d (cI.enc (s156.2.1 + (1 : Int)))), (5, .d (cI.enc s156.2.2))] (by kernel_rfl) <|
    xn <| wpC_seq <| reg_s <| st rfl <| mvd rfl rfl <| ckI_k h fun i304 h => st rfl <| b_add (k := .i64) rfl rfl i304 <| x_asg (ss rfl rfl) <| seqN [(0, .d ((cLo (cXRecord cI cI (cLo cI))).enc ((s156.1.set (s156.2.2).toNat (⟨s156.2.1, x292.House, x292.Values⟩ : XRecord)).set (s156.2.2).toNat (⟨x300.Area, (s156.2.1 + (1 : Int)), x300.Values⟩ : XRecord)))), (1, .d (cI.enc ((s156.2.1 + (1 : Int)) + (1 : Int)))), (5, .d (cI.enc s156.2.2))] (by kernel_rfl) <|
    xn <| reg_s <| st rfl <| mvo rfl rfl <| st rfl <| mvd rfl rfl <| getO_k h fun x305 i306 g307 h => st rfl <| iar rfl rfl rfl rfl i306 g307 rfl <| st rfl <| faa rfl rfl (Gt.idx g307 Gt.nil) rfl rfl rfl <| st rfl <| ldao rfl rfl (Gt.idx g307 (Gt.fld rfl rfl Gt.nil)) rfl rfl rfl <| st rfl <| mvd rfl rfl <| bnd h fun x308 e309 h => x_clr (c := (cLo cI)) (c' := (cLo cI)) ((cLo (cXRecord cI cI (cLo cI))).enc (((s156.1.set (s156.2.2).toNat (⟨s156.2.1, x292.House, x292.Values⟩ : XRecord)).set (s156.2.2).toNat (⟨x300.Area, (s156.2.1 + (1 : Int)), x300.Values⟩ : XRecord)).set (s156.2.2).toNat (⟨x305.Area, x305.House, x308.1⟩ : XRecord))) (sLo sK) rfl (a1 (c := cI) tK rfl a0) rfl (Ln.idx g307 (Ln.fld rfl rfl Ln.nil rfl)) (con_laws_markIntS e309) rfl rfl (so1 sK so0) <| x_asg (ss rfl rfl) <| seqN [(0, .d ((cLo (cXRecord cI cI (cLo cI))).enc (((s156.1.set (s156.2.2).toNat (⟨s156.2.1, x292.House, x292.Values⟩ : XRecord)).set (s156.2.2).toNat (⟨x300.Area, (s156.2.1 + (1 : Int)), x300.Values⟩ : XRecord)).set (s156.2.2).toNat (⟨x305.Area, x305.House, x308.1⟩ : XRecord)))), (1, .d (cI.enc x308.2)), (5, .d (cI.enc s156.2.2))] (by kernel_rfl) <|
    xbb <| kpN [(0, .d ((cLo (cXRecord cI cI (cLo cI))).enc (((s156.1.set (s156.2.2).toNat (⟨s156.2.1, x292.House, x292.Values⟩ : XRecord)).set (s156.2.2).toNat (⟨x300.Area, (s156.2.1 + (1 : Int)), x300.Values⟩ : XRecord)).set (s156.2.2).toNat (⟨x305.Area, x305.House, x308.1⟩ : XRecord)))), (1, .d (cI.enc x308.2)), (5, .d (cI.enc s156.2.2))] (by kernel_rfl) <| xn <| reg_s <| st rfl <| mvd rfl rfl <| ckI_k h fun i310 h => st rfl <| b_add (k := .i64) rfl rfl i310 <| x_asg (ss rfl rfl) <| seqN [(0, .d ((cLo (cXRecord cI cI (cLo cI))).enc (((s156.1.set (s156.2.2).toNat (⟨s156.2.1, x292.House, x292.Values⟩ : XRecord)).set (s156.2.2).toNat (⟨x300.Area, (s156.2.1 + (1 : Int)), x300.Values⟩ : XRecord)).set (s156.2.2).toNat (⟨x305.Area, x305.House, x308.1⟩ : XRecord)))), (1, .d (cI.enc x308.2)), (5, .d (cI.enc (s156.2.2 + (1 : Int))))] (by kernel_rfl) <|
    xn <| hn260 ((((s156.1.set (s156.2.2).toNat (⟨s156.2.1, x292.House, x292.Values⟩ : XRecord)).set (s156.2.2).toNat (⟨x300.Area, (s156.2.1 + (1 : Int)), x300.Values⟩ : XRecord)).set (s156.2.2).toNat (⟨x305.Area, x305.House, x308.1⟩ : XRecord)), x308.2, (s156.2.2 + (1 : Int))) h)
    (fun b267 h => wpC_exit <| xt <| xt <| xt <| xb <| kpN [(0, .d ((cLo (cXRecord cI cI (cLo cI))).enc s156.1)), (1, .d (cI.enc s156.2.1))] (by kernel_rfl) <| xn <| wpC_seq <| reg_s <| st rfl <| mvd rfl rfl <| x_asg (ss rfl rfl) <| seqN [(0, .d ((cLo (cXRecord cI cI (cLo cI))).enc s156.1)), (4, .d (cI.enc s156.2.1))] (by kernel_rfl) <|
    xn <| wpC_ret <| re <| finO h (r1 (ss rfl rfl) <| r0) rfl rfl)

def rs_laws_heldIntS (r : Int) : List D := [cI.enc r]
def m39 : MC := .seq (.reg [⟨some 4, .asg (.c (.int .i64 0)), none⟩] [0, 1])
  (.seq (.kp [1] (.seq (.reg [⟨some 5, .asg (.c (.int .i64 0)), none⟩] [0, 1, 5])
  (.blk 0 (.loop (.seq (.kp [0, 1, 5] (.seq (.reg [⟨some 6, .mv (.t 5), none⟩,
    ⟨some 7, .mv (.t 0), none⟩,
    ⟨some 8, .len false (.t 7), none⟩,
    ⟨some 9, .bin .lss (.t 6) (.t 8), none⟩] [0, 1, 5, 9])
  (.cond (.t 9) (.skip) (.exit 0))))
  (.seq (.kp [0, 1, 5] (.blk 1 (.seq (.kp [0, 1, 5] (.seq (.reg [⟨some 12, .mv (.t 0), none⟩,
    ⟨some 13, .mv (.t 5), none⟩,
    ⟨some 14, .ia 12 (.t 13) 1, none⟩,
    ⟨some 15, .ld 14 1 false, none⟩,
    ⟨some 16, .mv (.t 1), none⟩,
    ⟨some 17, .bin .neq (.t 15) (.t 16), none⟩] [0, 1, 5, 17])
  (.cond (.t 17) (.seq (.reg [⟨some 4, .asg (.c (.int .i64 (-1))), none⟩] [4])
  (.ret)) (.skip))))
  (.reg [⟨some 18, .mv (.t 1), none⟩,
    ⟨some 19, .bin .add (.t 18) (.c (.int .i64 1)), none⟩,
    ⟨some 1, .asg (.t 19), none⟩] [0, 1, 5]))))
  (.reg [⟨some 10, .mv (.t 5), none⟩,
    ⟨some 11, .bin .add (.t 10) (.c (.int .i64 1)), none⟩,
    ⟨some 5, .asg (.t 11), none⟩] [0, 1, 5])))))))
  (.seq (.reg [⟨some 20, .mv (.t 1), none⟩,
    ⟨some 4, .asg (.t 20), none⟩] [4])
  (.ret)))
theorem con_laws_heldIntS {v0 : (List Int)} {v1 : Int} {r : Int} (h : sh_laws_heldIntS v0 v1 = some r) : Con Try.prog 39 [(cLs cI rfl).enc v0, cI.enc v1] [] (rs_laws_heldIntS r) := by
  delta sh_laws_heldIntS at h
  refine top (out := none) (f := Try.f39) (m := m39) (rs := [.t 4]) (by kernel_rfl) rfl (by kernel_rfl) (by kernel_rfl) (by kernel_rfl) (by kernel_rfl) (by kernel_rfl) ?_
  exact
   ini [(0, .d ((cLs cI rfl).enc v0)), (1, .d (cI.enc v1))] rfl <| wpC_seq <| reg_s <| x_asg (sc cI (0 : Int) rfl) <| seqN [(0, .d ((cLs cI rfl).enc v0)), (1, .d (cI.enc v1))] (by kernel_rfl) <|
    xn <| wpC_seq <| wpC_kp <| wpC_seq <| reg_s <| x_asg (sc cI (0 : Int) rfl) <| seqN [(0, .d ((cLs cI rfl).enc v0)), (1, .d (cI.enc v1)), (5, .d (cI.enc (0 : Int)))] (by kernel_rfl) <|
    xn <| wpC_blk <| lpF (fun (s120 : (Int × Int)) => [(0, .d ((cLs cI rfl).enc v0)), (1, .d (cI.enc s120.1)), (5, .d (cI.enc s120.2))]) (v1, (0 : Int)) rfl h
    fun G201 nx199 s120 hn200 h => wpC_seq <| wpC_kp <| wpC_seq <| reg_s <| st rfl <| mvd rfl rfl <| st rfl <| mvd rfl rfl <| stw rfl <| lens rfl fun l206 => st rfl <| b_lss (k := .i64) rfl rfl <| seqN [(0, .d ((cLs cI rfl).enc v0)), (1, .d (cI.enc s120.1)), (5, .d (cI.enc s120.2)), (9, .d (cB.enc (decide (s120.2 < (v0.length : Int)))))] (by kernel_rfl) <|
    xn <| cnd rfl h (fun b207 h => wpC_skip <| kpN [(0, .d ((cLs cI rfl).enc v0)), (1, .d (cI.enc s120.1)), (5, .d (cI.enc s120.2))] (by kernel_rfl) <| xn <| wpC_seq <| wpC_kp <| wpC_blk <| wpC_seq <| wpC_kp <| wpC_seq <| reg_s <| st rfl <| mvd rfl rfl <| st rfl <| mvd rfl rfl <| getO_k h fun x233 i234 g235 h => st rfl <| ias rfl rfl i234 g235 rfl <| st rfl <| ldi rfl rfl rfl rfl <| st rfl <| mvd rfl rfl <| st rfl <| b_neq (k := .i64) rfl rfl <| seqN [(0, .d ((cLs cI rfl).enc v0)), (1, .d (cI.enc s120.1)), (5, .d (cI.enc s120.2)), (17, .d (cB.enc (decide (x233 ≠ s120.1))))] (by kernel_rfl) <|
    xn <| cnd rfl h (fun b236 h => wpC_seq <| reg_s <| x_asg (sc cI (-1 : Int) rfl) <| seqN [(4, .d (cI.enc (-1 : Int)))] (by kernel_rfl) <|
    xn <| wpC_ret <| rt <| rt <| rb <| rt <| rt <| rt <| rb <| rt <| rt <| re <| fin h (r1 (ss rfl rfl) <| r0) rfl)
    (fun b236 h => wpC_skip <| kpN [(0, .d ((cLs cI rfl).enc v0)), (1, .d (cI.enc s120.1)), (5, .d (cI.enc s120.2))] (by kernel_rfl) <| xn <| reg_s <| st rfl <| mvd rfl rfl <| ckI_k h fun i237 h => st rfl <| b_add (k := .i64) rfl rfl i237 <| x_asg (ss rfl rfl) <| seqN [(0, .d ((cLs cI rfl).enc v0)), (1, .d (cI.enc (s120.1 + (1 : Int)))), (5, .d (cI.enc s120.2))] (by kernel_rfl) <|
    xbb <| kpN [(0, .d ((cLs cI rfl).enc v0)), (1, .d (cI.enc (s120.1 + (1 : Int)))), (5, .d (cI.enc s120.2))] (by kernel_rfl) <| xn <| reg_s <| st rfl <| mvd rfl rfl <| ckI_k h fun i238 h => st rfl <| b_add (k := .i64) rfl rfl i238 <| x_asg (ss rfl rfl) <| seqN [(0, .d ((cLs cI rfl).enc v0)), (1, .d (cI.enc (s120.1 + (1 : Int)))), (5, .d (cI.enc (s120.2 + (1 : Int))))] (by kernel_rfl) <|
    xn <| hn200 ((s120.1 + (1 : Int)), (s120.2 + (1 : Int))) h))
    (fun b207 h => wpC_exit <| xt <| xt <| xt <| xb <| kpN [(1, .d (cI.enc s120.1))] (by kernel_rfl) <| xn <| wpC_seq <| reg_s <| st rfl <| mvd rfl rfl <| x_asg (ss rfl rfl) <| seqN [(4, .d (cI.enc s120.1))] (by kernel_rfl) <|
    xn <| wpC_ret <| re <| fin h (r1 (ss rfl rfl) <| r0) rfl)
def rs_spec_uTable (r : (List Int)) : List D := [(cLo cI).enc r]
def m90 : MC := .seq (.reg [⟨some 4, .box (.t 0), none⟩,
    ⟨some 6, .box (.t 2), none⟩,
    ⟨some 8, .asg (.c (.slice true [])), none⟩] [1, 3, 4, 6])
  (.seq (.reg [⟨some 14, .ld 4 1 true, none⟩,
    ⟨some 15, .mv (.t 1), none⟩,
    ⟨some 16, .ld 6 4 true, none⟩,
    ⟨some 17, .call 87 [(.t 14), (.t 15), (.t 16)], none⟩,
    ⟨some 18, .mk (.int .i64 0) (.t 17), none⟩,
    ⟨some 9, .asg (.t 18), none⟩] [1, 3, 4, 6, 9])
  (.seq (.kp [9] (.seq (.reg [⟨some 19, .mv (.t 3), none⟩,
    ⟨some 20, .len false (.t 19), none⟩,
    ⟨some 21, .mv (.c (.int .i64 0)), none⟩] [1, 3, 4, 6, 9, 19, 20, 21])
  (.blk 0 (.loop (.seq (.reg [⟨some 22, .bin .lss (.t 21) (.t 20), none⟩] [1, 3, 4, 6, 9, 19, 20, 21, 22])
  (.seq (.kp [1, 3, 4, 6, 9, 19, 20, 21] (.cond (.t 22) (.skip) (.exit 0)))
  (.seq (.kp [1, 3, 4, 6, 9, 19, 20, 21] (.blk 1 (.seq (.reg [⟨some 23, .ia 19 (.t 21) 3, none⟩,
    ⟨some 24, .ld 23 3 true, none⟩,
    ⟨some 11, .alloc (.agg [.int .i64 0, .int .i64 0, .slice true []]), none⟩,
    ⟨none, .st 11 (.t 24) 3, none⟩] [1, 3, 4, 6, 9, 11, 19, 20, 21])
  (.seq (.reg [⟨some 26, .ld 4 1 true, none⟩,
    ⟨some 27, .mv (.t 1), none⟩,
    ⟨some 28, .ld 6 4 true, none⟩,
    ⟨some 29, .ld 11 3 true, none⟩,
    ⟨some 30, .call 67 [(.t 26), (.t 27), (.t 28), (.t 29)], none⟩,
    ⟨some 25, .mvt 30, none⟩,
    ⟨some 31, .ext 25 0, none⟩,
    ⟨some 32, .ext 25 1, none⟩,
    ⟨some 12, .asg (.t 31), none⟩,
    ⟨some 13, .asg (.t 32), none⟩] [1, 3, 4, 6, 9, 12, 13, 19, 20, 21])
  (.seq (.reg [⟨some 33, .mv (.t 12), none⟩,
    ⟨some 34, .bin .geq (.t 33) (.c (.int .i64 0)), none⟩] [1, 3, 4, 6, 9, 12, 13, 19, 20, 21, 34])
  (.cond (.t 34) (.reg [⟨some 35, .mv (.t 9), none⟩,
    ⟨some 36, .mv (.t 12), none⟩,
    ⟨some 37, .ia 35 (.t 36) 1, none⟩,
    ⟨some 38, .ld 37 1 false, none⟩,
    ⟨some 39, .mv (.t 13), none⟩,
    ⟨some 40, .bin .add (.t 38) (.t 39), none⟩,
    ⟨some 41, .ia 35 (.t 36) 1, none⟩,
    ⟨none, .st 41 (.t 40) 1, none⟩] [1, 3, 4, 6, 9, 19, 20, 21]) (.skip)))))))
  (.reg [⟨some 42, .bin .add (.t 21) (.c (.int .i64 1)), none⟩,
    ⟨some 21, .mv (.t 42), none⟩] [1, 3, 4, 6, 9, 19, 20, 21]))))))))
  (.seq (.reg [⟨some 43, .mv (.t 9), none⟩,
    ⟨some 8, .asg (.t 43), none⟩] [8])
  (.ret))))
theorem con_spec_uTable {v0 : XGeo} {v1 : (List XVariable)} {v2 : XTable} {v3 : (List XRecord)} {r : (List Int)} (h : sh_spec_uTable v0 v1 v2 v3 = some r) : Con Try.prog 90 [(cXGeo (cLs cI rfl)).enc v0, (cLs (cXVariable cS cI) rfl).enc v1, (cXTable cI (cLs cI rfl) (cLs cI rfl) cI).enc v2, (cLs (cXRecord cI cI (cLs cI rfl)) rfl).enc v3] [] (rs_spec_uTable r) := by
  delta sh_spec_uTable at h
  refine top (out := none) (f := Try.f90) (m := m90) (rs := [.t 8]) (by kernel_rfl) rfl (by kernel_rfl) (by kernel_rfl) (by kernel_rfl) (by kernel_rfl) (by kernel_rfl) ?_
  exact
   ini [(0, .d ((cXGeo (cLs cI rfl)).enc v0)), (1, .d ((cLs (cXVariable cS cI) rfl).enc v1)), (2, .d ((cXTable cI (cLs cI rfl) (cLs cI rfl) cI).enc v2)), (3, .d ((cLs (cXRecord cI cI (cLs cI rfl)) rfl).enc v3))] rfl <| wpC_seq <| reg_s <| x_box (ss rfl rfl) <| x_box (ss rfl rfl) <| x_asg (sc (cLo cI) ([] : List Int) rfl) <| seqN [(1, .d ((cLs (cXVariable cS cI) rfl).enc v1)), (3, .d ((cLs (cXRecord cI cI (cLs cI rfl)) rfl).enc v3)), (4, .box ((cXGeo (cLs cI rfl)).enc v0)), (6, .box ((cXTable cI (cLs cI rfl) (cLs cI rfl) cI).enc v2))] (by kernel_rfl) <|
    xn <| wpC_seq <| reg_s <| st rfl <| ldb rfl rfl rfl rfl <| st rfl <| mvd rfl rfl <| st rfl <| ldb rfl rfl rfl rfl <| bnd h fun x5 e6 h => st rfl <| o_call (a1 (c := (cXGeo (cLs cI rfl))) (tXGeo (tLs tK)) rfl (a1 (c := (cLs (cXVariable cS cI) rfl)) (tLs (tXVariable tS tK)) rfl (a1 (c := (cXTable cI (cLs cI rfl) (cLs cI rfl) cI)) (tXTable tK (tLs tK) (tLs tK) tK) rfl a0))) (con_spec_uCount e6) (.inl (so1 sK so0)) <| mkO_k h fun i7 l8 h => st rfl <| o_mk (c := cI) (a0 := (0 : Int)) rfl (k := .i64) rfl i7 l8 <| x_asg (so rfl rfl) <| seqN [(1, .d ((cLs (cXVariable cS cI) rfl).enc v1)), (3, .d ((cLs (cXRecord cI cI (cLs cI rfl)) rfl).enc v3)), (4, .box ((cXGeo (cLs cI rfl)).enc v0)), (6, .box ((cXTable cI (cLs cI rfl) (cLs cI rfl) cI).enc v2)), (9, .d ((cLo cI).enc (List.replicate (x5).toNat (0 : Int))))] (by kernel_rfl) <|
    xn <| wpC_seq <| wpC_kp <| wpC_seq <| reg_s <| st rfl <| mvd rfl rfl <| stw rfl <| lens rfl fun l74 => st rfl <| mvc cI (0 : Int) rfl <| seqN [(1, .d ((cLs (cXVariable cS cI) rfl).enc v1)), (3, .d ((cLs (cXRecord cI cI (cLs cI rfl)) rfl).enc v3)), (4, .box ((cXGeo (cLs cI rfl)).enc v0)), (6, .box ((cXTable cI (cLs cI rfl) (cLs cI rfl) cI).enc v2)), (9, .d ((cLo cI).enc (List.replicate (x5).toNat (0 : Int)))), (19, .d ((cLs (cXRecord cI cI (cLs cI rfl)) rfl).enc v3)), (20, .d (cI.enc (v3.length : Int))), (21, .d (cI.enc (0 : Int)))] (by kernel_rfl) <|
    xn <| wpC_blk <| lpR (fun (k76 : Nat) (s75 : (List Int)) => [(1, .d ((cLs (cXVariable cS cI) rfl).enc v1)), (3, .d ((cLs (cXRecord cI cI (cLs cI rfl)) rfl).enc v3)), (4, .box ((cXGeo (cLs cI rfl)).enc v0)), (6, .box ((cXTable cI (cLs cI rfl) (cLs cI rfl) cI).enc v2)), (9, .d ((cLo cI).enc s75)), (19, .d ((cLs (cXRecord cI cI (cLs cI rfl)) rfl).enc v3)), (20, .d (cI.enc (v3.length : Int))), (21, .d (cI.enc (k76 : Int)))]) (List.replicate (x5).toNat (0 : Int)) rfl h
    (fun G118 s75 h => wpC_seq <| reg_s <| st rfl <| b_lss (k := .i64) rfl rfl <| seqN [(1, .d ((cLs (cXVariable cS cI) rfl).enc v1)), (3, .d ((cLs (cXRecord cI cI (cLs cI rfl)) rfl).enc v3)), (4, .box ((cXGeo (cLs cI rfl)).enc v0)), (6, .box ((cXTable cI (cLs cI rfl) (cLs cI rfl) cI).enc v2)), (9, .d ((cLo cI).enc s75)), (19, .d ((cLs (cXRecord cI cI (cLs cI rfl)) rfl).enc v3)), (20, .d (cI.enc (v3.length : Int))), (21, .d (cI.enc (v3.length : Int))), (22, .d (cB.enc (decide ((v3.length : Int) < (v3.length : Int)))))] (by kernel_rfl) <|
    xn <| wpC_seq <| wpC_kp <| cnd0 rfl (dlf _) <| wpC_exit <| xt <| xt <| xt <| xb <| kpN [(9, .d ((cLo cI).enc s75))] (by kernel_rfl) <| xn <| wpC_seq <| reg_s <| st rfl <| mvo rfl rfl <| x_asg (sr rfl rfl) <| seqN [(8, .d ((cLo cI).enc s75))] (by kernel_rfl) <|
    xn <| wpC_ret <| re <| fin h (r1 (so rfl rfl) <| r0) rfl)
    (fun G118 nx116 k76 s75 x77 hk78 hx79 hn117 h => wpC_seq <| reg_s <| st rfl <| b_lss (k := .i64) rfl rfl <| seqN [(1, .d ((cLs (cXVariable cS cI) rfl).enc v1)), (3, .d ((cLs (cXRecord cI cI (cLs cI rfl)) rfl).enc v3)), (4, .box ((cXGeo (cLs cI rfl)).enc v0)), (6, .box ((cXTable cI (cLs cI rfl) (cLs cI rfl) cI).enc v2)), (9, .d ((cLo cI).enc s75)), (19, .d ((cLs (cXRecord cI cI (cLs cI rfl)) rfl).enc v3)), (20, .d (cI.enc (v3.length : Int))), (21, .d (cI.enc (k76 : Int))), (22, .d (cB.enc (decide ((k76 : Int) < (v3.length : Int)))))] (by kernel_rfl) <|
    xn <| wpC_seq <| wpC_kp <| cnd1 rfl (dlt hk78) <| wpC_skip <| kpN [(1, .d ((cLs (cXVariable cS cI) rfl).enc v1)), (3, .d ((cLs (cXRecord cI cI (cLs cI rfl)) rfl).enc v3)), (4, .box ((cXGeo (cLs cI rfl)).enc v0)), (6, .box ((cXTable cI (cLs cI rfl) (cLs cI rfl) cI).enc v2)), (9, .d ((cLo cI).enc s75)), (19, .d ((cLs (cXRecord cI cI (cLs cI rfl)) rfl).enc v3)), (20, .d (cI.enc (v3.length : Int))), (21, .d (cI.enc (k76 : Int)))] (by kernel_rfl) <| xn <| wpC_seq <| wpC_kp <| wpC_blk <| wpC_seq <| reg_s <| st rfl <| ias rfl rfl (Int.natCast_nonneg _) hx79 rfl <| st rfl <| ldi rfl rfl rfl rfl <| x_all (cXRecord cI cI (cLo cI)) (⟨(0 : Int), (0 : Int), ([] : List Int)⟩ : XRecord) rfl <| x_stb (ss rfl rfl) rfl (Cd.h_sz _ _) rfl <| seqN [(1, .d ((cLs (cXVariable cS cI) rfl).enc v1)), (3, .d ((cLs (cXRecord cI cI (cLs cI rfl)) rfl).enc v3)), (4, .box ((cXGeo (cLs cI rfl)).enc v0)), (6, .box ((cXTable cI (cLs cI rfl) (cLs cI rfl) cI).enc v2)), (9, .d ((cLo cI).enc s75)), (11, .box ((cXRecord cI cI (cLs cI rfl)).enc x77)), (19, .d ((cLs (cXRecord cI cI (cLs cI rfl)) rfl).enc v3)), (20, .d (cI.enc (v3.length : Int))), (21, .d (cI.enc (k76 : Int)))] (by kernel_rfl) <|
    xn <| wpC_seq <| reg_s <| st rfl <| ldb rfl rfl rfl rfl <| st rfl <| mvd rfl rfl <| st rfl <| ldb rfl rfl rfl rfl <| st rfl <| ldb rfl rfl rfl rfl <| bnd h fun x130 e131 h => st rfl <| o_call (a1 (c := (cXGeo (cLs cI rfl))) (tXGeo (tLs tK)) rfl (a1 (c := (cLs (cXVariable cS cI) rfl)) (tLs (tXVariable tS tK)) rfl (a1 (c := (cXTable cI (cLs cI rfl) (cLs cI rfl) cI)) (tXTable tK (tLs tK) (tLs tK) tK) rfl (a1 (c := (cXRecord cI cI (cLs cI rfl))) (tXRecord tK tK (tLs tK)) rfl a0)))) (con_spec_uCell e131) (.inl (so1 sK (so1 sK so0))) <| x_mvt rfl <| x_ext rfl rfl <| x_ext rfl rfl <| x_asg (ss rfl rfl) <| x_asg (ss rfl rfl) <| seqN [(1, .d ((cLs (cXVariable cS cI) rfl).enc v1)), (3, .d ((cLs (cXRecord cI cI (cLs cI rfl)) rfl).enc v3)), (4, .box ((cXGeo (cLs cI rfl)).enc v0)), (6, .box ((cXTable cI (cLs cI rfl) (cLs cI rfl) cI).enc v2)), (9, .d ((cLo cI).enc s75)), (12, .d (cI.enc x130.1)), (13, .d (cI.enc x130.2)), (19, .d ((cLs (cXRecord cI cI (cLs cI rfl)) rfl).enc v3)), (20, .d (cI.enc (v3.length : Int))), (21, .d (cI.enc (k76 : Int)))] (by kernel_rfl) <|
    xn <| wpC_seq <| reg_s <| st rfl <| mvd rfl rfl <| st rfl <| b_geq (k := .i64) rfl rfl <| seqN [(1, .d ((cLs (cXVariable cS cI) rfl).enc v1)), (3, .d ((cLs (cXRecord cI cI (cLs cI rfl)) rfl).enc v3)), (4, .box ((cXGeo (cLs cI rfl)).enc v0)), (6, .box ((cXTable cI (cLs cI rfl) (cLs cI rfl) cI).enc v2)), (9, .d ((cLo cI).enc s75)), (12, .d (cI.enc x130.1)), (13, .d (cI.enc x130.2)), (19, .d ((cLs (cXRecord cI cI (cLs cI rfl)) rfl).enc v3)), (20, .d (cI.enc (v3.length : Int))), (21, .d (cI.enc (k76 : Int))), (34, .d (cB.enc (decide ((0 : Int) ≤ x130.1))))] (by kernel_rfl) <|
    xn <| cnd rfl h (fun b132 h => reg_s <| st rfl <| mvo rfl rfl <| st rfl <| mvd rfl rfl <| getO_k h fun x133 i134 g135 h => st rfl <| iar rfl rfl rfl rfl i134 g135 rfl <| st rfl <| lda rfl rfl (Gt.idx g135 Gt.nil) rfl rfl rfl <| st rfl <| mvd rfl rfl <| ckI_k h fun i136 h => st rfl <| b_add (k := .i64) rfl rfl i136 <| st rfl <| iar rfl rfl rfl rfl i134 g135 rfl <| x_sta ((cLo cI).enc (s75.set (x130.1).toNat (x133 + x130.2))) (ss rfl rfl) rfl rfl (Ln.idx g135 Ln.nil) (Cd.h_sz cI _) rfl <| seqN [(1, .d ((cLs (cXVariable cS cI) rfl).enc v1)), (3, .d ((cLs (cXRecord cI cI (cLs cI rfl)) rfl).enc v3)), (4, .box ((cXGeo (cLs cI rfl)).enc v0)), (6, .box ((cXTable cI (cLs cI rfl) (cLs cI rfl) cI).enc v2)), (9, .d ((cLo cI).enc (s75.set (x130.1).toNat (x133 + x130.2)))), (19, .d ((cLs (cXRecord cI cI (cLs cI rfl)) rfl).enc v3)), (20, .d (cI.enc (v3.length : Int))), (21, .d (cI.enc (k76 : Int)))] (by kernel_rfl) <|
    xbb <| kpN [(1, .d ((cLs (cXVariable cS cI) rfl).enc v1)), (3, .d ((cLs (cXRecord cI cI (cLs cI rfl)) rfl).enc v3)), (4, .box ((cXGeo (cLs cI rfl)).enc v0)), (6, .box ((cXTable cI (cLs cI rfl) (cLs cI rfl) cI).enc v2)), (9, .d ((cLo cI).enc (s75.set (x130.1).toNat (x133 + x130.2)))), (19, .d ((cLs (cXRecord cI cI (cLs cI rfl)) rfl).enc v3)), (20, .d (cI.enc (v3.length : Int))), (21, .d (cI.enc (k76 : Int)))] (by kernel_rfl) <| xn <| reg_s <| st rfl <| b_inc rfl rfl l74 hk78 <| st rfl <| mvd rfl rfl <| seqN [(1, .d ((cLs (cXVariable cS cI) rfl).enc v1)), (3, .d ((cLs (cXRecord cI cI (cLs cI rfl)) rfl).enc v3)), (4, .box ((cXGeo (cLs cI rfl)).enc v0)), (6, .box ((cXTable cI (cLs cI rfl) (cLs cI rfl) cI).enc v2)), (9, .d ((cLo cI).enc (s75.set (x130.1).toNat (x133 + x130.2)))), (19, .d ((cLs (cXRecord cI cI (cLs cI rfl)) rfl).enc v3)), (20, .d (cI.enc (v3.length : Int))), (21, .d (cI.enc ((k76 + 1 : Nat) : Int)))] (by kernel_rfl) <|
    xn <| hn117 (s75.set (x130.1).toNat (x133 + x130.2)) h)
    (fun b132 h => wpC_skip <| xbb <| kpN [(1, .d ((cLs (cXVariable cS cI) rfl).enc v1)), (3, .d ((cLs (cXRecord cI cI (cLs cI rfl)) rfl).enc v3)), (4, .box ((cXGeo (cLs cI rfl)).enc v0)), (6, .box ((cXTable cI (cLs cI rfl) (cLs cI rfl) cI).enc v2)), (9, .d ((cLo cI).enc s75)), (19, .d ((cLs (cXRecord cI cI (cLs cI rfl)) rfl).enc v3)), (20, .d (cI.enc (v3.length : Int))), (21, .d (cI.enc (k76 : Int)))] (by kernel_rfl) <| xn <| reg_s <| st rfl <| b_inc rfl rfl l74 hk78 <| st rfl <| mvd rfl rfl <| seqN [(1, .d ((cLs (cXVariable cS cI) rfl).enc v1)), (3, .d ((cLs (cXRecord cI cI (cLs cI rfl)) rfl).enc v3)), (4, .box ((cXGeo (cLs cI rfl)).enc v0)), (6, .box ((cXTable cI (cLs cI rfl) (cLs cI rfl) cI).enc v2)), (9, .d ((cLo cI).enc s75)), (19, .d ((cLs (cXRecord cI cI (cLs cI rfl)) rfl).enc v3)), (20, .d (cI.enc (v3.length : Int))), (21, .d (cI.enc ((k76 + 1 : Nat) : Int)))] (by kernel_rfl) <|
    xn <| hn117 s75 h))

def rs_spec_TableOf (r : ((List Int) × Bool)) : List D := [(cLo cI).enc r.1, cB.enc r.2]
def m50 : MC := .seq (.reg [⟨some 4, .box (.t 0), none⟩,
    ⟨some 6, .box (.t 2), none⟩,
    ⟨some 8, .asg (.c (.slice true [])), none⟩,
    ⟨some 9, .asg (.c (.bool false)), none⟩] [1, 3, 4, 6])
  (.seq (.kp [1, 3, 4, 6] (.seq (.reg [⟨some 10, .ld 4 1 true, none⟩,
    ⟨some 11, .mv (.t 1), none⟩,
    ⟨some 12, .ld 6 4 true, none⟩,
    ⟨some 13, .call 63 [(.t 10), (.t 11), (.t 12)], none⟩,
    ⟨some 14, .nt (.t 13), none⟩,
    ⟨some 15, .mv (.t 14), none⟩,
    ⟨some 16, .ld 4 1 true, some (15, false)⟩,
    ⟨some 17, .mv (.t 1), some (15, false)⟩,
    ⟨some 18, .mv (.t 3), some (15, false)⟩,
    ⟨some 19, .call 85 [(.t 16), (.t 17), (.t 18)], some (15, false)⟩,
    ⟨some 20, .nt (.t 19), some (15, false)⟩,
    ⟨some 21, .pick (.t 15) (.c (.bool true)) (.t 20), none⟩] [1, 3, 4, 6, 21])
  (.cond (.t 21) (.seq (.reg [⟨some 8, .asg (.c (.slice true [])), none⟩,
    ⟨some 9, .asg (.c (.bool false)), none⟩] [8, 9])
  (.ret)) (.skip))))
  (.seq (.reg [⟨some 22, .ld 4 1 true, none⟩,
    ⟨some 23, .mv (.t 1), none⟩,
    ⟨some 24, .ld 6 4 true, none⟩,
    ⟨some 25, .mv (.t 3), none⟩,
    ⟨some 26, .call 90 [(.t 22), (.t 23), (.t 24), (.t 25)], none⟩,
    ⟨some 8, .asg (.t 26), none⟩,
    ⟨some 9, .asg (.c (.bool true)), none⟩] [8, 9])
  (.ret)))
theorem con_spec_TableOf {v0 : XGeo} {v1 : (List XVariable)} {v2 : XTable} {v3 : (List XRecord)} {r : ((List Int) × Bool)} (h : sh_spec_TableOf v0 v1 v2 v3 = some r) : Con Try.prog 50 [(cXGeo (cLs cI rfl)).enc v0, (cLs (cXVariable cS cI) rfl).enc v1, (cXTable cI (cLs cI rfl) (cLs cI rfl) cI).enc v2, (cLs (cXRecord cI cI (cLs cI rfl)) rfl).enc v3] [] (rs_spec_TableOf r) := by
  delta sh_spec_TableOf at h
  refine top (out := none) (f := Try.f50) (m := m50) (rs := [.t 8, .t 9]) (by kernel_rfl) rfl (by kernel_rfl) (by kernel_rfl) (by kernel_rfl) (by kernel_rfl) (by kernel_rfl) ?_
  exact
   ini [(0, .d ((cXGeo (cLs cI rfl)).enc v0)), (1, .d ((cLs (cXVariable cS cI) rfl).enc v1)), (2, .d ((cXTable cI (cLs cI rfl) (cLs cI rfl) cI).enc v2)), (3, .d ((cLs (cXRecord cI cI (cLs cI rfl)) rfl).enc v3))] rfl <| wpC_seq <| reg_s <| x_box (ss rfl rfl) <| x_box (ss rfl rfl) <| x_asg (sc (cLo cI) ([] : List Int) rfl) <| x_asg (sc cB false rfl) <| seqN [(1, .d ((cLs (cXVariable cS cI) rfl).enc v1)), (3, .d ((cLs (cXRecord cI cI (cLs cI rfl)) rfl).enc v3)), (4, .box ((cXGeo (cLs cI rfl)).enc v0)), (6, .box ((cXTable cI (cLs cI rfl) (cLs cI rfl) cI).enc v2))] (by kernel_rfl) <|
    xn <| wpC_seq <| wpC_kp <| wpC_seq <| reg_s <| st rfl <| ldb rfl rfl rfl rfl <| st rfl <| mvd rfl rfl <| st rfl <| ldb rfl rfl rfl rfl <| bnd h fun x17 e18 h => st rfl <| o_call (a1 (c := (cXGeo (cLs cI rfl))) (tXGeo (tLs tK)) rfl (a1 (c := (cLs (cXVariable cS cI) rfl)) (tLs (tXVariable tS tK)) rfl (a1 (c := (cXTable cI (cLs cI rfl) (cLs cI rfl) cI)) (tXTable tK (tLs tK) (tLs tK) tK) rfl a0))) (con_spec_uGood e18) (.inl (so1 sB so0)) <| st rfl <| o_nt rfl <| st rfl <| mvd rfl rfl <| ite_k h (fun b19 h => gf rfl b19 <| gf rfl b19 <| gf rfl b19 <| gf rfl b19 <| gf rfl b19 <| st rfl <| pick1 rfl b19 (cd := cB) (v := true) rfl rfl <| seqN [(1, .d ((cLs (cXVariable cS cI) rfl).enc v1)), (3, .d ((cLs (cXRecord cI cI (cLs cI rfl)) rfl).enc v3)), (4, .box ((cXGeo (cLs cI rfl)).enc v0)), (6, .box ((cXTable cI (cLs cI rfl) (cLs cI rfl) cI).enc v2)), (21, .d (cB.enc true))] (by kernel_rfl) <|
    xn <| cnd1 rfl rfl <| wpC_seq <| reg_s <| x_asg (sc (cLo cI) ([] : List Int) rfl) <| x_asg (sc cB false rfl) <| seqN [(8, .d ((cLo cI).enc ([] : List Int))), (9, .d (cB.enc false))] (by kernel_rfl) <|
    xn <| wpC_ret <| rt <| rt <| re <| fin h (r1 (so rfl rfl) <| r1 (ss rfl rfl) <| r0) rfl)
    (fun b19 h => gt' rfl b19 <| st rfl <| ldb rfl rfl rfl rfl <| gt' rfl b19 <| st rfl <| mvd rfl rfl <| gt' rfl b19 <| st rfl <| mvd rfl rfl <| gt' rfl b19 <| bnd h fun x20 e21 h => st rfl <| o_call (a1 (c := (cXGeo (cLs cI rfl))) (tXGeo (tLs tK)) rfl (a1 (c := (cLs (cXVariable cS cI) rfl)) (tLs (tXVariable tS tK)) rfl (a1 (c := (cLs (cXRecord cI cI (cLs cI rfl)) rfl)) (tLs (tXRecord tK tK (tLs tK))) rfl a0))) (con_spec_uSurvey e21) (.inl (so1 sB so0)) <| gt' rfl b19 <| st rfl <| o_nt rfl <| st rfl <| pick0 rfl b19 (cd := cB) (v := (!x20)) rfl rfl <| seqN [(1, .d ((cLs (cXVariable cS cI) rfl).enc v1)), (3, .d ((cLs (cXRecord cI cI (cLs cI rfl)) rfl).enc v3)), (4, .box ((cXGeo (cLs cI rfl)).enc v0)), (6, .box ((cXTable cI (cLs cI rfl) (cLs cI rfl) cI).enc v2)), (21, .d (cB.enc (!x20)))] (by kernel_rfl) <|
    xn <| cnd rfl h (fun b22 h => wpC_seq <| reg_s <| x_asg (sc (cLo cI) ([] : List Int) rfl) <| x_asg (sc cB false rfl) <| seqN [(8, .d ((cLo cI).enc ([] : List Int))), (9, .d (cB.enc false))] (by kernel_rfl) <|
    xn <| wpC_ret <| rt <| rt <| re <| fin h (r1 (so rfl rfl) <| r1 (ss rfl rfl) <| r0) rfl)
    (fun b22 h => wpC_skip <| kpN [(1, .d ((cLs (cXVariable cS cI) rfl).enc v1)), (3, .d ((cLs (cXRecord cI cI (cLs cI rfl)) rfl).enc v3)), (4, .box ((cXGeo (cLs cI rfl)).enc v0)), (6, .box ((cXTable cI (cLs cI rfl) (cLs cI rfl) cI).enc v2))] (by kernel_rfl) <| xn <| wpC_seq <| reg_s <| st rfl <| ldb rfl rfl rfl rfl <| st rfl <| mvd rfl rfl <| st rfl <| ldb rfl rfl rfl rfl <| st rfl <| mvd rfl rfl <| bnd h fun x25 e26 h => st rfl <| o_call (a1 (c := (cXGeo (cLs cI rfl))) (tXGeo (tLs tK)) rfl (a1 (c := (cLs (cXVariable cS cI) rfl)) (tLs (tXVariable tS tK)) rfl (a1 (c := (cXTable cI (cLs cI rfl) (cLs cI rfl) cI)) (tXTable tK (tLs tK) (tLs tK) tK) rfl (a1 (c := (cLs (cXRecord cI cI (cLs cI rfl)) rfl)) (tLs (tXRecord tK tK (tLs tK))) rfl a0)))) (con_spec_uTable e26) (.inl (so1 (sLo sK) so0)) <| x_asg (so rfl rfl) <| x_asg (sc cB true rfl) <| seqN [(8, .d ((cLo cI).enc x25)), (9, .d (cB.enc true))] (by kernel_rfl) <|
    xn <| wpC_ret <| re <| fin h (r1 (so rfl rfl) <| r1 (ss rfl rfl) <| r0) rfl))

def rs_impl_tableOf (r : (List Int)) : List D := [(cLo cI).enc r]
def m91 : MC := .seq (.reg [⟨some 4, .box (.t 0), none⟩,
    ⟨some 6, .box (.t 2), none⟩,
    ⟨some 8, .asg (.c (.slice true [])), none⟩] [1, 3, 4, 6])
  (.seq (.reg [⟨some 14, .ld 4 1 true, none⟩,
    ⟨some 15, .mv (.t 1), none⟩,
    ⟨some 16, .ld 6 4 true, none⟩,
    ⟨some 17, .call 89 [(.t 14), (.t 15), (.t 16)], none⟩,
    ⟨some 18, .mk (.int .i64 0) (.t 17), none⟩,
    ⟨some 9, .asg (.t 18), none⟩] [1, 3, 4, 6, 9])
  (.seq (.kp [9] (.seq (.reg [⟨some 19, .mv (.t 3), none⟩,
    ⟨some 20, .len false (.t 19), none⟩,
    ⟨some 21, .mv (.c (.int .i64 0)), none⟩] [1, 3, 4, 6, 9, 19, 20, 21])
  (.blk 0 (.loop (.seq (.reg [⟨some 22, .bin .lss (.t 21) (.t 20), none⟩] [1, 3, 4, 6, 9, 19, 20, 21, 22])
  (.seq (.kp [1, 3, 4, 6, 9, 19, 20, 21] (.cond (.t 22) (.skip) (.exit 0)))
  (.seq (.kp [1, 3, 4, 6, 9, 19, 20, 21] (.blk 1 (.seq (.reg [⟨some 23, .ia 19 (.t 21) 3, none⟩,
    ⟨some 24, .ld 23 3 true, none⟩,
    ⟨some 11, .alloc (.agg [.int .i64 0, .int .i64 0, .slice true []]), none⟩,
    ⟨none, .st 11 (.t 24) 3, none⟩] [1, 3, 4, 6, 9, 11, 19, 20, 21])
  (.seq (.reg [⟨some 26, .ld 4 1 true, none⟩,
    ⟨some 27, .mv (.t 1), none⟩,
    ⟨some 28, .ld 6 4 true, none⟩,
    ⟨some 29, .ld 11 3 true, none⟩,
    ⟨some 30, .call 72 [(.t 26), (.t 27), (.t 28), (.t 29)], none⟩,
    ⟨some 25, .mvt 30, none⟩,
    ⟨some 31, .ext 25 0, none⟩,
    ⟨some 32, .ext 25 1, none⟩,
    ⟨some 12, .asg (.t 31), none⟩,
    ⟨some 13, .asg (.t 32), none⟩] [1, 3, 4, 6, 9, 12, 13, 19, 20, 21])
  (.seq (.reg [⟨some 33, .mv (.t 12), none⟩,
    ⟨some 34, .bin .geq (.t 33) (.c (.int .i64 0)), none⟩] [1, 3, 4, 6, 9, 12, 13, 19, 20, 21, 34])
  (.cond (.t 34) (.reg [⟨some 35, .mv (.t 9), none⟩,
    ⟨some 36, .mv (.t 12), none⟩,
    ⟨some 37, .ia 35 (.t 36) 1, none⟩,
    ⟨some 38, .ld 37 1 false, none⟩,
    ⟨some 39, .mv (.t 13), none⟩,
    ⟨some 40, .bin .add (.t 38) (.t 39), none⟩,
    ⟨some 41, .ia 35 (.t 36) 1, none⟩,
    ⟨none, .st 41 (.t 40) 1, none⟩] [1, 3, 4, 6, 9, 19, 20, 21]) (.skip)))))))
  (.reg [⟨some 42, .bin .add (.t 21) (.c (.int .i64 1)), none⟩,
    ⟨some 21, .mv (.t 42), none⟩] [1, 3, 4, 6, 9, 19, 20, 21]))))))))
  (.seq (.reg [⟨some 43, .mv (.t 9), none⟩,
    ⟨some 8, .asg (.t 43), none⟩] [8])
  (.ret))))
theorem con_impl_tableOf {v0 : XGeo} {v1 : (List XVariable)} {v2 : XTable} {v3 : (List XRecord)} {r : (List Int)} (h : sh_impl_tableOf v0 v1 v2 v3 = some r) : Con Try.prog 91 [(cXGeo (cLs cI rfl)).enc v0, (cLs (cXVariable cS cI) rfl).enc v1, (cXTable cI (cLs cI rfl) (cLs cI rfl) cI).enc v2, (cLs (cXRecord cI cI (cLs cI rfl)) rfl).enc v3] [] (rs_impl_tableOf r) := by
  delta sh_impl_tableOf at h
  refine top (out := none) (f := Try.f91) (m := m91) (rs := [.t 8]) (by kernel_rfl) rfl (by kernel_rfl) (by kernel_rfl) (by kernel_rfl) (by kernel_rfl) (by kernel_rfl) ?_
  exact
   ini [(0, .d ((cXGeo (cLs cI rfl)).enc v0)), (1, .d ((cLs (cXVariable cS cI) rfl).enc v1)), (2, .d ((cXTable cI (cLs cI rfl) (cLs cI rfl) cI).enc v2)), (3, .d ((cLs (cXRecord cI cI (cLs cI rfl)) rfl).enc v3))] rfl <| wpC_seq <| reg_s <| x_box (ss rfl rfl) <| x_box (ss rfl rfl) <| x_asg (sc (cLo cI) ([] : List Int) rfl) <| seqN [(1, .d ((cLs (cXVariable cS cI) rfl).enc v1)), (3, .d ((cLs (cXRecord cI cI (cLs cI rfl)) rfl).enc v3)), (4, .box ((cXGeo (cLs cI rfl)).enc v0)), (6, .box ((cXTable cI (cLs cI rfl) (cLs cI rfl) cI).enc v2))] (by kernel_rfl) <|
    xn <| wpC_seq <| reg_s <| st rfl <| ldb rfl rfl rfl rfl <| st rfl <| mvd rfl rfl <| st rfl <| ldb rfl rfl rfl rfl <| bnd h fun x5 e6 h => st rfl <| o_call (a1 (c := (cXGeo (cLs cI rfl))) (tXGeo (tLs tK)) rfl (a1 (c := (cLs (cXVariable cS cI) rfl)) (tLs (tXVariable tS tK)) rfl (a1 (c := (cXTable cI (cLs cI rfl) (cLs cI rfl) cI)) (tXTable tK (tLs tK) (tLs tK) tK) rfl a0))) (con_impl_cellCount e6) (.inl (so1 sK so0)) <| mkO_k h fun i7 l8 h => st rfl <| o_mk (c := cI) (a0 := (0 : Int)) rfl (k := .i64) rfl i7 l8 <| x_asg (so rfl rfl) <| seqN [(1, .d ((cLs (cXVariable cS cI) rfl).enc v1)), (3, .d ((cLs (cXRecord cI cI (cLs cI rfl)) rfl).enc v3)), (4, .box ((cXGeo (cLs cI rfl)).enc v0)), (6, .box ((cXTable cI (cLs cI rfl) (cLs cI rfl) cI).enc v2)), (9, .d ((cLo cI).enc (List.replicate (x5).toNat (0 : Int))))] (by kernel_rfl) <|
    xn <| wpC_seq <| wpC_kp <| wpC_seq <| reg_s <| st rfl <| mvd rfl rfl <| stw rfl <| lens rfl fun l74 => st rfl <| mvc cI (0 : Int) rfl <| seqN [(1, .d ((cLs (cXVariable cS cI) rfl).enc v1)), (3, .d ((cLs (cXRecord cI cI (cLs cI rfl)) rfl).enc v3)), (4, .box ((cXGeo (cLs cI rfl)).enc v0)), (6, .box ((cXTable cI (cLs cI rfl) (cLs cI rfl) cI).enc v2)), (9, .d ((cLo cI).enc (List.replicate (x5).toNat (0 : Int)))), (19, .d ((cLs (cXRecord cI cI (cLs cI rfl)) rfl).enc v3)), (20, .d (cI.enc (v3.length : Int))), (21, .d (cI.enc (0 : Int)))] (by kernel_rfl) <|
    xn <| wpC_blk <| lpR (fun (k76 : Nat) (s75 : (List Int)) => [(1, .d ((cLs (cXVariable cS cI) rfl).enc v1)), (3, .d ((cLs (cXRecord cI cI (cLs cI rfl)) rfl).enc v3)), (4, .box ((cXGeo (cLs cI rfl)).enc v0)), (6, .box ((cXTable cI (cLs cI rfl) (cLs cI rfl) cI).enc v2)), (9, .d ((cLo cI).enc s75)), (19, .d ((cLs (cXRecord cI cI (cLs cI rfl)) rfl).enc v3)), (20, .d (cI.enc (v3.length : Int))), (21, .d (cI.enc (k76 : Int)))]) (List.replicate (x5).toNat (0 : Int)) rfl h
    (fun G118 s75 h => wpC_seq <| reg_s <| st rfl <| b_lss (k := .i64) rfl rfl <| seqN [(1, .d ((cLs (cXVariable cS cI) rfl).enc v1)), (3, .d ((cLs (cXRecord cI cI (cLs cI rfl)) rfl).enc v3)), (4, .box ((cXGeo (cLs cI rfl)).enc v0)), (6, .box ((cXTable cI (cLs cI rfl) (cLs cI rfl) cI).enc v2)), (9, .d ((cLo cI).enc s75)), (19, .d ((cLs (cXRecord cI cI (cLs cI rfl)) rfl).enc v3)), (20, .d (cI.enc (v3.length : Int))), (21, .d (cI.enc (v3.length : Int))), (22, .d (cB.enc (decide ((v3.length : Int) < (v3.length : Int)))))] (by kernel_rfl) <|
    xn <| wpC_seq <| wpC_kp <| cnd0 rfl (dlf _) <| wpC_exit <| xt <| xt <| xt <| xb <| kpN [(9, .d ((cLo cI).enc s75))] (by kernel_rfl) <| xn <| wpC_seq <| reg_s <| st rfl <| mvo rfl rfl <| x_asg (sr rfl rfl) <| seqN [(8, .d ((cLo cI).enc s75))] (by kernel_rfl) <|
    xn <| wpC_ret <| re <| fin h (r1 (so rfl rfl) <| r0) rfl)
    (fun G118 nx116 k76 s75 x77 hk78 hx79 hn117 h => wpC_seq <| reg_s <| st rfl <| b_lss (k := .i64) rfl rfl <| seqN [(1, .d ((cLs (cXVariable cS cI) rfl).enc v1)), (3, .d ((cLs (cXRecord cI cI (cLs cI rfl)) rfl).enc v3)), (4, .box ((cXGeo (cLs cI rfl)).enc v0)), (6, .box ((cXTable cI (cLs cI rfl) (cLs cI rfl) cI).enc v2)), (9, .d ((cLo cI).enc s75)), (19, .d ((cLs (cXRecord cI cI (cLs cI rfl)) rfl).enc v3)), (20, .d (cI.enc (v3.length : Int))), (21, .d (cI.enc (k76 : Int))), (22, .d (cB.enc (decide ((k76 : Int) < (v3.length : Int)))))] (by kernel_rfl) <|
    xn <| wpC_seq <| wpC_kp <| cnd1 rfl (dlt hk78) <| wpC_skip <| kpN [(1, .d ((cLs (cXVariable cS cI) rfl).enc v1)), (3, .d ((cLs (cXRecord cI cI (cLs cI rfl)) rfl).enc v3)), (4, .box ((cXGeo (cLs cI rfl)).enc v0)), (6, .box ((cXTable cI (cLs cI rfl) (cLs cI rfl) cI).enc v2)), (9, .d ((cLo cI).enc s75)), (19, .d ((cLs (cXRecord cI cI (cLs cI rfl)) rfl).enc v3)), (20, .d (cI.enc (v3.length : Int))), (21, .d (cI.enc (k76 : Int)))] (by kernel_rfl) <| xn <| wpC_seq <| wpC_kp <| wpC_blk <| wpC_seq <| reg_s <| st rfl <| ias rfl rfl (Int.natCast_nonneg _) hx79 rfl <| st rfl <| ldi rfl rfl rfl rfl <| x_all (cXRecord cI cI (cLo cI)) (⟨(0 : Int), (0 : Int), ([] : List Int)⟩ : XRecord) rfl <| x_stb (ss rfl rfl) rfl (Cd.h_sz _ _) rfl <| seqN [(1, .d ((cLs (cXVariable cS cI) rfl).enc v1)), (3, .d ((cLs (cXRecord cI cI (cLs cI rfl)) rfl).enc v3)), (4, .box ((cXGeo (cLs cI rfl)).enc v0)), (6, .box ((cXTable cI (cLs cI rfl) (cLs cI rfl) cI).enc v2)), (9, .d ((cLo cI).enc s75)), (11, .box ((cXRecord cI cI (cLs cI rfl)).enc x77)), (19, .d ((cLs (cXRecord cI cI (cLs cI rfl)) rfl).enc v3)), (20, .d (cI.enc (v3.length : Int))), (21, .d (cI.enc (k76 : Int)))] (by kernel_rfl) <|
    xn <| wpC_seq <| reg_s <| st rfl <| ldb rfl rfl rfl rfl <| st rfl <| mvd rfl rfl <| st rfl <| ldb rfl rfl rfl rfl <| st rfl <| ldb rfl rfl rfl rfl <| bnd h fun x130 e131 h => st rfl <| o_call (a1 (c := (cXGeo (cLs cI rfl))) (tXGeo (tLs tK)) rfl (a1 (c := (cLs (cXVariable cS cI) rfl)) (tLs (tXVariable tS tK)) rfl (a1 (c := (cXTable cI (cLs cI rfl) (cLs cI rfl) cI)) (tXTable tK (tLs tK) (tLs tK) tK) rfl (a1 (c := (cXRecord cI cI (cLs cI rfl))) (tXRecord tK tK (tLs tK)) rfl a0)))) (con_impl_contribution e131) (.inl (so1 sK (so1 sK so0))) <| x_mvt rfl <| x_ext rfl rfl <| x_ext rfl rfl <| x_asg (ss rfl rfl) <| x_asg (ss rfl rfl) <| seqN [(1, .d ((cLs (cXVariable cS cI) rfl).enc v1)), (3, .d ((cLs (cXRecord cI cI (cLs cI rfl)) rfl).enc v3)), (4, .box ((cXGeo (cLs cI rfl)).enc v0)), (6, .box ((cXTable cI (cLs cI rfl) (cLs cI rfl) cI).enc v2)), (9, .d ((cLo cI).enc s75)), (12, .d (cI.enc x130.1)), (13, .d (cI.enc x130.2)), (19, .d ((cLs (cXRecord cI cI (cLs cI rfl)) rfl).enc v3)), (20, .d (cI.enc (v3.length : Int))), (21, .d (cI.enc (k76 : Int)))] (by kernel_rfl) <|
    xn <| wpC_seq <| reg_s <| st rfl <| mvd rfl rfl <| st rfl <| b_geq (k := .i64) rfl rfl <| seqN [(1, .d ((cLs (cXVariable cS cI) rfl).enc v1)), (3, .d ((cLs (cXRecord cI cI (cLs cI rfl)) rfl).enc v3)), (4, .box ((cXGeo (cLs cI rfl)).enc v0)), (6, .box ((cXTable cI (cLs cI rfl) (cLs cI rfl) cI).enc v2)), (9, .d ((cLo cI).enc s75)), (12, .d (cI.enc x130.1)), (13, .d (cI.enc x130.2)), (19, .d ((cLs (cXRecord cI cI (cLs cI rfl)) rfl).enc v3)), (20, .d (cI.enc (v3.length : Int))), (21, .d (cI.enc (k76 : Int))), (34, .d (cB.enc (decide ((0 : Int) ≤ x130.1))))] (by kernel_rfl) <|
    xn <| cnd rfl h (fun b132 h => reg_s <| st rfl <| mvo rfl rfl <| st rfl <| mvd rfl rfl <| getO_k h fun x133 i134 g135 h => st rfl <| iar rfl rfl rfl rfl i134 g135 rfl <| st rfl <| lda rfl rfl (Gt.idx g135 Gt.nil) rfl rfl rfl <| st rfl <| mvd rfl rfl <| ckI_k h fun i136 h => st rfl <| b_add (k := .i64) rfl rfl i136 <| st rfl <| iar rfl rfl rfl rfl i134 g135 rfl <| x_sta ((cLo cI).enc (s75.set (x130.1).toNat (x133 + x130.2))) (ss rfl rfl) rfl rfl (Ln.idx g135 Ln.nil) (Cd.h_sz cI _) rfl <| seqN [(1, .d ((cLs (cXVariable cS cI) rfl).enc v1)), (3, .d ((cLs (cXRecord cI cI (cLs cI rfl)) rfl).enc v3)), (4, .box ((cXGeo (cLs cI rfl)).enc v0)), (6, .box ((cXTable cI (cLs cI rfl) (cLs cI rfl) cI).enc v2)), (9, .d ((cLo cI).enc (s75.set (x130.1).toNat (x133 + x130.2)))), (19, .d ((cLs (cXRecord cI cI (cLs cI rfl)) rfl).enc v3)), (20, .d (cI.enc (v3.length : Int))), (21, .d (cI.enc (k76 : Int)))] (by kernel_rfl) <|
    xbb <| kpN [(1, .d ((cLs (cXVariable cS cI) rfl).enc v1)), (3, .d ((cLs (cXRecord cI cI (cLs cI rfl)) rfl).enc v3)), (4, .box ((cXGeo (cLs cI rfl)).enc v0)), (6, .box ((cXTable cI (cLs cI rfl) (cLs cI rfl) cI).enc v2)), (9, .d ((cLo cI).enc (s75.set (x130.1).toNat (x133 + x130.2)))), (19, .d ((cLs (cXRecord cI cI (cLs cI rfl)) rfl).enc v3)), (20, .d (cI.enc (v3.length : Int))), (21, .d (cI.enc (k76 : Int)))] (by kernel_rfl) <| xn <| reg_s <| st rfl <| b_inc rfl rfl l74 hk78 <| st rfl <| mvd rfl rfl <| seqN [(1, .d ((cLs (cXVariable cS cI) rfl).enc v1)), (3, .d ((cLs (cXRecord cI cI (cLs cI rfl)) rfl).enc v3)), (4, .box ((cXGeo (cLs cI rfl)).enc v0)), (6, .box ((cXTable cI (cLs cI rfl) (cLs cI rfl) cI).enc v2)), (9, .d ((cLo cI).enc (s75.set (x130.1).toNat (x133 + x130.2)))), (19, .d ((cLs (cXRecord cI cI (cLs cI rfl)) rfl).enc v3)), (20, .d (cI.enc (v3.length : Int))), (21, .d (cI.enc ((k76 + 1 : Nat) : Int)))] (by kernel_rfl) <|
    xn <| hn117 (s75.set (x130.1).toNat (x133 + x130.2)) h)
    (fun b132 h => wpC_skip <| xbb <| kpN [(1, .d ((cLs (cXVariable cS cI) rfl).enc v1)), (3, .d ((cLs (cXRecord cI cI (cLs cI rfl)) rfl).enc v3)), (4, .box ((cXGeo (cLs cI rfl)).enc v0)), (6, .box ((cXTable cI (cLs cI rfl) (cLs cI rfl) cI).enc v2)), (9, .d ((cLo cI).enc s75)), (19, .d ((cLs (cXRecord cI cI (cLs cI rfl)) rfl).enc v3)), (20, .d (cI.enc (v3.length : Int))), (21, .d (cI.enc (k76 : Int)))] (by kernel_rfl) <| xn <| reg_s <| st rfl <| b_inc rfl rfl l74 hk78 <| st rfl <| mvd rfl rfl <| seqN [(1, .d ((cLs (cXVariable cS cI) rfl).enc v1)), (3, .d ((cLs (cXRecord cI cI (cLs cI rfl)) rfl).enc v3)), (4, .box ((cXGeo (cLs cI rfl)).enc v0)), (6, .box ((cXTable cI (cLs cI rfl) (cLs cI rfl) cI).enc v2)), (9, .d ((cLo cI).enc s75)), (19, .d ((cLs (cXRecord cI cI (cLs cI rfl)) rfl).enc v3)), (20, .d (cI.enc (v3.length : Int))), (21, .d (cI.enc ((k76 + 1 : Nat) : Int)))] (by kernel_rfl) <|
    xn <| hn117 s75 h))

def rs_impl_TableOf (r : ((List Int) × Bool)) : List D := [(cLo cI).enc r.1, cB.enc r.2]
def m51 : MC := .seq (.reg [⟨some 4, .box (.t 0), none⟩,
    ⟨some 6, .box (.t 2), none⟩,
    ⟨some 8, .asg (.c (.slice true [])), none⟩,
    ⟨some 9, .asg (.c (.bool false)), none⟩] [1, 3, 4, 6])
  (.seq (.kp [1, 3, 4, 6] (.seq (.reg [⟨some 10, .ld 4 1 true, none⟩,
    ⟨some 11, .mv (.t 1), none⟩,
    ⟨some 12, .ld 6 4 true, none⟩,
    ⟨some 13, .call 68 [(.t 10), (.t 11), (.t 12)], none⟩,
    ⟨some 14, .nt (.t 13), none⟩,
    ⟨some 15, .mv (.t 14), none⟩,
    ⟨some 16, .ld 4 1 true, some (15, false)⟩,
    ⟨some 17, .mv (.t 1), some (15, false)⟩,
    ⟨some 18, .mv (.t 3), some (15, false)⟩,
    ⟨some 19, .call 88 [(.t 16), (.t 17), (.t 18)], some (15, false)⟩,
    ⟨some 20, .nt (.t 19), some (15, false)⟩,
    ⟨some 21, .pick (.t 15) (.c (.bool true)) (.t 20), none⟩] [1, 3, 4, 6, 21])
  (.cond (.t 21) (.seq (.reg [⟨some 8, .asg (.c (.slice true [])), none⟩,
    ⟨some 9, .asg (.c (.bool false)), none⟩] [8, 9])
  (.ret)) (.skip))))
  (.seq (.reg [⟨some 22, .ld 4 1 true, none⟩,
    ⟨some 23, .mv (.t 1), none⟩,
    ⟨some 24, .ld 6 4 true, none⟩,
    ⟨some 25, .mv (.t 3), none⟩,
    ⟨some 26, .call 91 [(.t 22), (.t 23), (.t 24), (.t 25)], none⟩,
    ⟨some 8, .asg (.t 26), none⟩,
    ⟨some 9, .asg (.c (.bool true)), none⟩] [8, 9])
  (.ret)))
theorem con_impl_TableOf {v0 : XGeo} {v1 : (List XVariable)} {v2 : XTable} {v3 : (List XRecord)} {r : ((List Int) × Bool)} (h : sh_impl_TableOf v0 v1 v2 v3 = some r) : Con Try.prog 51 [(cXGeo (cLs cI rfl)).enc v0, (cLs (cXVariable cS cI) rfl).enc v1, (cXTable cI (cLs cI rfl) (cLs cI rfl) cI).enc v2, (cLs (cXRecord cI cI (cLs cI rfl)) rfl).enc v3] [] (rs_impl_TableOf r) := by
  delta sh_impl_TableOf at h
  refine top (out := none) (f := Try.f51) (m := m51) (rs := [.t 8, .t 9]) (by kernel_rfl) rfl (by kernel_rfl) (by kernel_rfl) (by kernel_rfl) (by kernel_rfl) (by kernel_rfl) ?_
  exact
   ini [(0, .d ((cXGeo (cLs cI rfl)).enc v0)), (1, .d ((cLs (cXVariable cS cI) rfl).enc v1)), (2, .d ((cXTable cI (cLs cI rfl) (cLs cI rfl) cI).enc v2)), (3, .d ((cLs (cXRecord cI cI (cLs cI rfl)) rfl).enc v3))] rfl <| wpC_seq <| reg_s <| x_box (ss rfl rfl) <| x_box (ss rfl rfl) <| x_asg (sc (cLo cI) ([] : List Int) rfl) <| x_asg (sc cB false rfl) <| seqN [(1, .d ((cLs (cXVariable cS cI) rfl).enc v1)), (3, .d ((cLs (cXRecord cI cI (cLs cI rfl)) rfl).enc v3)), (4, .box ((cXGeo (cLs cI rfl)).enc v0)), (6, .box ((cXTable cI (cLs cI rfl) (cLs cI rfl) cI).enc v2))] (by kernel_rfl) <|
    xn <| wpC_seq <| wpC_kp <| wpC_seq <| reg_s <| st rfl <| ldb rfl rfl rfl rfl <| st rfl <| mvd rfl rfl <| st rfl <| ldb rfl rfl rfl rfl <| bnd h fun x17 e18 h => st rfl <| o_call (a1 (c := (cXGeo (cLs cI rfl))) (tXGeo (tLs tK)) rfl (a1 (c := (cLs (cXVariable cS cI) rfl)) (tLs (tXVariable tS tK)) rfl (a1 (c := (cXTable cI (cLs cI rfl) (cLs cI rfl) cI)) (tXTable tK (tLs tK) (tLs tK) tK) rfl a0))) (con_impl_areTabled e18) (.inl (so1 sB so0)) <| st rfl <| o_nt rfl <| st rfl <| mvd rfl rfl <| ite_k h (fun b19 h => gf rfl b19 <| gf rfl b19 <| gf rfl b19 <| gf rfl b19 <| gf rfl b19 <| st rfl <| pick1 rfl b19 (cd := cB) (v := true) rfl rfl <| seqN [(1, .d ((cLs (cXVariable cS cI) rfl).enc v1)), (3, .d ((cLs (cXRecord cI cI (cLs cI rfl)) rfl).enc v3)), (4, .box ((cXGeo (cLs cI rfl)).enc v0)), (6, .box ((cXTable cI (cLs cI rfl) (cLs cI rfl) cI).enc v2)), (21, .d (cB.enc true))] (by kernel_rfl) <|
    xn <| cnd1 rfl rfl <| wpC_seq <| reg_s <| x_asg (sc (cLo cI) ([] : List Int) rfl) <| x_asg (sc cB false rfl) <| seqN [(8, .d ((cLo cI).enc ([] : List Int))), (9, .d (cB.enc false))] (by kernel_rfl) <|
    xn <| wpC_ret <| rt <| rt <| re <| fin h (r1 (so rfl rfl) <| r1 (ss rfl rfl) <| r0) rfl)
    (fun b19 h => gt' rfl b19 <| st rfl <| ldb rfl rfl rfl rfl <| gt' rfl b19 <| st rfl <| mvd rfl rfl <| gt' rfl b19 <| st rfl <| mvd rfl rfl <| gt' rfl b19 <| bnd h fun x20 e21 h => st rfl <| o_call (a1 (c := (cXGeo (cLs cI rfl))) (tXGeo (tLs tK)) rfl (a1 (c := (cLs (cXVariable cS cI) rfl)) (tLs (tXVariable tS tK)) rfl (a1 (c := (cLs (cXRecord cI cI (cLs cI rfl)) rfl)) (tLs (tXRecord tK tK (tLs tK))) rfl a0))) (con_impl_isSurvey e21) (.inl (so1 sB so0)) <| gt' rfl b19 <| st rfl <| o_nt rfl <| st rfl <| pick0 rfl b19 (cd := cB) (v := (!x20)) rfl rfl <| seqN [(1, .d ((cLs (cXVariable cS cI) rfl).enc v1)), (3, .d ((cLs (cXRecord cI cI (cLs cI rfl)) rfl).enc v3)), (4, .box ((cXGeo (cLs cI rfl)).enc v0)), (6, .box ((cXTable cI (cLs cI rfl) (cLs cI rfl) cI).enc v2)), (21, .d (cB.enc (!x20)))] (by kernel_rfl) <|
    xn <| cnd rfl h (fun b22 h => wpC_seq <| reg_s <| x_asg (sc (cLo cI) ([] : List Int) rfl) <| x_asg (sc cB false rfl) <| seqN [(8, .d ((cLo cI).enc ([] : List Int))), (9, .d (cB.enc false))] (by kernel_rfl) <|
    xn <| wpC_ret <| rt <| rt <| re <| fin h (r1 (so rfl rfl) <| r1 (ss rfl rfl) <| r0) rfl)
    (fun b22 h => wpC_skip <| kpN [(1, .d ((cLs (cXVariable cS cI) rfl).enc v1)), (3, .d ((cLs (cXRecord cI cI (cLs cI rfl)) rfl).enc v3)), (4, .box ((cXGeo (cLs cI rfl)).enc v0)), (6, .box ((cXTable cI (cLs cI rfl) (cLs cI rfl) cI).enc v2))] (by kernel_rfl) <| xn <| wpC_seq <| reg_s <| st rfl <| ldb rfl rfl rfl rfl <| st rfl <| mvd rfl rfl <| st rfl <| ldb rfl rfl rfl rfl <| st rfl <| mvd rfl rfl <| bnd h fun x25 e26 h => st rfl <| o_call (a1 (c := (cXGeo (cLs cI rfl))) (tXGeo (tLs tK)) rfl (a1 (c := (cLs (cXVariable cS cI) rfl)) (tLs (tXVariable tS tK)) rfl (a1 (c := (cXTable cI (cLs cI rfl) (cLs cI rfl) cI)) (tXTable tK (tLs tK) (tLs tK) tK) rfl (a1 (c := (cLs (cXRecord cI cI (cLs cI rfl)) rfl)) (tLs (tXRecord tK tK (tLs tK))) rfl a0)))) (con_impl_tableOf e26) (.inl (so1 (sLo sK) so0)) <| x_asg (so rfl rfl) <| x_asg (sc cB true rfl) <| seqN [(8, .d ((cLo cI).enc x25)), (9, .d (cB.enc true))] (by kernel_rfl) <|
    xn <| wpC_ret <| re <| fin h (r1 (so rfl rfl) <| r1 (ss rfl rfl) <| r0) rfl))

def rs_laws_FnExactTableOf (r : Bool) : List D := [cB.enc r]
def m9 : MC := .seq (.reg [⟨some 4, .box (.t 0), none⟩,
    ⟨some 6, .box (.t 2), none⟩,
    ⟨some 8, .asg (.c (.bool false)), none⟩] [1, 3, 4, 6])
  (.seq (.reg [⟨some 9, .asg (.c (.int .i64 1048576)), none⟩] [1, 3, 4, 6, 9])
  (.seq (.reg [⟨some 23, .ld 4 1 true, none⟩,
    ⟨some 24, .mv (.t 9), none⟩,
    ⟨some 25, .call 10 [(.t 23), (.t 24)], none⟩,
    ⟨some 9, .asg (.t 25), none⟩] [1, 3, 4, 6, 9])
  (.seq (.kp [1, 3, 4, 6, 9] (.seq (.reg [⟨some 26, .mv (.t 9), none⟩,
    ⟨some 27, .bin .lss (.t 26) (.c (.int .i64 0)), none⟩] [1, 3, 4, 6, 9, 27])
  (.cond (.t 27) (.seq (.reg [⟨some 8, .asg (.c (.bool true)), none⟩] [8])
  (.ret)) (.skip))))
  (.seq (.reg [⟨some 28, .mv (.t 1), none⟩,
    ⟨some 29, .mv (.t 9), none⟩,
    ⟨some 30, .call 11 [(.t 28), (.t 29)], none⟩,
    ⟨some 9, .asg (.t 30), none⟩] [1, 3, 4, 6, 9])
  (.seq (.kp [1, 3, 4, 6, 9] (.seq (.reg [⟨some 31, .mv (.t 9), none⟩,
    ⟨some 32, .bin .lss (.t 31) (.c (.int .i64 0)), none⟩] [1, 3, 4, 6, 9, 32])
  (.cond (.t 32) (.seq (.reg [⟨some 8, .asg (.c (.bool true)), none⟩] [8])
  (.ret)) (.skip))))
  (.seq (.reg [⟨some 33, .ld 6 4 true, none⟩,
    ⟨some 34, .mv (.t 9), none⟩,
    ⟨some 35, .call 21 [(.t 33), (.t 34)], none⟩,
    ⟨some 9, .asg (.t 35), none⟩] [1, 3, 4, 6, 9])
  (.seq (.kp [1, 3, 4, 6, 9] (.seq (.reg [⟨some 36, .mv (.t 9), none⟩,
    ⟨some 37, .bin .lss (.t 36) (.c (.int .i64 0)), none⟩] [1, 3, 4, 6, 9, 37])
  (.cond (.t 37) (.seq (.reg [⟨some 8, .asg (.c (.bool true)), none⟩] [8])
  (.ret)) (.skip))))
  (.seq (.reg [⟨some 38, .mv (.t 3), none⟩,
    ⟨some 39, .mv (.t 9), none⟩,
    ⟨some 40, .call 44 [(.t 38), (.t 39)], none⟩,
    ⟨some 9, .asg (.t 40), none⟩] [1, 3, 4, 6, 9])
  (.seq (.kp [1, 3, 4, 6] (.seq (.reg [⟨some 41, .mv (.t 9), none⟩,
    ⟨some 42, .bin .lss (.t 41) (.c (.int .i64 0)), none⟩] [1, 3, 4, 6, 42])
  (.cond (.t 42) (.seq (.reg [⟨some 8, .asg (.c (.bool true)), none⟩] [8])
  (.ret)) (.skip))))
  (.seq (.drg [⟨0, ⟨some 44, .ld 4 1 true, none⟩, [45, 46, 47, 48, 49, 50, 51, 52]⟩,
    ⟨1, ⟨some 45, .call 14 [(.t 44)], none⟩, [46, 47, 48, 49, 50, 51, 52]⟩,
    ⟨2, ⟨some 46, .mv (.t 1), none⟩, [44, 45, 47, 48, 49, 50, 51, 52]⟩,
    ⟨3, ⟨some 47, .call 15 [(.t 46)], none⟩, [48, 49, 50, 51, 52]⟩,
    ⟨4, ⟨some 48, .ld 6 4 true, none⟩, [44, 45, 46, 47, 49, 50, 51, 52]⟩,
    ⟨5, ⟨some 49, .call 24 [(.t 48)], none⟩, [50, 51, 52]⟩,
    ⟨6, ⟨some 50, .mv (.t 3), none⟩, [44, 45, 46, 47, 48, 49, 51, 52]⟩,
    ⟨7, ⟨some 51, .call 46 [(.t 50)], none⟩, [52]⟩,
    ⟨8, ⟨some 52, .call 50 [(.t 45), (.t 47), (.t 49), (.t 51)], none⟩, []⟩]
    [(9, ⟨some 43, .mvt 52, none⟩),
    (10, ⟨some 53, .ext 43 0, none⟩),
    (11, ⟨some 54, .ext 43 1, none⟩),
    (12, ⟨some 10, .asg (.t 53), none⟩),
    (13, ⟨some 11, .asg (.t 54), none⟩)] [1, 3, 4, 6, 10, 11] [10, 11, 43, 52, 53, 54, 1, 3, 4, 6] [([false, false, false, false, false], 0), ([true, false, false, false, false], 1), ([true, false, false, false, false], 2), ([true, true, false, false, false], 2), ([true, true, false, false, false], 3), ([true, false, true, false, false], 1), ([true, true, true, false, false], 3), ([true, true, false, true, false], 2), ([true, true, true, true, false], 4)])
  (.seq (.reg [⟨some 55, .ld 4 1 true, none⟩,
    ⟨some 56, .call 14 [(.t 55)], none⟩,
    ⟨some 12, .alloc (.agg [.slice true []]), none⟩,
    ⟨none, .st 12 (.t 56) 1, none⟩] [1, 3, 4, 6, 10, 11, 12])
  (.seq (.reg [⟨some 57, .mv (.t 1), none⟩,
    ⟨some 58, .call 15 [(.t 57)], none⟩,
    ⟨some 13, .asg (.t 58), none⟩] [1, 3, 4, 6, 10, 11, 12, 13])
  (.seq (.reg [⟨some 59, .ld 6 4 true, none⟩,
    ⟨some 60, .call 24 [(.t 59)], none⟩,
    ⟨some 14, .alloc (.agg [.int .i64 0, .slice true [], .slice true [], .int .i64 0]), none⟩,
    ⟨none, .st 14 (.t 60) 4, none⟩] [1, 3, 4, 6, 10, 11, 12, 13, 14])
  (.seq (.reg [⟨some 61, .mv (.t 3), none⟩,
    ⟨some 62, .call 46 [(.t 61)], none⟩,
    ⟨some 15, .asg (.t 62), none⟩] [1, 3, 4, 6, 10, 11, 12, 13, 14, 15])
  (.seq (.reg [⟨some 64, .ld 12 1 true, none⟩,
    ⟨some 65, .mv (.t 13), none⟩,
    ⟨some 66, .ld 14 4 true, none⟩,
    ⟨some 67, .mv (.t 15), none⟩,
    ⟨some 68, .call 51 [(.t 64), (.t 65), (.t 66), (.t 67)], none⟩,
    ⟨some 63, .mvt 68, none⟩,
    ⟨some 69, .ext 63 0, none⟩,
    ⟨some 70, .ext 63 1, none⟩,
    ⟨some 16, .asg (.t 69), none⟩,
    ⟨some 17, .asg (.t 70), none⟩] [1, 3, 4, 6, 10, 11, 12, 13, 14, 15, 16, 17])
  (.seq (.kp [1, 3, 4, 6, 10, 11, 12, 13, 14, 15, 16, 17] (.seq (.reg [⟨some 71, .mv (.t 16), none⟩,
    ⟨some 72, .mv (.t 10), none⟩,
    ⟨some 73, .call 37 [(.t 71), (.t 72)], none⟩,
    ⟨some 74, .nt (.t 73), none⟩,
    ⟨some 75, .mv (.t 74), none⟩,
    ⟨some 76, .mv (.t 17), some (75, false)⟩,
    ⟨some 77, .mv (.t 11), some (75, false)⟩,
    ⟨some 78, .eqb true (.t 76) (.t 77), some (75, false)⟩,
    ⟨some 79, .pick (.t 75) (.c (.bool true)) (.t 78), none⟩] [1, 3, 4, 6, 10, 11, 12, 13, 14, 15, 16, 17, 79])
  (.cond (.t 79) (.seq (.reg [⟨some 8, .asg (.c (.bool false)), none⟩] [8])
  (.ret)) (.skip))))
  (.seq (.kp [1, 3, 4, 6, 10, 11, 12, 13, 14, 15, 16, 17] (.seq (.drw [⟨0, ⟨some 80, .ld 12 1 true, none⟩, [81, 82, 83, 84]⟩,
    ⟨1, ⟨some 81, .ld 4 1 true, none⟩, [80, 82, 83, 84]⟩,
    ⟨2, ⟨some 82, .call 14 [(.t 81)], none⟩, [80, 83, 84]⟩,
    ⟨3, ⟨some 83, .call 18 [(.t 80), (.t 82)], none⟩, [84]⟩,
    ⟨4, ⟨some 84, .nt (.t 83), none⟩, []⟩]
    [] [1, 3, 4, 6, 10, 11, 12, 13, 14, 15, 16, 17, 84])
  (.cond (.t 84) (.seq (.reg [⟨some 8, .asg (.c (.bool false)), none⟩] [8])
  (.ret)) (.skip))))
  (.seq (.kp [1, 3, 4, 6, 10, 11, 12, 13, 14, 15, 16, 17] (.seq (.reg [⟨some 85, .mv (.t 13), none⟩,
    ⟨some 86, .mv (.t 1), none⟩,
    ⟨some 87, .call 15 [(.t 86)], none⟩,
    ⟨some 88, .call 19 [(.t 85), (.t 87)], none⟩,
    ⟨some 89, .nt (.t 88), none⟩] [1, 3, 4, 6, 10, 11, 12, 13, 14, 15, 16, 17, 89])
  (.cond (.t 89) (.seq (.reg [⟨some 8, .asg (.c (.bool false)), none⟩] [8])
  (.ret)) (.skip))))
  (.seq (.kp [1, 3, 4, 6, 10, 11, 12, 13, 14, 15, 16, 17] (.seq (.drw [⟨0, ⟨some 90, .ld 14 4 true, none⟩, [91, 92, 93, 94]⟩,
    ⟨1, ⟨some 91, .ld 6 4 true, none⟩, [90, 92, 93, 94]⟩,
    ⟨2, ⟨some 92, .call 24 [(.t 91)], none⟩, [90, 93, 94]⟩,
    ⟨3, ⟨some 93, .call 27 [(.t 90), (.t 92)], none⟩, [94]⟩,
    ⟨4, ⟨some 94, .nt (.t 93), none⟩, []⟩]
    [] [1, 3, 4, 6, 10, 11, 12, 13, 14, 15, 16, 17, 94])
  (.cond (.t 94) (.seq (.reg [⟨some 8, .asg (.c (.bool false)), none⟩] [8])
  (.ret)) (.skip))))
  (.seq (.kp [1, 3, 4, 6, 10, 11, 12, 13, 14, 15, 16, 17] (.seq (.reg [⟨some 95, .mv (.t 15), none⟩,
    ⟨some 96, .mv (.t 3), none⟩,
    ⟨some 97, .call 46 [(.t 96)], none⟩,
    ⟨some 98, .call 48 [(.t 95), (.t 97)], none⟩,
    ⟨some 99, .nt (.t 98), none⟩] [1, 3, 4, 6, 10, 11, 12, 13, 14, 15, 16, 17, 99])
  (.cond (.t 99) (.seq (.reg [⟨some 8, .asg (.c (.bool false)), none⟩] [8])
  (.ret)) (.skip))))
  (.seq (.reg [⟨some 18, .asg (.c (.int .i64 1)), none⟩] [1, 3, 4, 6, 10, 11, 12, 13, 14, 15, 16, 17, 18])
  (.seq (.reg [⟨some 100, .ld 12 1 true, none⟩,
    ⟨some 101, .mv (.t 18), none⟩,
    ⟨some 102, .callO 31 [(.t 100), (.t 101)], none⟩,
    ⟨some 18, .asg (.t 102), none⟩] [1, 3, 4, 6, 10, 11, 13, 14, 15, 16, 17, 18])
  (.seq (.reg [⟨some 103, .mv (.t 13), none⟩,
    ⟨some 104, .mv (.t 18), none⟩,
    ⟨some 105, .callO 32 [(.t 103), (.t 104)], none⟩,
    ⟨some 18, .asg (.t 105), none⟩] [1, 3, 4, 6, 10, 11, 14, 15, 16, 17, 18])
  (.seq (.reg [⟨some 106, .ld 14 4 true, none⟩,
    ⟨some 107, .mv (.t 18), none⟩,
    ⟨some 108, .callO 42 [(.t 106), (.t 107)], none⟩,
    ⟨some 18, .asg (.t 108), none⟩] [1, 3, 4, 6, 10, 11, 15, 16, 17, 18])
  (.seq (.reg [⟨some 109, .mv (.t 15), none⟩,
    ⟨some 110, .mv (.t 18), none⟩,
    ⟨some 111, .callO 49 [(.t 109), (.t 110)], none⟩,
    ⟨some 18, .asg (.t 111), none⟩] [1, 3, 4, 6, 10, 11, 16, 17, 18])
  (.seq (.kp [1, 3, 4, 6, 10, 11, 16] (.seq (.reg [⟨some 112, .mv (.t 18), none⟩,
    ⟨some 113, .bin .lss (.t 112) (.c (.int .i64 0)), none⟩,
    ⟨some 114, .mv (.t 113), none⟩,
    ⟨some 115, .mv (.t 16), some (114, false)⟩,
    ⟨some 116, .mv (.t 10), some (114, false)⟩,
    ⟨some 117, .call 37 [(.t 115), (.t 116)], some (114, false)⟩,
    ⟨some 118, .nt (.t 117), some (114, false)⟩,
    ⟨some 119, .pick (.t 114) (.c (.bool true)) (.t 118), none⟩,
    ⟨some 120, .mv (.t 119), none⟩,
    ⟨some 121, .mv (.t 17), some (120, false)⟩,
    ⟨some 122, .mv (.t 11), some (120, false)⟩,
    ⟨some 123, .eqb true (.t 121) (.t 122), some (120, false)⟩,
    ⟨some 124, .pick (.t 120) (.c (.bool true)) (.t 123), none⟩] [1, 3, 4, 6, 10, 11, 16, 124])
  (.cond (.t 124) (.seq (.reg [⟨some 8, .asg (.c (.bool false)), none⟩] [8])
  (.ret)) (.skip))))
  (.seq (.reg [⟨some 19, .asg (.c (.int .i64 1)), none⟩] [1, 3, 4, 6, 10, 11, 16, 19])
  (.seq (.reg [⟨some 125, .mv (.t 16), none⟩,
    ⟨some 126, .mv (.t 19), none⟩,
    ⟨some 127, .callO 38 [(.t 125), (.t 126)], none⟩,
    ⟨some 19, .asg (.t 127), none⟩] [1, 3, 4, 6, 10, 11, 16, 19])
  (.seq (.reg [⟨some 20, .asg (.c (.int .i64 1)), none⟩] [1, 3, 4, 6, 10, 11, 16, 19, 20])
  (.seq (.reg [⟨some 128, .mv (.t 16), none⟩,
    ⟨some 129, .mv (.t 20), none⟩,
    ⟨some 130, .call 39 [(.t 128), (.t 129)], none⟩,
    ⟨some 20, .asg (.t 130), none⟩] [1, 3, 4, 6, 10, 11, 16, 19, 20])
  (.seq (.kp [1, 3, 4, 6, 10, 11, 16, 19, 20] (.seq (.reg [⟨some 131, .mv (.t 20), none⟩,
    ⟨some 132, .bin .lss (.t 131) (.c (.int .i64 0)), none⟩] [1, 3, 4, 6, 10, 11, 16, 19, 20, 132])
  (.cond (.t 132) (.seq (.reg [⟨some 8, .asg (.c (.bool false)), none⟩] [8])
  (.ret)) (.skip))))
  (.seq (.kp [1, 3, 4, 6, 10, 11, 16, 19] (.seq (.reg [⟨some 133, .mv (.t 20), none⟩,
    ⟨some 134, .mv (.t 19), none⟩,
    ⟨some 135, .bin .neq (.t 133) (.t 134), none⟩] [1, 3, 4, 6, 10, 11, 16, 19, 135])
  (.cond (.t 135) (.seq (.reg [⟨some 8, .asg (.c (.bool false)), none⟩] [8])
  (.ret)) (.skip))))
  (.seq (.drg [⟨0, ⟨some 137, .ld 4 1 true, none⟩, [138, 139, 140, 141, 142, 143, 144, 145]⟩,
    ⟨1, ⟨some 138, .call 14 [(.t 137)], none⟩, [139, 140, 141, 142, 143, 144, 145]⟩,
    ⟨2, ⟨some 139, .mv (.t 1), none⟩, [137, 138, 140, 141, 142, 143, 144, 145]⟩,
    ⟨3, ⟨some 140, .call 15 [(.t 139)], none⟩, [141, 142, 143, 144, 145]⟩,
    ⟨4, ⟨some 141, .ld 6 4 true, none⟩, [137, 138, 139, 140, 142, 143, 144, 145]⟩,
    ⟨5, ⟨some 142, .call 24 [(.t 141)], none⟩, [143, 144, 145]⟩,
    ⟨6, ⟨some 143, .mv (.t 3), none⟩, [137, 138, 139, 140, 141, 142, 144, 145]⟩,
    ⟨7, ⟨some 144, .call 46 [(.t 143)], none⟩, [145]⟩,
    ⟨8, ⟨some 145, .call 51 [(.t 138), (.t 140), (.t 142), (.t 144)], none⟩, []⟩]
    [(9, ⟨some 136, .mvt 145, none⟩),
    (10, ⟨some 146, .ext 136 0, none⟩),
    (11, ⟨some 147, .ext 136 1, none⟩),
    (12, ⟨some 21, .asg (.t 146), none⟩),
    (13, ⟨some 22, .asg (.t 147), none⟩)] [10, 11, 16, 19, 21, 22] [21, 22, 136, 145, 146, 147, 10, 11, 16, 19] [([false, false, false, false, false], 0), ([true, false, false, false, false], 1), ([true, false, false, false, false], 2), ([true, true, false, false, false], 2), ([true, true, false, false, false], 3), ([true, false, true, false, false], 1), ([true, true, true, false, false], 3), ([true, true, false, true, false], 2), ([true, true, true, true, false], 4)])
  (.seq (.kp [16, 19] (.seq (.reg [⟨some 148, .mv (.t 21), none⟩,
    ⟨some 149, .mv (.t 10), none⟩,
    ⟨some 150, .call 37 [(.t 148), (.t 149)], none⟩,
    ⟨some 151, .nt (.t 150), none⟩,
    ⟨some 152, .mv (.t 151), none⟩,
    ⟨some 153, .mv (.t 22), some (152, false)⟩,
    ⟨some 154, .mv (.t 11), some (152, false)⟩,
    ⟨some 155, .eqb true (.t 153) (.t 154), some (152, false)⟩,
    ⟨some 156, .pick (.t 152) (.c (.bool true)) (.t 155), none⟩] [16, 19, 156])
  (.cond (.t 156) (.seq (.reg [⟨some 8, .asg (.c (.bool false)), none⟩] [8])
  (.ret)) (.skip))))
  (.seq (.reg [⟨some 20, .asg (.c (.int .i64 1)), none⟩] [16, 19, 20])
  (.seq (.reg [⟨some 157, .mv (.t 16), none⟩,
    ⟨some 158, .mv (.t 20), none⟩,
    ⟨some 159, .call 39 [(.t 157), (.t 158)], none⟩,
    ⟨some 20, .asg (.t 159), none⟩] [19, 20])
  (.seq (.kp [19, 20] (.seq (.reg [⟨some 160, .mv (.t 20), none⟩,
    ⟨some 161, .bin .lss (.t 160) (.c (.int .i64 0)), none⟩] [19, 20, 161])
  (.cond (.t 161) (.seq (.reg [⟨some 8, .asg (.c (.bool false)), none⟩] [8])
  (.ret)) (.skip))))
  (.seq (.kp [] (.seq (.reg [⟨some 162, .mv (.t 20), none⟩,
    ⟨some 163, .mv (.t 19), none⟩,
    ⟨some 164, .bin .neq (.t 162) (.t 163), none⟩] [164])
  (.cond (.t 164) (.seq (.reg [⟨some 8, .asg (.c (.bool false)), none⟩] [8])
  (.ret)) (.skip))))
  (.seq (.reg [⟨some 8, .asg (.c (.bool true)), none⟩] [8])
  (.ret))))))))))))))))))))))))))))))))))))))))
theorem con_laws_FnExactTableOf {v0 : XGeo} {v1 : (List XVariable)} {v2 : XTable} {v3 : (List XRecord)} {r : Bool} (h : sh_laws_FnExactTableOf v0 v1 v2 v3 = some r) : Con Try.prog 9 [(cXGeo (cLs cI rfl)).enc v0, (cLs (cXVariable cS cI) rfl).enc v1, (cXTable cI (cLs cI rfl) (cLs cI rfl) cI).enc v2, (cLs (cXRecord cI cI (cLs cI rfl)) rfl).enc v3] [] (rs_laws_FnExactTableOf r) := by
  delta sh_laws_FnExactTableOf at h
  refine top (out := none) (f := Try.f9) (m := m9) (rs := [.t 8]) (by kernel_rfl) rfl (by kernel_rfl) (by kernel_rfl) (by kernel_rfl) (by kernel_rfl) (by kernel_rfl) ?_
  exact
   ini [(0, .d ((cXGeo (cLs cI rfl)).enc v0)), (1, .d ((cLs (cXVariable cS cI) rfl).enc v1)), (2, .d ((cXTable cI (cLs cI rfl) (cLs cI rfl) cI).enc v2)), (3, .d ((cLs (cXRecord cI cI (cLs cI rfl)) rfl).enc v3))] rfl <| wpC_seq <| reg_s <| x_box (ss rfl rfl) <| x_box (ss rfl rfl) <| x_asg (sc cB false rfl) <| seqN [(1, .d ((cLs (cXVariable cS cI) rfl).enc v1)), (3, .d ((cLs (cXRecord cI cI (cLs cI rfl)) rfl).enc v3)), (4, .box ((cXGeo (cLs cI rfl)).enc v0)), (6, .box ((cXTable cI (cLs cI rfl) (cLs cI rfl) cI).enc v2))] (by kernel_rfl) <|
    xn <| wpC_seq <| reg_s <| x_asg (sc cI (1048576 : Int) rfl) <| seqN [(1, .d ((cLs (cXVariable cS cI) rfl).enc v1)), (3, .d ((cLs (cXRecord cI cI (cLs cI rfl)) rfl).enc v3)), (4, .box ((cXGeo (cLs cI rfl)).enc v0)), (6, .box ((cXTable cI (cLs cI rfl) (cLs cI rfl) cI).enc v2)), (9, .d (cI.enc (1048576 : Int)))] (by kernel_rfl) <|
    xn <| wpC_seq <| reg_s <| st rfl <| ldb rfl rfl rfl rfl <| st rfl <| mvd rfl rfl <| bnd h fun x3 e4 h => st rfl <| o_call (a1 (c := (cXGeo (cLs cI rfl))) (tXGeo (tLs tK)) rfl (a1 (c := cI) tK rfl a0)) (con_laws_szGeo e4) (.inl (so1 sK so0)) <| x_asg (ss rfl rfl) <| seqN [(1, .d ((cLs (cXVariable cS cI) rfl).enc v1)), (3, .d ((cLs (cXRecord cI cI (cLs cI rfl)) rfl).enc v3)), (4, .box ((cXGeo (cLs cI rfl)).enc v0)), (6, .box ((cXTable cI (cLs cI rfl) (cLs cI rfl) cI).enc v2)), (9, .d (cI.enc x3))] (by kernel_rfl) <|
    xn <| wpC_seq <| wpC_kp <| wpC_seq <| reg_s <| st rfl <| mvd rfl rfl <| st rfl <| b_lss (k := .i64) rfl rfl <| seqN [(1, .d ((cLs (cXVariable cS cI) rfl).enc v1)), (3, .d ((cLs (cXRecord cI cI (cLs cI rfl)) rfl).enc v3)), (4, .box ((cXGeo (cLs cI rfl)).enc v0)), (6, .box ((cXTable cI (cLs cI rfl) (cLs cI rfl) cI).enc v2)), (9, .d (cI.enc x3)), (27, .d (cB.enc (decide (x3 < (0 : Int)))))] (by kernel_rfl) <|
    xn <| cnd rfl h (fun b6 h => wpC_seq <| reg_s <| x_asg (sc cB true rfl) <| seqN [(8, .d (cB.enc true))] (by kernel_rfl) <|
    xn <| wpC_ret <| rt <| rt <| re <| fin h (r1 (ss rfl rfl) <| r0) rfl)
    (fun b6 h => wpC_skip <| kpN [(1, .d ((cLs (cXVariable cS cI) rfl).enc v1)), (3, .d ((cLs (cXRecord cI cI (cLs cI rfl)) rfl).enc v3)), (4, .box ((cXGeo (cLs cI rfl)).enc v0)), (6, .box ((cXTable cI (cLs cI rfl) (cLs cI rfl) cI).enc v2)), (9, .d (cI.enc x3))] (by kernel_rfl) <| xn <| wpC_seq <| reg_s <| st rfl <| mvd rfl rfl <| st rfl <| mvd rfl rfl <| bnd h fun x9 e10 h => st rfl <| o_call (a1 (c := (cLs (cXVariable cS cI) rfl)) (tLs (tXVariable tS tK)) rfl (a1 (c := cI) tK rfl a0)) (con_laws_szVariableS e10) (.inl (so1 sK so0)) <| x_asg (ss rfl rfl) <| seqN [(1, .d ((cLs (cXVariable cS cI) rfl).enc v1)), (3, .d ((cLs (cXRecord cI cI (cLs cI rfl)) rfl).enc v3)), (4, .box ((cXGeo (cLs cI rfl)).enc v0)), (6, .box ((cXTable cI (cLs cI rfl) (cLs cI rfl) cI).enc v2)), (9, .d (cI.enc x9))] (by kernel_rfl) <|
    xn <| wpC_seq <| wpC_kp <| wpC_seq <| reg_s <| st rfl <| mvd rfl rfl <| st rfl <| b_lss (k := .i64) rfl rfl <| seqN [(1, .d ((cLs (cXVariable cS cI) rfl).enc v1)), (3, .d ((cLs (cXRecord cI cI (cLs cI rfl)) rfl).enc v3)), (4, .box ((cXGeo (cLs cI rfl)).enc v0)), (6, .box ((cXTable cI (cLs cI rfl) (cLs cI rfl) cI).enc v2)), (9, .d (cI.enc x9)), (32, .d (cB.enc (decide (x9 < (0 : Int)))))] (by kernel_rfl) <|
    xn <| cnd rfl h (fun b12 h => wpC_seq <| reg_s <| x_asg (sc cB true rfl) <| seqN [(8, .d (cB.enc true))] (by kernel_rfl) <|
    xn <| wpC_ret <| rt <| rt <| re <| fin h (r1 (ss rfl rfl) <| r0) rfl)
    (fun b12 h => wpC_skip <| kpN [(1, .d ((cLs (cXVariable cS cI) rfl).enc v1)), (3, .d ((cLs (cXRecord cI cI (cLs cI rfl)) rfl).enc v3)), (4, .box ((cXGeo (cLs cI rfl)).enc v0)), (6, .box ((cXTable cI (cLs cI rfl) (cLs cI rfl) cI).enc v2)), (9, .d (cI.enc x9))] (by kernel_rfl) <| xn <| wpC_seq <| reg_s <| st rfl <| ldb rfl rfl rfl rfl <| st rfl <| mvd rfl rfl <| bnd h fun x15 e16 h => st rfl <| o_call (a1 (c := (cXTable cI (cLs cI rfl) (cLs cI rfl) cI)) (tXTable tK (tLs tK) (tLs tK) tK) rfl (a1 (c := cI) tK rfl a0)) (con_laws_szTable e16) (.inl (so1 sK so0)) <| x_asg (ss rfl rfl) <| seqN [(1, .d ((cLs (cXVariable cS cI) rfl).enc v1)), (3, .d ((cLs (cXRecord cI cI (cLs cI rfl)) rfl).enc v3)), (4, .box ((cXGeo (cLs cI rfl)).enc v0)), (6, .box ((cXTable cI (cLs cI rfl) (cLs cI rfl) cI).enc v2)), (9, .d (cI.enc x15))] (by kernel_rfl) <|
    xn <| wpC_seq <| wpC_kp <| wpC_seq <| reg_s <| st rfl <| mvd rfl rfl <| st rfl <| b_lss (k := .i64) rfl rfl <| seqN [(1, .d ((cLs (cXVariable cS cI) rfl).enc v1)), (3, .d ((cLs (cXRecord cI cI (cLs cI rfl)) rfl).enc v3)), (4, .box ((cXGeo (cLs cI rfl)).enc v0)), (6, .box ((cXTable cI (cLs cI rfl) (cLs cI rfl) cI).enc v2)), (9, .d (cI.enc x15)), (37, .d (cB.enc (decide (x15 < (0 : Int)))))] (by kernel_rfl) <|
    xn <| cnd rfl h (fun b18 h => wpC_seq <| reg_s <| x_asg (sc cB true rfl) <| seqN [(8, .d (cB.enc true))] (by kernel_rfl) <|
    xn <| wpC_ret <| rt <| rt <| re <| fin h (r1 (ss rfl rfl) <| r0) rfl)
    (fun b18 h => wpC_skip <| kpN [(1, .d ((cLs (cXVariable cS cI) rfl).enc v1)), (3, .d ((cLs (cXRecord cI cI (cLs cI rfl)) rfl).enc v3)), (4, .box ((cXGeo (cLs cI rfl)).enc v0)), (6, .box ((cXTable cI (cLs cI rfl) (cLs cI rfl) cI).enc v2)), (9, .d (cI.enc x15))] (by kernel_rfl) <| xn <| wpC_seq <| reg_s <| st rfl <| mvd rfl rfl <| st rfl <| mvd rfl rfl <| bnd h fun x21 e22 h => st rfl <| o_call (a1 (c := (cLs (cXRecord cI cI (cLs cI rfl)) rfl)) (tLs (tXRecord tK tK (tLs tK))) rfl (a1 (c := cI) tK rfl a0)) (con_laws_szRecordS e22) (.inl (so1 sK so0)) <| x_asg (ss rfl rfl) <| seqN [(1, .d ((cLs (cXVariable cS cI) rfl).enc v1)), (3, .d ((cLs (cXRecord cI cI (cLs cI rfl)) rfl).enc v3)), (4, .box ((cXGeo (cLs cI rfl)).enc v0)), (6, .box ((cXTable cI (cLs cI rfl) (cLs cI rfl) cI).enc v2)), (9, .d (cI.enc x21))] (by kernel_rfl) <|
    xn <| wpC_seq <| wpC_kp <| wpC_seq <| reg_s <| st rfl <| mvd rfl rfl <| st rfl <| b_lss (k := .i64) rfl rfl <| seqN [(1, .d ((cLs (cXVariable cS cI) rfl).enc v1)), (3, .d ((cLs (cXRecord cI cI (cLs cI rfl)) rfl).enc v3)), (4, .box ((cXGeo (cLs cI rfl)).enc v0)), (6, .box ((cXTable cI (cLs cI rfl) (cLs cI rfl) cI).enc v2)), (42, .d (cB.enc (decide (x21 < (0 : Int)))))] (by kernel_rfl) <|
    xn <| cnd rfl h (fun b24 h => wpC_seq <| reg_s <| x_asg (sc cB true rfl) <| seqN [(8, .d (cB.enc true))] (by kernel_rfl) <|
    xn <| wpC_ret <| rt <| rt <| re <| fin h (r1 (ss rfl rfl) <| r0) rfl)
    (fun b24 h => wpC_skip <| kpN [(1, .d ((cLs (cXVariable cS cI) rfl).enc v1)), (3, .d ((cLs (cXRecord cI cI (cLs cI rfl)) rfl).enc v3)), (4, .box ((cXGeo (cLs cI rfl)).enc v0)), (6, .box ((cXTable cI (cLs cI rfl) (cLs cI rfl) cI).enc v2))] (by kernel_rfl) <| xn <| wpC_seq <| drg_s <| pst rfl <| ldb rfl rfl rfl rfl ⟨rfl, bndp h fun x35 e36 h => pst rfl <| o_call (a1 (c := (cXGeo (cLs cI rfl))) (tXGeo (tLs tK)) rfl a0) (con_laws_toGeo e36) (.inl (so1 (sXGeo (sLo sK)) so0)) ⟨rfl, pst rfl <| mvd rfl rfl ⟨rfl, bndp h fun x37 e38 h => pst rfl <| o_call (a1 (c := (cLs (cXVariable cS cI) rfl)) (tLs (tXVariable tS tK)) rfl a0) (con_laws_toVariableS e38) (.inl (so1 (sLo (sXVariable sS sK)) so0)) ⟨rfl, pst rfl <| ldb rfl rfl rfl rfl ⟨rfl, bndp h fun x39 e40 h => pst rfl <| o_call (a1 (c := (cXTable cI (cLs cI rfl) (cLs cI rfl) cI)) (tXTable tK (tLs tK) (tLs tK) tK) rfl a0) (con_laws_toTable e40) (.inl (so1 (sXTable sK (sLo sK) (sLo sK) sK) so0)) ⟨rfl, pst rfl <| mvd rfl rfl ⟨rfl, bndp h fun x41 e42 h => pst rfl <| o_call (a1 (c := (cLs (cXRecord cI cI (cLs cI rfl)) rfl)) (tLs (tXRecord tK tK (tLs tK))) rfl a0) (con_laws_toRecordS e42) (.inl (so1 (sLo (sXRecord sK sK (sLo sK))) so0)) ⟨rfl, bndp h fun x43 e44 h => pst rfl <| o_call (a1 (c := (cXGeo (cLo cI))) (tXGeo (tLo tK)) rfl (a1 (c := (cLo (cXVariable cS cI))) (tLo (tXVariable tS tK)) rfl (a1 (c := (cXTable cI (cLo cI) (cLo cI) cI)) (tXTable tK (tLo tK) (tLo tK) tK) rfl (a1 (c := (cLo (cXRecord cI cI (cLo cI)))) (tLo (tXRecord tK tK (tLo tK))) rfl a0)))) (con_spec_TableOf e44) (.inl (so1 (sLo sK) (so1 sB so0))) ⟨rfl, preN <| gr_s [(1, .d ((cLs (cXVariable cS cI) rfl).enc v1)), (3, .d ((cLs (cXRecord cI cI (cLs cI rfl)) rfl).enc v3)), (4, .box ((cXGeo (cLs cI rfl)).enc v0)), (6, .box ((cXTable cI (cLs cI rfl) (cLs cI rfl) cI).enc v2))] [([false, false, false, false, false], [(10, .un), (11, .un), (43, .un), (52, .tup [some ((cLo cI).enc x43.1), some (cB.enc x43.2)]), (53, .un), (54, .un)]),
     ([true, false, false, false, false], [(10, .un), (11, .un), (43, .tup [some ((cLo cI).enc x43.1), some (cB.enc x43.2)]), (52, .un), (53, .un), (54, .un)]),
     ([true, true, false, false, false], [(10, .un), (11, .un), (43, .tup [none, some (cB.enc x43.2)]), (52, .un), (53, .d ((cLo cI).enc x43.1)), (54, .un)]),
     ([true, false, true, false, false], [(10, .un), (11, .un), (43, .tup [some ((cLo cI).enc x43.1), none]), (52, .un), (53, .un), (54, .d (cB.enc x43.2))]),
     ([true, true, true, false, false], [(10, .un), (11, .un), (43, .tup [none, none]), (52, .un), (53, .d ((cLo cI).enc x43.1)), (54, .d (cB.enc x43.2))]),
     ([true, true, false, true, false], [(10, .d ((cLo cI).enc x43.1)), (11, .un), (43, .tup [none, some (cB.enc x43.2)]), (52, .un), (53, .un), (54, .un)]),
     ([true, true, true, true, false], [(10, .d ((cLo cI).enc x43.1)), (11, .un), (43, .tup [none, none]), (52, .un), (53, .un), (54, .d (cB.enc x43.2))]),
     ([true, true, true, true, true], [(10, .d ((cLo cI).enc x43.1)), (11, .d (cB.enc x43.2)), (43, .tup [none, none]), (52, .un), (53, .un), (54, .d (cB.enc x43.2))])] [(1, .d ((cLs (cXVariable cS cI) rfl).enc v1)), (3, .d ((cLs (cXRecord cI cI (cLs cI rfl)) rfl).enc v3)), (4, .box ((cXGeo (cLs cI rfl)).enc v0)), (6, .box ((cXTable cI (cLs cI rfl) (cLs cI rfl) cI).enc v2)), (10, .d ((cLo cI).enc x43.1)), (11, .d (cB.enc x43.2))] [([false, false, false, false, false], [])] (by kernel_rfl) (sa1 rfl (by kernel_rfl) <| sa0) rfl
    (ob1 rfl rfl rfl (x_mvt rfl <| obN (by kernel_rfl)) <|
    ob1 rfl rfl rfl (x_ext rfl rfl <| obN (by kernel_rfl)) <|
    ob1 rfl rfl rfl (x_ext rfl rfl <| obN (by kernel_rfl)) <|
    ob1 rfl rfl rfl (x_ext rfl rfl <| obN (by kernel_rfl)) <|
    ob1 rfl rfl rfl (x_asg (so rfl rfl) <| obN (by kernel_rfl)) <|
    ob1 rfl rfl rfl (x_ext rfl rfl <| obN (by kernel_rfl)) <|
    ob1 rfl rfl rfl (x_asg (so rfl rfl) <| obN (by kernel_rfl)) <|
    ob1 rfl rfl rfl (x_ext rfl rfl <| obN (by kernel_rfl)) <|
    ob1 rfl rfl rfl (x_asg (ss rfl rfl) <| obN (by kernel_rfl)) <|
    ob0)
    (by kernel_rfl) <|
    xn <| wpC_seq <| reg_s <| st rfl <| ldb rfl rfl rfl rfl <| bnd h fun x47 e48 h => st rfl <| o_call (a1 (c := (cXGeo (cLs cI rfl))) (tXGeo (tLs tK)) rfl a0) (con_laws_toGeo e48) (.inl (so1 (sXGeo (sLo sK)) so0)) <| x_all (cXGeo (cLo cI)) (⟨([] : List Int)⟩ : XGeo) rfl <| x_stb (so rfl rfl) rfl (Cd.h_sz _ _) rfl <| seqN [(1, .d ((cLs (cXVariable cS cI) rfl).enc v1)), (3, .d ((cLs (cXRecord cI cI (cLs cI rfl)) rfl).enc v3)), (4, .box ((cXGeo (cLs cI rfl)).enc v0)), (6, .box ((cXTable cI (cLs cI rfl) (cLs cI rfl) cI).enc v2)), (10, .d ((cLo cI).enc x43.1)), (11, .d (cB.enc x43.2)), (12, .box ((cXGeo (cLo cI)).enc x47))] (by kernel_rfl) <|
    xn <| wpC_seq <| reg_s <| st rfl <| mvd rfl rfl <| bnd h fun x51 e52 h => st rfl <| o_call (a1 (c := (cLs (cXVariable cS cI) rfl)) (tLs (tXVariable tS tK)) rfl a0) (con_laws_toVariableS e52) (.inl (so1 (sLo (sXVariable sS sK)) so0)) <| x_asg (so rfl rfl) <| seqN [(1, .d ((cLs (cXVariable cS cI) rfl).enc v1)), (3, .d ((cLs (cXRecord cI cI (cLs cI rfl)) rfl).enc v3)), (4, .box ((cXGeo (cLs cI rfl)).enc v0)), (6, .box ((cXTable cI (cLs cI rfl) (cLs cI rfl) cI).enc v2)), (10, .d ((cLo cI).enc x43.1)), (11, .d (cB.enc x43.2)), (12, .box ((cXGeo (cLo cI)).enc x47)), (13, .d ((cLo (cXVariable cS cI)).enc x51))] (by kernel_rfl) <|
    xn <| wpC_seq <| reg_s <| st rfl <| ldb rfl rfl rfl rfl <| bnd h fun x55 e56 h => st rfl <| o_call (a1 (c := (cXTable cI (cLs cI rfl) (cLs cI rfl) cI)) (tXTable tK (tLs tK) (tLs tK) tK) rfl a0) (con_laws_toTable e56) (.inl (so1 (sXTable sK (sLo sK) (sLo sK) sK) so0)) <| x_all (cXTable cI (cLo cI) (cLo cI) cI) (⟨(0 : Int), ([] : List Int), ([] : List Int), (0 : Int)⟩ : XTable) rfl <| x_stb (so rfl rfl) rfl (Cd.h_sz _ _) rfl <| seqN [(1, .d ((cLs (cXVariable cS cI) rfl).enc v1)), (3, .d ((cLs (cXRecord cI cI (cLs cI rfl)) rfl).enc v3)), (4, .box ((cXGeo (cLs cI rfl)).enc v0)), (6, .box ((cXTable cI (cLs cI rfl) (cLs cI rfl) cI).enc v2)), (10, .d ((cLo cI).enc x43.1)), (11, .d (cB.enc x43.2)), (12, .box ((cXGeo (cLo cI)).enc x47)), (13, .d ((cLo (cXVariable cS cI)).enc x51)), (14, .box ((cXTable cI (cLo cI) (cLo cI) cI).enc x55))] (by kernel_rfl) <|
    xn <| wpC_seq <| reg_s <| st rfl <| mvd rfl rfl <| bnd h fun x59 e60 h => st rfl <| o_call (a1 (c := (cLs (cXRecord cI cI (cLs cI rfl)) rfl)) (tLs (tXRecord tK tK (tLs tK))) rfl a0) (con_laws_toRecordS e60) (.inl (so1 (sLo (sXRecord sK sK (sLo sK))) so0)) <| x_asg (so rfl rfl) <| seqN [(1, .d ((cLs (cXVariable cS cI) rfl).enc v1)), (3, .d ((cLs (cXRecord cI cI (cLs cI rfl)) rfl).enc v3)), (4, .box ((cXGeo (cLs cI rfl)).enc v0)), (6, .box ((cXTable cI (cLs cI rfl) (cLs cI rfl) cI).enc v2)), (10, .d ((cLo cI).enc x43.1)), (11, .d (cB.enc x43.2)), (12, .box ((cXGeo (cLo cI)).enc x47)), (13, .d ((cLo (cXVariable cS cI)).enc x51)), (14, .box ((cXTable cI (cLo cI) (cLo cI) cI).enc x55)), (15, .d ((cLo (cXRecord cI cI (cLo cI))).enc x59))] (by kernel_rfl) <|
    xn <| wpC_seq <| reg_s <| st rfl <| ldbo rfl rfl rfl rfl <| st rfl <| mvo rfl rfl <| st rfl <| ldbo rfl rfl rfl rfl <| st rfl <| mvo rfl rfl <| bnd h fun x63 e64 h => st rfl <| o_call (a1 (c := (cXGeo (cLo cI))) (tXGeo (tLo tK)) rfl (a1 (c := (cLo (cXVariable cS cI))) (tLo (tXVariable tS tK)) rfl (a1 (c := (cXTable cI (cLo cI) (cLo cI) cI)) (tXTable tK (tLo tK) (tLo tK) tK) rfl (a1 (c := (cLo (cXRecord cI cI (cLo cI)))) (tLo (tXRecord tK tK (tLo tK))) rfl a0)))) (con_impl_TableOf e64) (.inl (so1 (sLo sK) (so1 sB so0))) <| x_mvt rfl <| x_ext rfl rfl <| x_ext rfl rfl <| x_asg (so rfl rfl) <| x_asg (ss rfl rfl) <| seqN [(1, .d ((cLs (cXVariable cS cI) rfl).enc v1)), (3, .d ((cLs (cXRecord cI cI (cLs cI rfl)) rfl).enc v3)), (4, .box ((cXGeo (cLs cI rfl)).enc v0)), (6, .box ((cXTable cI (cLs cI rfl) (cLs cI rfl) cI).enc v2)), (10, .d ((cLo cI).enc x43.1)), (11, .d (cB.enc x43.2)), (12, .box ((cXGeo (cLo cI)).enc x47)), (13, .d ((cLo (cXVariable cS cI)).enc x51)), (14, .box ((cXTable cI (cLo cI) (cLo cI) cI).enc x55)), (15, .d ((cLo (cXRecord cI cI (cLo cI))).enc x59)), (16, .d ((cLo cI).enc x63.1)), (17, .d (cB.enc x63.2))] (by kernel_rfl) <|
    xn <| wpC_seq <| wpC_kp <| wpC_seq <| reg_s <| st rfl <| mvo rfl rfl <| st rfl <| mvo rfl rfl <| bnd h fun x75 e76 h => st rfl <| o_call (a1 (c := (cLo cI)) (tLo tK) rfl (a1 (c := (cLo cI)) (tLo tK) rfl a0)) (con_laws_eqIntS e76) (.inl (so1 sB so0)) <| st rfl <| o_nt rfl <| st rfl <| mvd rfl rfl <| ite_k h (fun b77 h => gf rfl b77 <| gf rfl b77 <| gf rfl b77 <| st rfl <| pick1 rfl b77 (cd := cB) (v := true) rfl rfl <| seqN [(1, .d ((cLs (cXVariable cS cI) rfl).enc v1)), (3, .d ((cLs (cXRecord cI cI (cLs cI rfl)) rfl).enc v3)), (4, .box ((cXGeo (cLs cI rfl)).enc v0)), (6, .box ((cXTable cI (cLs cI rfl) (cLs cI rfl) cI).enc v2)), (10, .d ((cLo cI).enc x43.1)), (11, .d (cB.enc x43.2)), (12, .box ((cXGeo (cLo cI)).enc x47)), (13, .d ((cLo (cXVariable cS cI)).enc x51)), (14, .box ((cXTable cI (cLo cI) (cLo cI) cI).enc x55)), (15, .d ((cLo (cXRecord cI cI (cLo cI))).enc x59)), (16, .d ((cLo cI).enc x63.1)), (17, .d (cB.enc x63.2)), (79, .d (cB.enc true))] (by kernel_rfl) <|
    xn <| cnd1 rfl rfl <| wpC_seq <| reg_s <| x_asg (sc cB false rfl) <| seqN [(8, .d (cB.enc false))] (by kernel_rfl) <|
    xn <| wpC_ret <| rt <| rt <| re <| fin h (r1 (ss rfl rfl) <| r0) rfl)
    (fun b77 h => gt' rfl b77 <| st rfl <| mvd rfl rfl <| gt' rfl b77 <| st rfl <| mvd rfl rfl <| gt' rfl b77 <| st rfl <| eqb1 rfl rfl <| st rfl <| pick0 rfl b77 (cd := cB) (v := (x63.2 != x43.2)) rfl rfl <| seqN [(1, .d ((cLs (cXVariable cS cI) rfl).enc v1)), (3, .d ((cLs (cXRecord cI cI (cLs cI rfl)) rfl).enc v3)), (4, .box ((cXGeo (cLs cI rfl)).enc v0)), (6, .box ((cXTable cI (cLs cI rfl) (cLs cI rfl) cI).enc v2)), (10, .d ((cLo cI).enc x43.1)), (11, .d (cB.enc x43.2)), (12, .box ((cXGeo (cLo cI)).enc x47)), (13, .d ((cLo (cXVariable cS cI)).enc x51)), (14, .box ((cXTable cI (cLo cI) (cLo cI) cI).enc x55)), (15, .d ((cLo (cXRecord cI cI (cLo cI))).enc x59)), (16, .d ((cLo cI).enc x63.1)), (17, .d (cB.enc x63.2)), (79, .d (cB.enc (x63.2 != x43.2)))] (by kernel_rfl) <|
    xn <| cnd rfl h (fun b78 h => wpC_seq <| reg_s <| x_asg (sc cB false rfl) <| seqN [(8, .d (cB.enc false))] (by kernel_rfl) <|
    xn <| wpC_ret <| rt <| rt <| re <| fin h (r1 (ss rfl rfl) <| r0) rfl)
    (fun b78 h => wpC_skip <| kpN [(1, .d ((cLs (cXVariable cS cI) rfl).enc v1)), (3, .d ((cLs (cXRecord cI cI (cLs cI rfl)) rfl).enc v3)), (4, .box ((cXGeo (cLs cI rfl)).enc v0)), (6, .box ((cXTable cI (cLs cI rfl) (cLs cI rfl) cI).enc v2)), (10, .d ((cLo cI).enc x43.1)), (11, .d (cB.enc x43.2)), (12, .box ((cXGeo (cLo cI)).enc x47)), (13, .d ((cLo (cXVariable cS cI)).enc x51)), (14, .box ((cXTable cI (cLo cI) (cLo cI) cI).enc x55)), (15, .d ((cLo (cXRecord cI cI (cLo cI))).enc x59)), (16, .d ((cLo cI).enc x63.1)), (17, .d (cB.enc x63.2))] (by kernel_rfl) <| xn <| wpC_seq <| wpC_kp <| wpC_seq <| drw_s <| pst rfl <| ldbo rfl rfl rfl rfl ⟨rfl, pst rfl <| ldb rfl rfl rfl rfl ⟨rfl, bndp h fun x92 e93 h => pst rfl <| o_call (a1 (c := (cXGeo (cLs cI rfl))) (tXGeo (tLs tK)) rfl a0) (con_laws_toGeo e93) (.inl (so1 (sXGeo (sLo sK)) so0)) ⟨rfl, bndp h fun x94 e95 h => pst rfl <| o_call (a1 (c := (cXGeo (cLo cI))) (tXGeo (tLo tK)) rfl (a1 (c := (cXGeo (cLo cI))) (tXGeo (tLo tK)) rfl a0)) (con_laws_eqGeo e95) (.inl (so1 sB so0)) ⟨rfl, pst rfl <| o_nt rfl ⟨rfl, preN <| seqN [(1, .d ((cLs (cXVariable cS cI) rfl).enc v1)), (3, .d ((cLs (cXRecord cI cI (cLs cI rfl)) rfl).enc v3)), (4, .box ((cXGeo (cLs cI rfl)).enc v0)), (6, .box ((cXTable cI (cLs cI rfl) (cLs cI rfl) cI).enc v2)), (10, .d ((cLo cI).enc x43.1)), (11, .d (cB.enc x43.2)), (12, .box ((cXGeo (cLo cI)).enc x47)), (13, .d ((cLo (cXVariable cS cI)).enc x51)), (14, .box ((cXTable cI (cLo cI) (cLo cI) cI).enc x55)), (15, .d ((cLo (cXRecord cI cI (cLo cI))).enc x59)), (16, .d ((cLo cI).enc x63.1)), (17, .d (cB.enc x63.2)), (84, .d (cB.enc (!x94)))] (by kernel_rfl) <|
    xn <| cnd rfl h (fun b96 h => wpC_seq <| reg_s <| x_asg (sc cB false rfl) <| seqN [(8, .d (cB.enc false))] (by kernel_rfl) <|
    xn <| wpC_ret <| rt <| rt <| re <| fin h (r1 (ss rfl rfl) <| r0) rfl)
    (fun b96 h => wpC_skip <| kpN [(1, .d ((cLs (cXVariable cS cI) rfl).enc v1)), (3, .d ((cLs (cXRecord cI cI (cLs cI rfl)) rfl).enc v3)), (4, .box ((cXGeo (cLs cI rfl)).enc v0)), (6, .box ((cXTable cI (cLs cI rfl) (cLs cI rfl) cI).enc v2)), (10, .d ((cLo cI).enc x43.1)), (11, .d (cB.enc x43.2)), (12, .box ((cXGeo (cLo cI)).enc x47)), (13, .d ((cLo (cXVariable cS cI)).enc x51)), (14, .box ((cXTable cI (cLo cI) (cLo cI) cI).enc x55)), (15, .d ((cLo (cXRecord cI cI (cLo cI))).enc x59)), (16, .d ((cLo cI).enc x63.1)), (17, .d (cB.enc x63.2))] (by kernel_rfl) <| xn <| wpC_seq <| wpC_kp <| wpC_seq <| reg_s <| st rfl <| mvo rfl rfl <| st rfl <| mvd rfl rfl <| bnd h fun x110 e111 h => st rfl <| o_call (a1 (c := (cLs (cXVariable cS cI) rfl)) (tLs (tXVariable tS tK)) rfl a0) (con_laws_toVariableS e111) (.inl (so1 (sLo (sXVariable sS sK)) so0)) <| bnd h fun x112 e113 h => st rfl <| o_call (a1 (c := (cLo (cXVariable cS cI))) (tLo (tXVariable tS tK)) rfl (a1 (c := (cLo (cXVariable cS cI))) (tLo (tXVariable tS tK)) rfl a0)) (con_laws_eqVariableS e113) (.inl (so1 sB so0)) <| st rfl <| o_nt rfl <| seqN [(1, .d ((cLs (cXVariable cS cI) rfl).enc v1)), (3, .d ((cLs (cXRecord cI cI (cLs cI rfl)) rfl).enc v3)), (4, .box ((cXGeo (cLs cI rfl)).enc v0)), (6, .box ((cXTable cI (cLs cI rfl) (cLs cI rfl) cI).enc v2)), (10, .d ((cLo cI).enc x43.1)), (11, .d (cB.enc x43.2)), (12, .box ((cXGeo (cLo cI)).enc x47)), (13, .d ((cLo (cXVariable cS cI)).enc x51)), (14, .box ((cXTable cI (cLo cI) (cLo cI) cI).enc x55)), (15, .d ((cLo (cXRecord cI cI (cLo cI))).enc x59)), (16, .d ((cLo cI).enc x63.1)), (17, .d (cB.enc x63.2)), (89, .d (cB.enc (!x112)))] (by kernel_rfl) <|
    xn <| cnd rfl h (fun b114 h => wpC_seq <| reg_s <| x_asg (sc cB false rfl) <| seqN [(8, .d (cB.enc false))] (by kernel_rfl) <|
    xn <| wpC_ret <| rt <| rt <| re <| fin h (r1 (ss rfl rfl) <| r0) rfl)
    (fun b114 h => wpC_skip <| kpN [(1, .d ((cLs (cXVariable cS cI) rfl).enc v1)), (3, .d ((cLs (cXRecord cI cI (cLs cI rfl)) rfl).enc v3)), (4, .box ((cXGeo (cLs cI rfl)).enc v0)), (6, .box ((cXTable cI (cLs cI rfl) (cLs cI rfl) cI).enc v2)), (10, .d ((cLo cI).enc x43.1)), (11, .d (cB.enc x43.2)), (12, .box ((cXGeo (cLo cI)).enc x47)), (13, .d ((cLo (cXVariable cS cI)).enc x51)), (14, .box ((cXTable cI (cLo cI) (cLo cI) cI).enc x55)), (15, .d ((cLo (cXRecord cI cI (cLo cI))).enc x59)), (16, .d ((cLo cI).enc x63.1)), (17, .d (cB.enc x63.2))] (by kernel_rfl) <| xn <| wpC_seq <| wpC_kp <| wpC_seq <| drw_s <| pst rfl <| ldbo rfl rfl rfl rfl ⟨rfl, pst rfl <| ldb rfl rfl rfl rfl ⟨rfl, bndp h fun x128 e129 h => pst rfl <| o_call (a1 (c := (cXTable cI (cLs cI rfl) (cLs cI rfl) cI)) (tXTable tK (tLs tK) (tLs tK) tK) rfl a0) (con_laws_toTable e129) (.inl (so1 (sXTable sK (sLo sK) (sLo sK) sK) so0)) ⟨rfl, bndp h fun x130 e131 h => pst rfl <| o_call (a1 (c := (cXTable cI (cLo cI) (cLo cI) cI)) (tXTable tK (tLo tK) (tLo tK) tK) rfl (a1 (c := (cXTable cI (cLo cI) (cLo cI) cI)) (tXTable tK (tLo tK) (tLo tK) tK) rfl a0)) (con_laws_eqTable e131) (.inl (so1 sB so0)) ⟨rfl, pst rfl <| o_nt rfl ⟨rfl, preN <| seqN [(1, .d ((cLs (cXVariable cS cI) rfl).enc v1)), (3, .d ((cLs (cXRecord cI cI (cLs cI rfl)) rfl).enc v3)), (4, .box ((cXGeo (cLs cI rfl)).enc v0)), (6, .box ((cXTable cI (cLs cI rfl) (cLs cI rfl) cI).enc v2)), (10, .d ((cLo cI).enc x43.1)), (11, .d (cB.enc x43.2)), (12, .box ((cXGeo (cLo cI)).enc x47)), (13, .d ((cLo (cXVariable cS cI)).enc x51)), (14, .box ((cXTable cI (cLo cI) (cLo cI) cI).enc x55)), (15, .d ((cLo (cXRecord cI cI (cLo cI))).enc x59)), (16, .d ((cLo cI).enc x63.1)), (17, .d (cB.enc x63.2)), (94, .d (cB.enc (!x130)))] (by kernel_rfl) <|
    xn <| cnd rfl h (fun b132 h => wpC_seq <| reg_s <| x_asg (sc cB false rfl) <| seqN [(8, .d (cB.enc false))] (by kernel_rfl) <|
    xn <| wpC_ret <| rt <| rt <| re <| fin h (r1 (ss rfl rfl) <| r0) rfl)
    (fun b132 h => wpC_skip <| kpN [(1, .d ((cLs (cXVariable cS cI) rfl).enc v1)), (3, .d ((cLs (cXRecord cI cI (cLs cI rfl)) rfl).enc v3)), (4, .box ((cXGeo (cLs cI rfl)).enc v0)), (6, .box ((cXTable cI (cLs cI rfl) (cLs cI rfl) cI).enc v2)), (10, .d ((cLo cI).enc x43.1)), (11, .d (cB.enc x43.2)), (12, .box ((cXGeo (cLo cI)).enc x47)), (13, .d ((cLo (cXVariable cS cI)).enc x51)), (14, .box ((cXTable cI (cLo cI) (cLo cI) cI).enc x55)), (15, .d ((cLo (cXRecord cI cI (cLo cI))).enc x59)), (16, .d ((cLo cI).enc x63.1)), (17, .d (cB.enc x63.2))] (by kernel_rfl) <| xn <| wpC_seq <| wpC_kp <| wpC_seq <| reg_s <| st rfl <| mvo rfl rfl <| st rfl <| mvd rfl rfl <| bnd h fun x146 e147 h => st rfl <| o_call (a1 (c := (cLs (cXRecord cI cI (cLs cI rfl)) rfl)) (tLs (tXRecord tK tK (tLs tK))) rfl a0) (con_laws_toRecordS e147) (.inl (so1 (sLo (sXRecord sK sK (sLo sK))) so0)) <| bnd h fun x148 e149 h => st rfl <| o_call (a1 (c := (cLo (cXRecord cI cI (cLo cI)))) (tLo (tXRecord tK tK (tLo tK))) rfl (a1 (c := (cLo (cXRecord cI cI (cLo cI)))) (tLo (tXRecord tK tK (tLo tK))) rfl a0)) (con_laws_eqRecordS e149) (.inl (so1 sB so0)) <| st rfl <| o_nt rfl <| seqN [(1, .d ((cLs (cXVariable cS cI) rfl).enc v1)), (3, .d ((cLs (cXRecord cI cI (cLs cI rfl)) rfl).enc v3)), (4, .box ((cXGeo (cLs cI rfl)).enc v0)), (6, .box ((cXTable cI (cLs cI rfl) (cLs cI rfl) cI).enc v2)), (10, .d ((cLo cI).enc x43.1)), (11, .d (cB.enc x43.2)), (12, .box ((cXGeo (cLo cI)).enc x47)), (13, .d ((cLo (cXVariable cS cI)).enc x51)), (14, .box ((cXTable cI (cLo cI) (cLo cI) cI).enc x55)), (15, .d ((cLo (cXRecord cI cI (cLo cI))).enc x59)), (16, .d ((cLo cI).enc x63.1)), (17, .d (cB.enc x63.2)), (99, .d (cB.enc (!x148)))] (by kernel_rfl) <|
    xn <| cnd rfl h (fun b150 h => wpC_seq <| reg_s <| x_asg (sc cB false rfl) <| seqN [(8, .d (cB.enc false))] (by kernel_rfl) <|
    xn <| wpC_ret <| rt <| rt <| re <| fin h (r1 (ss rfl rfl) <| r0) rfl)
    (fun b150 h => wpC_skip <| kpN [(1, .d ((cLs (cXVariable cS cI) rfl).enc v1)), (3, .d ((cLs (cXRecord cI cI (cLs cI rfl)) rfl).enc v3)), (4, .box ((cXGeo (cLs cI rfl)).enc v0)), (6, .box ((cXTable cI (cLs cI rfl) (cLs cI rfl) cI).enc v2)), (10, .d ((cLo cI).enc x43.1)), (11, .d (cB.enc x43.2)), (12, .box ((cXGeo (cLo cI)).enc x47)), (13, .d ((cLo (cXVariable cS cI)).enc x51)), (14, .box ((cXTable cI (cLo cI) (cLo cI) cI).enc x55)), (15, .d ((cLo (cXRecord cI cI (cLo cI))).enc x59)), (16, .d ((cLo cI).enc x63.1)), (17, .d (cB.enc x63.2))] (by kernel_rfl) <| xn <| wpC_seq <| reg_s <| x_asg (sc cI (1 : Int) rfl) <| seqN [(1, .d ((cLs (cXVariable cS cI) rfl).enc v1)), (3, .d ((cLs (cXRecord cI cI (cLs cI rfl)) rfl).enc v3)), (4, .box ((cXGeo (cLs cI rfl)).enc v0)), (6, .box ((cXTable cI (cLs cI rfl) (cLs cI rfl) cI).enc v2)), (10, .d ((cLo cI).enc x43.1)), (11, .d (cB.enc x43.2)), (12, .box ((cXGeo (cLo cI)).enc x47)), (13, .d ((cLo (cXVariable cS cI)).enc x51)), (14, .box ((cXTable cI (cLo cI) (cLo cI) cI).enc x55)), (15, .d ((cLo (cXRecord cI cI (cLo cI))).enc x59)), (16, .d ((cLo cI).enc x63.1)), (17, .d (cB.enc x63.2)), (18, .d (cI.enc (1 : Int)))] (by kernel_rfl) <|
    xn <| wpC_seq <| reg_s <| st rfl <| ldbo rfl rfl rfl rfl <| st rfl <| mvd rfl rfl <| bnd h fun x153 e154 h => x_clr (c := (cXGeo (cLo cI))) (c' := (cXGeo (cLo cI))) ((cXGeo (cLo cI)).enc x153.1) (sXGeo (sLo sK)) rfl (a1 (c := cI) tK rfl a0) rfl Ln.nil (con_laws_markGeo e154) rfl rfl (so1 sK so0) <| x_asg (ss rfl rfl) <| seqN [(1, .d ((cLs (cXVariable cS cI) rfl).enc v1)), (3, .d ((cLs (cXRecord cI cI (cLs cI rfl)) rfl).enc v3)), (4, .box ((cXGeo (cLs cI rfl)).enc v0)), (6, .box ((cXTable cI (cLs cI rfl) (cLs cI rfl) cI).enc v2)), (10, .d ((cLo cI).enc x43.1)), (11, .d (cB.enc x43.2)), (13, .d ((cLo (cXVariable cS cI)).enc x51)), (14, .box ((cXTable cI (cLo cI) (cLo cI) cI).enc x55)), (15, .d ((cLo (cXRecord cI cI (cLo cI))).enc x59)), (16, .d ((cLo cI).enc x63.1)), (17, .d (cB.enc x63.2)), (18, .d (cI.enc x153.2))] (by kernel_rfl) <|
    xn <| wpC_seq <| reg_s <| st rfl <| mvo rfl rfl <| st rfl <| mvd rfl rfl <| bnd h fun x157 e158 h => x_clr (c := (cLo (cXVariable cS cI))) (c' := (cLo (cXVariable cS cI))) ((cLo (cXVariable cS cI)).enc x157.1) (sLo (sXVariable sS sK)) rfl (a1 (c := cI) tK rfl a0) rfl Ln.nil (con_laws_markVariableS e158) rfl rfl (so1 sK so0) <| x_asg (ss rfl rfl) <| seqN [(1, .d ((cLs (cXVariable cS cI) rfl).enc v1)), (3, .d ((cLs (cXRecord cI cI (cLs cI rfl)) rfl).enc v3)), (4, .box ((cXGeo (cLs cI rfl)).enc v0)), (6, .box ((cXTable cI (cLs cI rfl) (cLs cI rfl) cI).enc v2)), (10, .d ((cLo cI).enc x43.1)), (11, .d (cB.enc x43.2)), (14, .box ((cXTable cI (cLo cI) (cLo cI) cI).enc x55)), (15, .d ((cLo (cXRecord cI cI (cLo cI))).enc x59)), (16, .d ((cLo cI).enc x63.1)), (17, .d (cB.enc x63.2)), (18, .d (cI.enc x157.2))] (by kernel_rfl) <|
    xn <| wpC_seq <| reg_s <| st rfl <| ldbo rfl rfl rfl rfl <| st rfl <| mvd rfl rfl <| bnd h fun x161 e162 h => x_clr (c := (cXTable cI (cLo cI) (cLo cI) cI)) (c' := (cXTable cI (cLo cI) (cLo cI) cI)) ((cXTable cI (cLo cI) (cLo cI) cI).enc x161.1) (sXTable sK (sLo sK) (sLo sK) sK) rfl (a1 (c := cI) tK rfl a0) rfl Ln.nil (con_laws_markTable e162) rfl rfl (so1 sK so0) <| x_asg (ss rfl rfl) <| seqN [(1, .d ((cLs (cXVariable cS cI) rfl).enc v1)), (3, .d ((cLs (cXRecord cI cI (cLs cI rfl)) rfl).enc v3)), (4, .box ((cXGeo (cLs cI rfl)).enc v0)), (6, .box ((cXTable cI (cLs cI rfl) (cLs cI rfl) cI).enc v2)), (10, .d ((cLo cI).enc x43.1)), (11, .d (cB.enc x43.2)), (15, .d ((cLo (cXRecord cI cI (cLo cI))).enc x59)), (16, .d ((cLo cI).enc x63.1)), (17, .d (cB.enc x63.2)), (18, .d (cI.enc x161.2))] (by kernel_rfl) <|
    xn <| wpC_seq <| reg_s <| st rfl <| mvo rfl rfl <| st rfl <| mvd rfl rfl <| bnd h fun x165 e166 h => x_clr (c := (cLo (cXRecord cI cI (cLo cI)))) (c' := (cLo (cXRecord cI cI (cLo cI)))) ((cLo (cXRecord cI cI (cLo cI))).enc x165.1) (sLo (sXRecord sK sK (sLo sK))) rfl (a1 (c := cI) tK rfl a0) rfl Ln.nil (con_laws_markRecordS e166) rfl rfl (so1 sK so0) <| x_asg (ss rfl rfl) <| seqN [(1, .d ((cLs (cXVariable cS cI) rfl).enc v1)), (3, .d ((cLs (cXRecord cI cI (cLs cI rfl)) rfl).enc v3)), (4, .box ((cXGeo (cLs cI rfl)).enc v0)), (6, .box ((cXTable cI (cLs cI rfl) (cLs cI rfl) cI).enc v2)), (10, .d ((cLo cI).enc x43.1)), (11, .d (cB.enc x43.2)), (16, .d ((cLo cI).enc x63.1)), (17, .d (cB.enc x63.2)), (18, .d (cI.enc x165.2))] (by kernel_rfl) <|
    xn <| wpC_seq <| wpC_kp <| wpC_seq <| reg_s <| st rfl <| mvd rfl rfl <| st rfl <| b_lss (k := .i64) rfl rfl <| st rfl <| mvd rfl rfl <| ite_k h (fun b179 h => gf rfl b179 <| gf rfl b179 <| gf rfl b179 <| gf rfl b179 <| st rfl <| pick1 rfl b179 (cd := cB) (v := true) rfl rfl <| st rfl <| mvd rfl rfl <| gf rfl rfl <| gf rfl rfl <| gf rfl rfl <| st rfl <| pick1 rfl rfl (cd := cB) (v := true) rfl rfl <| seqN [(1, .d ((cLs (cXVariable cS cI) rfl).enc v1)), (3, .d ((cLs (cXRecord cI cI (cLs cI rfl)) rfl).enc v3)), (4, .box ((cXGeo (cLs cI rfl)).enc v0)), (6, .box ((cXTable cI (cLs cI rfl) (cLs cI rfl) cI).enc v2)), (10, .d ((cLo cI).enc x43.1)), (11, .d (cB.enc x43.2)), (16, .d ((cLo cI).enc x63.1)), (124, .d (cB.enc true))] (by kernel_rfl) <|
    xn <| cnd1 rfl rfl <| wpC_seq <| reg_s <| x_asg (sc cB false rfl) <| seqN [(8, .d (cB.enc false))] (by kernel_rfl) <|
    xn <| wpC_ret <| rt <| rt <| re <| fin h (r1 (ss rfl rfl) <| r0) rfl)
    (fun b179 h => gt' rfl b179 <| st rfl <| mvo rfl rfl <| gt' rfl b179 <| st rfl <| mvo rfl rfl <| gt' rfl b179 <| bnd h fun x180 e181 h => st rfl <| o_call (a1 (c := (cLo cI)) (tLo tK) rfl (a1 (c := (cLo cI)) (tLo tK) rfl a0)) (con_laws_eqIntS e181) (.inl (so1 sB so0)) <| gt' rfl b179 <| st rfl <| o_nt rfl <| st rfl <| pick0 rfl b179 (cd := cB) (v := (!x180)) rfl rfl <| st rfl <| mvd rfl rfl <| ite_k h (fun b182 h => gf rfl b182 <| gf rfl b182 <| gf rfl b182 <| st rfl <| pick1 rfl b182 (cd := cB) (v := true) rfl rfl <| seqN [(1, .d ((cLs (cXVariable cS cI) rfl).enc v1)), (3, .d ((cLs (cXRecord cI cI (cLs cI rfl)) rfl).enc v3)), (4, .box ((cXGeo (cLs cI rfl)).enc v0)), (6, .box ((cXTable cI (cLs cI rfl) (cLs cI rfl) cI).enc v2)), (10, .d ((cLo cI).enc x43.1)), (11, .d (cB.enc x43.2)), (16, .d ((cLo cI).enc x63.1)), (124, .d (cB.enc true))] (by kernel_rfl) <|
    xn <| cnd1 rfl rfl <| wpC_seq <| reg_s <| x_asg (sc cB false rfl) <| seqN [(8, .d (cB.enc false))] (by kernel_rfl) <|
    xn <| wpC_ret <| rt <| rt <| re <| fin h (r1 (ss rfl rfl) <| r0) rfl)
    (fun b182 h => gt' rfl b182 <| st rfl <| mvd rfl rfl <| gt' rfl b182 <| st rfl <| mvd rfl rfl <| gt' rfl b182 <| st rfl <| eqb1 rfl rfl <| st rfl <| pick0 rfl b182 (cd := cB) (v := (x63.2 != x43.2)) rfl rfl <| seqN [(1, .d ((cLs (cXVariable cS cI) rfl).enc v1)), (3, .d ((cLs (cXRecord cI cI (cLs cI rfl)) rfl).enc v3)), (4, .box ((cXGeo (cLs cI rfl)).enc v0)), (6, .box ((cXTable cI (cLs cI rfl) (cLs cI rfl) cI).enc v2)), (10, .d ((cLo cI).enc x43.1)), (11, .d (cB.enc x43.2)), (16, .d ((cLo cI).enc x63.1)), (124, .d (cB.enc (x63.2 != x43.2)))] (by kernel_rfl) <|
    xn <| cnd0 rfl b78 <| wpC_skip <| kpN [(1, .d ((cLs (cXVariable cS cI) rfl).enc v1)), (3, .d ((cLs (cXRecord cI cI (cLs cI rfl)) rfl).enc v3)), (4, .box ((cXGeo (cLs cI rfl)).enc v0)), (6, .box ((cXTable cI (cLs cI rfl) (cLs cI rfl) cI).enc v2)), (10, .d ((cLo cI).enc x43.1)), (11, .d (cB.enc x43.2)), (16, .d ((cLo cI).enc x63.1))] (by kernel_rfl) <| xn <| wpC_seq <| reg_s <| x_asg (sc cI (1 : Int) rfl) <| seqN [(1, .d ((cLs (cXVariable cS cI) rfl).enc v1)), (3, .d ((cLs (cXRecord cI cI (cLs cI rfl)) rfl).enc v3)), (4, .box ((cXGeo (cLs cI rfl)).enc v0)), (6, .box ((cXTable cI (cLs cI rfl) (cLs cI rfl) cI).enc v2)), (10, .d ((cLo cI).enc x43.1)), (11, .d (cB.enc x43.2)), (16, .d ((cLo cI).enc x63.1)), (19, .d (cI.enc (1 : Int)))] (by kernel_rfl) <|
    xn <| wpC_seq <| reg_s <| st rfl <| mvo rfl rfl <| st rfl <| mvd rfl rfl <| bnd h fun x185 e186 h => x_clr (c := (cLo cI)) (c' := (cLo cI)) ((cLo cI).enc x185.1) (sLo sK) rfl (a1 (c := cI) tK rfl a0) rfl Ln.nil (con_laws_markIntS e186) rfl rfl (so1 sK so0) <| x_asg (ss rfl rfl) <| seqN [(1, .d ((cLs (cXVariable cS cI) rfl).enc v1)), (3, .d ((cLs (cXRecord cI cI (cLs cI rfl)) rfl).enc v3)), (4, .box ((cXGeo (cLs cI rfl)).enc v0)), (6, .box ((cXTable cI (cLs cI rfl) (cLs cI rfl) cI).enc v2)), (10, .d ((cLo cI).enc x43.1)), (11, .d (cB.enc x43.2)), (16, .d ((cLo cI).enc x185.1)), (19, .d (cI.enc x185.2))] (by kernel_rfl) <|
    xn <| wpC_seq <| reg_s <| x_asg (sc cI (1 : Int) rfl) <| seqN [(1, .d ((cLs (cXVariable cS cI) rfl).enc v1)), (3, .d ((cLs (cXRecord cI cI (cLs cI rfl)) rfl).enc v3)), (4, .box ((cXGeo (cLs cI rfl)).enc v0)), (6, .box ((cXTable cI (cLs cI rfl) (cLs cI rfl) cI).enc v2)), (10, .d ((cLo cI).enc x43.1)), (11, .d (cB.enc x43.2)), (16, .d ((cLo cI).enc x185.1)), (19, .d (cI.enc x185.2)), (20, .d (cI.enc (1 : Int)))] (by kernel_rfl) <|
    xn <| wpC_seq <| reg_s <| st rfl <| mvo rfl rfl <| st rfl <| mvd rfl rfl <| bnd h fun x189 e190 h => st rfl <| o_call (a1 (c := (cLo cI)) (tLo tK) rfl (a1 (c := cI) tK rfl a0)) (con_laws_heldIntS e190) (.inl (so1 sK so0)) <| x_asg (ss rfl rfl) <| seqN [(1, .d ((cLs (cXVariable cS cI) rfl).enc v1)), (3, .d ((cLs (cXRecord cI cI (cLs cI rfl)) rfl).enc v3)), (4, .box ((cXGeo (cLs cI rfl)).enc v0)), (6, .box ((cXTable cI (cLs cI rfl) (cLs cI rfl) cI).enc v2)), (10, .d ((cLo cI).enc x43.1)), (11, .d (cB.enc x43.2)), (16, .d ((cLo cI).enc x185.1)), (19, .d (cI.enc x185.2)), (20, .d (cI.enc x189))] (by kernel_rfl) <|
    xn <| wpC_seq <| wpC_kp <| wpC_seq <| reg_s <| st rfl <| mvd rfl rfl <| st rfl <| b_lss (k := .i64) rfl rfl <| seqN [(1, .d ((cLs (cXVariable cS cI) rfl).enc v1)), (3, .d ((cLs (cXRecord cI cI (cLs cI rfl)) rfl).enc v3)), (4, .box ((cXGeo (cLs cI rfl)).enc v0)), (6, .box ((cXTable cI (cLs cI rfl) (cLs cI rfl) cI).enc v2)), (10, .d ((cLo cI).enc x43.1)), (11, .d (cB.enc x43.2)), (16, .d ((cLo cI).enc x185.1)), (19, .d (cI.enc x185.2)), (20, .d (cI.enc x189)), (132, .d (cB.enc (decide (x189 < (0 : Int)))))] (by kernel_rfl) <|
    xn <| cnd rfl h (fun b192 h => wpC_seq <| reg_s <| x_asg (sc cB false rfl) <| seqN [(8, .d (cB.enc false))] (by kernel_rfl) <|
    xn <| wpC_ret <| rt <| rt <| re <| fin h (r1 (ss rfl rfl) <| r0) rfl)
    (fun b192 h => wpC_skip <| kpN [(1, .d ((cLs (cXVariable cS cI) rfl).enc v1)), (3, .d ((cLs (cXRecord cI cI (cLs cI rfl)) rfl).enc v3)), (4, .box ((cXGeo (cLs cI rfl)).enc v0)), (6, .box ((cXTable cI (cLs cI rfl) (cLs cI rfl) cI).enc v2)), (10, .d ((cLo cI).enc x43.1)), (11, .d (cB.enc x43.2)), (16, .d ((cLo cI).enc x185.1)), (19, .d (cI.enc x185.2)), (20, .d (cI.enc x189))] (by kernel_rfl) <| xn <| wpC_seq <| wpC_kp <| wpC_seq <| reg_s <| st rfl <| mvd rfl rfl <| st rfl <| mvd rfl rfl <| st rfl <| b_neq (k := .i64) rfl rfl <| seqN [(1, .d ((cLs (cXVariable cS cI) rfl).enc v1)), (3, .d ((cLs (cXRecord cI cI (cLs cI rfl)) rfl).enc v3)), (4, .box ((cXGeo (cLs cI rfl)).enc v0)), (6, .box ((cXTable cI (cLs cI rfl) (cLs cI rfl) cI).enc v2)), (10, .d ((cLo cI).enc x43.1)), (11, .d (cB.enc x43.2)), (16, .d ((cLo cI).enc x185.1)), (19, .d (cI.enc x185.2)), (135, .d (cB.enc (decide (x189 ≠ x185.2))))] (by kernel_rfl) <|
    xn <| cnd rfl h (fun b194 h => wpC_seq <| reg_s <| x_asg (sc cB false rfl) <| seqN [(8, .d (cB.enc false))] (by kernel_rfl) <|
    xn <| wpC_ret <| rt <| rt <| re <| fin h (r1 (ss rfl rfl) <| r0) rfl)
    (fun b194 h => wpC_skip <| kpN [(1, .d ((cLs (cXVariable cS cI) rfl).enc v1)), (3, .d ((cLs (cXRecord cI cI (cLs cI rfl)) rfl).enc v3)), (4, .box ((cXGeo (cLs cI rfl)).enc v0)), (6, .box ((cXTable cI (cLs cI rfl) (cLs cI rfl) cI).enc v2)), (10, .d ((cLo cI).enc x43.1)), (11, .d (cB.enc x43.2)), (16, .d ((cLo cI).enc x185.1)), (19, .d (cI.enc x185.2))] (by kernel_rfl) <| xn <| wpC_seq <| drg_s <| pst rfl <| ldb rfl rfl rfl rfl ⟨rfl, bndp h fun x205 e206 h => pst rfl <| o_call (a1 (c := (cXGeo (cLs cI rfl))) (tXGeo (tLs tK)) rfl a0) (con_laws_toGeo e206) (.inl (so1 (sXGeo (sLo sK)) so0)) ⟨rfl, pst rfl <| mvd rfl rfl ⟨rfl, bndp h fun x207 e208 h => pst rfl <| o_call (a1 (c := (cLs (cXVariable cS cI) rfl)) (tLs (tXVariable tS tK)) rfl a0) (con_laws_toVariableS e208) (.inl (so1 (sLo (sXVariable sS sK)) so0)) ⟨rfl, pst rfl <| ldb rfl rfl rfl rfl ⟨rfl, bndp h fun x209 e210 h => pst rfl <| o_call (a1 (c := (cXTable cI (cLs cI rfl) (cLs cI rfl) cI)) (tXTable tK (tLs tK) (tLs tK) tK) rfl a0) (con_laws_toTable e210) (.inl (so1 (sXTable sK (sLo sK) (sLo sK) sK) so0)) ⟨rfl, pst rfl <| mvd rfl rfl ⟨rfl, bndp h fun x211 e212 h => pst rfl <| o_call (a1 (c := (cLs (cXRecord cI cI (cLs cI rfl)) rfl)) (tLs (tXRecord tK tK (tLs tK))) rfl a0) (con_laws_toRecordS e212) (.inl (so1 (sLo (sXRecord sK sK (sLo sK))) so0)) ⟨rfl, bndp h fun x213 e214 h => pst rfl <| o_call (a1 (c := (cXGeo (cLo cI))) (tXGeo (tLo tK)) rfl (a1 (c := (cLo (cXVariable cS cI))) (tLo (tXVariable tS tK)) rfl (a1 (c := (cXTable cI (cLo cI) (cLo cI) cI)) (tXTable tK (tLo tK) (tLo tK) tK) rfl (a1 (c := (cLo (cXRecord cI cI (cLo cI)))) (tLo (tXRecord tK tK (tLo tK))) rfl a0)))) (con_impl_TableOf e214) (.inl (so1 (sLo sK) (so1 sB so0))) ⟨rfl, preN <| gr_s [(10, .d ((cLo cI).enc x43.1)), (11, .d (cB.enc x43.2)), (16, .d ((cLo cI).enc x185.1)), (19, .d (cI.enc x185.2))] [([false, false, false, false, false], [(21, .un), (22, .un), (136, .un), (145, .tup [some ((cLo cI).enc x213.1), some (cB.enc x213.2)]), (146, .un), (147, .un)]),
     ([true, false, false, false, false], [(21, .un), (22, .un), (136, .tup [some ((cLo cI).enc x213.1), some (cB.enc x213.2)]), (145, .un), (146, .un), (147, .un)]),
     ([true, true, false, false, false], [(21, .un), (22, .un), (136, .tup [none, some (cB.enc x213.2)]), (145, .un), (146, .d ((cLo cI).enc x213.1)), (147, .un)]),
     ([true, false, true, false, false], [(21, .un), (22, .un), (136, .tup [some ((cLo cI).enc x213.1), none]), (145, .un), (146, .un), (147, .d (cB.enc x213.2))]),
     ([true, true, true, false, false], [(21, .un), (22, .un), (136, .tup [none, none]), (145, .un), (146, .d ((cLo cI).enc x213.1)), (147, .d (cB.enc x213.2))]),
     ([true, true, false, true, false], [(21, .d ((cLo cI).enc x213.1)), (22, .un), (136, .tup [none, some (cB.enc x213.2)]), (145, .un), (146, .un), (147, .un)]),
     ([true, true, true, true, false], [(21, .d ((cLo cI).enc x213.1)), (22, .un), (136, .tup [none, none]), (145, .un), (146, .un), (147, .d (cB.enc x213.2))]),
     ([true, true, true, true, true], [(21, .d ((cLo cI).enc x213.1)), (22, .d (cB.enc x213.2)), (136, .tup [none, none]), (145, .un), (146, .un), (147, .d (cB.enc x213.2))])] [(10, .d ((cLo cI).enc x43.1)), (11, .d (cB.enc x43.2)), (16, .d ((cLo cI).enc x185.1)), (19, .d (cI.enc x185.2)), (21, .d ((cLo cI).enc x213.1)), (22, .d (cB.enc x213.2))] [([false, false, false, false, false], [])] (by kernel_rfl) (sa1 rfl (by kernel_rfl) <| sa0) rfl
    (ob1 rfl rfl rfl (x_mvt rfl <| obN (by kernel_rfl)) <|
    ob1 rfl rfl rfl (x_ext rfl rfl <| obN (by kernel_rfl)) <|
    ob1 rfl rfl rfl (x_ext rfl rfl <| obN (by kernel_rfl)) <|
    ob1 rfl rfl rfl (x_ext rfl rfl <| obN (by kernel_rfl)) <|
    ob1 rfl rfl rfl (x_asg (so rfl rfl) <| obN (by kernel_rfl)) <|
    ob1 rfl rfl rfl (x_ext rfl rfl <| obN (by kernel_rfl)) <|
    ob1 rfl rfl rfl (x_asg (so rfl rfl) <| obN (by kernel_rfl)) <|
    ob1 rfl rfl rfl (x_ext rfl rfl <| obN (by kernel_rfl)) <|
    ob1 rfl rfl rfl (x_asg (ss rfl rfl) <| obN (by kernel_rfl)) <|
    ob0)
    (by kernel_rfl) <|
    xn <| wpC_seq <| wpC_kp <| wpC_seq <| reg_s <| st rfl <| mvo rfl rfl <| st rfl <| mvo rfl rfl <| bnd h fun x225 e226 h => st rfl <| o_call (a1 (c := (cLo cI)) (tLo tK) rfl (a1 (c := (cLo cI)) (tLo tK) rfl a0)) (con_laws_eqIntS e226) (.inl (so1 sB so0)) <| st rfl <| o_nt rfl <| st rfl <| mvd rfl rfl <| ite_k h (fun b227 h => gf rfl b227 <| gf rfl b227 <| gf rfl b227 <| st rfl <| pick1 rfl b227 (cd := cB) (v := true) rfl rfl <| seqN [(16, .d ((cLo cI).enc x185.1)), (19, .d (cI.enc x185.2)), (156, .d (cB.enc true))] (by kernel_rfl) <|
    xn <| cnd1 rfl rfl <| wpC_seq <| reg_s <| x_asg (sc cB false rfl) <| seqN [(8, .d (cB.enc false))] (by kernel_rfl) <|
    xn <| wpC_ret <| rt <| rt <| re <| fin h (r1 (ss rfl rfl) <| r0) rfl)
    (fun b227 h => gt' rfl b227 <| st rfl <| mvd rfl rfl <| gt' rfl b227 <| st rfl <| mvd rfl rfl <| gt' rfl b227 <| st rfl <| eqb1 rfl rfl <| st rfl <| pick0 rfl b227 (cd := cB) (v := (x213.2 != x43.2)) rfl rfl <| seqN [(16, .d ((cLo cI).enc x185.1)), (19, .d (cI.enc x185.2)), (156, .d (cB.enc (x213.2 != x43.2)))] (by kernel_rfl) <|
    xn <| cnd rfl h (fun b228 h => wpC_seq <| reg_s <| x_asg (sc cB false rfl) <| seqN [(8, .d (cB.enc false))] (by kernel_rfl) <|
    xn <| wpC_ret <| rt <| rt <| re <| fin h (r1 (ss rfl rfl) <| r0) rfl)
    (fun b228 h => wpC_skip <| kpN [(16, .d ((cLo cI).enc x185.1)), (19, .d (cI.enc x185.2))] (by kernel_rfl) <| xn <| wpC_seq <| reg_s <| x_asg (sc cI (1 : Int) rfl) <| seqN [(16, .d ((cLo cI).enc x185.1)), (19, .d (cI.enc x185.2)), (20, .d (cI.enc (1 : Int)))] (by kernel_rfl) <|
    xn <| wpC_seq <| reg_s <| st rfl <| mvo rfl rfl <| st rfl <| mvd rfl rfl <| bnd h fun x231 e232 h => st rfl <| o_call (a1 (c := (cLo cI)) (tLo tK) rfl (a1 (c := cI) tK rfl a0)) (con_laws_heldIntS e232) (.inl (so1 sK so0)) <| x_asg (ss rfl rfl) <| seqN [(19, .d (cI.enc x185.2)), (20, .d (cI.enc x231))] (by kernel_rfl) <|
    xn <| wpC_seq <| wpC_kp <| wpC_seq <| reg_s <| st rfl <| mvd rfl rfl <| st rfl <| b_lss (k := .i64) rfl rfl <| seqN [(19, .d (cI.enc x185.2)), (20, .d (cI.enc x231)), (161, .d (cB.enc (decide (x231 < (0 : Int)))))] (by kernel_rfl) <|
    xn <| cnd rfl h (fun b234 h => wpC_seq <| reg_s <| x_asg (sc cB false rfl) <| seqN [(8, .d (cB.enc false))] (by kernel_rfl) <|
    xn <| wpC_ret <| rt <| rt <| re <| fin h (r1 (ss rfl rfl) <| r0) rfl)
    (fun b234 h => wpC_skip <| kpN [(19, .d (cI.enc x185.2)), (20, .d (cI.enc x231))] (by kernel_rfl) <| xn <| wpC_seq <| wpC_kp <| wpC_seq <| reg_s <| st rfl <| mvd rfl rfl <| st rfl <| mvd rfl rfl <| st rfl <| b_neq (k := .i64) rfl rfl <| seqN [(164, .d (cB.enc (decide (x231 ≠ x185.2))))] (by kernel_rfl) <|
    xn <| cnd rfl h (fun b236 h => wpC_seq <| reg_s <| x_asg (sc cB false rfl) <| seqN [(8, .d (cB.enc false))] (by kernel_rfl) <|
    xn <| wpC_ret <| rt <| rt <| re <| fin h (r1 (ss rfl rfl) <| r0) rfl)
    (fun b236 h => wpC_skip <| kpN [] (by kernel_rfl) <| xn <| wpC_seq <| reg_s <| x_asg (sc cB true rfl) <| seqN [(8, .d (cB.enc true))] (by kernel_rfl) <|
    xn <| wpC_ret <| re <| fin h (r1 (ss rfl rfl) <| r0) rfl))))⟩⟩⟩⟩⟩⟩⟩⟩⟩))))))⟩⟩⟩⟩⟩))⟩⟩⟩⟩⟩))⟩⟩⟩⟩⟩⟩⟩⟩⟩))))
end AS.W
