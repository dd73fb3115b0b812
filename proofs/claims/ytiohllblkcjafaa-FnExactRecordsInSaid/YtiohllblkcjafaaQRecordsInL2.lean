/- The program computes the plain functions. No condition. -/
import Derived.Test.YtiohllblkcjafaaQRecordsInS
import Derived.Test.YtiohllblkcjafaaProg
import Derived.Test.YtiohllblkcjafaaQRecordsInL1
set_option maxRecDepth 100000
set_option linter.unusedVariables false
set_option linter.unusedSimpArgs false
namespace AS.W
open Go Go.Proofs
def rs_impl_areValues (r : Bool) : List D := [cB.enc r]
def m114 : MC := .seq (.reg [⟨some 4, .asg (.c (.bool false)), none⟩] [0, 1])
  (.seq (.kp [0, 1] (.seq (.reg [⟨some 7, .mv (.t 1), none⟩,
    ⟨some 8, .len false (.t 7), none⟩,
    ⟨some 9, .mv (.t 0), none⟩,
    ⟨some 10, .len false (.t 9), none⟩,
    ⟨some 11, .bin .neq (.t 8) (.t 10), none⟩] [0, 1, 11])
  (.cond (.t 11) (.seq (.reg [⟨some 4, .asg (.c (.bool false)), none⟩] [4])
  (.ret)) (.skip))))
  (.seq (.kp [] (.seq (.reg [⟨some 12, .mv (.t 1), none⟩,
    ⟨some 13, .len false (.t 12), none⟩,
    ⟨some 14, .mv (.c (.int .i64 0)), none⟩] [0, 1, 12, 13, 14])
  (.blk 0 (.loop (.seq (.reg [⟨some 15, .bin .lss (.t 14) (.t 13), none⟩] [0, 1, 12, 13, 14, 15])
  (.seq (.kp [0, 1, 12, 13, 14] (.cond (.t 15) (.skip) (.exit 0)))
  (.seq (.kp [0, 1, 12, 13, 14] (.blk 1 (.seq (.reg [⟨some 16, .mv (.t 14), none⟩,
    ⟨some 17, .ia 12 (.t 14) 1, none⟩,
    ⟨some 18, .ld 17 1 false, none⟩,
    ⟨some 5, .asg (.t 16), none⟩,
    ⟨some 6, .asg (.t 18), none⟩] [0, 1, 5, 6, 12, 13, 14])
  (.seq (.reg [⟨some 19, .mv (.t 6), none⟩,
    ⟨some 20, .bin .lss (.t 19) (.c (.int .i64 0)), none⟩,
    ⟨some 21, .mv (.t 20), none⟩,
    ⟨some 22, .mv (.t 6), some (21, false)⟩,
    ⟨some 23, .mv (.t 0), some (21, false)⟩,
    ⟨some 24, .mv (.t 5), some (21, false)⟩,
    ⟨some 25, .ia 23 (.t 24) 2, some (21, false)⟩,
    ⟨some 26, .fa 25 1 1, some (21, false)⟩,
    ⟨some 27, .ld 26 1 false, some (21, false)⟩,
    ⟨some 28, .bin .geq (.t 22) (.t 27), some (21, false)⟩,
    ⟨some 29, .pick (.t 21) (.c (.bool true)) (.t 28), none⟩] [0, 1, 12, 13, 14, 29])
  (.cond (.t 29) (.seq (.reg [⟨some 4, .asg (.c (.bool false)), none⟩] [4])
  (.ret)) (.skip))))))
  (.reg [⟨some 30, .bin .add (.t 14) (.c (.int .i64 1)), none⟩,
    ⟨some 14, .mv (.t 30), none⟩] [0, 1, 12, 13, 14]))))))))
  (.seq (.reg [⟨some 4, .asg (.c (.bool true)), none⟩] [4])
  (.ret))))
theorem con_impl_areValues {v0 : (List XVariable)} {v1 : (List Int)} {r : Bool} (h : sh_impl_areValues v0 v1 = some r) : Con Try.prog 114 [(cLs (cXVariable cS cI) rfl).enc v0, (cLs cI rfl).enc v1] [] (rs_impl_areValues r) := by
  delta sh_impl_areValues at h
  refine top (out := none) (f := Try.f114) (m := m114) (rs := [.t 4]) (by kernel_rfl) rfl (by kernel_rfl) (by kernel_rfl) (by kernel_rfl) (by kernel_rfl) (by kernel_rfl) ?_
  exact
   ini [(0, .d ((cLs (cXVariable cS cI) rfl).enc v0)), (1, .d ((cLs cI rfl).enc v1))] rfl <| wpC_seq <| reg_s <| x_asg (sc cB false rfl) <| seqN [(0, .d ((cLs (cXVariable cS cI) rfl).enc v0)), (1, .d ((cLs cI rfl).enc v1))] (by kernel_rfl) <|
    xn <| wpC_seq <| wpC_kp <| wpC_seq <| reg_s <| st rfl <| mvd rfl rfl <| stw rfl <| lens rfl fun l8 => st rfl <| mvd rfl rfl <| stw rfl <| lens rfl fun l9 => st rfl <| b_neq (k := .i64) rfl rfl <| seqN [(0, .d ((cLs (cXVariable cS cI) rfl).enc v0)), (1, .d ((cLs cI rfl).enc v1)), (11, .d (cB.enc (decide ((v1.length : Int) ≠ (v0.length : Int)))))] (by kernel_rfl) <|
    xn <| cnd rfl h (fun b10 h => wpC_seq <| reg_s <| x_asg (sc cB false rfl) <| seqN [(4, .d (cB.enc false))] (by kernel_rfl) <|
    xn <| wpC_ret <| rt <| rt <| re <| fin h (r1 (ss rfl rfl) <| r0) rfl)
    (fun b10 h => wpC_skip <| kpN [(0, .d ((cLs (cXVariable cS cI) rfl).enc v0)), (1, .d ((cLs cI rfl).enc v1))] (by kernel_rfl) <| xn <| wpC_seq <| wpC_kp <| wpC_seq <| reg_s <| st rfl <| mvd rfl rfl <| stw rfl <| lens rfl fun l58 => st rfl <| mvc cI (0 : Int) rfl <| seqN [(0, .d ((cLs (cXVariable cS cI) rfl).enc v0)), (1, .d ((cLs cI rfl).enc v1)), (12, .d ((cLs cI rfl).enc v1)), (13, .d (cI.enc (v1.length : Int))), (14, .d (cI.enc (0 : Int)))] (by kernel_rfl) <|
    xn <| wpC_blk <| lpR (fun (k60 : Nat) (s59 : Unit) => [(0, .d ((cLs (cXVariable cS cI) rfl).enc v0)), (1, .d ((cLs cI rfl).enc v1)), (12, .d ((cLs cI rfl).enc v1)), (13, .d (cI.enc (v1.length : Int))), (14, .d (cI.enc (k60 : Int)))]) () rfl h
    (fun G84 s59 h => wpC_seq <| reg_s <| st rfl <| b_lss (k := .i64) rfl rfl <| seqN [(0, .d ((cLs (cXVariable cS cI) rfl).enc v0)), (1, .d ((cLs cI rfl).enc v1)), (12, .d ((cLs cI rfl).enc v1)), (13, .d (cI.enc (v1.length : Int))), (14, .d (cI.enc (v1.length : Int))), (15, .d (cB.enc (decide ((v1.length : Int) < (v1.length : Int)))))] (by kernel_rfl) <|
    xn <| wpC_seq <| wpC_kp <| cnd0 rfl (dlf _) <| wpC_exit <| xt <| xt <| xt <| xb <| kpN [] (by kernel_rfl) <| xn <| wpC_seq <| reg_s <| x_asg (sc cB true rfl) <| seqN [(4, .d (cB.enc true))] (by kernel_rfl) <|
    xn <| wpC_ret <| re <| fin h (r1 (ss rfl rfl) <| r0) rfl)
    (fun G84 nx82 k60 s59 x61 hk62 hx63 hn83 h => wpC_seq <| reg_s <| st rfl <| b_lss (k := .i64) rfl rfl <| seqN [(0, .d ((cLs (cXVariable cS cI) rfl).enc v0)), (1, .d ((cLs cI rfl).enc v1)), (12, .d ((cLs cI rfl).enc v1)), (13, .d (cI.enc (v1.length : Int))), (14, .d (cI.enc (k60 : Int))), (15, .d (cB.enc (decide ((k60 : Int) < (v1.length : Int)))))] (by kernel_rfl) <|
    xn <| wpC_seq <| wpC_kp <| cnd1 rfl (dlt hk62) <| wpC_skip <| kpN [(0, .d ((cLs (cXVariable cS cI) rfl).enc v0)), (1, .d ((cLs cI rfl).enc v1)), (12, .d ((cLs cI rfl).enc v1)), (13, .d (cI.enc (v1.length : Int))), (14, .d (cI.enc (k60 : Int)))] (by kernel_rfl) <| xn <| wpC_seq <| wpC_kp <| wpC_blk <| wpC_seq <| reg_s <| st rfl <| mvd rfl rfl <| st rfl <| ias rfl rfl (Int.natCast_nonneg _) hx63 rfl <| st rfl <| ldi rfl rfl rfl rfl <| x_asg (ss rfl rfl) <| x_asg (ss rfl rfl) <| seqN [(0, .d ((cLs (cXVariable cS cI) rfl).enc v0)), (1, .d ((cLs cI rfl).enc v1)), (5, .d (cI.enc (k60 : Int))), (6, .d (cI.enc x61)), (12, .d ((cLs cI rfl).enc v1)), (13, .d (cI.enc (v1.length : Int))), (14, .d (cI.enc (k60 : Int)))] (by kernel_rfl) <|
    xn <| wpC_seq <| reg_s <| st rfl <| mvd rfl rfl <| st rfl <| b_lss (k := .i64) rfl rfl <| st rfl <| mvd rfl rfl <| ite_k h (fun b98 h => gf rfl b98 <| gf rfl b98 <| gf rfl b98 <| gf rfl b98 <| gf rfl b98 <| gf rfl b98 <| gf rfl b98 <| st rfl <| pick1 rfl b98 (cd := cB) (v := true) rfl rfl <| seqN [(0, .d ((cLs (cXVariable cS cI) rfl).enc v0)), (1, .d ((cLs cI rfl).enc v1)), (12, .d ((cLs cI rfl).enc v1)), (13, .d (cI.enc (v1.length : Int))), (14, .d (cI.enc (k60 : Int))), (29, .d (cB.enc true))] (by kernel_rfl) <|
    xn <| cnd1 rfl rfl <| wpC_seq <| reg_s <| x_asg (sc cB false rfl) <| seqN [(4, .d (cB.enc false))] (by kernel_rfl) <|
    xn <| wpC_ret <| rb <| rt <| rt <| rt <| rb <| rt <| rt <| re <| fin h (r1 (ss rfl rfl) <| r0) rfl)
    (fun b98 h => gt' rfl b98 <| st rfl <| mvd rfl rfl <| gt' rfl b98 <| st rfl <| mvd rfl rfl <| gt' rfl b98 <| st rfl <| mvd rfl rfl <| gt' rfl b98 <| getO_k h fun x99 i100 g101 h => st rfl <| ias rfl rfl i100 g101 rfl <| gt' rfl b98 <| st rfl <| fai rfl rfl rfl rfl <| gt' rfl b98 <| st rfl <| ldi rfl rfl rfl rfl <| gt' rfl b98 <| st rfl <| b_geq (k := .i64) rfl rfl <| st rfl <| pick0 rfl b98 (cd := cB) (v := (decide (x99.Levels ≤ x61))) rfl rfl <| seqN [(0, .d ((cLs (cXVariable cS cI) rfl).enc v0)), (1, .d ((cLs cI rfl).enc v1)), (12, .d ((cLs cI rfl).enc v1)), (13, .d (cI.enc (v1.length : Int))), (14, .d (cI.enc (k60 : Int))), (29, .d (cB.enc (decide (x99.Levels ≤ x61))))] (by kernel_rfl) <|
    xn <| cnd rfl h (fun b102 h => wpC_seq <| reg_s <| x_asg (sc cB false rfl) <| seqN [(4, .d (cB.enc false))] (by kernel_rfl) <|
    xn <| wpC_ret <| rb <| rt <| rt <| rt <| rb <| rt <| rt <| re <| fin h (r1 (ss rfl rfl) <| r0) rfl)
    (fun b102 h => wpC_skip <| xbb <| kpN [(0, .d ((cLs (cXVariable cS cI) rfl).enc v0)), (1, .d ((cLs cI rfl).enc v1)), (12, .d ((cLs cI rfl).enc v1)), (13, .d (cI.enc (v1.length : Int))), (14, .d (cI.enc (k60 : Int)))] (by kernel_rfl) <| xn <| reg_s <| st rfl <| b_inc rfl rfl l58 hk62 <| st rfl <| mvd rfl rfl <| seqN [(0, .d ((cLs (cXVariable cS cI) rfl).enc v0)), (1, .d ((cLs cI rfl).enc v1)), (12, .d ((cLs cI rfl).enc v1)), (13, .d (cI.enc (v1.length : Int))), (14, .d (cI.enc ((k60 + 1 : Nat) : Int)))] (by kernel_rfl) <|
    xn <| hn83 () h))))

def rs_impl_isRecord (r : Bool) : List D := [cB.enc r]
def m69 : MC := .seq (.reg [⟨some 3, .box (.t 1), none⟩,
    ⟨some 4, .asg (.c (.bool false)), none⟩] [0, 3])
  (.seq (.reg [⟨some 5, .fa 3 0 0, none⟩,
    ⟨some 6, .ld 5 1 false, none⟩,
    ⟨some 7, .bin .geq (.t 6) (.c (.int .i64 0)), none⟩,
    ⟨some 8, .mv (.t 7), none⟩,
    ⟨some 9, .fa 3 0 0, some (8, true)⟩,
    ⟨some 10, .ld 9 1 false, some (8, true)⟩,
    ⟨some 11, .bin .leq (.t 10) (.c (.int .i64 29)), some (8, true)⟩,
    ⟨some 12, .pick (.t 8) (.t 11) (.c (.bool false)), none⟩,
    ⟨some 13, .mv (.t 12), none⟩,
    ⟨some 14, .fa 3 1 1, some (13, true)⟩,
    ⟨some 15, .ld 14 1 false, some (13, true)⟩,
    ⟨some 16, .bin .geq (.t 15) (.c (.int .i64 0)), some (13, true)⟩,
    ⟨some 17, .pick (.t 13) (.t 16) (.c (.bool false)), none⟩,
    ⟨some 18, .mv (.t 17), none⟩,
    ⟨some 19, .fa 3 1 1, some (18, true)⟩,
    ⟨some 20, .ld 19 1 false, some (18, true)⟩,
    ⟨some 21, .bin .leq (.t 20) (.c (.int .i64 999)), some (18, true)⟩,
    ⟨some 22, .pick (.t 18) (.t 21) (.c (.bool false)), none⟩,
    ⟨some 23, .mv (.t 22), none⟩,
    ⟨some 24, .mv (.t 0), some (23, true)⟩,
    ⟨some 25, .fa 3 2 2, some (23, true)⟩,
    ⟨some 26, .ld 25 1 false, some (23, true)⟩,
    ⟨some 27, .call 114 [(.t 24), (.t 26)], some (23, true)⟩,
    ⟨some 28, .pick (.t 23) (.t 27) (.c (.bool false)), none⟩,
    ⟨some 4, .asg (.t 28), none⟩] [4])
  (.ret))
theorem con_impl_isRecord {v0 : (List XVariable)} {v1 : XRecord} {r : Bool} (h : sh_impl_isRecord v0 v1 = some r) : Con Try.prog 69 [(cLs (cXVariable cS cI) rfl).enc v0, (cXRecord cI cI (cLs cI rfl)).enc v1] [] (rs_impl_isRecord r) := by
  delta sh_impl_isRecord at h
  refine top (out := none) (f := Try.f69) (m := m69) (rs := [.t 4]) (by kernel_rfl) rfl (by kernel_rfl) (by kernel_rfl) (by kernel_rfl) (by kernel_rfl) (by kernel_rfl) ?_
  exact
   ini [(0, .d ((cLs (cXVariable cS cI) rfl).enc v0)), (1, .d ((cXRecord cI cI (cLs cI rfl)).enc v1))] rfl <| wpC_seq <| reg_s <| x_box (ss rfl rfl) <| x_asg (sc cB false rfl) <| seqN [(0, .d ((cLs (cXVariable cS cI) rfl).enc v0)), (3, .box ((cXRecord cI cI (cLs cI rfl)).enc v1))] (by kernel_rfl) <|
    xn <| wpC_seq <| jw (fun (s7 : Bool) => [(4, .d (cB.enc s7))]) h (fun s7 h => xn <| wpC_ret <| re <| fin h (r1 (ss rfl rfl) <| r0) rfl)
    fun s7' q8 h => reg_s <| st rfl <| fab rfl rfl rfl rfl <| st rfl <| lda rfl rfl rfl rfl rfl rfl <| st rfl <| b_geq (k := .i64) rfl rfl <| st rfl <| mvd rfl rfl <| ite_k h (fun b9 h => gt' rfl b9 <| st rfl <| fab rfl rfl rfl rfl <| gt' rfl b9 <| st rfl <| lda rfl rfl rfl rfl rfl rfl <| gt' rfl b9 <| st rfl <| b_leq (k := .i64) rfl rfl <| st rfl <| pick1 rfl b9 (cd := cB) (v := (decide (v1.Area ≤ (29 : Int)))) rfl rfl <| st rfl <| mvd rfl rfl <| ite_k h (fun b10 h => gt' rfl b10 <| st rfl <| fab rfl rfl rfl rfl <| gt' rfl b10 <| st rfl <| lda rfl rfl rfl rfl rfl rfl <| gt' rfl b10 <| st rfl <| b_geq (k := .i64) rfl rfl <| st rfl <| pick1 rfl b10 (cd := cB) (v := (decide ((0 : Int) ≤ v1.House))) rfl rfl <| st rfl <| mvd rfl rfl <| ite_k h (fun b11 h => gt' rfl b11 <| st rfl <| fab rfl rfl rfl rfl <| gt' rfl b11 <| st rfl <| lda rfl rfl rfl rfl rfl rfl <| gt' rfl b11 <| st rfl <| b_leq (k := .i64) rfl rfl <| st rfl <| pick1 rfl b11 (cd := cB) (v := (decide (v1.House ≤ (999 : Int)))) rfl rfl <| st rfl <| mvd rfl rfl <| ite_k h (fun b12 h => gt' rfl b12 <| st rfl <| mvd rfl rfl <| gt' rfl b12 <| st rfl <| fab rfl rfl rfl rfl <| gt' rfl b12 <| st rfl <| lda rfl rfl rfl rfl rfl rfl <| gt' rfl b12 <| bnd h fun x13 e14 h => st rfl <| o_call (a1 (c := (cLs (cXVariable cS cI) rfl)) (tLs (tXVariable tS tK)) rfl (a1 (c := (cLs cI rfl)) (tLs tK) rfl a0)) (con_impl_areValues e14) (.inl (so1 sB so0)) <| st rfl <| pick1 rfl b12 (cd := cB) (v := x13) rfl rfl <| x_asg (ss rfl rfl) <| seqN [(4, .d (cB.enc x13))] (by kernel_rfl) <|
    lfn (S := (fun (s7 : Bool) => [(4, .d (cB.enc s7))])) h q8 rfl)
    (fun b12 h => gf rfl b12 <| gf rfl b12 <| gf rfl b12 <| gf rfl b12 <| st rfl <| pick0 rfl b12 (cd := cB) (v := false) rfl rfl <| x_asg (ss rfl rfl) <| seqN [(4, .d (cB.enc false))] (by kernel_rfl) <|
    lfn (S := (fun (s7 : Bool) => [(4, .d (cB.enc s7))])) h q8 rfl))
    (fun b11 h => gf rfl b11 <| gf rfl b11 <| gf rfl b11 <| st rfl <| pick0 rfl b11 (cd := cB) (v := false) rfl rfl <| st rfl <| mvd rfl rfl <| gf rfl rfl <| gf rfl rfl <| gf rfl rfl <| gf rfl rfl <| st rfl <| pick0 rfl rfl (cd := cB) (v := false) rfl rfl <| x_asg (ss rfl rfl) <| seqN [(4, .d (cB.enc false))] (by kernel_rfl) <|
    lfn (S := (fun (s7 : Bool) => [(4, .d (cB.enc s7))])) h q8 rfl))
    (fun b10 h => gf rfl b10 <| gf rfl b10 <| gf rfl b10 <| st rfl <| pick0 rfl b10 (cd := cB) (v := false) rfl rfl <| st rfl <| mvd rfl rfl <| gf rfl rfl <| gf rfl rfl <| gf rfl rfl <| st rfl <| pick0 rfl rfl (cd := cB) (v := false) rfl rfl <| st rfl <| mvd rfl rfl <| gf rfl rfl <| gf rfl rfl <| gf rfl rfl <| gf rfl rfl <| st rfl <| pick0 rfl rfl (cd := cB) (v := false) rfl rfl <| x_asg (ss rfl rfl) <| seqN [(4, .d (cB.enc false))] (by kernel_rfl) <|
    lfn (S := (fun (s7 : Bool) => [(4, .d (cB.enc s7))])) h q8 rfl))
    (fun b9 h => gf rfl b9 <| gf rfl b9 <| gf rfl b9 <| st rfl <| pick0 rfl b9 (cd := cB) (v := false) rfl rfl <| st rfl <| mvd rfl rfl <| gf rfl rfl <| gf rfl rfl <| gf rfl rfl <| st rfl <| pick0 rfl rfl (cd := cB) (v := false) rfl rfl <| st rfl <| mvd rfl rfl <| gf rfl rfl <| gf rfl rfl <| gf rfl rfl <| st rfl <| pick0 rfl rfl (cd := cB) (v := false) rfl rfl <| st rfl <| mvd rfl rfl <| gf rfl rfl <| gf rfl rfl <| gf rfl rfl <| gf rfl rfl <| st rfl <| pick0 rfl rfl (cd := cB) (v := false) rfl rfl <| x_asg (ss rfl rfl) <| seqN [(4, .d (cB.enc false))] (by kernel_rfl) <|
    lfn (S := (fun (s7 : Bool) => [(4, .d (cB.enc s7))])) h q8 rfl)

def rs_impl_isArea (r : Bool) : List D := [cB.enc r]
def m70 : MC := .seq (.reg [⟨some 2, .box (.t 0), none⟩,
    ⟨some 4, .asg (.c (.bool false)), none⟩] [1, 2])
  (.seq (.reg [⟨some 5, .mv (.t 1), none⟩,
    ⟨some 6, .bin .geq (.t 5) (.c (.int .i64 0)), none⟩,
    ⟨some 7, .mv (.t 6), none⟩,
    ⟨some 8, .mv (.t 1), some (7, true)⟩,
    ⟨some 9, .fa 2 0 0, some (7, true)⟩,
    ⟨some 10, .ld 9 1 false, some (7, true)⟩,
    ⟨some 11, .len false (.t 10), some (7, true)⟩,
    ⟨some 12, .bin .lss (.t 8) (.t 11), some (7, true)⟩,
    ⟨some 13, .pick (.t 7) (.t 12) (.c (.bool false)), none⟩,
    ⟨some 4, .asg (.t 13), none⟩] [4])
  (.ret))
theorem con_impl_isArea {v0 : XGeo} {v1 : Int} {r : Bool} (h : sh_impl_isArea v0 v1 = some r) : Con Try.prog 70 [(cXGeo (cLs cI rfl)).enc v0, cI.enc v1] [] (rs_impl_isArea r) := by
  delta sh_impl_isArea at h
  refine top (out := none) (f := Try.f70) (m := m70) (rs := [.t 4]) (by kernel_rfl) rfl (by kernel_rfl) (by kernel_rfl) (by kernel_rfl) (by kernel_rfl) (by kernel_rfl) ?_
  exact
   ini [(0, .d ((cXGeo (cLs cI rfl)).enc v0)), (1, .d (cI.enc v1))] rfl <| wpC_seq <| reg_s <| x_box (ss rfl rfl) <| x_asg (sc cB false rfl) <| seqN [(1, .d (cI.enc v1)), (2, .box ((cXGeo (cLs cI rfl)).enc v0))] (by kernel_rfl) <|
    xn <| wpC_seq <| reg_s <| st rfl <| mvd rfl rfl <| st rfl <| b_geq (k := .i64) rfl rfl <| st rfl <| mvd rfl rfl <| ite_k h (fun b3 h => gt' rfl b3 <| st rfl <| mvd rfl rfl <| gt' rfl b3 <| st rfl <| fab rfl rfl rfl rfl <| gt' rfl b3 <| st rfl <| lda rfl rfl rfl rfl rfl rfl <| gt' rfl b3 <| stw rfl <| lens rfl fun l4 => gt' rfl b3 <| st rfl <| b_lss (k := .i64) rfl rfl <| st rfl <| pick1 rfl b3 (cd := cB) (v := (decide (v1 < (v0.Parents.length : Int)))) rfl rfl <| x_asg (ss rfl rfl) <| seqN [(4, .d (cB.enc (decide (v1 < (v0.Parents.length : Int)))))] (by kernel_rfl) <|
    xn <| wpC_ret <| re <| fin h (r1 (ss rfl rfl) <| r0) rfl)
    (fun b3 h => gf rfl b3 <| gf rfl b3 <| gf rfl b3 <| gf rfl b3 <| gf rfl b3 <| st rfl <| pick0 rfl b3 (cd := cB) (v := false) rfl rfl <| x_asg (ss rfl rfl) <| seqN [(4, .d (cB.enc false))] (by kernel_rfl) <|
    xn <| wpC_ret <| re <| fin h (r1 (ss rfl rfl) <| r0) rfl)

def rs_slices_Index_int (r : Int) : List D := [cI.enc r]
def m129 : MC := .seq (.reg [⟨some 4, .asg (.c (.int .i64 0)), none⟩] [0, 1])
  (.seq (.kp [] (.seq (.reg [⟨some 6, .mv (.t 0), none⟩,
    ⟨some 7, .len false (.t 6), none⟩,
    ⟨some 8, .mv (.c (.int .i64 0)), none⟩] [0, 1, 7, 8])
  (.blk 0 (.loop (.seq (.reg [⟨some 9, .bin .lss (.t 8) (.t 7), none⟩] [0, 1, 7, 8, 9])
  (.seq (.kp [0, 1, 7, 8] (.cond (.t 9) (.skip) (.exit 0)))
  (.seq (.kp [0, 1, 7, 8] (.blk 1 (.seq (.reg [⟨some 10, .mv (.t 8), none⟩,
    ⟨some 5, .asg (.t 10), none⟩] [0, 1, 5, 7, 8])
  (.seq (.reg [⟨some 11, .mv (.t 1), none⟩,
    ⟨some 12, .mv (.t 0), none⟩,
    ⟨some 13, .mv (.t 5), none⟩,
    ⟨some 14, .ia 12 (.t 13) 1, none⟩,
    ⟨some 15, .ld 14 1 false, none⟩,
    ⟨some 16, .bin .eql (.t 11) (.t 15), none⟩] [0, 1, 5, 7, 8, 16])
  (.cond (.t 16) (.seq (.reg [⟨some 17, .mv (.t 5), none⟩,
    ⟨some 4, .asg (.t 17), none⟩] [4])
  (.ret)) (.skip))))))
  (.reg [⟨some 18, .bin .add (.t 8) (.c (.int .i64 1)), none⟩,
    ⟨some 8, .mv (.t 18), none⟩] [0, 1, 7, 8]))))))))
  (.seq (.reg [⟨some 4, .asg (.c (.int .i64 (-1))), none⟩] [4])
  (.ret)))
theorem con_slices_Index_int {v0 : (List Int)} {v1 : Int} {r : Int} (h : sh_slices_Index_int v0 v1 = some r) : Con Try.prog 129 [(cLs cI rfl).enc v0, cI.enc v1] [] (rs_slices_Index_int r) := by
  delta sh_slices_Index_int at h
  refine top (out := none) (f := Try.f129) (m := m129) (rs := [.t 4]) (by kernel_rfl) rfl (by kernel_rfl) (by kernel_rfl) (by kernel_rfl) (by kernel_rfl) (by kernel_rfl) ?_
  exact
   ini [(0, .d ((cLs cI rfl).enc v0)), (1, .d (cI.enc v1))] rfl <| wpC_seq <| reg_s <| x_asg (sc cI (0 : Int) rfl) <| seqN [(0, .d ((cLs cI rfl).enc v0)), (1, .d (cI.enc v1))] (by kernel_rfl) <|
    xn <| wpC_seq <| wpC_kp <| wpC_seq <| reg_s <| st rfl <| mvd rfl rfl <| stw rfl <| lens rfl fun l16 => st rfl <| mvc cI (0 : Int) rfl <| seqN [(0, .d ((cLs cI rfl).enc v0)), (1, .d (cI.enc v1)), (7, .d (cI.enc (v0.length : Int))), (8, .d (cI.enc (0 : Int)))] (by kernel_rfl) <|
    xn <| wpC_blk <| lpR (fun (k18 : Nat) (s17 : Unit) => [(0, .d ((cLs cI rfl).enc v0)), (1, .d (cI.enc v1)), (7, .d (cI.enc (v0.length : Int))), (8, .d (cI.enc (k18 : Int)))]) () rfl h
    (fun G26 s17 h => wpC_seq <| reg_s <| st rfl <| b_lss (k := .i64) rfl rfl <| seqN [(0, .d ((cLs cI rfl).enc v0)), (1, .d (cI.enc v1)), (7, .d (cI.enc (v0.length : Int))), (8, .d (cI.enc (v0.length : Int))), (9, .d (cB.enc (decide ((v0.length : Int) < (v0.length : Int)))))] (by kernel_rfl) <|
    xn <| wpC_seq <| wpC_kp <| cnd0 rfl (dlf _) <| wpC_exit <| xt <| xt <| xt <| xb <| kpN [] (by kernel_rfl) <| xn <| wpC_seq <| reg_s <| x_asg (sc cI (-1 : Int) rfl) <| seqN [(4, .d (cI.enc (-1 : Int)))] (by kernel_rfl) <|
    xn <| wpC_ret <| re <| fin h (r1 (ss rfl rfl) <| r0) rfl)
    (fun G26 nx24 k18 s17 x19 hk20 hx21 hn25 h => wpC_seq <| reg_s <| st rfl <| b_lss (k := .i64) rfl rfl <| seqN [(0, .d ((cLs cI rfl).enc v0)), (1, .d (cI.enc v1)), (7, .d (cI.enc (v0.length : Int))), (8, .d (cI.enc (k18 : Int))), (9, .d (cB.enc (decide ((k18 : Int) < (v0.length : Int)))))] (by kernel_rfl) <|
    xn <| wpC_seq <| wpC_kp <| cnd1 rfl (dlt hk20) <| wpC_skip <| kpN [(0, .d ((cLs cI rfl).enc v0)), (1, .d (cI.enc v1)), (7, .d (cI.enc (v0.length : Int))), (8, .d (cI.enc (k18 : Int)))] (by kernel_rfl) <| xn <| wpC_seq <| wpC_kp <| wpC_blk <| wpC_seq <| reg_s <| st rfl <| mvd rfl rfl <| x_asg (ss rfl rfl) <| seqN [(0, .d ((cLs cI rfl).enc v0)), (1, .d (cI.enc v1)), (5, .d (cI.enc (k18 : Int))), (7, .d (cI.enc (v0.length : Int))), (8, .d (cI.enc (k18 : Int)))] (by kernel_rfl) <|
    xn <| wpC_seq <| reg_s <| st rfl <| mvd rfl rfl <| st rfl <| mvd rfl rfl <| st rfl <| mvd rfl rfl <| st rfl <| ias rfl rfl (Int.natCast_nonneg _) hx21 rfl <| st rfl <| ldi rfl rfl rfl rfl <| st rfl <| b_eql (k := .i64) rfl rfl <| seqN [(0, .d ((cLs cI rfl).enc v0)), (1, .d (cI.enc v1)), (5, .d (cI.enc (k18 : Int))), (7, .d (cI.enc (v0.length : Int))), (8, .d (cI.enc (k18 : Int))), (16, .d (cB.enc (decide (v1 = x19))))] (by kernel_rfl) <|
    xn <| cnd rfl h (fun b28 h => wpC_seq <| reg_s <| st rfl <| mvd rfl rfl <| x_asg (ss rfl rfl) <| seqN [(4, .d (cI.enc (k18 : Int)))] (by kernel_rfl) <|
    xn <| wpC_ret <| rb <| rt <| rt <| rt <| rb <| rt <| rt <| re <| fin h (r1 (ss rfl rfl) <| r0) rfl)
    (fun b28 h => wpC_skip <| xbb <| kpN [(0, .d ((cLs cI rfl).enc v0)), (1, .d (cI.enc v1)), (7, .d (cI.enc (v0.length : Int))), (8, .d (cI.enc (k18 : Int)))] (by kernel_rfl) <| xn <| reg_s <| st rfl <| b_inc rfl rfl l16 hk20 <| st rfl <| mvd rfl rfl <| seqN [(0, .d ((cLs cI rfl).enc v0)), (1, .d (cI.enc v1)), (7, .d (cI.enc (v0.length : Int))), (8, .d (cI.enc ((k18 + 1 : Nat) : Int)))] (by kernel_rfl) <|
    xn <| hn25 () h))

def rs_slices_Contains_int (r : Bool) : List D := [cB.enc r]
def m84 : MC := .seq (.reg [⟨some 4, .asg (.c (.bool false)), none⟩] [0, 1])
  (.seq (.reg [⟨some 5, .mv (.t 0), none⟩,
    ⟨some 6, .mv (.t 1), none⟩,
    ⟨some 7, .call 129 [(.t 5), (.t 6)], none⟩,
    ⟨some 8, .bin .geq (.t 7) (.c (.int .i64 0)), none⟩,
    ⟨some 4, .asg (.t 8), none⟩] [4])
  (.ret))
theorem con_slices_Contains_int {v0 : (List Int)} {v1 : Int} {r : Bool} (h : sh_slices_Contains_int v0 v1 = some r) : Con Try.prog 84 [(cLs cI rfl).enc v0, cI.enc v1] [] (rs_slices_Contains_int r) := by
  delta sh_slices_Contains_int at h
  refine top (out := none) (f := Try.f84) (m := m84) (rs := [.t 4]) (by kernel_rfl) rfl (by kernel_rfl) (by kernel_rfl) (by kernel_rfl) (by kernel_rfl) (by kernel_rfl) ?_
  exact
   ini [(0, .d ((cLs cI rfl).enc v0)), (1, .d (cI.enc v1))] rfl <| wpC_seq <| reg_s <| x_asg (sc cB false rfl) <| seqN [(0, .d ((cLs cI rfl).enc v0)), (1, .d (cI.enc v1))] (by kernel_rfl) <|
    xn <| wpC_seq <| reg_s <| st rfl <| mvd rfl rfl <| st rfl <| mvd rfl rfl <| bnd h fun x3 e4 h => st rfl <| o_call (a1 (c := (cLs cI rfl)) (tLs tK) rfl (a1 (c := cI) tK rfl a0)) (con_slices_Index_int e4) (.inl (so1 sK so0)) <| st rfl <| b_geq (k := .i64) rfl rfl <| x_asg (ss rfl rfl) <| seqN [(4, .d (cB.enc (decide ((0 : Int) ≤ x3))))] (by kernel_rfl) <|
    xn <| wpC_ret <| re <| fin h (r1 (ss rfl rfl) <| r0) rfl

def rs_impl_isLeaf (r : Bool) : List D := [cB.enc r]
def m71 : MC := .seq (.reg [⟨some 2, .box (.t 0), none⟩,
    ⟨some 4, .asg (.c (.bool false)), none⟩] [1, 2])
  (.seq (.reg [⟨some 5, .fa 2 0 0, none⟩,
    ⟨some 6, .ld 5 1 false, none⟩,
    ⟨some 7, .mv (.t 1), none⟩,
    ⟨some 8, .call 84 [(.t 6), (.t 7)], none⟩,
    ⟨some 9, .nt (.t 8), none⟩,
    ⟨some 4, .asg (.t 9), none⟩] [4])
  (.ret))
theorem con_impl_isLeaf {v0 : XGeo} {v1 : Int} {r : Bool} (h : sh_impl_isLeaf v0 v1 = some r) : Con Try.prog 71 [(cXGeo (cLs cI rfl)).enc v0, cI.enc v1] [] (rs_impl_isLeaf r) := by
  delta sh_impl_isLeaf at h
  refine top (out := none) (f := Try.f71) (m := m71) (rs := [.t 4]) (by kernel_rfl) rfl (by kernel_rfl) (by kernel_rfl) (by kernel_rfl) (by kernel_rfl) (by kernel_rfl) ?_
  exact
   ini [(0, .d ((cXGeo (cLs cI rfl)).enc v0)), (1, .d (cI.enc v1))] rfl <| wpC_seq <| reg_s <| x_box (ss rfl rfl) <| x_asg (sc cB false rfl) <| seqN [(1, .d (cI.enc v1)), (2, .box ((cXGeo (cLs cI rfl)).enc v0))] (by kernel_rfl) <|
    xn <| wpC_seq <| reg_s <| st rfl <| fab rfl rfl rfl rfl <| st rfl <| lda rfl rfl rfl rfl rfl rfl <| st rfl <| mvd rfl rfl <| bnd h fun x3 e4 h => st rfl <| o_call (a1 (c := (cLs cI rfl)) (tLs tK) rfl (a1 (c := cI) tK rfl a0)) (con_slices_Contains_int e4) (.inl (so1 sB so0)) <| st rfl <| o_nt rfl <| x_asg (ss rfl rfl) <| seqN [(4, .d (cB.enc (!x3)))] (by kernel_rfl) <|
    xn <| wpC_ret <| re <| fin h (r1 (ss rfl rfl) <| r0) rfl

def rs_impl_ancestorAt (r : Int) : List D := [cI.enc r]
def m115 : MC := .seq (.reg [⟨some 3, .box (.t 0), none⟩,
    ⟨some 6, .asg (.c (.int .i64 0)), none⟩] [1, 2, 3])
  (.seq (.reg [⟨some 8, .ld 3 1 true, none⟩,
    ⟨some 9, .mv (.t 1), none⟩,
    ⟨some 10, .call 99 [(.t 8), (.t 9)], none⟩,
    ⟨some 7, .asg (.t 10), none⟩] [1, 2, 3, 7])
  (.seq (.kp [1, 2, 3, 7] (.seq (.reg [⟨some 11, .mv (.t 2), none⟩,
    ⟨some 12, .bin .lss (.t 11) (.c (.int .i64 0)), none⟩,
    ⟨some 13, .mv (.t 12), none⟩,
    ⟨some 14, .mv (.t 7), some (13, false)⟩,
    ⟨some 15, .mv (.t 2), some (13, false)⟩,
    ⟨some 16, .bin .lss (.t 14) (.t 15), some (13, false)⟩,
    ⟨some 17, .pick (.t 13) (.c (.bool true)) (.t 16), none⟩] [1, 2, 3, 7, 17])
  (.cond (.t 17) (.seq (.reg [⟨some 6, .asg (.c (.int .i64 (-1))), none⟩] [6])
  (.ret)) (.skip))))
  (.seq (.kp [1] (.blk 0 (.loop (.seq (.kp [1, 2, 3, 7] (.seq (.reg [⟨some 18, .mv (.t 7), none⟩,
    ⟨some 19, .mv (.t 2), none⟩,
    ⟨some 20, .bin .gtr (.t 18) (.t 19), none⟩] [1, 2, 3, 7, 20])
  (.cond (.t 20) (.skip) (.exit 0))))
  (.seq (.kp [1, 2, 3, 7] (.blk 1 (.reg [⟨some 23, .fa 3 0 0, none⟩,
    ⟨some 24, .ld 23 1 false, none⟩,
    ⟨some 25, .mv (.t 1), none⟩,
    ⟨some 26, .ia 24 (.t 25) 1, none⟩,
    ⟨some 27, .ld 26 1 false, none⟩,
    ⟨some 1, .asg (.t 27), none⟩] [1, 2, 3, 7])))
  (.reg [⟨some 21, .mv (.t 7), none⟩,
    ⟨some 22, .bin .sub (.t 21) (.c (.int .i64 1)), none⟩,
    ⟨some 7, .asg (.t 22), none⟩] [1, 2, 3, 7]))))))
  (.seq (.reg [⟨some 28, .mv (.t 1), none⟩,
    ⟨some 6, .asg (.t 28), none⟩] [6])
  (.ret)))))
theorem con_impl_ancestorAt {v0 : XGeo} {v1 : Int} {v2 : Int} {r : Int} (h : sh_impl_ancestorAt v0 v1 v2 = some r) : Con Try.prog 115 [(cXGeo (cLs cI rfl)).enc v0, cI.enc v1, cI.enc v2] [] (rs_impl_ancestorAt r) := by
  delta sh_impl_ancestorAt at h
  refine top (out := none) (f := Try.f115) (m := m115) (rs := [.t 6]) (by kernel_rfl) rfl (by kernel_rfl) (by kernel_rfl) (by kernel_rfl) (by kernel_rfl) (by kernel_rfl) ?_
  exact
   ini [(0, .d ((cXGeo (cLs cI rfl)).enc v0)), (1, .d (cI.enc v1)), (2, .d (cI.enc v2))] rfl <| wpC_seq <| reg_s <| x_box (ss rfl rfl) <| x_asg (sc cI (0 : Int) rfl) <| seqN [(1, .d (cI.enc v1)), (2, .d (cI.enc v2)), (3, .box ((cXGeo (cLs cI rfl)).enc v0))] (by kernel_rfl) <|
    xn <| wpC_seq <| reg_s <| st rfl <| ldb rfl rfl rfl rfl <| st rfl <| mvd rfl rfl <| bnd h fun x3 e4 h => st rfl <| o_call (a1 (c := (cXGeo (cLs cI rfl))) (tXGeo (tLs tK)) rfl (a1 (c := cI) tK rfl a0)) (con_impl_depthOf e4) (.inl (so1 sK so0)) <| x_asg (ss rfl rfl) <| seqN [(1, .d (cI.enc v1)), (2, .d (cI.enc v2)), (3, .box ((cXGeo (cLs cI rfl)).enc v0)), (7, .d (cI.enc x3))] (by kernel_rfl) <|
    xn <| wpC_seq <| wpC_kp <| wpC_seq <| reg_s <| st rfl <| mvd rfl rfl <| st rfl <| b_lss (k := .i64) rfl rfl <| st rfl <| mvd rfl rfl <| ite_k h (fun b9 h => gf rfl b9 <| gf rfl b9 <| gf rfl b9 <| st rfl <| pick1 rfl b9 (cd := cB) (v := true) rfl rfl <| seqN [(1, .d (cI.enc v1)), (2, .d (cI.enc v2)), (3, .box ((cXGeo (cLs cI rfl)).enc v0)), (7, .d (cI.enc x3)), (17, .d (cB.enc true))] (by kernel_rfl) <|
    xn <| cnd1 rfl rfl <| wpC_seq <| reg_s <| x_asg (sc cI (-1 : Int) rfl) <| seqN [(6, .d (cI.enc (-1 : Int)))] (by kernel_rfl) <|
    xn <| wpC_ret <| rt <| rt <| re <| fin h (r1 (ss rfl rfl) <| r0) rfl)
    (fun b9 h => gt' rfl b9 <| st rfl <| mvd rfl rfl <| gt' rfl b9 <| st rfl <| mvd rfl rfl <| gt' rfl b9 <| st rfl <| b_lss (k := .i64) rfl rfl <| st rfl <| pick0 rfl b9 (cd := cB) (v := (decide (x3 < v2))) rfl rfl <| seqN [(1, .d (cI.enc v1)), (2, .d (cI.enc v2)), (3, .box ((cXGeo (cLs cI rfl)).enc v0)), (7, .d (cI.enc x3)), (17, .d (cB.enc (decide (x3 < v2))))] (by kernel_rfl) <|
    xn <| cnd rfl h (fun b10 h => wpC_seq <| reg_s <| x_asg (sc cI (-1 : Int) rfl) <| seqN [(6, .d (cI.enc (-1 : Int)))] (by kernel_rfl) <|
    xn <| wpC_ret <| rt <| rt <| re <| fin h (r1 (ss rfl rfl) <| r0) rfl)
    (fun b10 h => wpC_skip <| kpN [(1, .d (cI.enc v1)), (2, .d (cI.enc v2)), (3, .box ((cXGeo (cLs cI rfl)).enc v0)), (7, .d (cI.enc x3))] (by kernel_rfl) <| xn <| wpC_seq <| wpC_kp <| wpC_blk <| lpF (fun (s46 : (Int × Int)) => [(1, .d (cI.enc s46.1)), (2, .d (cI.enc v2)), (3, .box ((cXGeo (cLs cI rfl)).enc v0)), (7, .d (cI.enc s46.2))]) (v1, x3) rfl h
    fun G71 nx69 s46 hn70 h => wpC_seq <| wpC_kp <| wpC_seq <| reg_s <| st rfl <| mvd rfl rfl <| st rfl <| mvd rfl rfl <| st rfl <| b_gtr (k := .i64) rfl rfl <| seqN [(1, .d (cI.enc s46.1)), (2, .d (cI.enc v2)), (3, .box ((cXGeo (cLs cI rfl)).enc v0)), (7, .d (cI.enc s46.2)), (20, .d (cB.enc (decide (v2 < s46.2))))] (by kernel_rfl) <|
    xn <| cnd rfl h (fun b73 h => wpC_skip <| kpN [(1, .d (cI.enc s46.1)), (2, .d (cI.enc v2)), (3, .box ((cXGeo (cLs cI rfl)).enc v0)), (7, .d (cI.enc s46.2))] (by kernel_rfl) <| xn <| wpC_seq <| wpC_kp <| wpC_blk <| reg_s <| st rfl <| fab rfl rfl rfl rfl <| st rfl <| lda rfl rfl rfl rfl rfl rfl <| st rfl <| mvd rfl rfl <| getO_k h fun x77 i78 g79 h => st rfl <| ias rfl rfl i78 g79 rfl <| st rfl <| ldi rfl rfl rfl rfl <| x_asg (ss rfl rfl) <| seqN [(1, .d (cI.enc x77)), (2, .d (cI.enc v2)), (3, .box ((cXGeo (cLs cI rfl)).enc v0)), (7, .d (cI.enc s46.2))] (by kernel_rfl) <|
    xbb <| kpN [(1, .d (cI.enc x77)), (2, .d (cI.enc v2)), (3, .box ((cXGeo (cLs cI rfl)).enc v0)), (7, .d (cI.enc s46.2))] (by kernel_rfl) <| xn <| reg_s <| st rfl <| mvd rfl rfl <| ckI_k h fun i80 h => st rfl <| b_sub (k := .i64) rfl rfl i80 <| x_asg (ss rfl rfl) <| seqN [(1, .d (cI.enc x77)), (2, .d (cI.enc v2)), (3, .box ((cXGeo (cLs cI rfl)).enc v0)), (7, .d (cI.enc (s46.2 - (1 : Int))))] (by kernel_rfl) <|
    xn <| hn70 (x77, (s46.2 - (1 : Int))) h)
    (fun b73 h => wpC_exit <| xt <| xt <| xt <| xb <| kpN [(1, .d (cI.enc s46.1))] (by kernel_rfl) <| xn <| wpC_seq <| reg_s <| st rfl <| mvd rfl rfl <| x_asg (ss rfl rfl) <| seqN [(6, .d (cI.enc s46.1))] (by kernel_rfl) <|
    xn <| wpC_ret <| re <| fin h (r1 (ss rfl rfl) <| r0) rfl)))

def rs_impl_meetsWhere (r : Bool) : List D := [cB.enc r]
def m116 : MC := .seq (.reg [⟨some 2, .box (.t 0), none⟩,
    ⟨some 3, .box (.t 1), none⟩,
    ⟨some 4, .asg (.c (.bool false)), none⟩] [2, 3])
  (.seq (.kp [] (.seq (.reg [⟨some 7, .fa 2 2 2, none⟩,
    ⟨some 8, .ld 7 1 false, none⟩,
    ⟨some 9, .len false (.t 8), none⟩,
    ⟨some 10, .mv (.c (.int .i64 0)), none⟩] [2, 3, 7, 8, 9, 10])
  (.blk 0 (.loop (.seq (.reg [⟨some 11, .bin .lss (.t 10) (.t 9), none⟩] [2, 3, 7, 8, 9, 10, 11])
  (.seq (.kp [2, 3, 7, 8, 9, 10] (.cond (.t 11) (.skip) (.exit 0)))
  (.seq (.kp [2, 3, 7, 8, 9, 10] (.blk 1 (.seq (.reg [⟨some 12, .mv (.t 10), none⟩,
    ⟨some 13, .ia 8 (.t 10) 1, none⟩,
    ⟨some 14, .ld 13 1 false, none⟩,
    ⟨some 5, .asg (.t 12), none⟩,
    ⟨some 6, .asg (.t 14), none⟩] [2, 3, 5, 6, 7, 8, 9, 10])
  (.seq (.reg [⟨some 15, .mv (.t 6), none⟩,
    ⟨some 16, .bin .neq (.t 15) (.c (.int .i64 0)), none⟩,
    ⟨some 17, .mv (.t 16), none⟩,
    ⟨some 18, .mv (.t 6), some (17, true)⟩,
    ⟨some 19, .fa 3 2 2, some (17, true)⟩,
    ⟨some 20, .ld 19 1 false, some (17, true)⟩,
    ⟨some 21, .mv (.t 5), some (17, true)⟩,
    ⟨some 22, .ia 20 (.t 21) 1, some (17, true)⟩,
    ⟨some 23, .ld 22 1 false, some (17, true)⟩,
    ⟨some 24, .bin .shr (.t 18) (.t 23), some (17, true)⟩,
    ⟨some 25, .bin .and (.t 24) (.c (.int .i64 1)), some (17, true)⟩,
    ⟨some 26, .bin .eql (.t 25) (.c (.int .i64 0)), some (17, true)⟩,
    ⟨some 27, .pick (.t 17) (.t 26) (.c (.bool false)), none⟩] [2, 3, 7, 8, 9, 10, 27])
  (.cond (.t 27) (.seq (.reg [⟨some 4, .asg (.c (.bool false)), none⟩] [4])
  (.ret)) (.skip))))))
  (.reg [⟨some 28, .bin .add (.t 10) (.c (.int .i64 1)), none⟩,
    ⟨some 10, .mv (.t 28), none⟩] [2, 3, 7, 8, 9, 10]))))))))
  (.seq (.reg [⟨some 4, .asg (.c (.bool true)), none⟩] [4])
  (.ret)))
theorem con_impl_meetsWhere {v0 : XTable} {v1 : XRecord} {r : Bool} (h : sh_impl_meetsWhere v0 v1 = some r) : Con Try.prog 116 [(cXTable cI (cLs cI rfl) (cLs cI rfl) cI).enc v0, (cXRecord cI cI (cLs cI rfl)).enc v1] [] (rs_impl_meetsWhere r) := by
  delta sh_impl_meetsWhere at h
  refine top (out := none) (f := Try.f116) (m := m116) (rs := [.t 4]) (by kernel_rfl) rfl (by kernel_rfl) (by kernel_rfl) (by kernel_rfl) (by kernel_rfl) (by kernel_rfl) ?_
  exact
   ini [(0, .d ((cXTable cI (cLs cI rfl) (cLs cI rfl) cI).enc v0)), (1, .d ((cXRecord cI cI (cLs cI rfl)).enc v1))] rfl <| wpC_seq <| reg_s <| x_box (ss rfl rfl) <| x_box (ss rfl rfl) <| x_asg (sc cB false rfl) <| seqN [(2, .box ((cXTable cI (cLs cI rfl) (cLs cI rfl) cI).enc v0)), (3, .box ((cXRecord cI cI (cLs cI rfl)).enc v1))] (by kernel_rfl) <|
    xn <| wpC_seq <| wpC_kp <| wpC_seq <| reg_s <| st rfl <| fab rfl rfl rfl rfl <| st rfl <| lda rfl rfl rfl rfl rfl rfl <| stw rfl <| lens rfl fun l88 => st rfl <| mvc cI (0 : Int) rfl <| seqN [(2, .box ((cXTable cI (cLs cI rfl) (cLs cI rfl) cI).enc v0)), (3, .box ((cXRecord cI cI (cLs cI rfl)).enc v1)), (7, .adr 2 [.fld 2]), (8, .d ((cLs cI rfl).enc v0.Where)), (9, .d (cI.enc (v0.Where.length : Int))), (10, .d (cI.enc (0 : Int)))] (by kernel_rfl) <|
    xn <| wpC_blk <| lpR (fun (k90 : Nat) (s89 : Unit) => [(2, .box ((cXTable cI (cLs cI rfl) (cLs cI rfl) cI).enc v0)), (3, .box ((cXRecord cI cI (cLs cI rfl)).enc v1)), (7, .adr 2 [.fld 2]), (8, .d ((cLs cI rfl).enc v0.Where)), (9, .d (cI.enc (v0.Where.length : Int))), (10, .d (cI.enc (k90 : Int)))]) () rfl h
    (fun G134 s89 h => wpC_seq <| reg_s <| st rfl <| b_lss (k := .i64) rfl rfl <| seqN [(2, .box ((cXTable cI (cLs cI rfl) (cLs cI rfl) cI).enc v0)), (3, .box ((cXRecord cI cI (cLs cI rfl)).enc v1)), (7, .adr 2 [.fld 2]), (8, .d ((cLs cI rfl).enc v0.Where)), (9, .d (cI.enc (v0.Where.length : Int))), (10, .d (cI.enc (v0.Where.length : Int))), (11, .d (cB.enc (decide ((v0.Where.length : Int) < (v0.Where.length : Int)))))] (by kernel_rfl) <|
    xn <| wpC_seq <| wpC_kp <| cnd0 rfl (dlf _) <| wpC_exit <| xt <| xt <| xt <| xb <| kpN [] (by kernel_rfl) <| xn <| wpC_seq <| reg_s <| x_asg (sc cB true rfl) <| seqN [(4, .d (cB.enc true))] (by kernel_rfl) <|
    xn <| wpC_ret <| re <| fin h (r1 (ss rfl rfl) <| r0) rfl)
    (fun G134 nx132 k90 s89 x91 hk92 hx93 hn133 h => wpC_seq <| reg_s <| st rfl <| b_lss (k := .i64) rfl rfl <| seqN [(2, .box ((cXTable cI (cLs cI rfl) (cLs cI rfl) cI).enc v0)), (3, .box ((cXRecord cI cI (cLs cI rfl)).enc v1)), (7, .adr 2 [.fld 2]), (8, .d ((cLs cI rfl).enc v0.Where)), (9, .d (cI.enc (v0.Where.length : Int))), (10, .d (cI.enc (k90 : Int))), (11, .d (cB.enc (decide ((k90 : Int) < (v0.Where.length : Int)))))] (by kernel_rfl) <|
    xn <| wpC_seq <| wpC_kp <| cnd1 rfl (dlt hk92) <| wpC_skip <| kpN [(2, .box ((cXTable cI (cLs cI rfl) (cLs cI rfl) cI).enc v0)), (3, .box ((cXRecord cI cI (cLs cI rfl)).enc v1)), (7, .adr 2 [.fld 2]), (8, .d ((cLs cI rfl).enc v0.Where)), (9, .d (cI.enc (v0.Where.length : Int))), (10, .d (cI.enc (k90 : Int)))] (by kernel_rfl) <| xn <| wpC_seq <| wpC_kp <| wpC_blk <| wpC_seq <| reg_s <| st rfl <| mvd rfl rfl <| st rfl <| ias rfl rfl (Int.natCast_nonneg _) hx93 rfl <| st rfl <| ldi rfl rfl rfl rfl <| x_asg (ss rfl rfl) <| x_asg (ss rfl rfl) <| seqN [(2, .box ((cXTable cI (cLs cI rfl) (cLs cI rfl) cI).enc v0)), (3, .box ((cXRecord cI cI (cLs cI rfl)).enc v1)), (5, .d (cI.enc (k90 : Int))), (6, .d (cI.enc x91)), (7, .adr 2 [.fld 2]), (8, .d ((cLs cI rfl).enc v0.Where)), (9, .d (cI.enc (v0.Where.length : Int))), (10, .d (cI.enc (k90 : Int)))] (by kernel_rfl) <|
    xn <| wpC_seq <| reg_s <| st rfl <| mvd rfl rfl <| st rfl <| b_neq (k := .i64) rfl rfl <| st rfl <| mvd rfl rfl <| ite_k h (fun b163 h => gt' rfl b163 <| st rfl <| mvd rfl rfl <| gt' rfl b163 <| st rfl <| fab rfl rfl rfl rfl <| gt' rfl b163 <| st rfl <| lda rfl rfl rfl rfl rfl rfl <| gt' rfl b163 <| st rfl <| mvd rfl rfl <| gt' rfl b163 <| getO_k h fun x164 i165 g166 h => st rfl <| ias rfl rfl i165 g166 rfl <| gt' rfl b163 <| st rfl <| ldi rfl rfl rfl rfl <| gt' rfl b163 <| ck_k h fun i167 h => st rfl <| b_shr (k := .i64) (k' := .i64) rfl rfl i167 rfl <| gt' rfl b163 <| ck_k h fun i168 h => ckK_k h fun i169 h => ck_k h fun i170 h => ckK_k h fun i171 h => st rfl <| b_and (k := .i64) rfl rfl ⟨i168, i169⟩ ⟨i170, i171⟩ <| gt' rfl b163 <| st rfl <| b_eql (k := .i64) rfl rfl <| st rfl <| pick1 rfl b163 (cd := cB) (v := (decide ((((x91 / 2 ^ (x164).toNat).toNat &&& (1 : Int).toNat : Nat) : Int) = (0 : Int)))) rfl rfl <| seqN [(2, .box ((cXTable cI (cLs cI rfl) (cLs cI rfl) cI).enc v0)), (3, .box ((cXRecord cI cI (cLs cI rfl)).enc v1)), (7, .adr 2 [.fld 2]), (8, .d ((cLs cI rfl).enc v0.Where)), (9, .d (cI.enc (v0.Where.length : Int))), (10, .d (cI.enc (k90 : Int))), (27, .d (cB.enc (decide ((((x91 / 2 ^ (x164).toNat).toNat &&& (1 : Int).toNat : Nat) : Int) = (0 : Int)))))] (by kernel_rfl) <|
    xn <| cnd rfl h (fun b172 h => wpC_seq <| reg_s <| x_asg (sc cB false rfl) <| seqN [(4, .d (cB.enc false))] (by kernel_rfl) <|
    xn <| wpC_ret <| rb <| rt <| rt <| rt <| rb <| rt <| rt <| re <| fin h (r1 (ss rfl rfl) <| r0) rfl)
    (fun b172 h => wpC_skip <| xbb <| kpN [(2, .box ((cXTable cI (cLs cI rfl) (cLs cI rfl) cI).enc v0)), (3, .box ((cXRecord cI cI (cLs cI rfl)).enc v1)), (7, .adr 2 [.fld 2]), (8, .d ((cLs cI rfl).enc v0.Where)), (9, .d (cI.enc (v0.Where.length : Int))), (10, .d (cI.enc (k90 : Int)))] (by kernel_rfl) <| xn <| reg_s <| st rfl <| b_inc rfl rfl l88 hk92 <| st rfl <| mvd rfl rfl <| seqN [(2, .box ((cXTable cI (cLs cI rfl) (cLs cI rfl) cI).enc v0)), (3, .box ((cXRecord cI cI (cLs cI rfl)).enc v1)), (7, .adr 2 [.fld 2]), (8, .d ((cLs cI rfl).enc v0.Where)), (9, .d (cI.enc (v0.Where.length : Int))), (10, .d (cI.enc ((k90 + 1 : Nat) : Int)))] (by kernel_rfl) <|
    xn <| hn133 () h))
    (fun b163 h => gf rfl b163 <| gf rfl b163 <| gf rfl b163 <| gf rfl b163 <| gf rfl b163 <| gf rfl b163 <| gf rfl b163 <| gf rfl b163 <| gf rfl b163 <| st rfl <| pick0 rfl b163 (cd := cB) (v := false) rfl rfl <| seqN [(2, .box ((cXTable cI (cLs cI rfl) (cLs cI rfl) cI).enc v0)), (3, .box ((cXRecord cI cI (cLs cI rfl)).enc v1)), (7, .adr 2 [.fld 2]), (8, .d ((cLs cI rfl).enc v0.Where)), (9, .d (cI.enc (v0.Where.length : Int))), (10, .d (cI.enc (k90 : Int))), (27, .d (cB.enc false))] (by kernel_rfl) <|
    xn <| cnd0 rfl rfl <| wpC_skip <| xbb <| kpN [(2, .box ((cXTable cI (cLs cI rfl) (cLs cI rfl) cI).enc v0)), (3, .box ((cXRecord cI cI (cLs cI rfl)).enc v1)), (7, .adr 2 [.fld 2]), (8, .d ((cLs cI rfl).enc v0.Where)), (9, .d (cI.enc (v0.Where.length : Int))), (10, .d (cI.enc (k90 : Int)))] (by kernel_rfl) <| xn <| reg_s <| st rfl <| b_inc rfl rfl l88 hk92 <| st rfl <| mvd rfl rfl <| seqN [(2, .box ((cXTable cI (cLs cI rfl) (cLs cI rfl) cI).enc v0)), (3, .box ((cXRecord cI cI (cLs cI rfl)).enc v1)), (7, .adr 2 [.fld 2]), (8, .d ((cLs cI rfl).enc v0.Where)), (9, .d (cI.enc (v0.Where.length : Int))), (10, .d (cI.enc ((k90 + 1 : Nat) : Int)))] (by kernel_rfl) <|
    xn <| hn133 () h))

def rs_cmp_isNaN_int (r : Bool) : List D := [cB.enc r]
def m145 : MC := .seq (.reg [⟨some 2, .asg (.c (.bool false)), none⟩] [0])
  (.seq (.reg [⟨some 3, .mv (.t 0), none⟩,
    ⟨some 4, .mv (.t 0), none⟩,
    ⟨some 5, .bin .neq (.t 3) (.t 4), none⟩,
    ⟨some 2, .asg (.t 5), none⟩] [2])
  (.ret))
theorem con_cmp_isNaN_int {v0 : Int} {r : Bool} (h : sh_cmp_isNaN_int v0 = some r) : Con Try.prog 145 [cI.enc v0] [] (rs_cmp_isNaN_int r) := by
  delta sh_cmp_isNaN_int at h
  refine top (out := none) (f := Try.f145) (m := m145) (rs := [.t 2]) (by kernel_rfl) rfl (by kernel_rfl) (by kernel_rfl) (by kernel_rfl) (by kernel_rfl) (by kernel_rfl) ?_
  exact
   ini [(0, .d (cI.enc v0))] rfl <| wpC_seq <| reg_s <| x_asg (sc cB false rfl) <| seqN [(0, .d (cI.enc v0))] (by kernel_rfl) <|
    xn <| wpC_seq <| reg_s <| st rfl <| mvd rfl rfl <| st rfl <| mvd rfl rfl <| st rfl <| b_neq (k := .i64) rfl rfl <| x_asg (ss rfl rfl) <| seqN [(2, .d (cB.enc (decide (v0 ≠ v0))))] (by kernel_rfl) <|
    xn <| wpC_ret <| re <| fin h (r1 (ss rfl rfl) <| r0) rfl

def rs_cmp_Less_int (r : Bool) : List D := [cB.enc r]
def m143 : MC := .seq (.reg [⟨some 4, .asg (.c (.bool false)), none⟩] [0, 1])
  (.seq (.reg [⟨some 5, .mv (.t 0), none⟩,
    ⟨some 6, .call 145 [(.t 5)], none⟩,
    ⟨some 7, .mv (.t 6), none⟩,
    ⟨some 8, .mv (.t 1), some (7, true)⟩,
    ⟨some 9, .call 145 [(.t 8)], some (7, true)⟩,
    ⟨some 10, .nt (.t 9), some (7, true)⟩,
    ⟨some 11, .pick (.t 7) (.t 10) (.c (.bool false)), none⟩,
    ⟨some 12, .mv (.t 11), none⟩,
    ⟨some 13, .mv (.t 0), some (12, false)⟩,
    ⟨some 14, .mv (.t 1), some (12, false)⟩,
    ⟨some 15, .bin .lss (.t 13) (.t 14), some (12, false)⟩,
    ⟨some 16, .pick (.t 12) (.c (.bool true)) (.t 15), none⟩,
    ⟨some 4, .asg (.t 16), none⟩] [4])
  (.ret))
theorem con_cmp_Less_int {v0 : Int} {v1 : Int} {r : Bool} (h : sh_cmp_Less_int v0 v1 = some r) : Con Try.prog 143 [cI.enc v0, cI.enc v1] [] (rs_cmp_Less_int r) := by
  delta sh_cmp_Less_int at h
  refine top (out := none) (f := Try.f143) (m := m143) (rs := [.t 4]) (by kernel_rfl) rfl (by kernel_rfl) (by kernel_rfl) (by kernel_rfl) (by kernel_rfl) (by kernel_rfl) ?_
  exact
   ini [(0, .d (cI.enc v0)), (1, .d (cI.enc v1))] rfl <| wpC_seq <| reg_s <| x_asg (sc cB false rfl) <| seqN [(0, .d (cI.enc v0)), (1, .d (cI.enc v1))] (by kernel_rfl) <|
    xn <| wpC_seq <| reg_s <| st rfl <| mvd rfl rfl <| bnd h fun x7 e8 h => st rfl <| o_call (a1 (c := cI) tK rfl a0) (con_cmp_isNaN_int e8) (.inl (so1 sB so0)) <| st rfl <| mvd rfl rfl <| ite_k h (fun b9 h => gt' rfl b9 <| st rfl <| mvd rfl rfl <| gt' rfl b9 <| bnd h fun x10 e11 h => st rfl <| o_call (a1 (c := cI) tK rfl a0) (con_cmp_isNaN_int e11) (.inl (so1 sB so0)) <| gt' rfl b9 <| st rfl <| o_nt rfl <| st rfl <| pick1 rfl b9 (cd := cB) (v := (!x10)) rfl rfl <| st rfl <| mvd rfl rfl <| ite_k h (fun b12 h => gf rfl b12 <| gf rfl b12 <| gf rfl b12 <| st rfl <| pick1 rfl b12 (cd := cB) (v := true) rfl rfl <| x_asg (ss rfl rfl) <| seqN [(4, .d (cB.enc true))] (by kernel_rfl) <|
    xn <| wpC_ret <| re <| fin h (r1 (ss rfl rfl) <| r0) rfl)
    (fun b12 h => gt' rfl b12 <| st rfl <| mvd rfl rfl <| gt' rfl b12 <| st rfl <| mvd rfl rfl <| gt' rfl b12 <| st rfl <| b_lss (k := .i64) rfl rfl <| st rfl <| pick0 rfl b12 (cd := cB) (v := (decide (v0 < v1))) rfl rfl <| x_asg (ss rfl rfl) <| seqN [(4, .d (cB.enc (decide (v0 < v1))))] (by kernel_rfl) <|
    xn <| wpC_ret <| re <| fin h (r1 (ss rfl rfl) <| r0) rfl))
    (fun b9 h => gf rfl b9 <| gf rfl b9 <| gf rfl b9 <| st rfl <| pick0 rfl b9 (cd := cB) (v := false) rfl rfl <| st rfl <| mvd rfl rfl <| gt' rfl rfl <| st rfl <| mvd rfl rfl <| gt' rfl rfl <| st rfl <| mvd rfl rfl <| gt' rfl rfl <| st rfl <| b_lss (k := .i64) rfl rfl <| st rfl <| pick0 rfl rfl (cd := cB) (v := (decide (v0 < v1))) rfl rfl <| x_asg (ss rfl rfl) <| seqN [(4, .d (cB.enc (decide (v0 < v1))))] (by kernel_rfl) <|
    xn <| wpC_ret <| re <| fin h (r1 (ss rfl rfl) <| r0) rfl)

def rs_slices_isNaN_int (r : Bool) : List D := [cB.enc r]
def m144 : MC := .seq (.reg [⟨some 2, .asg (.c (.bool false)), none⟩] [0])
  (.seq (.reg [⟨some 3, .mv (.t 0), none⟩,
    ⟨some 4, .mv (.t 0), none⟩,
    ⟨some 5, .bin .neq (.t 3) (.t 4), none⟩,
    ⟨some 2, .asg (.t 5), none⟩] [2])
  (.ret))
theorem con_slices_isNaN_int {v0 : Int} {r : Bool} (h : sh_slices_isNaN_int v0 = some r) : Con Try.prog 144 [cI.enc v0] [] (rs_slices_isNaN_int r) := by
  delta sh_slices_isNaN_int at h
  refine top (out := none) (f := Try.f144) (m := m144) (rs := [.t 2]) (by kernel_rfl) rfl (by kernel_rfl) (by kernel_rfl) (by kernel_rfl) (by kernel_rfl) (by kernel_rfl) ?_
  exact
   ini [(0, .d (cI.enc v0))] rfl <| wpC_seq <| reg_s <| x_asg (sc cB false rfl) <| seqN [(0, .d (cI.enc v0))] (by kernel_rfl) <|
    xn <| wpC_seq <| reg_s <| st rfl <| mvd rfl rfl <| st rfl <| mvd rfl rfl <| st rfl <| b_neq (k := .i64) rfl rfl <| x_asg (ss rfl rfl) <| seqN [(2, .d (cB.enc (decide (v0 ≠ v0))))] (by kernel_rfl) <|
    xn <| wpC_ret <| re <| fin h (r1 (ss rfl rfl) <| r0) rfl

def rs_slices_BinarySearch_int (r : (Int × Bool)) : List D := [cI.enc r.1, cB.enc r.2]
def m140 : MC := .seq (.reg [⟨some 4, .asg (.c (.int .i64 0)), none⟩,
    ⟨some 5, .asg (.c (.bool false)), none⟩] [0, 1])
  (.seq (.reg [⟨some 10, .mv (.t 0), none⟩,
    ⟨some 11, .len false (.t 10), none⟩,
    ⟨some 6, .asg (.t 11), none⟩] [0, 1, 6])
  (.seq (.reg [⟨some 12, .mv (.t 6), none⟩,
    ⟨some 7, .asg (.c (.int .i64 0)), none⟩,
    ⟨some 8, .asg (.t 12), none⟩] [0, 1, 6, 7, 8])
  (.seq (.kp [0, 1, 6, 7] (.blk 0 (.loop (.kp [0, 1, 6, 7, 8] (.seq (.kp [0, 1, 6, 7, 8] (.seq (.reg [⟨some 13, .mv (.t 7), none⟩,
    ⟨some 14, .mv (.t 8), none⟩,
    ⟨some 15, .bin .lss (.t 13) (.t 14), none⟩] [0, 1, 6, 7, 8, 15])
  (.cond (.t 15) (.skip) (.exit 0))))
  (.blk 1 (.seq (.reg [⟨some 16, .mv (.t 7), none⟩,
    ⟨some 17, .mv (.t 8), none⟩,
    ⟨some 18, .bin .add (.t 16) (.t 17), none⟩,
    ⟨some 19, .cvi .u64 (.t 18), none⟩,
    ⟨some 20, .bin .shr (.t 19) (.c (.int .u64 1)), none⟩,
    ⟨some 21, .cvi .i64 (.t 20), none⟩,
    ⟨some 9, .asg (.t 21), none⟩] [0, 1, 6, 7, 8, 9])
  (.seq (.reg [⟨some 22, .mv (.t 0), none⟩,
    ⟨some 23, .mv (.t 9), none⟩,
    ⟨some 24, .ia 22 (.t 23) 1, none⟩,
    ⟨some 25, .ld 24 1 false, none⟩,
    ⟨some 26, .mv (.t 1), none⟩,
    ⟨some 27, .call 143 [(.t 25), (.t 26)], none⟩] [0, 1, 6, 7, 8, 9, 27])
  (.cond (.t 27) (.reg [⟨some 28, .mv (.t 9), none⟩,
    ⟨some 29, .bin .add (.t 28) (.c (.int .i64 1)), none⟩,
    ⟨some 7, .asg (.t 29), none⟩] [0, 1, 6, 7, 8]) (.reg [⟨some 30, .mv (.t 9), none⟩,
    ⟨some 8, .asg (.t 30), none⟩] [0, 1, 6, 7, 8]))))))))))
  (.seq (.reg [⟨some 31, .mv (.t 7), none⟩,
    ⟨some 32, .mv (.t 7), none⟩,
    ⟨some 33, .mv (.t 6), none⟩,
    ⟨some 34, .bin .lss (.t 32) (.t 33), none⟩,
    ⟨some 35, .mv (.t 34), none⟩,
    ⟨some 36, .mv (.t 0), some (35, true)⟩,
    ⟨some 37, .mv (.t 7), some (35, true)⟩,
    ⟨some 38, .ia 36 (.t 37) 1, some (35, true)⟩,
    ⟨some 39, .ld 38 1 false, some (35, true)⟩,
    ⟨some 40, .mv (.t 1), some (35, true)⟩,
    ⟨some 41, .bin .eql (.t 39) (.t 40), some (35, true)⟩,
    ⟨some 42, .mv (.t 41), some (35, true)⟩,
    ⟨some 43, .mv (.t 0), some (42, false)⟩,
    ⟨some 44, .mv (.t 7), some (42, false)⟩,
    ⟨some 45, .ia 43 (.t 44) 1, some (42, false)⟩,
    ⟨some 46, .ld 45 1 false, some (42, false)⟩,
    ⟨some 47, .call 144 [(.t 46)], some (42, false)⟩,
    ⟨some 48, .mv (.t 47), some (42, false)⟩,
    ⟨some 49, .mv (.t 1), some (48, true)⟩,
    ⟨some 50, .call 144 [(.t 49)], some (48, true)⟩,
    ⟨some 51, .pick (.t 48) (.t 50) (.c (.bool false)), some (42, false)⟩,
    ⟨some 52, .pick (.t 42) (.c (.bool true)) (.t 51), some (35, true)⟩,
    ⟨some 53, .pick (.t 35) (.t 52) (.c (.bool false)), none⟩,
    ⟨some 4, .asg (.t 31), none⟩,
    ⟨some 5, .asg (.t 53), none⟩] [4, 5])
  (.ret)))))
theorem con_slices_BinarySearch_int {v0 : (List Int)} {v1 : Int} {r : (Int × Bool)} (h : sh_slices_BinarySearch_int v0 v1 = some r) : Con Try.prog 140 [(cLs cI rfl).enc v0, cI.enc v1] [] (rs_slices_BinarySearch_int r) := by
  delta sh_slices_BinarySearch_int at h
  refine top (out := none) (f := Try.f140) (m := m140) (rs := [.t 4, .t 5]) (by kernel_rfl) rfl (by kernel_rfl) (by kernel_rfl) (by kernel_rfl) (by kernel_rfl) (by kernel_rfl) ?_
  exact
   ini [(0, .d ((cLs cI rfl).enc v0)), (1, .d (cI.enc v1))] rfl <| wpC_seq <| reg_s <| x_asg (sc cI (0 : Int) rfl) <| x_asg (sc cB false rfl) <| seqN [(0, .d ((cLs cI rfl).enc v0)), (1, .d (cI.enc v1))] (by kernel_rfl) <|
    xn <| wpC_seq <| reg_s <| st rfl <| mvd rfl rfl <| stw rfl <| lens rfl fun l2 => x_asg (ss rfl rfl) <| seqN [(0, .d ((cLs cI rfl).enc v0)), (1, .d (cI.enc v1)), (6, .d (cI.enc (v0.length : Int)))] (by kernel_rfl) <|
    xn <| wpC_seq <| reg_s <| st rfl <| mvd rfl rfl <| x_asg (sc cI (0 : Int) rfl) <| x_asg (ss rfl rfl) <| seqN [(0, .d ((cLs cI rfl).enc v0)), (1, .d (cI.enc v1)), (6, .d (cI.enc (v0.length : Int))), (7, .d (cI.enc (0 : Int))), (8, .d (cI.enc (v0.length : Int)))] (by kernel_rfl) <|
    xn <| wpC_seq <| wpC_kp <| wpC_blk <| lpF (fun (s77 : (Int × Int)) => [(0, .d ((cLs cI rfl).enc v0)), (1, .d (cI.enc v1)), (6, .d (cI.enc (v0.length : Int))), (7, .d (cI.enc s77.1)), (8, .d (cI.enc s77.2))]) ((0 : Int), (v0.length : Int)) rfl h
    fun G128 nx126 s77 hn127 h => wpC_kp <| wpC_seq <| wpC_kp <| wpC_seq <| reg_s <| st rfl <| mvd rfl rfl <| st rfl <| mvd rfl rfl <| st rfl <| b_lss (k := .i64) rfl rfl <| seqN [(0, .d ((cLs cI rfl).enc v0)), (1, .d (cI.enc v1)), (6, .d (cI.enc (v0.length : Int))), (7, .d (cI.enc s77.1)), (8, .d (cI.enc s77.2)), (15, .d (cB.enc (decide (s77.1 < s77.2))))] (by kernel_rfl) <|
    xn <| cnd rfl h (fun b130 h => wpC_skip <| kpN [(0, .d ((cLs cI rfl).enc v0)), (1, .d (cI.enc v1)), (6, .d (cI.enc (v0.length : Int))), (7, .d (cI.enc s77.1)), (8, .d (cI.enc s77.2))] (by kernel_rfl) <| xn <| wpC_blk <| wpC_seq <| reg_s <| st rfl <| mvd rfl rfl <| st rfl <| mvd rfl rfl <| ckI_k h fun i135 h => st rfl <| b_add (k := .i64) rfl rfl i135 <| ckK_k h fun i136 h => st rfl <| o_cvi (k := .i64) (k' := .u64) rfl i136 <| ck_k h fun i137 h => st rfl <| b_shr (k := .u64) (k' := .u64) rfl rfl i137 rfl <| ckI_k h fun i138 h => st rfl <| o_cvi (k := .u64) (k' := .i64) rfl i138 <| x_asg (ss rfl rfl) <| seqN [(0, .d ((cLs cI rfl).enc v0)), (1, .d (cI.enc v1)), (6, .d (cI.enc (v0.length : Int))), (7, .d (cI.enc s77.1)), (8, .d (cI.enc s77.2)), (9, .d (cI.enc ((s77.1 + s77.2) / 2 ^ ((1 : Int)).toNat)))] (by kernel_rfl) <|
    xn <| wpC_seq <| reg_s <| st rfl <| mvd rfl rfl <| st rfl <| mvd rfl rfl <| getO_k h fun x144 i145 g146 h => st rfl <| ias rfl rfl i145 g146 rfl <| st rfl <| ldi rfl rfl rfl rfl <| st rfl <| mvd rfl rfl <| bnd h fun x147 e148 h => st rfl <| o_call (a1 (c := cI) tK rfl (a1 (c := cI) tK rfl a0)) (con_cmp_Less_int e148) (.inl (so1 sB so0)) <| seqN [(0, .d ((cLs cI rfl).enc v0)), (1, .d (cI.enc v1)), (6, .d (cI.enc (v0.length : Int))), (7, .d (cI.enc s77.1)), (8, .d (cI.enc s77.2)), (9, .d (cI.enc ((s77.1 + s77.2) / 2 ^ ((1 : Int)).toNat))), (27, .d (cB.enc x147))] (by kernel_rfl) <|
    xn <| cnd rfl h (fun b149 h => reg_s <| st rfl <| mvd rfl rfl <| ckI_k h fun i150 h => st rfl <| b_add (k := .i64) rfl rfl i150 <| x_asg (ss rfl rfl) <| seqN [(0, .d ((cLs cI rfl).enc v0)), (1, .d (cI.enc v1)), (6, .d (cI.enc (v0.length : Int))), (7, .d (cI.enc (((s77.1 + s77.2) / 2 ^ ((1 : Int)).toNat) + (1 : Int)))), (8, .d (cI.enc s77.2))] (by kernel_rfl) <|
    xbb <| kpN [(0, .d ((cLs cI rfl).enc v0)), (1, .d (cI.enc v1)), (6, .d (cI.enc (v0.length : Int))), (7, .d (cI.enc (((s77.1 + s77.2) / 2 ^ ((1 : Int)).toNat) + (1 : Int)))), (8, .d (cI.enc s77.2))] (by kernel_rfl) <| xn <| hn127 ((((s77.1 + s77.2) / 2 ^ ((1 : Int)).toNat) + (1 : Int)), s77.2) h)
    (fun b149 h => reg_s <| st rfl <| mvd rfl rfl <| x_asg (ss rfl rfl) <| seqN [(0, .d ((cLs cI rfl).enc v0)), (1, .d (cI.enc v1)), (6, .d (cI.enc (v0.length : Int))), (7, .d (cI.enc s77.1)), (8, .d (cI.enc ((s77.1 + s77.2) / 2 ^ ((1 : Int)).toNat)))] (by kernel_rfl) <|
    xbb <| kpN [(0, .d ((cLs cI rfl).enc v0)), (1, .d (cI.enc v1)), (6, .d (cI.enc (v0.length : Int))), (7, .d (cI.enc s77.1)), (8, .d (cI.enc ((s77.1 + s77.2) / 2 ^ ((1 : Int)).toNat)))] (by kernel_rfl) <| xn <| hn127 (s77.1, ((s77.1 + s77.2) / 2 ^ ((1 : Int)).toNat)) h))
    (fun b130 h => wpC_exit <| xt <| xt <| xt <| xt <| xb <| kpN [(0, .d ((cLs cI rfl).enc v0)), (1, .d (cI.enc v1)), (6, .d (cI.enc (v0.length : Int))), (7, .d (cI.enc s77.1))] (by kernel_rfl) <| xn <| wpC_seq <| jw (fun (s161 : Bool) => [(4, .d (cI.enc s77.1)), (5, .d (cB.enc s161))]) h (fun s161 h => xn <| wpC_ret <| re <| fin h (r1 (ss rfl rfl) <| r1 (ss rfl rfl) <| r0) rfl)
    fun s161' q162 h => reg_s <| st rfl <| mvd rfl rfl <| st rfl <| mvd rfl rfl <| st rfl <| mvd rfl rfl <| st rfl <| b_lss (k := .i64) rfl rfl <| st rfl <| mvd rfl rfl <| ite_k h (fun b163 h => gt' rfl b163 <| st rfl <| mvd rfl rfl <| gt' rfl b163 <| st rfl <| mvd rfl rfl <| gt' rfl b163 <| getO_k h fun x164 i165 g166 h => st rfl <| ias rfl rfl i165 g166 rfl <| gt' rfl b163 <| st rfl <| ldi rfl rfl rfl rfl <| gt' rfl b163 <| st rfl <| mvd rfl rfl <| gt' rfl b163 <| st rfl <| b_eql (k := .i64) rfl rfl <| gt' rfl b163 <| st rfl <| mvd rfl rfl <| ite_k h (fun b167 h => gf rfl b167 <| gf rfl b167 <| gf rfl b167 <| gf rfl b167 <| gf rfl b167 <| gf rfl b167 <| gu rfl <| gu rfl <| gf rfl b167 <| gt' rfl b163 <| st rfl <| pick1 rfl b167 (cd := cB) (v := true) rfl rfl <| st rfl <| pick1 rfl b163 (cd := cB) (v := true) rfl rfl <| x_asg (ss rfl rfl) <| x_asg (ss rfl rfl) <| seqN [(4, .d (cI.enc s77.1)), (5, .d (cB.enc true))] (by kernel_rfl) <|
    lfn (S := (fun (s161 : Bool) => [(4, .d (cI.enc s77.1)), (5, .d (cB.enc s161))])) h q162 rfl)
    (fun b167 h => gt' rfl b167 <| st rfl <| mvd rfl rfl <| gt' rfl b167 <| st rfl <| mvd rfl rfl <| gt' rfl b167 <| st rfl <| ias rfl rfl i165 g166 rfl <| gt' rfl b167 <| st rfl <| ldi rfl rfl rfl rfl <| gt' rfl b167 <| bnd h fun x168 e169 h => st rfl <| o_call (a1 (c := cI) tK rfl a0) (con_slices_isNaN_int e169) (.inl (so1 sB so0)) <| gt' rfl b167 <| st rfl <| mvd rfl rfl <| ite_k h (fun b170 h => gt' rfl b170 <| st rfl <| mvd rfl rfl <| gt' rfl b170 <| bnd h fun x171 e172 h => st rfl <| o_call (a1 (c := cI) tK rfl a0) (con_slices_isNaN_int e172) (.inl (so1 sB so0)) <| gt' rfl b167 <| st rfl <| pick1 rfl b170 (cd := cB) (v := x171) rfl rfl <| gt' rfl b163 <| st rfl <| pick0 rfl b167 (cd := cB) (v := x171) rfl rfl <| st rfl <| pick1 rfl b163 (cd := cB) (v := x171) rfl rfl <| x_asg (ss rfl rfl) <| x_asg (ss rfl rfl) <| seqN [(4, .d (cI.enc s77.1)), (5, .d (cB.enc x171))] (by kernel_rfl) <|
    lfn (S := (fun (s161 : Bool) => [(4, .d (cI.enc s77.1)), (5, .d (cB.enc s161))])) h q162 rfl)
    (fun b170 h => gf rfl b170 <| gf rfl b170 <| gt' rfl b167 <| st rfl <| pick0 rfl b170 (cd := cB) (v := false) rfl rfl <| gt' rfl b163 <| st rfl <| pick0 rfl b167 (cd := cB) (v := false) rfl rfl <| st rfl <| pick1 rfl b163 (cd := cB) (v := false) rfl rfl <| x_asg (ss rfl rfl) <| x_asg (ss rfl rfl) <| seqN [(4, .d (cI.enc s77.1)), (5, .d (cB.enc false))] (by kernel_rfl) <|
    lfn (S := (fun (s161 : Bool) => [(4, .d (cI.enc s77.1)), (5, .d (cB.enc s161))])) h q162 rfl)))
    (fun b163 h => gf rfl b163 <| gf rfl b163 <| gf rfl b163 <| gf rfl b163 <| gf rfl b163 <| gf rfl b163 <| gf rfl b163 <| gu rfl <| gu rfl <| gu rfl <| gu rfl <| gu rfl <| gu rfl <| gu rfl <| gu rfl <| gu rfl <| gf rfl b163 <| st rfl <| pick0 rfl b163 (cd := cB) (v := false) rfl rfl <| x_asg (ss rfl rfl) <| x_asg (ss rfl rfl) <| seqN [(4, .d (cI.enc s77.1)), (5, .d (cB.enc false))] (by kernel_rfl) <|
    lfn (S := (fun (s161 : Bool) => [(4, .d (cI.enc s77.1)), (5, .d (cB.enc s161))])) h q162 rfl))

def rs_impl_indexOfValues (r : Int) : List D := [cI.enc r]
def m141 : MC := .seq (.reg [⟨some 4, .asg (.c (.int .i64 0)), none⟩] [0, 1])
  (.seq (.reg [⟨some 5, .asg (.c (.int .i64 0)), none⟩] [0, 1, 5])
  (.seq (.kp [5] (.seq (.reg [⟨some 8, .mv (.t 1), none⟩,
    ⟨some 9, .len false (.t 8), none⟩,
    ⟨some 10, .mv (.c (.int .i64 0)), none⟩] [0, 1, 5, 8, 9, 10])
  (.blk 0 (.loop (.seq (.reg [⟨some 11, .bin .lss (.t 10) (.t 9), none⟩] [0, 1, 5, 8, 9, 10, 11])
  (.seq (.kp [0, 1, 5, 8, 9, 10] (.cond (.t 11) (.skip) (.exit 0)))
  (.seq (.kp [0, 1, 5, 8, 9, 10] (.blk 1 (.seq (.reg [⟨some 12, .mv (.t 10), none⟩,
    ⟨some 13, .ia 8 (.t 10) 1, none⟩,
    ⟨some 14, .ld 13 1 false, none⟩,
    ⟨some 6, .asg (.t 12), none⟩,
    ⟨some 7, .asg (.t 14), none⟩] [0, 1, 5, 6, 7, 8, 9, 10])
  (.reg [⟨some 15, .mv (.t 5), none⟩,
    ⟨some 16, .mv (.t 0), none⟩,
    ⟨some 17, .mv (.t 6), none⟩,
    ⟨some 18, .ia 16 (.t 17) 2, none⟩,
    ⟨some 19, .fa 18 1 1, none⟩,
    ⟨some 20, .ld 19 1 false, none⟩,
    ⟨some 21, .bin .mul (.t 15) (.t 20), none⟩,
    ⟨some 22, .mv (.t 7), none⟩,
    ⟨some 23, .bin .add (.t 21) (.t 22), none⟩,
    ⟨some 5, .asg (.t 23), none⟩] [0, 1, 5, 8, 9, 10]))))
  (.reg [⟨some 24, .bin .add (.t 10) (.c (.int .i64 1)), none⟩,
    ⟨some 10, .mv (.t 24), none⟩] [0, 1, 5, 8, 9, 10]))))))))
  (.seq (.reg [⟨some 25, .mv (.t 5), none⟩,
    ⟨some 4, .asg (.t 25), none⟩] [4])
  (.ret))))
theorem con_impl_indexOfValues {v0 : (List XVariable)} {v1 : (List Int)} {r : Int} (h : sh_impl_indexOfValues v0 v1 = some r) : Con Try.prog 141 [(cLs (cXVariable cS cI) rfl).enc v0, (cLs cI rfl).enc v1] [] (rs_impl_indexOfValues r) := by
  delta sh_impl_indexOfValues at h
  refine top (out := none) (f := Try.f141) (m := m141) (rs := [.t 4]) (by kernel_rfl) rfl (by kernel_rfl) (by kernel_rfl) (by kernel_rfl) (by kernel_rfl) (by kernel_rfl) ?_
  exact
   ini [(0, .d ((cLs (cXVariable cS cI) rfl).enc v0)), (1, .d ((cLs cI rfl).enc v1))] rfl <| wpC_seq <| reg_s <| x_asg (sc cI (0 : Int) rfl) <| seqN [(0, .d ((cLs (cXVariable cS cI) rfl).enc v0)), (1, .d ((cLs cI rfl).enc v1))] (by kernel_rfl) <|
    xn <| wpC_seq <| reg_s <| x_asg (sc cI (0 : Int) rfl) <| seqN [(0, .d ((cLs (cXVariable cS cI) rfl).enc v0)), (1, .d ((cLs cI rfl).enc v1)), (5, .d (cI.enc (0 : Int)))] (by kernel_rfl) <|
    xn <| wpC_seq <| wpC_kp <| wpC_seq <| reg_s <| st rfl <| mvd rfl rfl <| stw rfl <| lens rfl fun l42 => st rfl <| mvc cI (0 : Int) rfl <| seqN [(0, .d ((cLs (cXVariable cS cI) rfl).enc v0)), (1, .d ((cLs cI rfl).enc v1)), (5, .d (cI.enc (0 : Int))), (8, .d ((cLs cI rfl).enc v1)), (9, .d (cI.enc (v1.length : Int))), (10, .d (cI.enc (0 : Int)))] (by kernel_rfl) <|
    xn <| wpC_blk <| lpR (fun (k44 : Nat) (s43 : Int) => [(0, .d ((cLs (cXVariable cS cI) rfl).enc v0)), (1, .d ((cLs cI rfl).enc v1)), (5, .d (cI.enc s43)), (8, .d ((cLs cI rfl).enc v1)), (9, .d (cI.enc (v1.length : Int))), (10, .d (cI.enc (k44 : Int)))]) (0 : Int) rfl h
    (fun G70 s43 h => wpC_seq <| reg_s <| st rfl <| b_lss (k := .i64) rfl rfl <| seqN [(0, .d ((cLs (cXVariable cS cI) rfl).enc v0)), (1, .d ((cLs cI rfl).enc v1)), (5, .d (cI.enc s43)), (8, .d ((cLs cI rfl).enc v1)), (9, .d (cI.enc (v1.length : Int))), (10, .d (cI.enc (v1.length : Int))), (11, .d (cB.enc (decide ((v1.length : Int) < (v1.length : Int)))))] (by kernel_rfl) <|
    xn <| wpC_seq <| wpC_kp <| cnd0 rfl (dlf _) <| wpC_exit <| xt <| xt <| xt <| xb <| kpN [(5, .d (cI.enc s43))] (by kernel_rfl) <| xn <| wpC_seq <| reg_s <| st rfl <| mvd rfl rfl <| x_asg (ss rfl rfl) <| seqN [(4, .d (cI.enc s43))] (by kernel_rfl) <|
    xn <| wpC_ret <| re <| fin h (r1 (ss rfl rfl) <| r0) rfl)
    (fun G70 nx68 k44 s43 x45 hk46 hx47 hn69 h => wpC_seq <| reg_s <| st rfl <| b_lss (k := .i64) rfl rfl <| seqN [(0, .d ((cLs (cXVariable cS cI) rfl).enc v0)), (1, .d ((cLs cI rfl).enc v1)), (5, .d (cI.enc s43)), (8, .d ((cLs cI rfl).enc v1)), (9, .d (cI.enc (v1.length : Int))), (10, .d (cI.enc (k44 : Int))), (11, .d (cB.enc (decide ((k44 : Int) < (v1.length : Int)))))] (by kernel_rfl) <|
    xn <| wpC_seq <| wpC_kp <| cnd1 rfl (dlt hk46) <| wpC_skip <| kpN [(0, .d ((cLs (cXVariable cS cI) rfl).enc v0)), (1, .d ((cLs cI rfl).enc v1)), (5, .d (cI.enc s43)), (8, .d ((cLs cI rfl).enc v1)), (9, .d (cI.enc (v1.length : Int))), (10, .d (cI.enc (k44 : Int)))] (by kernel_rfl) <| xn <| wpC_seq <| wpC_kp <| wpC_blk <| wpC_seq <| reg_s <| st rfl <| mvd rfl rfl <| st rfl <| ias rfl rfl (Int.natCast_nonneg _) hx47 rfl <| st rfl <| ldi rfl rfl rfl rfl <| x_asg (ss rfl rfl) <| x_asg (ss rfl rfl) <| seqN [(0, .d ((cLs (cXVariable cS cI) rfl).enc v0)), (1, .d ((cLs cI rfl).enc v1)), (5, .d (cI.enc s43)), (6, .d (cI.enc (k44 : Int))), (7, .d (cI.enc x45)), (8, .d ((cLs cI rfl).enc v1)), (9, .d (cI.enc (v1.length : Int))), (10, .d (cI.enc (k44 : Int)))] (by kernel_rfl) <|
    xn <| reg_s <| st rfl <| mvd rfl rfl <| st rfl <| mvd rfl rfl <| st rfl <| mvd rfl rfl <| getO_k h fun x76 i77 g78 h => st rfl <| ias rfl rfl i77 g78 rfl <| st rfl <| fai rfl rfl rfl rfl <| st rfl <| ldi rfl rfl rfl rfl <| ckI_k h fun i79 h => st rfl <| b_mul (k := .i64) rfl rfl i79 <| st rfl <| mvd rfl rfl <| ckI_k h fun i80 h => st rfl <| b_add (k := .i64) rfl rfl i80 <| x_asg (ss rfl rfl) <| seqN [(0, .d ((cLs (cXVariable cS cI) rfl).enc v0)), (1, .d ((cLs cI rfl).enc v1)), (5, .d (cI.enc ((s43 * x76.Levels) + x45))), (8, .d ((cLs cI rfl).enc v1)), (9, .d (cI.enc (v1.length : Int))), (10, .d (cI.enc (k44 : Int)))] (by kernel_rfl) <|
    xbb <| kpN [(0, .d ((cLs (cXVariable cS cI) rfl).enc v0)), (1, .d ((cLs cI rfl).enc v1)), (5, .d (cI.enc ((s43 * x76.Levels) + x45))), (8, .d ((cLs cI rfl).enc v1)), (9, .d (cI.enc (v1.length : Int))), (10, .d (cI.enc (k44 : Int)))] (by kernel_rfl) <| xn <| reg_s <| st rfl <| b_inc rfl rfl l42 hk46 <| st rfl <| mvd rfl rfl <| seqN [(0, .d ((cLs (cXVariable cS cI) rfl).enc v0)), (1, .d ((cLs cI rfl).enc v1)), (5, .d (cI.enc ((s43 * x76.Levels) + x45))), (8, .d ((cLs cI rfl).enc v1)), (9, .d (cI.enc (v1.length : Int))), (10, .d (cI.enc ((k44 + 1 : Nat) : Int)))] (by kernel_rfl) <|
    xn <| hn69 ((s43 * x76.Levels) + x45) h)

def rs_impl_cellIndex (r : Int) : List D := [cI.enc r]
def m117 : MC := .seq (.reg [⟨some 5, .box (.t 0), none⟩,
    ⟨some 7, .box (.t 2), none⟩,
    ⟨some 10, .asg (.c (.int .i64 0)), none⟩] [1, 3, 4, 5, 7])
  (.seq (.reg [⟨some 15, .ld 5 1 true, none⟩,
    ⟨some 16, .fa 7 0 0, none⟩,
    ⟨some 17, .ld 16 1 false, none⟩,
    ⟨some 18, .call 132 [(.t 15), (.t 17)], none⟩,
    ⟨some 19, .mv (.t 3), none⟩,
    ⟨some 20, .call 140 [(.t 18), (.t 19)], none⟩,
    ⟨some 14, .mvt 20, none⟩,
    ⟨some 21, .ext 14 0, none⟩,
    ⟨some 22, .ext 14 1, none⟩,
    ⟨some 11, .asg (.t 21), none⟩,
    ⟨some 12, .asg (.t 22), none⟩] [1, 4, 7, 11, 12])
  (.seq (.kp [1, 4, 7, 11] (.seq (.reg [⟨some 23, .mv (.t 12), none⟩,
    ⟨some 24, .nt (.t 23), none⟩] [1, 4, 7, 11, 24])
  (.cond (.t 24) (.seq (.reg [⟨some 10, .asg (.c (.int .i64 (-1))), none⟩] [10])
  (.ret)) (.skip))))
  (.seq (.reg [⟨some 25, .mv (.t 1), none⟩,
    ⟨some 26, .ld 7 4 true, none⟩,
    ⟨some 27, .call 134 [(.t 25), (.t 26)], none⟩,
    ⟨some 13, .asg (.t 27), none⟩] [4, 11, 13])
  (.seq (.reg [⟨some 28, .mv (.t 11), none⟩,
    ⟨some 29, .mv (.t 13), none⟩,
    ⟨some 30, .call 133 [(.t 29)], none⟩,
    ⟨some 31, .bin .mul (.t 28) (.t 30), none⟩,
    ⟨some 32, .mv (.t 13), none⟩,
    ⟨some 33, .mv (.t 4), none⟩,
    ⟨some 34, .call 141 [(.t 32), (.t 33)], none⟩,
    ⟨some 35, .bin .add (.t 31) (.t 34), none⟩,
    ⟨some 10, .asg (.t 35), none⟩] [10])
  (.ret)))))
theorem con_impl_cellIndex {v0 : XGeo} {v1 : (List XVariable)} {v2 : XTable} {v3 : Int} {v4 : (List Int)} {r : Int} (h : sh_impl_cellIndex v0 v1 v2 v3 v4 = some r) : Con Try.prog 117 [(cXGeo (cLs cI rfl)).enc v0, (cLs (cXVariable cS cI) rfl).enc v1, (cXTable cI (cLs cI rfl) (cLs cI rfl) cI).enc v2, cI.enc v3, (cLs cI rfl).enc v4] [] (rs_impl_cellIndex r) := by
  delta sh_impl_cellIndex at h
  refine top (out := none) (f := Try.f117) (m := m117) (rs := [.t 10]) (by kernel_rfl) rfl (by kernel_rfl) (by kernel_rfl) (by kernel_rfl) (by kernel_rfl) (by kernel_rfl) ?_
  exact
   ini [(0, .d ((cXGeo (cLs cI rfl)).enc v0)), (1, .d ((cLs (cXVariable cS cI) rfl).enc v1)), (2, .d ((cXTable cI (cLs cI rfl) (cLs cI rfl) cI).enc v2)), (3, .d (cI.enc v3)), (4, .d ((cLs cI rfl).enc v4))] rfl <| wpC_seq <| reg_s <| x_box (ss rfl rfl) <| x_box (ss rfl rfl) <| x_asg (sc cI (0 : Int) rfl) <| seqN [(1, .d ((cLs (cXVariable cS cI) rfl).enc v1)), (3, .d (cI.enc v3)), (4, .d ((cLs cI rfl).enc v4)), (5, .box ((cXGeo (cLs cI rfl)).enc v0)), (7, .box ((cXTable cI (cLs cI rfl) (cLs cI rfl) cI).enc v2))] (by kernel_rfl) <|
    xn <| wpC_seq <| reg_s <| st rfl <| ldb rfl rfl rfl rfl <| st rfl <| fab rfl rfl rfl rfl <| st rfl <| lda rfl rfl rfl rfl rfl rfl <| bnd h fun x5 e6 h => st rfl <| o_call (a1 (c := (cXGeo (cLs cI rfl))) (tXGeo (tLs tK)) rfl (a1 (c := cI) tK rfl a0)) (con_impl_areasAt e6) (.inl (so1 (sLo sK) so0)) <| st rfl <| mvd rfl rfl <| bnd h fun x7 e8 h => st rfl <| o_call (a1 (c := (cLo cI)) (tLo tK) rfl (a1 (c := cI) tK rfl a0)) (con_slices_BinarySearch_int e8) (.inl (so1 sK (so1 sB so0))) <| x_mvt rfl <| x_ext rfl rfl <| x_ext rfl rfl <| x_asg (ss rfl rfl) <| x_asg (ss rfl rfl) <| seqN [(1, .d ((cLs (cXVariable cS cI) rfl).enc v1)), (4, .d ((cLs cI rfl).enc v4)), (7, .box ((cXTable cI (cLs cI rfl) (cLs cI rfl) cI).enc v2)), (11, .d (cI.enc x7.1)), (12, .d (cB.enc x7.2))] (by kernel_rfl) <|
    xn <| wpC_seq <| wpC_kp <| wpC_seq <| reg_s <| st rfl <| mvd rfl rfl <| st rfl <| o_nt rfl <| seqN [(1, .d ((cLs (cXVariable cS cI) rfl).enc v1)), (4, .d ((cLs cI rfl).enc v4)), (7, .box ((cXTable cI (cLs cI rfl) (cLs cI rfl) cI).enc v2)), (11, .d (cI.enc x7.1)), (24, .d (cB.enc (!x7.2)))] (by kernel_rfl) <|
    xn <| cnd rfl h (fun b10 h => wpC_seq <| reg_s <| x_asg (sc cI (-1 : Int) rfl) <| seqN [(10, .d (cI.enc (-1 : Int)))] (by kernel_rfl) <|
    xn <| wpC_ret <| rt <| rt <| re <| fin h (r1 (ss rfl rfl) <| r0) rfl)
    (fun b10 h => wpC_skip <| kpN [(1, .d ((cLs (cXVariable cS cI) rfl).enc v1)), (4, .d ((cLs cI rfl).enc v4)), (7, .box ((cXTable cI (cLs cI rfl) (cLs cI rfl) cI).enc v2)), (11, .d (cI.enc x7.1))] (by kernel_rfl) <| xn <| wpC_seq <| reg_s <| st rfl <| mvd rfl rfl <| st rfl <| ldb rfl rfl rfl rfl <| bnd h fun x13 e14 h => st rfl <| o_call (a1 (c := (cLs (cXVariable cS cI) rfl)) (tLs (tXVariable tS tK)) rfl (a1 (c := (cXTable cI (cLs cI rfl) (cLs cI rfl) cI)) (tXTable tK (tLs tK) (tLs tK) tK) rfl a0)) (con_impl_crossed e14) (.inl (so1 (sLo (sXVariable sS sK)) so0)) <| x_asg (so rfl rfl) <| seqN [(4, .d ((cLs cI rfl).enc v4)), (11, .d (cI.enc x7.1)), (13, .d ((cLo (cXVariable cS cI)).enc x13))] (by kernel_rfl) <|
    xn <| wpC_seq <| reg_s <| st rfl <| mvd rfl rfl <| st rfl <| mvo rfl rfl <| bnd h fun x21 e22 h => st rfl <| o_call (a1 (c := (cLo (cXVariable cS cI))) (tLo (tXVariable tS tK)) rfl a0) (con_impl_combinations e22) (.inl (so1 sK so0)) <| ckI_k h fun i23 h => st rfl <| b_mul (k := .i64) rfl rfl i23 <| st rfl <| mvo rfl rfl <| st rfl <| mvd rfl rfl <| bnd h fun x24 e25 h => st rfl <| o_call (a1 (c := (cLo (cXVariable cS cI))) (tLo (tXVariable tS tK)) rfl (a1 (c := (cLs cI rfl)) (tLs tK) rfl a0)) (con_impl_indexOfValues e25) (.inl (so1 sK so0)) <| ckI_k h fun i26 h => st rfl <| b_add (k := .i64) rfl rfl i26 <| x_asg (ss rfl rfl) <| seqN [(10, .d (cI.enc ((x7.1 * x21) + x24)))] (by kernel_rfl) <|
    xn <| wpC_ret <| re <| fin h (r1 (ss rfl rfl) <| r0) rfl)

def rs_impl_contribution (r : (Int × Int)) : List D := [cI.enc r.1, cI.enc r.2]
def m72 : MC := .seq (.reg [⟨some 4, .box (.t 0), none⟩,
    ⟨some 6, .box (.t 2), none⟩,
    ⟨some 7, .box (.t 3), none⟩,
    ⟨some 8, .asg (.c (.int .i64 0)), none⟩,
    ⟨some 9, .asg (.c (.int .i64 0)), none⟩] [1, 4, 6, 7])
  (.seq (.reg [⟨some 15, .ld 4 1 true, none⟩,
    ⟨some 16, .fa 7 0 0, none⟩,
    ⟨some 17, .ld 16 1 false, none⟩,
    ⟨some 18, .fa 6 0 0, none⟩,
    ⟨some 19, .ld 18 1 false, none⟩,
    ⟨some 20, .call 115 [(.t 15), (.t 17), (.t 19)], none⟩,
    ⟨some 10, .asg (.t 20), none⟩] [1, 4, 6, 7, 10])
  (.seq (.kp [1, 4, 6, 7, 10] (.seq (.reg [⟨some 21, .mv (.t 10), none⟩,
    ⟨some 22, .bin .lss (.t 21) (.c (.int .i64 0)), none⟩,
    ⟨some 23, .mv (.t 22), none⟩,
    ⟨some 24, .ld 6 4 true, some (23, false)⟩,
    ⟨some 25, .ld 7 3 true, some (23, false)⟩,
    ⟨some 26, .call 116 [(.t 24), (.t 25)], some (23, false)⟩,
    ⟨some 27, .nt (.t 26), some (23, false)⟩,
    ⟨some 28, .pick (.t 23) (.c (.bool true)) (.t 27), none⟩] [1, 4, 6, 7, 10, 28])
  (.cond (.t 28) (.seq (.reg [⟨some 8, .asg (.c (.int .i64 (-1))), none⟩,
    ⟨some 9, .asg (.c (.int .i64 0)), none⟩] [8, 9])
  (.ret)) (.skip))))
  (.seq (.reg [⟨some 29, .fa 6 1 1, none⟩,
    ⟨some 30, .ld 29 1 false, none⟩,
    ⟨some 31, .len false (.t 30), none⟩,
    ⟨some 32, .mk (.int .i64 0) (.t 31), none⟩,
    ⟨some 11, .asg (.t 32), none⟩] [1, 4, 6, 7, 10, 11])
  (.seq (.kp [1, 4, 6, 7, 10, 11] (.seq (.reg [⟨some 33, .fa 6 1 1, none⟩,
    ⟨some 34, .ld 33 1 false, none⟩,
    ⟨some 35, .len false (.t 34), none⟩,
    ⟨some 36, .mv (.c (.int .i64 0)), none⟩] [1, 4, 6, 7, 10, 11, 33, 34, 35, 36])
  (.blk 0 (.loop (.seq (.reg [⟨some 37, .bin .lss (.t 36) (.t 35), none⟩] [1, 4, 6, 7, 10, 11, 33, 34, 35, 36, 37])
  (.seq (.kp [1, 4, 6, 7, 10, 11, 33, 34, 35, 36] (.cond (.t 37) (.skip) (.exit 0)))
  (.seq (.kp [1, 4, 6, 7, 10, 11, 33, 34, 35, 36] (.blk 1 (.seq (.reg [⟨some 38, .mv (.t 36), none⟩,
    ⟨some 39, .ia 34 (.t 36) 1, none⟩,
    ⟨some 40, .ld 39 1 false, none⟩,
    ⟨some 12, .asg (.t 38), none⟩,
    ⟨some 13, .asg (.t 40), none⟩] [1, 4, 6, 7, 10, 11, 12, 13, 33, 34, 35, 36])
  (.reg [⟨some 41, .mv (.t 11), none⟩,
    ⟨some 42, .mv (.t 12), none⟩,
    ⟨some 43, .fa 7 2 2, none⟩,
    ⟨some 44, .ld 43 1 false, none⟩,
    ⟨some 45, .mv (.t 13), none⟩,
    ⟨some 46, .ia 44 (.t 45) 1, none⟩,
    ⟨some 47, .ld 46 1 false, none⟩,
    ⟨some 48, .ia 41 (.t 42) 1, none⟩,
    ⟨none, .st 48 (.t 47) 1, none⟩] [1, 4, 6, 7, 10, 11, 33, 34, 35, 36]))))
  (.reg [⟨some 49, .bin .add (.t 36) (.c (.int .i64 1)), none⟩,
    ⟨some 36, .mv (.t 49), none⟩] [1, 4, 6, 7, 10, 11, 33, 34, 35, 36]))))))))
  (.seq (.reg [⟨some 14, .asg (.c (.int .i64 1)), none⟩] [1, 4, 6, 7, 10, 11, 14])
  (.seq (.kp [1, 4, 6, 10, 11, 14] (.seq (.reg [⟨some 50, .fa 6 3 3, none⟩,
    ⟨some 51, .ld 50 1 false, none⟩,
    ⟨some 52, .bin .geq (.t 51) (.c (.int .i64 0)), none⟩] [1, 4, 6, 7, 10, 11, 14, 52])
  (.cond (.t 52) (.reg [⟨some 53, .fa 7 2 2, none⟩,
    ⟨some 54, .ld 53 1 false, none⟩,
    ⟨some 55, .fa 6 3 3, none⟩,
    ⟨some 56, .ld 55 1 false, none⟩,
    ⟨some 57, .ia 54 (.t 56) 1, none⟩,
    ⟨some 58, .ld 57 1 false, none⟩,
    ⟨some 14, .asg (.t 58), none⟩] [1, 4, 6, 10, 11, 14]) (.skip))))
  (.seq (.reg [⟨some 59, .ld 4 1 true, none⟩,
    ⟨some 60, .mv (.t 1), none⟩,
    ⟨some 61, .ld 6 4 true, none⟩,
    ⟨some 62, .mv (.t 10), none⟩,
    ⟨some 63, .mv (.t 11), none⟩,
    ⟨some 64, .call 117 [(.t 59), (.t 60), (.t 61), (.t 62), (.t 63)], none⟩,
    ⟨some 65, .mv (.t 14), none⟩,
    ⟨some 8, .asg (.t 64), none⟩,
    ⟨some 9, .asg (.t 65), none⟩] [8, 9])
  (.ret))))))))
theorem con_impl_contribution {v0 : XGeo} {v1 : (List XVariable)} {v2 : XTable} {v3 : XRecord} {r : (Int × Int)} (h : sh_impl_contribution v0 v1 v2 v3 = some r) : Con Try.prog 72 [(cXGeo (cLs cI rfl)).enc v0, (cLs (cXVariable cS cI) rfl).enc v1, (cXTable cI (cLs cI rfl) (cLs cI rfl) cI).enc v2, (cXRecord cI cI (cLs cI rfl)).enc v3] [] (rs_impl_contribution r) := by
  delta sh_impl_contribution at h
  refine top (out := none) (f := Try.f72) (m := m72) (rs := [.t 8, .t 9]) (by kernel_rfl) rfl (by kernel_rfl) (by kernel_rfl) (by kernel_rfl) (by kernel_rfl) (by kernel_rfl) ?_
  exact
   ini [(0, .d ((cXGeo (cLs cI rfl)).enc v0)), (1, .d ((cLs (cXVariable cS cI) rfl).enc v1)), (2, .d ((cXTable cI (cLs cI rfl) (cLs cI rfl) cI).enc v2)), (3, .d ((cXRecord cI cI (cLs cI rfl)).enc v3))] rfl <| wpC_seq <| reg_s <| x_box (ss rfl rfl) <| x_box (ss rfl rfl) <| x_box (ss rfl rfl) <| x_asg (sc cI (0 : Int) rfl) <| x_asg (sc cI (0 : Int) rfl) <| seqN [(1, .d ((cLs (cXVariable cS cI) rfl).enc v1)), (4, .box ((cXGeo (cLs cI rfl)).enc v0)), (6, .box ((cXTable cI (cLs cI rfl) (cLs cI rfl) cI).enc v2)), (7, .box ((cXRecord cI cI (cLs cI rfl)).enc v3))] (by kernel_rfl) <|
    xn <| wpC_seq <| reg_s <| st rfl <| ldb rfl rfl rfl rfl <| st rfl <| fab rfl rfl rfl rfl <| st rfl <| lda rfl rfl rfl rfl rfl rfl <| st rfl <| fab rfl rfl rfl rfl <| st rfl <| lda rfl rfl rfl rfl rfl rfl <| bnd h fun x3 e4 h => st rfl <| o_call (a1 (c := (cXGeo (cLs cI rfl))) (tXGeo (tLs tK)) rfl (a1 (c := cI) tK rfl (a1 (c := cI) tK rfl a0))) (con_impl_ancestorAt e4) (.inl (so1 sK so0)) <| x_asg (ss rfl rfl) <| seqN [(1, .d ((cLs (cXVariable cS cI) rfl).enc v1)), (4, .box ((cXGeo (cLs cI rfl)).enc v0)), (6, .box ((cXTable cI (cLs cI rfl) (cLs cI rfl) cI).enc v2)), (7, .box ((cXRecord cI cI (cLs cI rfl)).enc v3)), (10, .d (cI.enc x3))] (by kernel_rfl) <|
    xn <| wpC_seq <| wpC_kp <| wpC_seq <| reg_s <| st rfl <| mvd rfl rfl <| st rfl <| b_lss (k := .i64) rfl rfl <| st rfl <| mvd rfl rfl <| ite_k h (fun b15 h => gf rfl b15 <| gf rfl b15 <| gf rfl b15 <| gf rfl b15 <| st rfl <| pick1 rfl b15 (cd := cB) (v := true) rfl rfl <| seqN [(1, .d ((cLs (cXVariable cS cI) rfl).enc v1)), (4, .box ((cXGeo (cLs cI rfl)).enc v0)), (6, .box ((cXTable cI (cLs cI rfl) (cLs cI rfl) cI).enc v2)), (7, .box ((cXRecord cI cI (cLs cI rfl)).enc v3)), (10, .d (cI.enc x3)), (28, .d (cB.enc true))] (by kernel_rfl) <|
    xn <| cnd1 rfl rfl <| wpC_seq <| reg_s <| x_asg (sc cI (-1 : Int) rfl) <| x_asg (sc cI (0 : Int) rfl) <| seqN [(8, .d (cI.enc (-1 : Int))), (9, .d (cI.enc (0 : Int)))] (by kernel_rfl) <|
    xn <| wpC_ret <| rt <| rt <| re <| fin h (r1 (ss rfl rfl) <| r1 (ss rfl rfl) <| r0) rfl)
    (fun b15 h => gt' rfl b15 <| st rfl <| ldb rfl rfl rfl rfl <| gt' rfl b15 <| st rfl <| ldb rfl rfl rfl rfl <| gt' rfl b15 <| bnd h fun x16 e17 h => st rfl <| o_call (a1 (c := (cXTable cI (cLs cI rfl) (cLs cI rfl) cI)) (tXTable tK (tLs tK) (tLs tK) tK) rfl (a1 (c := (cXRecord cI cI (cLs cI rfl))) (tXRecord tK tK (tLs tK)) rfl a0)) (con_impl_meetsWhere e17) (.inl (so1 sB so0)) <| gt' rfl b15 <| st rfl <| o_nt rfl <| st rfl <| pick0 rfl b15 (cd := cB) (v := (!x16)) rfl rfl <| seqN [(1, .d ((cLs (cXVariable cS cI) rfl).enc v1)), (4, .box ((cXGeo (cLs cI rfl)).enc v0)), (6, .box ((cXTable cI (cLs cI rfl) (cLs cI rfl) cI).enc v2)), (7, .box ((cXRecord cI cI (cLs cI rfl)).enc v3)), (10, .d (cI.enc x3)), (28, .d (cB.enc (!x16)))] (by kernel_rfl) <|
    xn <| cnd rfl h (fun b18 h => wpC_seq <| reg_s <| x_asg (sc cI (-1 : Int) rfl) <| x_asg (sc cI (0 : Int) rfl) <| seqN [(8, .d (cI.enc (-1 : Int))), (9, .d (cI.enc (0 : Int)))] (by kernel_rfl) <|
    xn <| wpC_ret <| rt <| rt <| re <| fin h (r1 (ss rfl rfl) <| r1 (ss rfl rfl) <| r0) rfl)
    (fun b18 h => wpC_skip <| kpN [(1, .d ((cLs (cXVariable cS cI) rfl).enc v1)), (4, .box ((cXGeo (cLs cI rfl)).enc v0)), (6, .box ((cXTable cI (cLs cI rfl) (cLs cI rfl) cI).enc v2)), (7, .box ((cXRecord cI cI (cLs cI rfl)).enc v3)), (10, .d (cI.enc x3))] (by kernel_rfl) <| xn <| wpC_seq <| reg_s <| st rfl <| fab rfl rfl rfl rfl <| st rfl <| lda rfl rfl rfl rfl rfl rfl <| stw rfl <| lens rfl fun l22 => mkO_k h fun i23 l24 h => st rfl <| o_mk (c := cI) (a0 := (0 : Int)) rfl (k := .i64) rfl i23 l24 <| x_asg (so rfl rfl) <| seqN [(1, .d ((cLs (cXVariable cS cI) rfl).enc v1)), (4, .box ((cXGeo (cLs cI rfl)).enc v0)), (6, .box ((cXTable cI (cLs cI rfl) (cLs cI rfl) cI).enc v2)), (7, .box ((cXRecord cI cI (cLs cI rfl)).enc v3)), (10, .d (cI.enc x3)), (11, .d ((cLo cI).enc (List.replicate ((v2.Vars.length : Int)).toNat (0 : Int))))] (by kernel_rfl) <|
    xn <| wpC_seq <| wpC_kp <| wpC_seq <| reg_s <| st rfl <| fab rfl rfl rfl rfl <| st rfl <| lda rfl rfl rfl rfl rfl rfl <| stw rfl <| lens rfl fun l72 => st rfl <| mvc cI (0 : Int) rfl <| seqN [(1, .d ((cLs (cXVariable cS cI) rfl).enc v1)), (4, .box ((cXGeo (cLs cI rfl)).enc v0)), (6, .box ((cXTable cI (cLs cI rfl) (cLs cI rfl) cI).enc v2)), (7, .box ((cXRecord cI cI (cLs cI rfl)).enc v3)), (10, .d (cI.enc x3)), (11, .d ((cLo cI).enc (List.replicate ((v2.Vars.length : Int)).toNat (0 : Int)))), (33, .adr 6 [.fld 1]), (34, .d ((cLs cI rfl).enc v2.Vars)), (35, .d (cI.enc (v2.Vars.length : Int))), (36, .d (cI.enc (0 : Int)))] (by kernel_rfl) <|
    xn <| wpC_blk <| lpR (fun (k74 : Nat) (s73 : (List Int)) => [(1, .d ((cLs (cXVariable cS cI) rfl).enc v1)), (4, .box ((cXGeo (cLs cI rfl)).enc v0)), (6, .box ((cXTable cI (cLs cI rfl) (cLs cI rfl) cI).enc v2)), (7, .box ((cXRecord cI cI (cLs cI rfl)).enc v3)), (10, .d (cI.enc x3)), (11, .d ((cLo cI).enc s73)), (33, .adr 6 [.fld 1]), (34, .d ((cLs cI rfl).enc v2.Vars)), (35, .d (cI.enc (v2.Vars.length : Int))), (36, .d (cI.enc (k74 : Int)))]) (List.replicate ((v2.Vars.length : Int)).toNat (0 : Int)) rfl h
    (fun G104 s73 h => wpC_seq <| reg_s <| st rfl <| b_lss (k := .i64) rfl rfl <| seqN [(1, .d ((cLs (cXVariable cS cI) rfl).enc v1)), (4, .box ((cXGeo (cLs cI rfl)).enc v0)), (6, .box ((cXTable cI (cLs cI rfl) (cLs cI rfl) cI).enc v2)), (7, .box ((cXRecord cI cI (cLs cI rfl)).enc v3)), (10, .d (cI.enc x3)), (11, .d ((cLo cI).enc s73)), (33, .adr 6 [.fld 1]), (34, .d ((cLs cI rfl).enc v2.Vars)), (35, .d (cI.enc (v2.Vars.length : Int))), (36, .d (cI.enc (v2.Vars.length : Int))), (37, .d (cB.enc (decide ((v2.Vars.length : Int) < (v2.Vars.length : Int)))))] (by kernel_rfl) <|
    xn <| wpC_seq <| wpC_kp <| cnd0 rfl (dlf _) <| wpC_exit <| xt <| xt <| xt <| xb <| kpN [(1, .d ((cLs (cXVariable cS cI) rfl).enc v1)), (4, .box ((cXGeo (cLs cI rfl)).enc v0)), (6, .box ((cXTable cI (cLs cI rfl) (cLs cI rfl) cI).enc v2)), (7, .box ((cXRecord cI cI (cLs cI rfl)).enc v3)), (10, .d (cI.enc x3)), (11, .d ((cLo cI).enc s73))] (by kernel_rfl) <| xn <| wpC_seq <| reg_s <| x_asg (sc cI (1 : Int) rfl) <| seqN [(1, .d ((cLs (cXVariable cS cI) rfl).enc v1)), (4, .box ((cXGeo (cLs cI rfl)).enc v0)), (6, .box ((cXTable cI (cLs cI rfl) (cLs cI rfl) cI).enc v2)), (7, .box ((cXRecord cI cI (cLs cI rfl)).enc v3)), (10, .d (cI.enc x3)), (11, .d ((cLo cI).enc s73)), (14, .d (cI.enc (1 : Int)))] (by kernel_rfl) <|
    xn <| wpC_seq <| jw (fun (s109 : Int) => [(1, .d ((cLs (cXVariable cS cI) rfl).enc v1)), (4, .box ((cXGeo (cLs cI rfl)).enc v0)), (6, .box ((cXTable cI (cLs cI rfl) (cLs cI rfl) cI).enc v2)), (10, .d (cI.enc x3)), (11, .d ((cLo cI).enc s73)), (14, .d (cI.enc s109))]) h (fun s109 h => xn <| wpC_seq <| reg_s <| st rfl <| ldb rfl rfl rfl rfl <| st rfl <| mvd rfl rfl <| st rfl <| ldb rfl rfl rfl rfl <| st rfl <| mvd rfl rfl <| st rfl <| mvo rfl rfl <| bnd h fun x113 e114 h => st rfl <| o_call (a1 (c := (cXGeo (cLs cI rfl))) (tXGeo (tLs tK)) rfl (a1 (c := (cLs (cXVariable cS cI) rfl)) (tLs (tXVariable tS tK)) rfl (a1 (c := (cXTable cI (cLs cI rfl) (cLs cI rfl) cI)) (tXTable tK (tLs tK) (tLs tK) tK) rfl (a1 (c := cI) tK rfl (a1 (c := (cLo cI)) (tLo tK) rfl a0))))) (con_impl_cellIndex e114) (.inl (so1 sK so0)) <| st rfl <| mvd rfl rfl <| x_asg (ss rfl rfl) <| x_asg (ss rfl rfl) <| seqN [(8, .d (cI.enc x113)), (9, .d (cI.enc s109))] (by kernel_rfl) <|
    xn <| wpC_ret <| re <| fin h (r1 (ss rfl rfl) <| r1 (ss rfl rfl) <| r0) rfl)
    fun s109' q110 h => wpC_kp <| wpC_seq <| reg_s <| st rfl <| fab rfl rfl rfl rfl <| st rfl <| lda rfl rfl rfl rfl rfl rfl <| st rfl <| b_geq (k := .i64) rfl rfl <| seqN [(1, .d ((cLs (cXVariable cS cI) rfl).enc v1)), (4, .box ((cXGeo (cLs cI rfl)).enc v0)), (6, .box ((cXTable cI (cLs cI rfl) (cLs cI rfl) cI).enc v2)), (7, .box ((cXRecord cI cI (cLs cI rfl)).enc v3)), (10, .d (cI.enc x3)), (11, .d ((cLo cI).enc s73)), (14, .d (cI.enc (1 : Int))), (52, .d (cB.enc (decide ((0 : Int) ≤ v2.Sum))))] (by kernel_rfl) <|
    xn <| cnd rfl h (fun b115 h => reg_s <| st rfl <| fab rfl rfl rfl rfl <| st rfl <| lda rfl rfl rfl rfl rfl rfl <| st rfl <| fab rfl rfl rfl rfl <| st rfl <| lda rfl rfl rfl rfl rfl rfl <| getO_k h fun x116 i117 g118 h => st rfl <| ias rfl rfl i117 g118 rfl <| st rfl <| ldi rfl rfl rfl rfl <| x_asg (ss rfl rfl) <| seqN [(1, .d ((cLs (cXVariable cS cI) rfl).enc v1)), (4, .box ((cXGeo (cLs cI rfl)).enc v0)), (6, .box ((cXTable cI (cLs cI rfl) (cLs cI rfl) cI).enc v2)), (10, .d (cI.enc x3)), (11, .d ((cLo cI).enc s73)), (14, .d (cI.enc x116))] (by kernel_rfl) <|
    kpN [(1, .d ((cLs (cXVariable cS cI) rfl).enc v1)), (4, .box ((cXGeo (cLs cI rfl)).enc v0)), (6, .box ((cXTable cI (cLs cI rfl) (cLs cI rfl) cI).enc v2)), (10, .d (cI.enc x3)), (11, .d ((cLo cI).enc s73)), (14, .d (cI.enc x116))] (by kernel_rfl) <| lfn (S := (fun (s109 : Int) => [(1, .d ((cLs (cXVariable cS cI) rfl).enc v1)), (4, .box ((cXGeo (cLs cI rfl)).enc v0)), (6, .box ((cXTable cI (cLs cI rfl) (cLs cI rfl) cI).enc v2)), (10, .d (cI.enc x3)), (11, .d ((cLo cI).enc s73)), (14, .d (cI.enc s109))])) h q110 rfl)
    (fun b115 h => wpC_skip <| kpN [(1, .d ((cLs (cXVariable cS cI) rfl).enc v1)), (4, .box ((cXGeo (cLs cI rfl)).enc v0)), (6, .box ((cXTable cI (cLs cI rfl) (cLs cI rfl) cI).enc v2)), (10, .d (cI.enc x3)), (11, .d ((cLo cI).enc s73)), (14, .d (cI.enc (1 : Int)))] (by kernel_rfl) <| lfn (S := (fun (s109 : Int) => [(1, .d ((cLs (cXVariable cS cI) rfl).enc v1)), (4, .box ((cXGeo (cLs cI rfl)).enc v0)), (6, .box ((cXTable cI (cLs cI rfl) (cLs cI rfl) cI).enc v2)), (10, .d (cI.enc x3)), (11, .d ((cLo cI).enc s73)), (14, .d (cI.enc s109))])) h q110 rfl))
    (fun G104 nx102 k74 s73 x75 hk76 hx77 hn103 h => wpC_seq <| reg_s <| st rfl <| b_lss (k := .i64) rfl rfl <| seqN [(1, .d ((cLs (cXVariable cS cI) rfl).enc v1)), (4, .box ((cXGeo (cLs cI rfl)).enc v0)), (6, .box ((cXTable cI (cLs cI rfl) (cLs cI rfl) cI).enc v2)), (7, .box ((cXRecord cI cI (cLs cI rfl)).enc v3)), (10, .d (cI.enc x3)), (11, .d ((cLo cI).enc s73)), (33, .adr 6 [.fld 1]), (34, .d ((cLs cI rfl).enc v2.Vars)), (35, .d (cI.enc (v2.Vars.length : Int))), (36, .d (cI.enc (k74 : Int))), (37, .d (cB.enc (decide ((k74 : Int) < (v2.Vars.length : Int)))))] (by kernel_rfl) <|
    xn <| wpC_seq <| wpC_kp <| cnd1 rfl (dlt hk76) <| wpC_skip <| kpN [(1, .d ((cLs (cXVariable cS cI) rfl).enc v1)), (4, .box ((cXGeo (cLs cI rfl)).enc v0)), (6, .box ((cXTable cI (cLs cI rfl) (cLs cI rfl) cI).enc v2)), (7, .box ((cXRecord cI cI (cLs cI rfl)).enc v3)), (10, .d (cI.enc x3)), (11, .d ((cLo cI).enc s73)), (33, .adr 6 [.fld 1]), (34, .d ((cLs cI rfl).enc v2.Vars)), (35, .d (cI.enc (v2.Vars.length : Int))), (36, .d (cI.enc (k74 : Int)))] (by kernel_rfl) <| xn <| wpC_seq <| wpC_kp <| wpC_blk <| wpC_seq <| reg_s <| st rfl <| mvd rfl rfl <| st rfl <| ias rfl rfl (Int.natCast_nonneg _) hx77 rfl <| st rfl <| ldi rfl rfl rfl rfl <| x_asg (ss rfl rfl) <| x_asg (ss rfl rfl) <| seqN [(1, .d ((cLs (cXVariable cS cI) rfl).enc v1)), (4, .box ((cXGeo (cLs cI rfl)).enc v0)), (6, .box ((cXTable cI (cLs cI rfl) (cLs cI rfl) cI).enc v2)), (7, .box ((cXRecord cI cI (cLs cI rfl)).enc v3)), (10, .d (cI.enc x3)), (11, .d ((cLo cI).enc s73)), (12, .d (cI.enc (k74 : Int))), (13, .d (cI.enc x75)), (33, .adr 6 [.fld 1]), (34, .d ((cLs cI rfl).enc v2.Vars)), (35, .d (cI.enc (v2.Vars.length : Int))), (36, .d (cI.enc (k74 : Int)))] (by kernel_rfl) <|
    xn <| reg_s <| st rfl <| mvo rfl rfl <| st rfl <| mvd rfl rfl <| st rfl <| fab rfl rfl rfl rfl <| st rfl <| lda rfl rfl rfl rfl rfl rfl <| st rfl <| mvd rfl rfl <| getO_k h fun x125 i126 g127 h => st rfl <| ias rfl rfl i126 g127 rfl <| st rfl <| ldi rfl rfl rfl rfl <| getO_k h fun x128 i129 g130 h => st rfl <| iar rfl rfl rfl rfl i129 g130 rfl <| x_sta ((cLo cI).enc (s73.set ((k74 : Int)).toNat x125)) (ss rfl rfl) rfl rfl (Ln.idx g130 Ln.nil) (Cd.h_sz cI _) rfl <| seqN [(1, .d ((cLs (cXVariable cS cI) rfl).enc v1)), (4, .box ((cXGeo (cLs cI rfl)).enc v0)), (6, .box ((cXTable cI (cLs cI rfl) (cLs cI rfl) cI).enc v2)), (7, .box ((cXRecord cI cI (cLs cI rfl)).enc v3)), (10, .d (cI.enc x3)), (11, .d ((cLo cI).enc (s73.set ((k74 : Int)).toNat x125))), (33, .adr 6 [.fld 1]), (34, .d ((cLs cI rfl).enc v2.Vars)), (35, .d (cI.enc (v2.Vars.length : Int))), (36, .d (cI.enc (k74 : Int)))] (by kernel_rfl) <|
    xbb <| kpN [(1, .d ((cLs (cXVariable cS cI) rfl).enc v1)), (4, .box ((cXGeo (cLs cI rfl)).enc v0)), (6, .box ((cXTable cI (cLs cI rfl) (cLs cI rfl) cI).enc v2)), (7, .box ((cXRecord cI cI (cLs cI rfl)).enc v3)), (10, .d (cI.enc x3)), (11, .d ((cLo cI).enc (s73.set ((k74 : Int)).toNat x125))), (33, .adr 6 [.fld 1]), (34, .d ((cLs cI rfl).enc v2.Vars)), (35, .d (cI.enc (v2.Vars.length : Int))), (36, .d (cI.enc (k74 : Int)))] (by kernel_rfl) <| xn <| reg_s <| st rfl <| b_inc rfl rfl l72 hk76 <| st rfl <| mvd rfl rfl <| seqN [(1, .d ((cLs (cXVariable cS cI) rfl).enc v1)), (4, .box ((cXGeo (cLs cI rfl)).enc v0)), (6, .box ((cXTable cI (cLs cI rfl) (cLs cI rfl) cI).enc v2)), (7, .box ((cXRecord cI cI (cLs cI rfl)).enc v3)), (10, .d (cI.enc x3)), (11, .d ((cLo cI).enc (s73.set ((k74 : Int)).toNat x125))), (33, .adr 6 [.fld 1]), (34, .d ((cLs cI rfl).enc v2.Vars)), (35, .d (cI.enc (v2.Vars.length : Int))), (36, .d (cI.enc ((k74 + 1 : Nat) : Int)))] (by kernel_rfl) <|
    xn <| hn103 (s73.set ((k74 : Int)).toNat x125) h)))

def rs_laws_eqIntS (r : Bool) : List D := [cB.enc r]
def m37 : MC := .seq (.reg [⟨some 4, .asg (.c (.bool false)), none⟩] [0, 1])
  (.seq (.kp [0, 1] (.seq (.reg [⟨some 6, .mv (.t 0), none⟩,
    ⟨some 7, .len false (.t 6), none⟩,
    ⟨some 8, .mv (.t 1), none⟩,
    ⟨some 9, .len false (.t 8), none⟩,
    ⟨some 10, .bin .neq (.t 7) (.t 9), none⟩] [0, 1, 10])
  (.cond (.t 10) (.seq (.reg [⟨some 4, .asg (.c (.bool false)), none⟩] [4])
  (.ret)) (.skip))))
  (.seq (.kp [] (.seq (.reg [⟨some 5, .asg (.c (.int .i64 0)), none⟩] [0, 1, 5])
  (.blk 0 (.loop (.seq (.kp [0, 1, 5] (.seq (.reg [⟨some 11, .mv (.t 5), none⟩,
    ⟨some 12, .mv (.t 0), none⟩,
    ⟨some 13, .len false (.t 12), none⟩,
    ⟨some 14, .bin .lss (.t 11) (.t 13), none⟩] [0, 1, 5, 14])
  (.cond (.t 14) (.skip) (.exit 0))))
  (.seq (.kp [0, 1, 5] (.blk 1 (.seq (.drw [⟨0, ⟨some 17, .mv (.t 0), none⟩, [18, 19, 20, 21, 22, 23, 24, 25]⟩,
    ⟨1, ⟨some 18, .mv (.t 5), none⟩, [17, 19, 20, 21, 22, 23, 24, 25]⟩,
    ⟨2, ⟨some 19, .ia 17 (.t 18) 1, none⟩, [20, 21, 22, 23, 24, 25]⟩,
    ⟨3, ⟨some 20, .ld 19 1 false, none⟩, [21, 22, 23, 24, 25]⟩,
    ⟨4, ⟨some 21, .mv (.t 1), none⟩, [17, 18, 19, 20, 22, 23, 24, 25]⟩,
    ⟨5, ⟨some 22, .mv (.t 5), none⟩, [17, 18, 19, 20, 21, 23, 24, 25]⟩,
    ⟨6, ⟨some 23, .ia 21 (.t 22) 1, none⟩, [17, 18, 19, 20, 24, 25]⟩,
    ⟨7, ⟨some 24, .ld 23 1 false, none⟩, [17, 18, 19, 20, 25]⟩,
    ⟨8, ⟨some 25, .bin .neq (.t 20) (.t 24), none⟩, []⟩]
    [] [0, 1, 5, 25])
  (.cond (.t 25) (.seq (.reg [⟨some 4, .asg (.c (.bool false)), none⟩] [4])
  (.ret)) (.skip)))))
  (.reg [⟨some 15, .mv (.t 5), none⟩,
    ⟨some 16, .bin .add (.t 15) (.c (.int .i64 1)), none⟩,
    ⟨some 5, .asg (.t 16), none⟩] [0, 1, 5])))))))
  (.seq (.reg [⟨some 4, .asg (.c (.bool true)), none⟩] [4])
  (.ret))))
theorem con_laws_eqIntS {v0 : (List Int)} {v1 : (List Int)} {r : Bool} (h : sh_laws_eqIntS v0 v1 = some r) : Con Try.prog 37 [(cLs cI rfl).enc v0, (cLs cI rfl).enc v1] [] (rs_laws_eqIntS r) := by
  delta sh_laws_eqIntS at h
  refine top (out := none) (f := Try.f37) (m := m37) (rs := [.t 4]) (by kernel_rfl) rfl (by kernel_rfl) (by kernel_rfl) (by kernel_rfl) (by kernel_rfl) (by kernel_rfl) ?_
  exact
   ini [(0, .d ((cLs cI rfl).enc v0)), (1, .d ((cLs cI rfl).enc v1))] rfl <| wpC_seq <| reg_s <| x_asg (sc cB false rfl) <| seqN [(0, .d ((cLs cI rfl).enc v0)), (1, .d ((cLs cI rfl).enc v1))] (by kernel_rfl) <|
    xn <| wpC_seq <| wpC_kp <| wpC_seq <| reg_s <| st rfl <| mvd rfl rfl <| stw rfl <| lens rfl fun l8 => st rfl <| mvd rfl rfl <| stw rfl <| lens rfl fun l9 => st rfl <| b_neq (k := .i64) rfl rfl <| seqN [(0, .d ((cLs cI rfl).enc v0)), (1, .d ((cLs cI rfl).enc v1)), (10, .d (cB.enc (decide ((v0.length : Int) ≠ (v1.length : Int)))))] (by kernel_rfl) <|
    xn <| cnd rfl h (fun b10 h => wpC_seq <| reg_s <| x_asg (sc cB false rfl) <| seqN [(4, .d (cB.enc false))] (by kernel_rfl) <|
    xn <| wpC_ret <| rt <| rt <| re <| fin h (r1 (ss rfl rfl) <| r0) rfl)
    (fun b10 h => wpC_skip <| kpN [(0, .d ((cLs cI rfl).enc v0)), (1, .d ((cLs cI rfl).enc v1))] (by kernel_rfl) <| xn <| wpC_seq <| wpC_kp <| wpC_seq <| reg_s <| x_asg (sc cI (0 : Int) rfl) <| seqN [(0, .d ((cLs cI rfl).enc v0)), (1, .d ((cLs cI rfl).enc v1)), (5, .d (cI.enc (0 : Int)))] (by kernel_rfl) <|
    xn <| wpC_blk <| lpF (fun (s118 : Int) => [(0, .d ((cLs cI rfl).enc v0)), (1, .d ((cLs cI rfl).enc v1)), (5, .d (cI.enc s118))]) (0 : Int) rfl h
    fun G191 nx189 s118 hn190 h => wpC_seq <| wpC_kp <| wpC_seq <| reg_s <| st rfl <| mvd rfl rfl <| st rfl <| mvd rfl rfl <| stw rfl <| lens rfl fun l196 => st rfl <| b_lss (k := .i64) rfl rfl <| seqN [(0, .d ((cLs cI rfl).enc v0)), (1, .d ((cLs cI rfl).enc v1)), (5, .d (cI.enc s118)), (14, .d (cB.enc (decide (s118 < (v0.length : Int)))))] (by kernel_rfl) <|
    xn <| cnd rfl h (fun b197 h => wpC_skip <| kpN [(0, .d ((cLs cI rfl).enc v0)), (1, .d ((cLs cI rfl).enc v1)), (5, .d (cI.enc s118))] (by kernel_rfl) <| xn <| wpC_seq <| wpC_kp <| wpC_blk <| wpC_seq <| drw_s <| pst rfl <| mvd rfl rfl ⟨rfl, pst rfl <| mvd rfl rfl ⟨rfl, getO_kp h fun x217 i218 g219 h => pst rfl <| ias rfl rfl i218 g219 rfl ⟨rfl, pst rfl <| ldi rfl rfl rfl rfl ⟨rfl, pst rfl <| mvd rfl rfl ⟨rfl, pst rfl <| mvd rfl rfl ⟨rfl, getO_kp h fun x220 i221 g222 h => pst rfl <| ias rfl rfl i221 g222 rfl ⟨rfl, pst rfl <| ldi rfl rfl rfl rfl ⟨rfl, pst rfl <| b_neq (k := .i64) rfl rfl ⟨rfl, preN <| seqN [(0, .d ((cLs cI rfl).enc v0)), (1, .d ((cLs cI rfl).enc v1)), (5, .d (cI.enc s118)), (25, .d (cB.enc (decide (x217 ≠ x220))))] (by kernel_rfl) <|
    xn <| cnd rfl h (fun b223 h => wpC_seq <| reg_s <| x_asg (sc cB false rfl) <| seqN [(4, .d (cB.enc false))] (by kernel_rfl) <|
    xn <| wpC_ret <| rb <| rt <| rt <| rt <| rb <| rt <| rt <| re <| fin h (r1 (ss rfl rfl) <| r0) rfl)
    (fun b223 h => wpC_skip <| xbb <| kpN [(0, .d ((cLs cI rfl).enc v0)), (1, .d ((cLs cI rfl).enc v1)), (5, .d (cI.enc s118))] (by kernel_rfl) <| xn <| reg_s <| st rfl <| mvd rfl rfl <| ckI_k h fun i224 h => st rfl <| b_add (k := .i64) rfl rfl i224 <| x_asg (ss rfl rfl) <| seqN [(0, .d ((cLs cI rfl).enc v0)), (1, .d ((cLs cI rfl).enc v1)), (5, .d (cI.enc (s118 + (1 : Int))))] (by kernel_rfl) <|
    xn <| hn190 (s118 + (1 : Int)) h)⟩⟩⟩⟩⟩⟩⟩⟩⟩)
    (fun b197 h => wpC_exit <| xt <| xt <| xt <| xb <| kpN [] (by kernel_rfl) <| xn <| wpC_seq <| reg_s <| x_asg (sc cB true rfl) <| seqN [(4, .d (cB.enc true))] (by kernel_rfl) <|
    xn <| wpC_ret <| re <| fin h (r1 (ss rfl rfl) <| r0) rfl))

def rs_laws_eqGeo (r : Bool) : List D := [cB.enc r]
def m18 : MC := .seq (.reg [⟨some 2, .box (.t 0), none⟩,
    ⟨some 3, .box (.t 1), none⟩,
    ⟨some 4, .asg (.c (.bool false)), none⟩] [2, 3])
  (.seq (.kp [] (.seq (.reg [⟨some 5, .fa 2 0 0, none⟩,
    ⟨some 6, .ld 5 1 false, none⟩,
    ⟨some 7, .fa 3 0 0, none⟩,
    ⟨some 8, .ld 7 1 false, none⟩,
    ⟨some 9, .call 37 [(.t 6), (.t 8)], none⟩,
    ⟨some 10, .nt (.t 9), none⟩] [10])
  (.cond (.t 10) (.seq (.reg [⟨some 4, .asg (.c (.bool false)), none⟩] [4])
  (.ret)) (.skip))))
  (.seq (.reg [⟨some 4, .asg (.c (.bool true)), none⟩] [4])
  (.ret)))
theorem con_laws_eqGeo {v0 : XGeo} {v1 : XGeo} {r : Bool} (h : sh_laws_eqGeo v0 v1 = some r) : Con Try.prog 18 [(cXGeo (cLs cI rfl)).enc v0, (cXGeo (cLs cI rfl)).enc v1] [] (rs_laws_eqGeo r) := by
  delta sh_laws_eqGeo at h
  refine top (out := none) (f := Try.f18) (m := m18) (rs := [.t 4]) (by kernel_rfl) rfl (by kernel_rfl) (by kernel_rfl) (by kernel_rfl) (by kernel_rfl) (by kernel_rfl) ?_
  exact
   ini [(0, .d ((cXGeo (cLs cI rfl)).enc v0)), (1, .d ((cXGeo (cLs cI rfl)).enc v1))] rfl <| wpC_seq <| reg_s <| x_box (ss rfl rfl) <| x_box (ss rfl rfl) <| x_asg (sc cB false rfl) <| seqN [(2, .box ((cXGeo (cLs cI rfl)).enc v0)), (3, .box ((cXGeo (cLs cI rfl)).enc v1))] (by kernel_rfl) <|
    xn <| wpC_seq <| wpC_kp <| wpC_seq <| reg_s <| st rfl <| fab rfl rfl rfl rfl <| st rfl <| lda rfl rfl rfl rfl rfl rfl <| st rfl <| fab rfl rfl rfl rfl <| st rfl <| lda rfl rfl rfl rfl rfl rfl <| bnd h fun x8 e9 h => st rfl <| o_call (a1 (c := (cLs cI rfl)) (tLs tK) rfl (a1 (c := (cLs cI rfl)) (tLs tK) rfl a0)) (con_laws_eqIntS e9) (.inl (so1 sB so0)) <| st rfl <| o_nt rfl <| seqN [(10, .d (cB.enc (!x8)))] (by kernel_rfl) <|
    xn <| cnd rfl h (fun b10 h => wpC_seq <| reg_s <| x_asg (sc cB false rfl) <| seqN [(4, .d (cB.enc false))] (by kernel_rfl) <|
    xn <| wpC_ret <| rt <| rt <| re <| fin h (r1 (ss rfl rfl) <| r0) rfl)
    (fun b10 h => wpC_skip <| kpN [] (by kernel_rfl) <| xn <| wpC_seq <| reg_s <| x_asg (sc cB true rfl) <| seqN [(4, .d (cB.enc true))] (by kernel_rfl) <|
    xn <| wpC_ret <| re <| fin h (r1 (ss rfl rfl) <| r0) rfl)

def rs_laws_eqVariable (r : Bool) : List D := [cB.enc r]
def m62 : MC := .seq (.reg [⟨some 2, .box (.t 0), none⟩,
    ⟨some 3, .box (.t 1), none⟩,
    ⟨some 4, .asg (.c (.bool false)), none⟩] [2, 3])
  (.seq (.kp [2, 3] (.seq (.reg [⟨some 5, .fa 2 0 0, none⟩,
    ⟨some 6, .ld 5 1 false, none⟩,
    ⟨some 7, .fa 3 0 0, none⟩,
    ⟨some 8, .ld 7 1 false, none⟩,
    ⟨some 9, .bin .neq (.t 6) (.t 8), none⟩] [2, 3, 9])
  (.cond (.t 9) (.seq (.reg [⟨some 4, .asg (.c (.bool false)), none⟩] [4])
  (.ret)) (.skip))))
  (.seq (.kp [] (.seq (.reg [⟨some 10, .fa 2 1 1, none⟩,
    ⟨some 11, .ld 10 1 false, none⟩,
    ⟨some 12, .fa 3 1 1, none⟩,
    ⟨some 13, .ld 12 1 false, none⟩,
    ⟨some 14, .bin .neq (.t 11) (.t 13), none⟩] [14])
  (.cond (.t 14) (.seq (.reg [⟨some 4, .asg (.c (.bool false)), none⟩] [4])
  (.ret)) (.skip))))
  (.seq (.reg [⟨some 4, .asg (.c (.bool true)), none⟩] [4])
  (.ret))))
theorem con_laws_eqVariable {v0 : XVariable} {v1 : XVariable} {r : Bool} (h : sh_laws_eqVariable v0 v1 = some r) : Con Try.prog 62 [(cXVariable cS cI).enc v0, (cXVariable cS cI).enc v1] [] (rs_laws_eqVariable r) := by
  delta sh_laws_eqVariable at h
  refine top (out := none) (f := Try.f62) (m := m62) (rs := [.t 4]) (by kernel_rfl) rfl (by kernel_rfl) (by kernel_rfl) (by kernel_rfl) (by kernel_rfl) (by kernel_rfl) ?_
  exact
   ini [(0, .d ((cXVariable cS cI).enc v0)), (1, .d ((cXVariable cS cI).enc v1))] rfl <| wpC_seq <| reg_s <| x_box (ss rfl rfl) <| x_box (ss rfl rfl) <| x_asg (sc cB false rfl) <| seqN [(2, .box ((cXVariable cS cI).enc v0)), (3, .box ((cXVariable cS cI).enc v1))] (by kernel_rfl) <|
    xn <| wpC_seq <| wpC_kp <| wpC_seq <| reg_s <| st rfl <| fab rfl rfl rfl rfl <| st rfl <| lda rfl rfl rfl rfl rfl rfl <| st rfl <| fab rfl rfl rfl rfl <| st rfl <| lda rfl rfl rfl rfl rfl rfl <| st rfl <| b_sne rfl rfl <| seqN [(2, .box ((cXVariable cS cI).enc v0)), (3, .box ((cXVariable cS cI).enc v1)), (9, .d (cB.enc (decide (v0.Name ≠ v1.Name))))] (by kernel_rfl) <|
    xn <| cnd rfl h (fun b2 h => wpC_seq <| reg_s <| x_asg (sc cB false rfl) <| seqN [(4, .d (cB.enc false))] (by kernel_rfl) <|
    xn <| wpC_ret <| rt <| rt <| re <| fin h (r1 (ss rfl rfl) <| r0) rfl)
    (fun b2 h => wpC_skip <| kpN [(2, .box ((cXVariable cS cI).enc v0)), (3, .box ((cXVariable cS cI).enc v1))] (by kernel_rfl) <| xn <| wpC_seq <| wpC_kp <| wpC_seq <| reg_s <| st rfl <| fab rfl rfl rfl rfl <| st rfl <| lda rfl rfl rfl rfl rfl rfl <| st rfl <| fab rfl rfl rfl rfl <| st rfl <| lda rfl rfl rfl rfl rfl rfl <| st rfl <| b_neq (k := .i64) rfl rfl <| seqN [(14, .d (cB.enc (decide (v0.Levels ≠ v1.Levels))))] (by kernel_rfl) <|
    xn <| cnd rfl h (fun b4 h => wpC_seq <| reg_s <| x_asg (sc cB false rfl) <| seqN [(4, .d (cB.enc false))] (by kernel_rfl) <|
    xn <| wpC_ret <| rt <| rt <| re <| fin h (r1 (ss rfl rfl) <| r0) rfl)
    (fun b4 h => wpC_skip <| kpN [] (by kernel_rfl) <| xn <| wpC_seq <| reg_s <| x_asg (sc cB true rfl) <| seqN [(4, .d (cB.enc true))] (by kernel_rfl) <|
    xn <| wpC_ret <| re <| fin h (r1 (ss rfl rfl) <| r0) rfl))

def rs_laws_eqVariableS (r : Bool) : List D := [cB.enc r]
def m19 : MC := .seq (.reg [⟨some 4, .asg (.c (.bool false)), none⟩] [0, 1])
  (.seq (.kp [0, 1] (.seq (.reg [⟨some 6, .mv (.t 0), none⟩,
    ⟨some 7, .len false (.t 6), none⟩,
    ⟨some 8, .mv (.t 1), none⟩,
    ⟨some 9, .len false (.t 8), none⟩,
    ⟨some 10, .bin .neq (.t 7) (.t 9), none⟩] [0, 1, 10])
  (.cond (.t 10) (.seq (.reg [⟨some 4, .asg (.c (.bool false)), none⟩] [4])
  (.ret)) (.skip))))
  (.seq (.kp [] (.seq (.reg [⟨some 5, .asg (.c (.int .i64 0)), none⟩] [0, 1, 5])
  (.blk 0 (.loop (.seq (.kp [0, 1, 5] (.seq (.reg [⟨some 11, .mv (.t 5), none⟩,
    ⟨some 12, .mv (.t 0), none⟩,
    ⟨some 13, .len false (.t 12), none⟩,
    ⟨some 14, .bin .lss (.t 11) (.t 13), none⟩] [0, 1, 5, 14])
  (.cond (.t 14) (.skip) (.exit 0))))
  (.seq (.kp [0, 1, 5] (.blk 1 (.seq (.drw [⟨0, ⟨some 17, .mv (.t 0), none⟩, [18, 19, 20, 21, 22, 23, 24, 25, 26]⟩,
    ⟨1, ⟨some 18, .mv (.t 5), none⟩, [17, 19, 20, 21, 22, 23, 24, 25, 26]⟩,
    ⟨2, ⟨some 19, .ia 17 (.t 18) 2, none⟩, [20, 21, 22, 23, 24, 25, 26]⟩,
    ⟨3, ⟨some 20, .ld 19 2 true, none⟩, [21, 22, 23, 24, 25, 26]⟩,
    ⟨4, ⟨some 21, .mv (.t 1), none⟩, [17, 18, 19, 20, 22, 23, 24, 25, 26]⟩,
    ⟨5, ⟨some 22, .mv (.t 5), none⟩, [17, 18, 19, 20, 21, 23, 24, 25, 26]⟩,
    ⟨6, ⟨some 23, .ia 21 (.t 22) 2, none⟩, [17, 18, 19, 20, 24, 25, 26]⟩,
    ⟨7, ⟨some 24, .ld 23 2 true, none⟩, [17, 18, 19, 20, 25, 26]⟩,
    ⟨8, ⟨some 25, .call 62 [(.t 20), (.t 24)], none⟩, [26]⟩,
    ⟨9, ⟨some 26, .nt (.t 25), none⟩, []⟩]
    [] [0, 1, 5, 26])
  (.cond (.t 26) (.seq (.reg [⟨some 4, .asg (.c (.bool false)), none⟩] [4])
  (.ret)) (.skip)))))
  (.reg [⟨some 15, .mv (.t 5), none⟩,
    ⟨some 16, .bin .add (.t 15) (.c (.int .i64 1)), none⟩,
    ⟨some 5, .asg (.t 16), none⟩] [0, 1, 5])))))))
  (.seq (.reg [⟨some 4, .asg (.c (.bool true)), none⟩] [4])
  (.ret))))
theorem con_laws_eqVariableS {v0 : (List XVariable)} {v1 : (List XVariable)} {r : Bool} (h : sh_laws_eqVariableS v0 v1 = some r) : Con Try.prog 19 [(cLs (cXVariable cS cI) rfl).enc v0, (cLs (cXVariable cS cI) rfl).enc v1] [] (rs_laws_eqVariableS r) := by
  delta sh_laws_eqVariableS at h
  refine top (out := none) (f := Try.f19) (m := m19) (rs := [.t 4]) (by kernel_rfl) rfl (by kernel_rfl) (by kernel_rfl) (by kernel_rfl) (by kernel_rfl) (by kernel_rfl) ?_
  exact
   ini [(0, .d ((cLs (cXVariable cS cI) rfl).enc v0)), (1, .d ((cLs (cXVariable cS cI) rfl).enc v1))] rfl <| wpC_seq <| reg_s <| x_asg (sc cB false rfl) <| seqN [(0, .d ((cLs (cXVariable cS cI) rfl).enc v0)), (1, .d ((cLs (cXVariable cS cI) rfl).enc v1))] (by kernel_rfl) <|
    xn <| wpC_seq <| wpC_kp <| wpC_seq <| reg_s <| st rfl <| mvd rfl rfl <| stw rfl <| lens rfl fun l8 => st rfl <| mvd rfl rfl <| stw rfl <| lens rfl fun l9 => st rfl <| b_neq (k := .i64) rfl rfl <| seqN [(0, .d ((cLs (cXVariable cS cI) rfl).enc v0)), (1, .d ((cLs (cXVariable cS cI) rfl).enc v1)), (10, .d (cB.enc (decide ((v0.length : Int) ≠ (v1.length : Int)))))] (by kernel_rfl) <|
    xn <| cnd rfl h (fun b10 h => wpC_seq <| reg_s <| x_asg (sc cB false rfl) <| seqN [(4, .d (cB.enc false))] (by kernel_rfl) <|
    xn <| wpC_ret <| rt <| rt <| re <| fin h (r1 (ss rfl rfl) <| r0) rfl)
    (fun b10 h => wpC_skip <| kpN [(0, .d ((cLs (cXVariable cS cI) rfl).enc v0)), (1, .d ((cLs (cXVariable cS cI) rfl).enc v1))] (by kernel_rfl) <| xn <| wpC_seq <| wpC_kp <| wpC_seq <| reg_s <| x_asg (sc cI (0 : Int) rfl) <| seqN [(0, .d ((cLs (cXVariable cS cI) rfl).enc v0)), (1, .d ((cLs (cXVariable cS cI) rfl).enc v1)), (5, .d (cI.enc (0 : Int)))] (by kernel_rfl) <|
    xn <| wpC_blk <| lpF (fun (s142 : Int) => [(0, .d ((cLs (cXVariable cS cI) rfl).enc v0)), (1, .d ((cLs (cXVariable cS cI) rfl).enc v1)), (5, .d (cI.enc s142))]) (0 : Int) rfl h
    fun G231 nx229 s142 hn230 h => wpC_seq <| wpC_kp <| wpC_seq <| reg_s <| st rfl <| mvd rfl rfl <| st rfl <| mvd rfl rfl <| stw rfl <| lens rfl fun l236 => st rfl <| b_lss (k := .i64) rfl rfl <| seqN [(0, .d ((cLs (cXVariable cS cI) rfl).enc v0)), (1, .d ((cLs (cXVariable cS cI) rfl).enc v1)), (5, .d (cI.enc s142)), (14, .d (cB.enc (decide (s142 < (v0.length : Int)))))] (by kernel_rfl) <|
    xn <| cnd rfl h (fun b237 h => wpC_skip <| kpN [(0, .d ((cLs (cXVariable cS cI) rfl).enc v0)), (1, .d ((cLs (cXVariable cS cI) rfl).enc v1)), (5, .d (cI.enc s142))] (by kernel_rfl) <| xn <| wpC_seq <| wpC_kp <| wpC_blk <| wpC_seq <| drw_s <| pst rfl <| mvd rfl rfl ⟨rfl, pst rfl <| mvd rfl rfl ⟨rfl, getO_kp h fun x263 i264 g265 h => pst rfl <| ias rfl rfl i264 g265 rfl ⟨rfl, pst rfl <| ldi rfl rfl rfl rfl ⟨rfl, pst rfl <| mvd rfl rfl ⟨rfl, pst rfl <| mvd rfl rfl ⟨rfl, getO_kp h fun x266 i267 g268 h => pst rfl <| ias rfl rfl i267 g268 rfl ⟨rfl, pst rfl <| ldi rfl rfl rfl rfl ⟨rfl, bndp h fun x269 e270 h => pst rfl <| o_call (a1 (c := (cXVariable cS cI)) (tXVariable tS tK) rfl (a1 (c := (cXVariable cS cI)) (tXVariable tS tK) rfl a0)) (con_laws_eqVariable e270) (.inl (so1 sB so0)) ⟨rfl, pst rfl <| o_nt rfl ⟨rfl, preN <| seqN [(0, .d ((cLs (cXVariable cS cI) rfl).enc v0)), (1, .d ((cLs (cXVariable cS cI) rfl).enc v1)), (5, .d (cI.enc s142)), (26, .d (cB.enc (!x269)))] (by kernel_rfl) <|
    xn <| cnd rfl h (fun b271 h => wpC_seq <| reg_s <| x_asg (sc cB false rfl) <| seqN [(4, .d (cB.enc false))] (by kernel_rfl) <|
    xn <| wpC_ret <| rb <| rt <| rt <| rt <| rb <| rt <| rt <| re <| fin h (r1 (ss rfl rfl) <| r0) rfl)
    (fun b271 h => wpC_skip <| xbb <| kpN [(0, .d ((cLs (cXVariable cS cI) rfl).enc v0)), (1, .d ((cLs (cXVariable cS cI) rfl).enc v1)), (5, .d (cI.enc s142))] (by kernel_rfl) <| xn <| reg_s <| st rfl <| mvd rfl rfl <| ckI_k h fun i272 h => st rfl <| b_add (k := .i64) rfl rfl i272 <| x_asg (ss rfl rfl) <| seqN [(0, .d ((cLs (cXVariable cS cI) rfl).enc v0)), (1, .d ((cLs (cXVariable cS cI) rfl).enc v1)), (5, .d (cI.enc (s142 + (1 : Int))))] (by kernel_rfl) <|
    xn <| hn230 (s142 + (1 : Int)) h)⟩⟩⟩⟩⟩⟩⟩⟩⟩⟩)
    (fun b237 h => wpC_exit <| xt <| xt <| xt <| xb <| kpN [] (by kernel_rfl) <| xn <| wpC_seq <| reg_s <| x_asg (sc cB true rfl) <| seqN [(4, .d (cB.enc true))] (by kernel_rfl) <|
    xn <| wpC_ret <| re <| fin h (r1 (ss rfl rfl) <| r0) rfl))

def rs_laws_eqTable (r : Bool) : List D := [cB.enc r]
def m27 : MC := .seq (.reg [⟨some 2, .box (.t 0), none⟩,
    ⟨some 3, .box (.t 1), none⟩,
    ⟨some 4, .asg (.c (.bool false)), none⟩] [2, 3])
  (.seq (.kp [2, 3] (.seq (.reg [⟨some 5, .fa 2 0 0, none⟩,
    ⟨some 6, .ld 5 1 false, none⟩,
    ⟨some 7, .fa 3 0 0, none⟩,
    ⟨some 8, .ld 7 1 false, none⟩,
    ⟨some 9, .bin .neq (.t 6) (.t 8), none⟩] [2, 3, 9])
  (.cond (.t 9) (.seq (.reg [⟨some 4, .asg (.c (.bool false)), none⟩] [4])
  (.ret)) (.skip))))
  (.seq (.kp [2, 3] (.seq (.reg [⟨some 10, .fa 2 1 1, none⟩,
    ⟨some 11, .ld 10 1 false, none⟩,
    ⟨some 12, .fa 3 1 1, none⟩,
    ⟨some 13, .ld 12 1 false, none⟩,
    ⟨some 14, .call 37 [(.t 11), (.t 13)], none⟩,
    ⟨some 15, .nt (.t 14), none⟩] [2, 3, 15])
  (.cond (.t 15) (.seq (.reg [⟨some 4, .asg (.c (.bool false)), none⟩] [4])
  (.ret)) (.skip))))
  (.seq (.kp [2, 3] (.seq (.reg [⟨some 16, .fa 2 2 2, none⟩,
    ⟨some 17, .ld 16 1 false, none⟩,
    ⟨some 18, .fa 3 2 2, none⟩,
    ⟨some 19, .ld 18 1 false, none⟩,
    ⟨some 20, .call 37 [(.t 17), (.t 19)], none⟩,
    ⟨some 21, .nt (.t 20), none⟩] [2, 3, 21])
  (.cond (.t 21) (.seq (.reg [⟨some 4, .asg (.c (.bool false)), none⟩] [4])
  (.ret)) (.skip))))
  (.seq (.kp [] (.seq (.reg [⟨some 22, .fa 2 3 3, none⟩,
    ⟨some 23, .ld 22 1 false, none⟩,
    ⟨some 24, .fa 3 3 3, none⟩,
    ⟨some 25, .ld 24 1 false, none⟩,
    ⟨some 26, .bin .neq (.t 23) (.t 25), none⟩] [26])
  (.cond (.t 26) (.seq (.reg [⟨some 4, .asg (.c (.bool false)), none⟩] [4])
  (.ret)) (.skip))))
  (.seq (.reg [⟨some 4, .asg (.c (.bool true)), none⟩] [4])
  (.ret))))))
theorem con_laws_eqTable {v0 : XTable} {v1 : XTable} {r : Bool} (h : sh_laws_eqTable v0 v1 = some r) : Con Try.prog 27 [(cXTable cI (cLs cI rfl) (cLs cI rfl) cI).enc v0, (cXTable cI (cLs cI rfl) (cLs cI rfl) cI).enc v1] [] (rs_laws_eqTable r) := by
  delta sh_laws_eqTable at h
  refine top (out := none) (f := Try.f27) (m := m27) (rs := [.t 4]) (by kernel_rfl) rfl (by kernel_rfl) (by kernel_rfl) (by kernel_rfl) (by kernel_rfl) (by kernel_rfl) ?_
  exact
   ini [(0, .d ((cXTable cI (cLs cI rfl) (cLs cI rfl) cI).enc v0)), (1, .d ((cXTable cI (cLs cI rfl) (cLs cI rfl) cI).enc v1))] rfl <| wpC_seq <| reg_s <| x_box (ss rfl rfl) <| x_box (ss rfl rfl) <| x_asg (sc cB false rfl) <| seqN [(2, .box ((cXTable cI (cLs cI rfl) (cLs cI rfl) cI).enc v0)), (3, .box ((cXTable cI (cLs cI rfl) (cLs cI rfl) cI).enc v1))] (by kernel_rfl) <|
    xn <| wpC_seq <| wpC_kp <| wpC_seq <| reg_s <| st rfl <| fab rfl rfl rfl rfl <| st rfl <| lda rfl rfl rfl rfl rfl rfl <| st rfl <| fab rfl rfl rfl rfl <| st rfl <| lda rfl rfl rfl rfl rfl rfl <| st rfl <| b_neq (k := .i64) rfl rfl <| seqN [(2, .box ((cXTable cI (cLs cI rfl) (cLs cI rfl) cI).enc v0)), (3, .box ((cXTable cI (cLs cI rfl) (cLs cI rfl) cI).enc v1)), (9, .d (cB.enc (decide (v0.Level ≠ v1.Level))))] (by kernel_rfl) <|
    xn <| cnd rfl h (fun b2 h => wpC_seq <| reg_s <| x_asg (sc cB false rfl) <| seqN [(4, .d (cB.enc false))] (by kernel_rfl) <|
    xn <| wpC_ret <| rt <| rt <| re <| fin h (r1 (ss rfl rfl) <| r0) rfl)
    (fun b2 h => wpC_skip <| kpN [(2, .box ((cXTable cI (cLs cI rfl) (cLs cI rfl) cI).enc v0)), (3, .box ((cXTable cI (cLs cI rfl) (cLs cI rfl) cI).enc v1))] (by kernel_rfl) <| xn <| wpC_seq <| wpC_kp <| wpC_seq <| reg_s <| st rfl <| fab rfl rfl rfl rfl <| st rfl <| lda rfl rfl rfl rfl rfl rfl <| st rfl <| fab rfl rfl rfl rfl <| st rfl <| lda rfl rfl rfl rfl rfl rfl <| bnd h fun x10 e11 h => st rfl <| o_call (a1 (c := (cLs cI rfl)) (tLs tK) rfl (a1 (c := (cLs cI rfl)) (tLs tK) rfl a0)) (con_laws_eqIntS e11) (.inl (so1 sB so0)) <| st rfl <| o_nt rfl <| seqN [(2, .box ((cXTable cI (cLs cI rfl) (cLs cI rfl) cI).enc v0)), (3, .box ((cXTable cI (cLs cI rfl) (cLs cI rfl) cI).enc v1)), (15, .d (cB.enc (!x10)))] (by kernel_rfl) <|
    xn <| cnd rfl h (fun b12 h => wpC_seq <| reg_s <| x_asg (sc cB false rfl) <| seqN [(4, .d (cB.enc false))] (by kernel_rfl) <|
    xn <| wpC_ret <| rt <| rt <| re <| fin h (r1 (ss rfl rfl) <| r0) rfl)
    (fun b12 h => wpC_skip <| kpN [(2, .box ((cXTable cI (cLs cI rfl) (cLs cI rfl) cI).enc v0)), (3, .box ((cXTable cI (cLs cI rfl) (cLs cI rfl) cI).enc v1))] (by kernel_rfl) <| xn <| wpC_seq <| wpC_kp <| wpC_seq <| reg_s <| st rfl <| fab rfl rfl rfl rfl <| st rfl <| lda rfl rfl rfl rfl rfl rfl <| st rfl <| fab rfl rfl rfl rfl <| st rfl <| lda rfl rfl rfl rfl rfl rfl <| bnd h fun x20 e21 h => st rfl <| o_call (a1 (c := (cLs cI rfl)) (tLs tK) rfl (a1 (c := (cLs cI rfl)) (tLs tK) rfl a0)) (con_laws_eqIntS e21) (.inl (so1 sB so0)) <| st rfl <| o_nt rfl <| seqN [(2, .box ((cXTable cI (cLs cI rfl) (cLs cI rfl) cI).enc v0)), (3, .box ((cXTable cI (cLs cI rfl) (cLs cI rfl) cI).enc v1)), (21, .d (cB.enc (!x20)))] (by kernel_rfl) <|
    xn <| cnd rfl h (fun b22 h => wpC_seq <| reg_s <| x_asg (sc cB false rfl) <| seqN [(4, .d (cB.enc false))] (by kernel_rfl) <|
    xn <| wpC_ret <| rt <| rt <| re <| fin h (r1 (ss rfl rfl) <| r0) rfl)
    (fun b22 h => wpC_skip <| kpN [(2, .box ((cXTable cI (cLs cI rfl) (cLs cI rfl) cI).enc v0)), (3, .box ((cXTable cI (cLs cI rfl) (cLs cI rfl) cI).enc v1))] (by kernel_rfl) <| xn <| wpC_seq <| wpC_kp <| wpC_seq <| reg_s <| st rfl <| fab rfl rfl rfl rfl <| st rfl <| lda rfl rfl rfl rfl rfl rfl <| st rfl <| fab rfl rfl rfl rfl <| st rfl <| lda rfl rfl rfl rfl rfl rfl <| st rfl <| b_neq (k := .i64) rfl rfl <| seqN [(26, .d (cB.enc (decide (v0.Sum ≠ v1.Sum))))] (by kernel_rfl) <|
    xn <| cnd rfl h (fun b24 h => wpC_seq <| reg_s <| x_asg (sc cB false rfl) <| seqN [(4, .d (cB.enc false))] (by kernel_rfl) <|
    xn <| wpC_ret <| rt <| rt <| re <| fin h (r1 (ss rfl rfl) <| r0) rfl)
    (fun b24 h => wpC_skip <| kpN [] (by kernel_rfl) <| xn <| wpC_seq <| reg_s <| x_asg (sc cB true rfl) <| seqN [(4, .d (cB.enc true))] (by kernel_rfl) <|
    xn <| wpC_ret <| re <| fin h (r1 (ss rfl rfl) <| r0) rfl))))

def rs_laws_eqRecord (r : Bool) : List D := [cB.enc r]
def m28 : MC := .seq (.reg [⟨some 2, .box (.t 0), none⟩,
    ⟨some 3, .box (.t 1), none⟩,
    ⟨some 4, .asg (.c (.bool false)), none⟩] [2, 3])
  (.seq (.kp [2, 3] (.seq (.reg [⟨some 5, .fa 2 0 0, none⟩,
    ⟨some 6, .ld 5 1 false, none⟩,
    ⟨some 7, .fa 3 0 0, none⟩,
    ⟨some 8, .ld 7 1 false, none⟩,
    ⟨some 9, .bin .neq (.t 6) (.t 8), none⟩] [2, 3, 9])
  (.cond (.t 9) (.seq (.reg [⟨some 4, .asg (.c (.bool false)), none⟩] [4])
  (.ret)) (.skip))))
  (.seq (.kp [2, 3] (.seq (.reg [⟨some 10, .fa 2 1 1, none⟩,
    ⟨some 11, .ld 10 1 false, none⟩,
    ⟨some 12, .fa 3 1 1, none⟩,
    ⟨some 13, .ld 12 1 false, none⟩,
    ⟨some 14, .bin .neq (.t 11) (.t 13), none⟩] [2, 3, 14])
  (.cond (.t 14) (.seq (.reg [⟨some 4, .asg (.c (.bool false)), none⟩] [4])
  (.ret)) (.skip))))
  (.seq (.kp [] (.seq (.reg [⟨some 15, .fa 2 2 2, none⟩,
    ⟨some 16, .ld 15 1 false, none⟩,
    ⟨some 17, .fa 3 2 2, none⟩,
    ⟨some 18, .ld 17 1 false, none⟩,
    ⟨some 19, .call 37 [(.t 16), (.t 18)], none⟩,
    ⟨some 20, .nt (.t 19), none⟩] [20])
  (.cond (.t 20) (.seq (.reg [⟨some 4, .asg (.c (.bool false)), none⟩] [4])
  (.ret)) (.skip))))
  (.seq (.reg [⟨some 4, .asg (.c (.bool true)), none⟩] [4])
  (.ret)))))
theorem con_laws_eqRecord {v0 : XRecord} {v1 : XRecord} {r : Bool} (h : sh_laws_eqRecord v0 v1 = some r) : Con Try.prog 28 [(cXRecord cI cI (cLs cI rfl)).enc v0, (cXRecord cI cI (cLs cI rfl)).enc v1] [] (rs_laws_eqRecord r) := by
  delta sh_laws_eqRecord at h
  refine top (out := none) (f := Try.f28) (m := m28) (rs := [.t 4]) (by kernel_rfl) rfl (by kernel_rfl) (by kernel_rfl) (by kernel_rfl) (by kernel_rfl) (by kernel_rfl) ?_
  exact
   ini [(0, .d ((cXRecord cI cI (cLs cI rfl)).enc v0)), (1, .d ((cXRecord cI cI (cLs cI rfl)).enc v1))] rfl <| wpC_seq <| reg_s <| x_box (ss rfl rfl) <| x_box (ss rfl rfl) <| x_asg (sc cB false rfl) <| seqN [(2, .box ((cXRecord cI cI (cLs cI rfl)).enc v0)), (3, .box ((cXRecord cI cI (cLs cI rfl)).enc v1))] (by kernel_rfl) <|
    xn <| wpC_seq <| wpC_kp <| wpC_seq <| reg_s <| st rfl <| fab rfl rfl rfl rfl <| st rfl <| lda rfl rfl rfl rfl rfl rfl <| st rfl <| fab rfl rfl rfl rfl <| st rfl <| lda rfl rfl rfl rfl rfl rfl <| st rfl <| b_neq (k := .i64) rfl rfl <| seqN [(2, .box ((cXRecord cI cI (cLs cI rfl)).enc v0)), (3, .box ((cXRecord cI cI (cLs cI rfl)).enc v1)), (9, .d (cB.enc (decide (v0.Area ≠ v1.Area))))] (by kernel_rfl) <|
    xn <| cnd rfl h (fun b2 h => wpC_seq <| reg_s <| x_asg (sc cB false rfl) <| seqN [(4, .d (cB.enc false))] (by kernel_rfl) <|
    xn <| wpC_ret <| rt <| rt <| re <| fin h (r1 (ss rfl rfl) <| r0) rfl)
    (fun b2 h => wpC_skip <| kpN [(2, .box ((cXRecord cI cI (cLs cI rfl)).enc v0)), (3, .box ((cXRecord cI cI (cLs cI rfl)).enc v1))] (by kernel_rfl) <| xn <| wpC_seq <| wpC_kp <| wpC_seq <| reg_s <| st rfl <| fab rfl rfl rfl rfl <| st rfl <| lda rfl rfl rfl rfl rfl rfl <| st rfl <| fab rfl rfl rfl rfl <| st rfl <| lda rfl rfl rfl rfl rfl rfl <| st rfl <| b_neq (k := .i64) rfl rfl <| seqN [(2, .box ((cXRecord cI cI (cLs cI rfl)).enc v0)), (3, .box ((cXRecord cI cI (cLs cI rfl)).enc v1)), (14, .d (cB.enc (decide (v0.House ≠ v1.House))))] (by kernel_rfl) <|
    xn <| cnd rfl h (fun b4 h => wpC_seq <| reg_s <| x_asg (sc cB false rfl) <| seqN [(4, .d (cB.enc false))] (by kernel_rfl) <|
    xn <| wpC_ret <| rt <| rt <| re <| fin h (r1 (ss rfl rfl) <| r0) rfl)
    (fun b4 h => wpC_skip <| kpN [(2, .box ((cXRecord cI cI (cLs cI rfl)).enc v0)), (3, .box ((cXRecord cI cI (cLs cI rfl)).enc v1))] (by kernel_rfl) <| xn <| wpC_seq <| wpC_kp <| wpC_seq <| reg_s <| st rfl <| fab rfl rfl rfl rfl <| st rfl <| lda rfl rfl rfl rfl rfl rfl <| st rfl <| fab rfl rfl rfl rfl <| st rfl <| lda rfl rfl rfl rfl rfl rfl <| bnd h fun x12 e13 h => st rfl <| o_call (a1 (c := (cLs cI rfl)) (tLs tK) rfl (a1 (c := (cLs cI rfl)) (tLs tK) rfl a0)) (con_laws_eqIntS e13) (.inl (so1 sB so0)) <| st rfl <| o_nt rfl <| seqN [(20, .d (cB.enc (!x12)))] (by kernel_rfl) <|
    xn <| cnd rfl h (fun b14 h => wpC_seq <| reg_s <| x_asg (sc cB false rfl) <| seqN [(4, .d (cB.enc false))] (by kernel_rfl) <|
    xn <| wpC_ret <| rt <| rt <| re <| fin h (r1 (ss rfl rfl) <| r0) rfl)
    (fun b14 h => wpC_skip <| kpN [] (by kernel_rfl) <| xn <| wpC_seq <| reg_s <| x_asg (sc cB true rfl) <| seqN [(4, .d (cB.enc true))] (by kernel_rfl) <|
    xn <| wpC_ret <| re <| fin h (r1 (ss rfl rfl) <| r0) rfl)))
def rs_laws_szRecordS (r : Int) : List D := [cI.enc r]
def m44 : MC := .seq (.reg [⟨some 4, .asg (.c (.int .i64 0)), none⟩] [0, 1])
  (.seq (.reg [⟨some 6, .mv (.t 1), none⟩,
    ⟨some 7, .mv (.t 0), none⟩,
    ⟨some 8, .len false (.t 7), none⟩,
    ⟨some 9, .bin .sub (.t 6) (.t 8), none⟩,
    ⟨some 1, .asg (.t 9), none⟩] [0, 1])
  (.seq (.kp [0, 1] (.seq (.reg [⟨some 10, .mv (.t 1), none⟩,
    ⟨some 11, .bin .lss (.t 10) (.c (.int .i64 0)), none⟩] [0, 1, 11])
  (.cond (.t 11) (.seq (.reg [⟨some 4, .asg (.c (.int .i64 (-1))), none⟩] [4])
  (.ret)) (.skip))))
  (.seq (.kp [1] (.seq (.reg [⟨some 5, .asg (.c (.int .i64 0)), none⟩] [0, 1, 5])
  (.blk 0 (.loop (.seq (.kp [0, 1, 5] (.seq (.reg [⟨some 12, .mv (.t 5), none⟩,
    ⟨some 13, .mv (.t 0), none⟩,
    ⟨some 14, .len false (.t 13), none⟩,
    ⟨some 15, .bin .lss (.t 12) (.t 14), none⟩] [0, 1, 5, 15])
  (.cond (.t 15) (.skip) (.exit 0))))
  (.seq (.kp [0, 1, 5] (.blk 1 (.seq (.reg [⟨some 18, .mv (.t 0), none⟩,
    ⟨some 19, .mv (.t 5), none⟩,
    ⟨some 20, .ia 18 (.t 19) 3, none⟩,
    ⟨some 21, .ld 20 3 true, none⟩,
    ⟨some 22, .mv (.t 1), none⟩,
    ⟨some 23, .call 22 [(.t 21), (.t 22)], none⟩,
    ⟨some 1, .asg (.t 23), none⟩] [0, 1, 5])
  (.seq (.reg [⟨some 24, .mv (.t 1), none⟩,
    ⟨some 25, .bin .lss (.t 24) (.c (.int .i64 0)), none⟩] [0, 1, 5, 25])
  (.cond (.t 25) (.seq (.reg [⟨some 4, .asg (.c (.int .i64 (-1))), none⟩] [4])
  (.ret)) (.skip))))))
  (.reg [⟨some 16, .mv (.t 5), none⟩,
    ⟨some 17, .bin .add (.t 16) (.c (.int .i64 1)), none⟩,
    ⟨some 5, .asg (.t 17), none⟩] [0, 1, 5])))))))
  (.seq (.reg [⟨some 26, .mv (.t 1), none⟩,
    ⟨some 4, .asg (.t 26), none⟩] [4])
  (.ret)))))
theorem con_laws_szRecordS {v0 : (List XRecord)} {v1 : Int} {r : Int} (h : sh_laws_szRecordS v0 v1 = some r) : Con Try.prog 44 [(cLs (cXRecord cI cI (cLs cI rfl)) rfl).enc v0, cI.enc v1] [] (rs_laws_szRecordS r) := by
  delta sh_laws_szRecordS at h
  refine top (out := none) (f := Try.f44) (m := m44) (rs := [.t 4]) (by kernel_rfl) rfl (by kernel_rfl) (by kernel_rfl) (by kernel_rfl) (by kernel_rfl) (by kernel_rfl) ?_
  exact
   ini [(0, .d ((cLs (cXRecord cI cI (cLs cI rfl)) rfl).enc v0)), (1, .d (cI.enc v1))] rfl <| wpC_seq <| reg_s <| x_asg (sc cI (0 : Int) rfl) <| seqN [(0, .d ((cLs (cXRecord cI cI (cLs cI rfl)) rfl).enc v0)), (1, .d (cI.enc v1))] (by kernel_rfl) <|
    xn <| wpC_seq <| reg_s <| st rfl <| mvd rfl rfl <| st rfl <| mvd rfl rfl <| stw rfl <| lens rfl fun l3 => ckI_k h fun i4 h => st rfl <| b_sub (k := .i64) rfl rfl i4 <| x_asg (ss rfl rfl) <| seqN [(0, .d ((cLs (cXRecord cI cI (cLs cI rfl)) rfl).enc v0)), (1, .d (cI.enc (v1 - (v0.length : Int))))] (by kernel_rfl) <|
    xn <| wpC_seq <| wpC_kp <| wpC_seq <| reg_s <| st rfl <| mvd rfl rfl <| st rfl <| b_lss (k := .i64) rfl rfl <| seqN [(0, .d ((cLs (cXRecord cI cI (cLs cI rfl)) rfl).enc v0)), (1, .d (cI.enc (v1 - (v0.length : Int)))), (11, .d (cB.enc (decide ((v1 - (v0.length : Int)) < (0 : Int)))))] (by kernel_rfl) <|
    xn <| cnd rfl h (fun b6 h => wpC_seq <| reg_s <| x_asg (sc cI (-1 : Int) rfl) <| seqN [(4, .d (cI.enc (-1 : Int)))] (by kernel_rfl) <|
    xn <| wpC_ret <| rt <| rt <| re <| fin h (r1 (ss rfl rfl) <| r0) rfl)
    (fun b6 h => wpC_skip <| kpN [(0, .d ((cLs (cXRecord cI cI (cLs cI rfl)) rfl).enc v0)), (1, .d (cI.enc (v1 - (v0.length : Int))))] (by kernel_rfl) <| xn <| wpC_seq <| wpC_kp <| wpC_seq <| reg_s <| x_asg (sc cI (0 : Int) rfl) <| seqN [(0, .d ((cLs (cXRecord cI cI (cLs cI rfl)) rfl).enc v0)), (1, .d (cI.enc (v1 - (v0.length : Int)))), (5, .d (cI.enc (0 : Int)))] (by kernel_rfl) <|
    xn <| wpC_blk <| lpF (fun (s102 : (Int × Int)) => [(0, .d ((cLs (cXRecord cI cI (cLs cI rfl)) rfl).enc v0)), (1, .d (cI.enc s102.1)), (5, .d (cI.enc s102.2))]) ((v1 - (v0.length : Int)), (0 : Int)) rfl h
    fun G167 nx165 s102 hn166 h => wpC_seq <| wpC_kp <| wpC_seq <| reg_s <| st rfl <| mvd rfl rfl <| st rfl <| mvd rfl rfl <| stw rfl <| lens rfl fun l172 => st rfl <| b_lss (k := .i64) rfl rfl <| seqN [(0, .d ((cLs (cXRecord cI cI (cLs cI rfl)) rfl).enc v0)), (1, .d (cI.enc s102.1)), (5, .d (cI.enc s102.2)), (15, .d (cB.enc (decide (s102.2 < (v0.length : Int)))))] (by kernel_rfl) <|
    xn <| cnd rfl h (fun b173 h => wpC_skip <| kpN [(0, .d ((cLs (cXRecord cI cI (cLs cI rfl)) rfl).enc v0)), (1, .d (cI.enc s102.1)), (5, .d (cI.enc s102.2))] (by kernel_rfl) <| xn <| wpC_seq <| wpC_kp <| wpC_blk <| wpC_seq <| reg_s <| st rfl <| mvd rfl rfl <| st rfl <| mvd rfl rfl <| getO_k h fun x190 i191 g192 h => st rfl <| ias rfl rfl i191 g192 rfl <| st rfl <| ldi rfl rfl rfl rfl <| st rfl <| mvd rfl rfl <| bnd h fun x193 e194 h => st rfl <| o_call (a1 (c := (cXRecord cI cI (cLs cI rfl))) (tXRecord tK tK (tLs tK)) rfl (a1 (c := cI) tK rfl a0)) (con_laws_szRecord e194) (.inl (so1 sK so0)) <| x_asg (ss rfl rfl) <| seqN [(0, .d ((cLs (cXRecord cI cI (cLs cI rfl)) rfl).enc v0)), (1, .d (cI.enc x193)), (5, .d (cI.enc s102.2))] (by kernel_rfl) <|
    xn <| wpC_seq <| reg_s <| st rfl <| mvd rfl rfl <| st rfl <| b_lss (k := .i64) rfl rfl <| seqN [(0, .d ((cLs (cXRecord cI cI (cLs cI rfl)) rfl).enc v0)), (1, .d (cI.enc x193)), (5, .d (cI.enc s102.2)), (25, .d (cB.enc (decide (x193 < (0 : Int)))))] (by kernel_rfl) <|
    xn <| cnd rfl h (fun b195 h => wpC_seq <| reg_s <| x_asg (sc cI (-1 : Int) rfl) <| seqN [(4, .d (cI.enc (-1 : Int)))] (by kernel_rfl) <|
    xn <| wpC_ret <| rb <| rt <| rt <| rt <| rb <| rt <| rt <| re <| fin h (r1 (ss rfl rfl) <| r0) rfl)
    (fun b195 h => wpC_skip <| xbb <| kpN [(0, .d ((cLs (cXRecord cI cI (cLs cI rfl)) rfl).enc v0)), (1, .d (cI.enc x193)), (5, .d (cI.enc s102.2))] (by kernel_rfl) <| xn <| reg_s <| st rfl <| mvd rfl rfl <| ckI_k h fun i196 h => st rfl <| b_add (k := .i64) rfl rfl i196 <| x_asg (ss rfl rfl) <| seqN [(0, .d ((cLs (cXRecord cI cI (cLs cI rfl)) rfl).enc v0)), (1, .d (cI.enc x193)), (5, .d (cI.enc (s102.2 + (1 : Int))))] (by kernel_rfl) <|
    xn <| hn166 (x193, (s102.2 + (1 : Int))) h))
    (fun b173 h => wpC_exit <| xt <| xt <| xt <| xb <| kpN [(1, .d (cI.enc s102.1))] (by kernel_rfl) <| xn <| wpC_seq <| reg_s <| st rfl <| mvd rfl rfl <| x_asg (ss rfl rfl) <| seqN [(4, .d (cI.enc s102.1))] (by kernel_rfl) <|
    xn <| wpC_ret <| re <| fin h (r1 (ss rfl rfl) <| r0) rfl))

def rs_laws_toRecordS (r : (List XRecord)) : List D := [(cLo (cXRecord cI cI (cLo cI))).enc r]
def m46 : MC := .seq (.reg [⟨some 2, .asg (.c (.slice true [])), none⟩] [0])
  (.seq (.reg [⟨some 5, .mv (.t 0), none⟩,
    ⟨some 6, .len false (.t 5), none⟩,
    ⟨some 7, .mk (.agg [.int .i64 0, .int .i64 0, .slice true []]) (.t 6), none⟩,
    ⟨some 3, .asg (.t 7), none⟩] [0, 3])
  (.seq (.kp [3] (.seq (.reg [⟨some 4, .asg (.c (.int .i64 0)), none⟩] [0, 3, 4])
  (.blk 0 (.loop (.seq (.kp [0, 3, 4] (.seq (.reg [⟨some 8, .mv (.t 4), none⟩,
    ⟨some 9, .mv (.t 0), none⟩,
    ⟨some 10, .len false (.t 9), none⟩,
    ⟨some 11, .bin .lss (.t 8) (.t 10), none⟩] [0, 3, 4, 11])
  (.cond (.t 11) (.skip) (.exit 0))))
  (.seq (.kp [0, 3, 4] (.blk 1 (.reg [⟨some 14, .mv (.t 3), none⟩,
    ⟨some 15, .mv (.t 4), none⟩,
    ⟨some 16, .mv (.t 0), none⟩,
    ⟨some 17, .mv (.t 4), none⟩,
    ⟨some 18, .ia 16 (.t 17) 3, none⟩,
    ⟨some 19, .ld 18 3 true, none⟩,
    ⟨some 20, .call 25 [(.t 19)], none⟩,
    ⟨some 21, .ia 14 (.t 15) 3, none⟩,
    ⟨none, .st 21 (.t 20) 3, none⟩] [0, 3, 4])))
  (.reg [⟨some 12, .mv (.t 4), none⟩,
    ⟨some 13, .bin .add (.t 12) (.c (.int .i64 1)), none⟩,
    ⟨some 4, .asg (.t 13), none⟩] [0, 3, 4])))))))
  (.seq (.reg [⟨some 22, .mv (.t 3), none⟩,
    ⟨some 2, .asg (.t 22), none⟩] [2])
  (.ret))))
theorem con_laws_toRecordS {v0 : (List XRecord)} {r : (List XRecord)} (h : sh_laws_toRecordS v0 = some r) : Con Try.prog 46 [(cLs (cXRecord cI cI (cLs cI rfl)) rfl).enc v0] [] (rs_laws_toRecordS r) := by
  delta sh_laws_toRecordS at h
  refine top (out := none) (f := Try.f46) (m := m46) (rs := [.t 2]) (by kernel_rfl) rfl (by kernel_rfl) (by kernel_rfl) (by kernel_rfl) (by kernel_rfl) (by kernel_rfl) ?_
  exact
   ini [(0, .d ((cLs (cXRecord cI cI (cLs cI rfl)) rfl).enc v0))] rfl <| wpC_seq <| reg_s <| x_asg (sc (cLo (cXRecord cI cI (cLo cI))) ([] : List XRecord) rfl) <| seqN [(0, .d ((cLs (cXRecord cI cI (cLs cI rfl)) rfl).enc v0))] (by kernel_rfl) <|
    xn <| wpC_seq <| reg_s <| st rfl <| mvd rfl rfl <| stw rfl <| lens rfl fun l4 => mkO_k h fun i5 l6 h => st rfl <| o_mk (c := (cXRecord cI cI (cLo cI))) (a0 := (⟨(0 : Int), (0 : Int), ([] : List Int)⟩ : XRecord)) rfl (k := .i64) rfl i5 l6 <| x_asg (so rfl rfl) <| seqN [(0, .d ((cLs (cXRecord cI cI (cLs cI rfl)) rfl).enc v0)), (3, .d ((cLo (cXRecord cI cI (cLo cI))).enc (List.replicate ((v0.length : Int)).toNat (⟨(0 : Int), (0 : Int), ([] : List Int)⟩ : XRecord))))] (by kernel_rfl) <|
    xn <| wpC_seq <| wpC_kp <| wpC_seq <| reg_s <| x_asg (sc cI (0 : Int) rfl) <| seqN [(0, .d ((cLs (cXRecord cI cI (cLs cI rfl)) rfl).enc v0)), (3, .d ((cLo (cXRecord cI cI (cLo cI))).enc (List.replicate ((v0.length : Int)).toNat (⟨(0 : Int), (0 : Int), ([] : List Int)⟩ : XRecord)))), (4, .d (cI.enc (0 : Int)))] (by kernel_rfl) <|
    xn <| wpC_blk <| lpF (fun (s84 : ((List XRecord) × Int)) => [(0, .d ((cLs (cXRecord cI cI (cLs cI rfl)) rfl).enc v0)), (3, .d ((cLo (cXRecord cI cI (cLo cI))).enc s84.1)), (4, .d (cI.enc s84.2))]) ((List.replicate ((v0.length : Int)).toNat (⟨(0 : Int), (0 : Int), ([] : List Int)⟩ : XRecord)), (0 : Int)) rfl h
    fun G137 nx135 s84 hn136 h => wpC_seq <| wpC_kp <| wpC_seq <| reg_s <| st rfl <| mvd rfl rfl <| st rfl <| mvd rfl rfl <| stw rfl <| lens rfl fun l142 => st rfl <| b_lss (k := .i64) rfl rfl <| seqN [(0, .d ((cLs (cXRecord cI cI (cLs cI rfl)) rfl).enc v0)), (3, .d ((cLo (cXRecord cI cI (cLo cI))).enc s84.1)), (4, .d (cI.enc s84.2)), (11, .d (cB.enc (decide (s84.2 < (v0.length : Int)))))] (by kernel_rfl) <|
    xn <| cnd rfl h (fun b143 h => wpC_skip <| kpN [(0, .d ((cLs (cXRecord cI cI (cLs cI rfl)) rfl).enc v0)), (3, .d ((cLo (cXRecord cI cI (cLo cI))).enc s84.1)), (4, .d (cI.enc s84.2))] (by kernel_rfl) <| xn <| wpC_seq <| wpC_kp <| wpC_blk <| reg_s <| st rfl <| mvo rfl rfl <| st rfl <| mvd rfl rfl <| st rfl <| mvd rfl rfl <| st rfl <| mvd rfl rfl <| getO_k h fun x152 i153 g154 h => st rfl <| ias rfl rfl i153 g154 rfl <| st rfl <| ldi rfl rfl rfl rfl <| bnd h fun x155 e156 h => st rfl <| o_call (a1 (c := (cXRecord cI cI (cLs cI rfl))) (tXRecord tK tK (tLs tK)) rfl a0) (con_laws_toRecord e156) (.inl (so1 (sXRecord sK sK (sLo sK)) so0)) <| getO_k h fun x157 i158 g159 h => st rfl <| iar rfl rfl rfl rfl i158 g159 rfl <| x_sta ((cLo (cXRecord cI cI (cLo cI))).enc (s84.1.set (s84.2).toNat x155)) (so rfl rfl) rfl rfl (Ln.idx g159 Ln.nil) (Cd.h_sz (cXRecord cI cI (cLo cI)) _) rfl <| seqN [(0, .d ((cLs (cXRecord cI cI (cLs cI rfl)) rfl).enc v0)), (3, .d ((cLo (cXRecord cI cI (cLo cI))).enc (s84.1.set (s84.2).toNat x155))), (4, .d (cI.enc s84.2))] (by kernel_rfl) <|
    xbb <| kpN [(0, .d ((cLs (cXRecord cI cI (cLs cI rfl)) rfl).enc v0)), (3, .d ((cLo (cXRecord cI cI (cLo cI))).enc (s84.1.set (s84.2).toNat x155))), (4, .d (cI.enc s84.2))] (by kernel_rfl) <| xn <| reg_s <| st rfl <| mvd rfl rfl <| ckI_k h fun i160 h => st rfl <| b_add (k := .i64) rfl rfl i160 <| x_asg (ss rfl rfl) <| seqN [(0, .d ((cLs (cXRecord cI cI (cLs cI rfl)) rfl).enc v0)), (3, .d ((cLo (cXRecord cI cI (cLo cI))).enc (s84.1.set (s84.2).toNat x155))), (4, .d (cI.enc (s84.2 + (1 : Int))))] (by kernel_rfl) <|
    xn <| hn136 ((s84.1.set (s84.2).toNat x155), (s84.2 + (1 : Int))) h)
    (fun b143 h => wpC_exit <| xt <| xt <| xt <| xb <| kpN [(3, .d ((cLo (cXRecord cI cI (cLo cI))).enc s84.1))] (by kernel_rfl) <| xn <| wpC_seq <| reg_s <| st rfl <| mvo rfl rfl <| x_asg (sr rfl rfl) <| seqN [(2, .d ((cLo (cXRecord cI cI (cLo cI))).enc s84.1))] (by kernel_rfl) <|
    xn <| wpC_ret <| re <| fin h (r1 (so rfl rfl) <| r0) rfl)

def rs_spec_dGood (r : Bool) : List D := [cB.enc r]
def m142 : MC := .seq (.reg [⟨some 4, .asg (.c (.bool false)), none⟩] [0, 1])
  (.seq (.kp [1] (.seq (.reg [⟨some 7, .mv (.t 1), none⟩,
    ⟨some 8, .len false (.t 7), none⟩,
    ⟨some 9, .mv (.c (.int .i64 0)), none⟩] [0, 1, 7, 8, 9])
  (.blk 0 (.loop (.seq (.reg [⟨some 10, .bin .lss (.t 9) (.t 8), none⟩] [0, 1, 7, 8, 9, 10])
  (.seq (.kp [0, 1, 7, 8, 9] (.cond (.t 10) (.skip) (.exit 0)))
  (.seq (.kp [0, 1, 7, 8, 9] (.blk 1 (.seq (.reg [⟨some 11, .ia 7 (.t 9) 3, none⟩,
    ⟨some 12, .ld 11 3 true, none⟩,
    ⟨some 6, .alloc (.agg [.int .i64 0, .int .i64 0, .slice true []]), none⟩,
    ⟨none, .st 6 (.t 12) 3, none⟩] [0, 1, 6, 7, 8, 9])
  (.seq (.reg [⟨some 13, .mv (.t 0), none⟩,
    ⟨some 14, .ld 6 3 true, none⟩,
    ⟨some 15, .call 64 [(.t 13), (.t 14)], none⟩,
    ⟨some 16, .nt (.t 15), none⟩] [0, 1, 7, 8, 9, 16])
  (.cond (.t 16) (.seq (.reg [⟨some 4, .asg (.c (.bool false)), none⟩] [4])
  (.ret)) (.skip))))))
  (.reg [⟨some 17, .bin .add (.t 9) (.c (.int .i64 1)), none⟩,
    ⟨some 9, .mv (.t 17), none⟩] [0, 1, 7, 8, 9]))))))))
  (.seq (.reg [⟨some 18, .mv (.t 1), none⟩,
    ⟨some 19, .len false (.t 18), none⟩,
    ⟨some 20, .bin .leq (.t 19) (.c (.int .i64 40)), none⟩,
    ⟨some 4, .asg (.t 20), none⟩] [4])
  (.ret)))
theorem con_spec_dGood {v0 : (List XVariable)} {v1 : (List XRecord)} {r : Bool} (h : sh_spec_dGood v0 v1 = some r) : Con Try.prog 142 [(cLs (cXVariable cS cI) rfl).enc v0, (cLs (cXRecord cI cI (cLs cI rfl)) rfl).enc v1] [] (rs_spec_dGood r) := by
  delta sh_spec_dGood at h
  refine top (out := none) (f := Try.f142) (m := m142) (rs := [.t 4]) (by kernel_rfl) rfl (by kernel_rfl) (by kernel_rfl) (by kernel_rfl) (by kernel_rfl) (by kernel_rfl) ?_
  exact
   ini [(0, .d ((cLs (cXVariable cS cI) rfl).enc v0)), (1, .d ((cLs (cXRecord cI cI (cLs cI rfl)) rfl).enc v1))] rfl <| wpC_seq <| reg_s <| x_asg (sc cB false rfl) <| seqN [(0, .d ((cLs (cXVariable cS cI) rfl).enc v0)), (1, .d ((cLs (cXRecord cI cI (cLs cI rfl)) rfl).enc v1))] (by kernel_rfl) <|
    xn <| wpC_seq <| wpC_kp <| wpC_seq <| reg_s <| st rfl <| mvd rfl rfl <| stw rfl <| lens rfl fun l32 => st rfl <| mvc cI (0 : Int) rfl <| seqN [(0, .d ((cLs (cXVariable cS cI) rfl).enc v0)), (1, .d ((cLs (cXRecord cI cI (cLs cI rfl)) rfl).enc v1)), (7, .d ((cLs (cXRecord cI cI (cLs cI rfl)) rfl).enc v1)), (8, .d (cI.enc (v1.length : Int))), (9, .d (cI.enc (0 : Int)))] (by kernel_rfl) <|
    xn <| wpC_blk <| lpR (fun (k34 : Nat) (s33 : Unit) => [(0, .d ((cLs (cXVariable cS cI) rfl).enc v0)), (1, .d ((cLs (cXRecord cI cI (cLs cI rfl)) rfl).enc v1)), (7, .d ((cLs (cXRecord cI cI (cLs cI rfl)) rfl).enc v1)), (8, .d (cI.enc (v1.length : Int))), (9, .d (cI.enc (k34 : Int)))]) () rfl h
    (fun G50 s33 h => wpC_seq <| reg_s <| st rfl <| b_lss (k := .i64) rfl rfl <| seqN [(0, .d ((cLs (cXVariable cS cI) rfl).enc v0)), (1, .d ((cLs (cXRecord cI cI (cLs cI rfl)) rfl).enc v1)), (7, .d ((cLs (cXRecord cI cI (cLs cI rfl)) rfl).enc v1)), (8, .d (cI.enc (v1.length : Int))), (9, .d (cI.enc (v1.length : Int))), (10, .d (cB.enc (decide ((v1.length : Int) < (v1.length : Int)))))] (by kernel_rfl) <|
    xn <| wpC_seq <| wpC_kp <| cnd0 rfl (dlf _) <| wpC_exit <| xt <| xt <| xt <| xb <| kpN [(1, .d ((cLs (cXRecord cI cI (cLs cI rfl)) rfl).enc v1))] (by kernel_rfl) <| xn <| wpC_seq <| reg_s <| st rfl <| mvd rfl rfl <| stw rfl <| lens rfl fun l52 => st rfl <| b_leq (k := .i64) rfl rfl <| x_asg (ss rfl rfl) <| seqN [(4, .d (cB.enc (decide ((v1.length : Int) ≤ (40 : Int)))))] (by kernel_rfl) <|
    xn <| wpC_ret <| re <| fin h (r1 (ss rfl rfl) <| r0) rfl)
    (fun G50 nx48 k34 s33 x35 hk36 hx37 hn49 h => wpC_seq <| reg_s <| st rfl <| b_lss (k := .i64) rfl rfl <| seqN [(0, .d ((cLs (cXVariable cS cI) rfl).enc v0)), (1, .d ((cLs (cXRecord cI cI (cLs cI rfl)) rfl).enc v1)), (7, .d ((cLs (cXRecord cI cI (cLs cI rfl)) rfl).enc v1)), (8, .d (cI.enc (v1.length : Int))), (9, .d (cI.enc (k34 : Int))), (10, .d (cB.enc (decide ((k34 : Int) < (v1.length : Int)))))] (by kernel_rfl) <|
    xn <| wpC_seq <| wpC_kp <| cnd1 rfl (dlt hk36) <| wpC_skip <| kpN [(0, .d ((cLs (cXVariable cS cI) rfl).enc v0)), (1, .d ((cLs (cXRecord cI cI (cLs cI rfl)) rfl).enc v1)), (7, .d ((cLs (cXRecord cI cI (cLs cI rfl)) rfl).enc v1)), (8, .d (cI.enc (v1.length : Int))), (9, .d (cI.enc (k34 : Int)))] (by kernel_rfl) <| xn <| wpC_seq <| wpC_kp <| wpC_blk <| wpC_seq <| reg_s <| st rfl <| ias rfl rfl (Int.natCast_nonneg _) hx37 rfl <| st rfl <| ldi rfl rfl rfl rfl <| x_all (cXRecord cI cI (cLo cI)) (⟨(0 : Int), (0 : Int), ([] : List Int)⟩ : XRecord) rfl <| x_stb (ss rfl rfl) rfl (Cd.h_sz _ _) rfl <| seqN [(0, .d ((cLs (cXVariable cS cI) rfl).enc v0)), (1, .d ((cLs (cXRecord cI cI (cLs cI rfl)) rfl).enc v1)), (6, .box ((cXRecord cI cI (cLs cI rfl)).enc x35)), (7, .d ((cLs (cXRecord cI cI (cLs cI rfl)) rfl).enc v1)), (8, .d (cI.enc (v1.length : Int))), (9, .d (cI.enc (k34 : Int)))] (by kernel_rfl) <|
    xn <| wpC_seq <| reg_s <| st rfl <| mvd rfl rfl <| st rfl <| ldb rfl rfl rfl rfl <| bnd h fun x60 e61 h => st rfl <| o_call (a1 (c := (cLs (cXVariable cS cI) rfl)) (tLs (tXVariable tS tK)) rfl (a1 (c := (cXRecord cI cI (cLs cI rfl))) (tXRecord tK tK (tLs tK)) rfl a0)) (con_spec_rGood e61) (.inl (so1 sB so0)) <| st rfl <| o_nt rfl <| seqN [(0, .d ((cLs (cXVariable cS cI) rfl).enc v0)), (1, .d ((cLs (cXRecord cI cI (cLs cI rfl)) rfl).enc v1)), (7, .d ((cLs (cXRecord cI cI (cLs cI rfl)) rfl).enc v1)), (8, .d (cI.enc (v1.length : Int))), (9, .d (cI.enc (k34 : Int))), (16, .d (cB.enc (!x60)))] (by kernel_rfl) <|
    xn <| cnd rfl h (fun b62 h => wpC_seq <| reg_s <| x_asg (sc cB false rfl) <| seqN [(4, .d (cB.enc false))] (by kernel_rfl) <|
    xn <| wpC_ret <| rb <| rt <| rt <| rt <| rb <| rt <| rt <| re <| fin h (r1 (ss rfl rfl) <| r0) rfl)
    (fun b62 h => wpC_skip <| xbb <| kpN [(0, .d ((cLs (cXVariable cS cI) rfl).enc v0)), (1, .d ((cLs (cXRecord cI cI (cLs cI rfl)) rfl).enc v1)), (7, .d ((cLs (cXRecord cI cI (cLs cI rfl)) rfl).enc v1)), (8, .d (cI.enc (v1.length : Int))), (9, .d (cI.enc (k34 : Int)))] (by kernel_rfl) <| xn <| reg_s <| st rfl <| b_inc rfl rfl l32 hk36 <| st rfl <| mvd rfl rfl <| seqN [(0, .d ((cLs (cXVariable cS cI) rfl).enc v0)), (1, .d ((cLs (cXRecord cI cI (cLs cI rfl)) rfl).enc v1)), (7, .d ((cLs (cXRecord cI cI (cLs cI rfl)) rfl).enc v1)), (8, .d (cI.enc (v1.length : Int))), (9, .d (cI.enc ((k34 + 1 : Nat) : Int)))] (by kernel_rfl) <|
    xn <| hn49 () h))

def rs_spec_dInput (r : Bool) : List D := [cB.enc r]
def m130 : MC := .seq (.reg [⟨some 4, .asg (.c (.bool false)), none⟩] [0, 1])
  (.seq (.reg [⟨some 5, .mv (.t 0), none⟩,
    ⟨some 6, .call 101 [(.t 5)], none⟩,
    ⟨some 7, .mv (.t 6), none⟩,
    ⟨some 8, .mv (.t 0), some (7, true)⟩,
    ⟨some 9, .mv (.t 1), some (7, true)⟩,
    ⟨some 10, .call 142 [(.t 8), (.t 9)], some (7, true)⟩,
    ⟨some 11, .pick (.t 7) (.t 10) (.c (.bool false)), none⟩,
    ⟨some 4, .asg (.t 11), none⟩] [4])
  (.ret))
theorem con_spec_dInput {v0 : (List XVariable)} {v1 : (List XRecord)} {r : Bool} (h : sh_spec_dInput v0 v1 = some r) : Con Try.prog 130 [(cLs (cXVariable cS cI) rfl).enc v0, (cLs (cXRecord cI cI (cLs cI rfl)) rfl).enc v1] [] (rs_spec_dInput r) := by
  delta sh_spec_dInput at h
  refine top (out := none) (f := Try.f130) (m := m130) (rs := [.t 4]) (by kernel_rfl) rfl (by kernel_rfl) (by kernel_rfl) (by kernel_rfl) (by kernel_rfl) (by kernel_rfl) ?_
  exact
   ini [(0, .d ((cLs (cXVariable cS cI) rfl).enc v0)), (1, .d ((cLs (cXRecord cI cI (cLs cI rfl)) rfl).enc v1))] rfl <| wpC_seq <| reg_s <| x_asg (sc cB false rfl) <| seqN [(0, .d ((cLs (cXVariable cS cI) rfl).enc v0)), (1, .d ((cLs (cXRecord cI cI (cLs cI rfl)) rfl).enc v1))] (by kernel_rfl) <|
    xn <| wpC_seq <| reg_s <| st rfl <| mvd rfl rfl <| bnd h fun x6 e7 h => st rfl <| o_call (a1 (c := (cLs (cXVariable cS cI) rfl)) (tLs (tXVariable tS tK)) rfl a0) (con_spec_sGood e7) (.inl (so1 sB so0)) <| st rfl <| mvd rfl rfl <| ite_k h (fun b8 h => gt' rfl b8 <| st rfl <| mvd rfl rfl <| gt' rfl b8 <| st rfl <| mvd rfl rfl <| gt' rfl b8 <| bnd h fun x9 e10 h => st rfl <| o_call (a1 (c := (cLs (cXVariable cS cI) rfl)) (tLs (tXVariable tS tK)) rfl (a1 (c := (cLs (cXRecord cI cI (cLs cI rfl)) rfl)) (tLs (tXRecord tK tK (tLs tK))) rfl a0)) (con_spec_dGood e10) (.inl (so1 sB so0)) <| st rfl <| pick1 rfl b8 (cd := cB) (v := x9) rfl rfl <| x_asg (ss rfl rfl) <| seqN [(4, .d (cB.enc x9))] (by kernel_rfl) <|
    xn <| wpC_ret <| re <| fin h (r1 (ss rfl rfl) <| r0) rfl)
    (fun b8 h => gf rfl b8 <| gf rfl b8 <| gf rfl b8 <| st rfl <| pick0 rfl b8 (cd := cB) (v := false) rfl rfl <| x_asg (ss rfl rfl) <| seqN [(4, .d (cB.enc false))] (by kernel_rfl) <|
    xn <| wpC_ret <| re <| fin h (r1 (ss rfl rfl) <| r0) rfl)

def rs_spec_uSurvey (r : Bool) : List D := [cB.enc r]
def m85 : MC := .seq (.reg [⟨some 3, .box (.t 0), none⟩,
    ⟨some 6, .asg (.c (.bool false)), none⟩] [1, 2, 3])
  (.seq (.kp [2, 3] (.seq (.reg [⟨some 10, .ld 3 1 true, none⟩,
    ⟨some 11, .call 100 [(.t 10)], none⟩,
    ⟨some 12, .nt (.t 11), none⟩,
    ⟨some 13, .mv (.t 12), none⟩,
    ⟨some 14, .mv (.t 1), some (13, false)⟩,
    ⟨some 15, .mv (.t 2), some (13, false)⟩,
    ⟨some 16, .call 130 [(.t 14), (.t 15)], some (13, false)⟩,
    ⟨some 17, .nt (.t 16), some (13, false)⟩,
    ⟨some 18, .pick (.t 13) (.c (.bool true)) (.t 17), none⟩] [2, 3, 18])
  (.cond (.t 18) (.seq (.reg [⟨some 6, .asg (.c (.bool false)), none⟩] [6])
  (.ret)) (.skip))))
  (.seq (.reg [⟨some 19, .ld 3 1 true, none⟩,
    ⟨some 20, .call 66 [(.t 19)], none⟩,
    ⟨some 7, .asg (.t 20), none⟩] [2, 7])
  (.seq (.kp [] (.seq (.reg [⟨some 21, .mv (.t 2), none⟩,
    ⟨some 22, .len false (.t 21), none⟩,
    ⟨some 23, .mv (.c (.int .i64 0)), none⟩] [2, 7, 21, 22, 23])
  (.blk 0 (.loop (.seq (.reg [⟨some 24, .bin .lss (.t 23) (.t 22), none⟩] [2, 7, 21, 22, 23, 24])
  (.seq (.kp [2, 7, 21, 22, 23] (.cond (.t 24) (.skip) (.exit 0)))
  (.seq (.kp [2, 7, 21, 22, 23] (.blk 1 (.seq (.reg [⟨some 25, .ia 21 (.t 23) 3, none⟩,
    ⟨some 26, .ld 25 3 true, none⟩,
    ⟨some 9, .alloc (.agg [.int .i64 0, .int .i64 0, .slice true []]), none⟩,
    ⟨none, .st 9 (.t 26) 3, none⟩] [2, 7, 9, 21, 22, 23])
  (.seq (.reg [⟨some 27, .mv (.t 7), none⟩,
    ⟨some 28, .fa 9 0 0, none⟩,
    ⟨some 29, .ld 28 1 false, none⟩,
    ⟨some 30, .call 65 [(.t 27), (.t 29)], none⟩,
    ⟨some 31, .nt (.t 30), none⟩] [2, 7, 21, 22, 23, 31])
  (.cond (.t 31) (.seq (.reg [⟨some 6, .asg (.c (.bool false)), none⟩] [6])
  (.ret)) (.skip))))))
  (.reg [⟨some 32, .bin .add (.t 23) (.c (.int .i64 1)), none⟩,
    ⟨some 23, .mv (.t 32), none⟩] [2, 7, 21, 22, 23]))))))))
  (.seq (.reg [⟨some 6, .asg (.c (.bool true)), none⟩] [6])
  (.ret)))))
theorem con_spec_uSurvey {v0 : XGeo} {v1 : (List XVariable)} {v2 : (List XRecord)} {r : Bool} (h : sh_spec_uSurvey v0 v1 v2 = some r) : Con Try.prog 85 [(cXGeo (cLs cI rfl)).enc v0, (cLs (cXVariable cS cI) rfl).enc v1, (cLs (cXRecord cI cI (cLs cI rfl)) rfl).enc v2] [] (rs_spec_uSurvey r) := by
  delta sh_spec_uSurvey at h
  refine top (out := none) (f := Try.f85) (m := m85) (rs := [.t 6]) (by kernel_rfl) rfl (by kernel_rfl) (by kernel_rfl) (by kernel_rfl) (by kernel_rfl) (by kernel_rfl) ?_
  exact
   ini [(0, .d ((cXGeo (cLs cI rfl)).enc v0)), (1, .d ((cLs (cXVariable cS cI) rfl).enc v1)), (2, .d ((cLs (cXRecord cI cI (cLs cI rfl)) rfl).enc v2))] rfl <| wpC_seq <| reg_s <| x_box (ss rfl rfl) <| x_asg (sc cB false rfl) <| seqN [(1, .d ((cLs (cXVariable cS cI) rfl).enc v1)), (2, .d ((cLs (cXRecord cI cI (cLs cI rfl)) rfl).enc v2)), (3, .box ((cXGeo (cLs cI rfl)).enc v0))] (by kernel_rfl) <|
    xn <| wpC_seq <| wpC_kp <| wpC_seq <| reg_s <| st rfl <| ldb rfl rfl rfl rfl <| bnd h fun x17 e18 h => st rfl <| o_call (a1 (c := (cXGeo (cLs cI rfl))) (tXGeo (tLs tK)) rfl a0) (con_spec_gGood e18) (.inl (so1 sB so0)) <| st rfl <| o_nt rfl <| st rfl <| mvd rfl rfl <| ite_k h (fun b19 h => gf rfl b19 <| gf rfl b19 <| gf rfl b19 <| gf rfl b19 <| st rfl <| pick1 rfl b19 (cd := cB) (v := true) rfl rfl <| seqN [(2, .d ((cLs (cXRecord cI cI (cLs cI rfl)) rfl).enc v2)), (3, .box ((cXGeo (cLs cI rfl)).enc v0)), (18, .d (cB.enc true))] (by kernel_rfl) <|
    xn <| cnd1 rfl rfl <| wpC_seq <| reg_s <| x_asg (sc cB false rfl) <| seqN [(6, .d (cB.enc false))] (by kernel_rfl) <|
    xn <| wpC_ret <| rt <| rt <| re <| fin h (r1 (ss rfl rfl) <| r0) rfl)
    (fun b19 h => gt' rfl b19 <| st rfl <| mvd rfl rfl <| gt' rfl b19 <| st rfl <| mvd rfl rfl <| gt' rfl b19 <| bnd h fun x20 e21 h => st rfl <| o_call (a1 (c := (cLs (cXVariable cS cI) rfl)) (tLs (tXVariable tS tK)) rfl (a1 (c := (cLs (cXRecord cI cI (cLs cI rfl)) rfl)) (tLs (tXRecord tK tK (tLs tK))) rfl a0)) (con_spec_dInput e21) (.inl (so1 sB so0)) <| gt' rfl b19 <| st rfl <| o_nt rfl <| st rfl <| pick0 rfl b19 (cd := cB) (v := (!x20)) rfl rfl <| seqN [(2, .d ((cLs (cXRecord cI cI (cLs cI rfl)) rfl).enc v2)), (3, .box ((cXGeo (cLs cI rfl)).enc v0)), (18, .d (cB.enc (!x20)))] (by kernel_rfl) <|
    xn <| cnd rfl h (fun b22 h => wpC_seq <| reg_s <| x_asg (sc cB false rfl) <| seqN [(6, .d (cB.enc false))] (by kernel_rfl) <|
    xn <| wpC_ret <| rt <| rt <| re <| fin h (r1 (ss rfl rfl) <| r0) rfl)
    (fun b22 h => wpC_skip <| kpN [(2, .d ((cLs (cXRecord cI cI (cLs cI rfl)) rfl).enc v2)), (3, .box ((cXGeo (cLs cI rfl)).enc v0))] (by kernel_rfl) <| xn <| wpC_seq <| reg_s <| st rfl <| ldb rfl rfl rfl rfl <| bnd h fun x25 e26 h => st rfl <| o_call (a1 (c := (cXGeo (cLs cI rfl))) (tXGeo (tLs tK)) rfl a0) (con_spec_gLeaves e26) (.inl (so1 (sLo sK) so0)) <| x_asg (so rfl rfl) <| seqN [(2, .d ((cLs (cXRecord cI cI (cLs cI rfl)) rfl).enc v2)), (7, .d ((cLo cI).enc x25))] (by kernel_rfl) <|
    xn <| wpC_seq <| wpC_kp <| wpC_seq <| reg_s <| st rfl <| mvd rfl rfl <| stw rfl <| lens rfl fun l58 => st rfl <| mvc cI (0 : Int) rfl <| seqN [(2, .d ((cLs (cXRecord cI cI (cLs cI rfl)) rfl).enc v2)), (7, .d ((cLo cI).enc x25)), (21, .d ((cLs (cXRecord cI cI (cLs cI rfl)) rfl).enc v2)), (22, .d (cI.enc (v2.length : Int))), (23, .d (cI.enc (0 : Int)))] (by kernel_rfl) <|
    xn <| wpC_blk <| lpR (fun (k60 : Nat) (s59 : Unit) => [(2, .d ((cLs (cXRecord cI cI (cLs cI rfl)) rfl).enc v2)), (7, .d ((cLo cI).enc x25)), (21, .d ((cLs (cXRecord cI cI (cLs cI rfl)) rfl).enc v2)), (22, .d (cI.enc (v2.length : Int))), (23, .d (cI.enc (k60 : Int)))]) () rfl h
    (fun G76 s59 h => wpC_seq <| reg_s <| st rfl <| b_lss (k := .i64) rfl rfl <| seqN [(2, .d ((cLs (cXRecord cI cI (cLs cI rfl)) rfl).enc v2)), (7, .d ((cLo cI).enc x25)), (21, .d ((cLs (cXRecord cI cI (cLs cI rfl)) rfl).enc v2)), (22, .d (cI.enc (v2.length : Int))), (23, .d (cI.enc (v2.length : Int))), (24, .d (cB.enc (decide ((v2.length : Int) < (v2.length : Int)))))] (by kernel_rfl) <|
    xn <| wpC_seq <| wpC_kp <| cnd0 rfl (dlf _) <| wpC_exit <| xt <| xt <| xt <| xb <| kpN [] (by kernel_rfl) <| xn <| wpC_seq <| reg_s <| x_asg (sc cB true rfl) <| seqN [(6, .d (cB.enc true))] (by kernel_rfl) <|
    xn <| wpC_ret <| re <| fin h (r1 (ss rfl rfl) <| r0) rfl)
    (fun G76 nx74 k60 s59 x61 hk62 hx63 hn75 h => wpC_seq <| reg_s <| st rfl <| b_lss (k := .i64) rfl rfl <| seqN [(2, .d ((cLs (cXRecord cI cI (cLs cI rfl)) rfl).enc v2)), (7, .d ((cLo cI).enc x25)), (21, .d ((cLs (cXRecord cI cI (cLs cI rfl)) rfl).enc v2)), (22, .d (cI.enc (v2.length : Int))), (23, .d (cI.enc (k60 : Int))), (24, .d (cB.enc (decide ((k60 : Int) < (v2.length : Int)))))] (by kernel_rfl) <|
    xn <| wpC_seq <| wpC_kp <| cnd1 rfl (dlt hk62) <| wpC_skip <| kpN [(2, .d ((cLs (cXRecord cI cI (cLs cI rfl)) rfl).enc v2)), (7, .d ((cLo cI).enc x25)), (21, .d ((cLs (cXRecord cI cI (cLs cI rfl)) rfl).enc v2)), (22, .d (cI.enc (v2.length : Int))), (23, .d (cI.enc (k60 : Int)))] (by kernel_rfl) <| xn <| wpC_seq <| wpC_kp <| wpC_blk <| wpC_seq <| reg_s <| st rfl <| ias rfl rfl (Int.natCast_nonneg _) hx63 rfl <| st rfl <| ldi rfl rfl rfl rfl <| x_all (cXRecord cI cI (cLo cI)) (⟨(0 : Int), (0 : Int), ([] : List Int)⟩ : XRecord) rfl <| x_stb (ss rfl rfl) rfl (Cd.h_sz _ _) rfl <| seqN [(2, .d ((cLs (cXRecord cI cI (cLs cI rfl)) rfl).enc v2)), (7, .d ((cLo cI).enc x25)), (9, .box ((cXRecord cI cI (cLs cI rfl)).enc x61)), (21, .d ((cLs (cXRecord cI cI (cLs cI rfl)) rfl).enc v2)), (22, .d (cI.enc (v2.length : Int))), (23, .d (cI.enc (k60 : Int)))] (by kernel_rfl) <|
    xn <| wpC_seq <| reg_s <| st rfl <| mvo rfl rfl <| st rfl <| fab rfl rfl rfl rfl <| st rfl <| lda rfl rfl rfl rfl rfl rfl <| bnd h fun x84 e85 h => st rfl <| o_call (a1 (c := (cLo cI)) (tLo tK) rfl (a1 (c := cI) tK rfl a0)) (con_spec_l1Has e85) (.inl (so1 sB so0)) <| st rfl <| o_nt rfl <| seqN [(2, .d ((cLs (cXRecord cI cI (cLs cI rfl)) rfl).enc v2)), (7, .d ((cLo cI).enc x25)), (21, .d ((cLs (cXRecord cI cI (cLs cI rfl)) rfl).enc v2)), (22, .d (cI.enc (v2.length : Int))), (23, .d (cI.enc (k60 : Int))), (31, .d (cB.enc (!x84)))] (by kernel_rfl) <|
    xn <| cnd rfl h (fun b86 h => wpC_seq <| reg_s <| x_asg (sc cB false rfl) <| seqN [(6, .d (cB.enc false))] (by kernel_rfl) <|
    xn <| wpC_ret <| rb <| rt <| rt <| rt <| rb <| rt <| rt <| re <| fin h (r1 (ss rfl rfl) <| r0) rfl)
    (fun b86 h => wpC_skip <| xbb <| kpN [(2, .d ((cLs (cXRecord cI cI (cLs cI rfl)) rfl).enc v2)), (7, .d ((cLo cI).enc x25)), (21, .d ((cLs (cXRecord cI cI (cLs cI rfl)) rfl).enc v2)), (22, .d (cI.enc (v2.length : Int))), (23, .d (cI.enc (k60 : Int)))] (by kernel_rfl) <| xn <| reg_s <| st rfl <| b_inc rfl rfl l58 hk62 <| st rfl <| mvd rfl rfl <| seqN [(2, .d ((cLs (cXRecord cI cI (cLs cI rfl)) rfl).enc v2)), (7, .d ((cLo cI).enc x25)), (21, .d ((cLs (cXRecord cI cI (cLs cI rfl)) rfl).enc v2)), (22, .d (cI.enc (v2.length : Int))), (23, .d (cI.enc ((k60 + 1 : Nat) : Int)))] (by kernel_rfl) <|
    xn <| hn75 () h))))

end AS.W
