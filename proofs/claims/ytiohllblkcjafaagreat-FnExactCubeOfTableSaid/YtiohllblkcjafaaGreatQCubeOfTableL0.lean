/- The program computes the plain functions. No condition. -/
import Derived.Test.YtiohllblkcjafaaGreatQCubeOfTableS
import Derived.Test.YtiohllblkcjafaaGreatProg
set_option maxRecDepth 100000
set_option linter.unusedVariables false
set_option linter.unusedSimpArgs false
namespace AS.W
open Go Go.Proofs
abbrev q1 (d : Nat) (k : MK) : MOp := ⟨some d, k, none⟩
abbrev q0 (k : MK) : MOp := ⟨none, k, none⟩
abbrev q2 {α : Type} (n : Nat) (c : Cd α) (a : α) : Nat × SV := (n, .d (c.enc a))
abbrev q3 {α : Type} (n : Nat) (c : Cd α) (a : α) : Nat × SV := (n, .box (c.enc a))
theorem sq {P : Program} {T : Nat → SV} {Q : MX → (Nat → SV) → Prop} {ks : List Nat} (L : TL) (h : Q .nrm (gl L)) (e : kG T ks ks = L := by kernel_rfl) : SQ P [] T fun T' => Q .nrm (ofL (keepL T' ks ks)) := seqN L e h
abbrev cc14 := (cLo cI)
abbrev cc13 := (cLs cI rfl)
abbrev cc12 := (cXGeo (cLo cI))
abbrev cc11 := (cXVariable cS cI)
abbrev cc10 := (cXGeo (cLs cI rfl))
abbrev cc9 := (cLo (cXVariable cS cI))
abbrev cc8 := (cXRecord cI cI (cLo cI))
abbrev cc7 := (cXCube (cLo cI) (cLo cI))
abbrev cc6 := (cLs (cXVariable cS cI) rfl)
abbrev cc5 := (cXRecord cI cI (cLs cI rfl))
abbrev cc4 := (cLo (cXRecord cI cI (cLo cI)))
abbrev cc3 := (cXTable cI (cLo cI) (cLo cI) cI)
abbrev cc2 := (cXCube (cLs cI rfl) (cLs cI rfl))
abbrev cc1 := (cLs (cXRecord cI cI (cLs cI rfl)) rfl)
abbrev cc0 := (cXTable cI (cLs cI rfl) (cLs cI rfl) cI)
def rs_spec_l1In (r : Bool) : List D := [cB.enc r]
def m55 : MC := .seq (.reg [q1 6 (.asg (.c (.bool false)))] [0, 1, 2])
 (.seq (.reg [q1 7 (.mv (.t 0)),q1 8 (.mv (.t 1)),q1 9 (.bin .geq (.t 7) (.t 8)),q1 10 (.mv (.t 9)),
  ⟨some 11, .mv (.t 0), some (10, true)⟩,
  ⟨some 12, .mv (.t 2), some (10, true)⟩,
  ⟨some 13, .bin .leq (.t 11) (.t 12), some (10, true)⟩,q1 14 (.pick (.t 10) (.t 13) (.c (.bool false))),q1 6 (.asg (.t 14))] [6])
 (.ret))
theorem con_spec_l1In {v0 : Int} {v1 : Int} {v2 : Int} {r : Bool} (h : sh_spec_l1In v0 v1 v2 = some r) : Con Tryz.prog 55 [cI.enc v0, cI.enc v1, cI.enc v2] [] (rs_spec_l1In r) := by
 delta sh_spec_l1In at h
 refine top (out := none) (f := Tryz.f55) (m := m55) (rs := [.t 6]) (by kernel_rfl) rfl (by kernel_rfl) (by kernel_rfl) (by kernel_rfl) (by kernel_rfl) (by kernel_rfl) ?_
 exact
  ini [q2 0 cI v0, q2 1 cI v1, q2 2 cI v2] rfl <| wpC_seq <| reg_s <| x_asg (sc cB false rfl) <| sq [q2 0 cI v0, q2 1 cI v1, q2 2 cI v2] <|
  xn <| wpC_seq <| reg_s <| st rfl <| mvd rfl rfl <| st rfl <| mvd rfl rfl <| st rfl <| b_geq (k := .i64) rfl rfl <| st rfl <| mvd rfl rfl <| ite_k h (fun b2 h => gt' rfl b2 <| st rfl <| mvd rfl rfl <| gt' rfl b2 <| st rfl <| mvd rfl rfl <| gt' rfl b2 <| st rfl <| b_leq (k := .i64) rfl rfl <| st rfl <| pick1 rfl b2 (cd := cB) (v := (decide (v0 ≤ v2))) rfl rfl <| x_asg (ss rfl rfl) <| sq [q2 6 cB (decide (v0 ≤ v2))] <|
  xn <| wpC_ret <| re <| fin h (r1 (ss rfl rfl) <| r0) rfl)
  (fun b2 h => gf rfl b2 <| gf rfl b2 <| gf rfl b2 <| st rfl <| pick0 rfl b2 (cd := cB) (v := false) rfl rfl <| x_asg (ss rfl rfl) <| sq [q2 6 cB false] <|
  xn <| wpC_ret <| re <| fin h (r1 (ss rfl rfl) <| r0) rfl)

def rs_spec_l1All (r : Bool) : List D := [cB.enc r]
def m60 : MC := .seq (.reg [q1 6 (.asg (.c (.bool false)))] [0, 1, 2])
 (.seq (.kp [] (.seq (.reg [q1 9 (.mv (.t 0)),q1 10 (.len false (.t 9)),q1 11 (.mv (.c (.int .i64 0)))] [0, 1, 2, 9, 10, 11])
 (.blk 0 (.loop (.seq (.reg [q1 12 (.bin .lss (.t 11) (.t 10))] [0, 1, 2, 9, 10, 11, 12])
 (.seq (.kp [0, 1, 2, 9, 10, 11] (.cond (.t 12) (.skip) (.exit 0)))
 (.seq (.kp [0, 1, 2, 9, 10, 11] (.blk 1 (.seq (.reg [q1 13 (.ia 9 (.t 11) 1),q1 14 (.ld 13 1 false),q1 8 (.asg (.t 14))] [0, 1, 2, 8, 9, 10, 11])
 (.seq (.reg [q1 15 (.mv (.t 8)),q1 16 (.mv (.t 1)),q1 17 (.mv (.t 2)),q1 18 (.call 55 [(.t 15), (.t 16), (.t 17)]),q1 19 (.nt (.t 18))] [0, 1, 2, 9, 10, 11, 19])
 (.cond (.t 19) (.seq (.reg [q1 6 (.asg (.c (.bool false)))] [6])
 (.ret)) (.skip))))))
 (.reg [q1 20 (.bin .add (.t 11) (.c (.int .i64 1))),q1 11 (.mv (.t 20))] [0, 1, 2, 9, 10, 11]))))))))
 (.seq (.reg [q1 6 (.asg (.c (.bool true)))] [6])
 (.ret)))
theorem con_spec_l1All {v0 : (List Int)} {v1 : Int} {v2 : Int} {r : Bool} (h : sh_spec_l1All v0 v1 v2 = some r) : Con Tryz.prog 60 [cc13.enc v0, cI.enc v1, cI.enc v2] [] (rs_spec_l1All r) := by
 delta sh_spec_l1All at h
 refine top (out := none) (f := Tryz.f60) (m := m60) (rs := [.t 6]) (by kernel_rfl) rfl (by kernel_rfl) (by kernel_rfl) (by kernel_rfl) (by kernel_rfl) (by kernel_rfl) ?_
 exact
  ini [q2 0 cc13 v0, q2 1 cI v1, q2 2 cI v2] rfl <| wpC_seq <| reg_s <| x_asg (sc cB false rfl) <| sq [q2 0 cc13 v0, q2 1 cI v1, q2 2 cI v2] <|
  xn <| wpC_seq <| wpC_kp <| wpC_seq <| reg_s <| st rfl <| mvd rfl rfl <| stw rfl <| lens rfl fun l32 => st rfl <| mvc cI (0 : Int) rfl <| sq [q2 0 cc13 v0, q2 1 cI v1, q2 2 cI v2, q2 9 cc13 v0, q2 10 cI (v0.length : Int), q2 11 cI (0 : Int)] <|
  xn <| wpC_blk <| lpR (fun (k34 : Nat) (s33 : Unit) => [q2 0 cc13 v0, q2 1 cI v1, q2 2 cI v2, q2 9 cc13 v0, q2 10 cI (v0.length : Int), q2 11 cI (k34 : Int)]) () rfl h
  (fun G50 s33 h => wpC_seq <| reg_s <| st rfl <| b_lss (k := .i64) rfl rfl <| sq [q2 0 cc13 v0, q2 1 cI v1, q2 2 cI v2, q2 9 cc13 v0, q2 10 cI (v0.length : Int), q2 11 cI (v0.length : Int), q2 12 cB (decide ((v0.length : Int) < (v0.length : Int)))] <|
  xn <| wpC_seq <| wpC_kp <| cnd0 rfl (dlf _) <| wpC_exit <| xt <| xt <| xt <| xb <| kpN [] (by kernel_rfl) <| xn <| wpC_seq <| reg_s <| x_asg (sc cB true rfl) <| sq [q2 6 cB true] <|
  xn <| wpC_ret <| re <| fin h (r1 (ss rfl rfl) <| r0) rfl)
  (fun G50 nx48 k34 s33 x35 hk36 hx37 hn49 h => wpC_seq <| reg_s <| st rfl <| b_lss (k := .i64) rfl rfl <| sq [q2 0 cc13 v0, q2 1 cI v1, q2 2 cI v2, q2 9 cc13 v0, q2 10 cI (v0.length : Int), q2 11 cI (k34 : Int), q2 12 cB (decide ((k34 : Int) < (v0.length : Int)))] <|
  xn <| wpC_seq <| wpC_kp <| cnd1 rfl (dlt hk36) <| wpC_skip <| kpN [q2 0 cc13 v0, q2 1 cI v1, q2 2 cI v2, q2 9 cc13 v0, q2 10 cI (v0.length : Int), q2 11 cI (k34 : Int)] (by kernel_rfl) <| xn <| wpC_seq <| wpC_kp <| wpC_blk <| wpC_seq <| reg_s <| st rfl <| ias rfl rfl (Int.natCast_nonneg _) hx37 rfl <| st rfl <| ldi rfl rfl rfl rfl <| x_asg (ss rfl rfl) <| sq [q2 0 cc13 v0, q2 1 cI v1, q2 2 cI v2, q2 8 cI x35, q2 9 cc13 v0, q2 10 cI (v0.length : Int), q2 11 cI (k34 : Int)] <|
  xn <| wpC_seq <| reg_s <| st rfl <| mvd rfl rfl <| st rfl <| mvd rfl rfl <| st rfl <| mvd rfl rfl <| bnd h fun x58 e59 h => st rfl <| o_call (a1 (c := cI) tK rfl (a1 (c := cI) tK rfl (a1 (c := cI) tK rfl a0))) (con_spec_l1In e59) (.inl (so1 sB so0)) <| st rfl <| o_nt rfl <| sq [q2 0 cc13 v0, q2 1 cI v1, q2 2 cI v2, q2 9 cc13 v0, q2 10 cI (v0.length : Int), q2 11 cI (k34 : Int), q2 19 cB (!x58)] <|
  xn <| cnd rfl h (fun b60 h => wpC_seq <| reg_s <| x_asg (sc cB false rfl) <| sq [q2 6 cB false] <|
  xn <| wpC_ret <| rb <| rt <| rt <| rt <| rb <| rt <| rt <| re <| fin h (r1 (ss rfl rfl) <| r0) rfl)
  (fun b60 h => wpC_skip <| xbb <| kpN [q2 0 cc13 v0, q2 1 cI v1, q2 2 cI v2, q2 9 cc13 v0, q2 10 cI (v0.length : Int), q2 11 cI (k34 : Int)] (by kernel_rfl) <| xn <| reg_s <| st rfl <| b_inc rfl rfl l32 hk36 <| st rfl <| mvd rfl rfl <| sq [q2 0 cc13 v0, q2 1 cI v1, q2 2 cI v2, q2 9 cc13 v0, q2 10 cI (v0.length : Int), q2 11 cI ((k34 + 1 : Nat) : Int)] <|
  xn <| hn49 () h))

def rs_spec_cbCount (r : Int) : List D := [cI.enc r]
def m30 : MC := .seq (.reg [q1 2 (.asg (.c (.int .i64 0)))] [0])
 (.seq (.kp [0] (.seq (.reg [q1 6 (.mv (.t 0)),q1 7 (.len false (.t 6)),q1 8 (.bin .gtr (.t 7) (.c (.int .i64 4))),q1 9 (.mv (.t 8)),
  ⟨some 10, .mv (.t 0), some (9, false)⟩,
  ⟨some 11, .call 60 [(.t 10), (.c (.int .i64 1)), (.c (.int .i64 30))], some (9, false)⟩,
  ⟨some 12, .nt (.t 11), some (9, false)⟩,q1 13 (.pick (.t 9) (.c (.bool true)) (.t 12))] [0, 13])
 (.cond (.t 13) (.seq (.reg [q1 2 (.asg (.c (.int .i64 0)))] [2])
 (.ret)) (.skip))))
 (.seq (.reg [q1 3 (.asg (.c (.int .i64 1)))] [0, 3])
 (.seq (.kp [3] (.seq (.reg [q1 14 (.mv (.t 0)),q1 15 (.len false (.t 14)),q1 16 (.mv (.c (.int .i64 0)))] [0, 3, 14, 15, 16])
 (.blk 0 (.loop (.seq (.reg [q1 17 (.bin .lss (.t 16) (.t 15))] [0, 3, 14, 15, 16, 17])
 (.seq (.kp [0, 3, 14, 15, 16] (.cond (.t 17) (.skip) (.exit 0)))
 (.seq (.kp [0, 3, 14, 15, 16] (.blk 1 (.seq (.reg [q1 18 (.ia 14 (.t 16) 1),q1 19 (.ld 18 1 false),q1 5 (.asg (.t 19))] [0, 3, 5, 14, 15, 16])
 (.reg [q1 20 (.mv (.t 3)),q1 21 (.mv (.t 5)),q1 22 (.bin .add (.t 21) (.c (.int .i64 1))),q1 23 (.bin .mul (.t 20) (.t 22)),q1 3 (.asg (.t 23))] [0, 3, 14, 15, 16]))))
 (.reg [q1 24 (.bin .add (.t 16) (.c (.int .i64 1))),q1 16 (.mv (.t 24))] [0, 3, 14, 15, 16]))))))))
 (.seq (.kp [3] (.seq (.reg [q1 25 (.mv (.t 3)),q1 26 (.bin .gtr (.t 25) (.c (.int .i64 2000)))] [3, 26])
 (.cond (.t 26) (.seq (.reg [q1 2 (.asg (.c (.int .i64 0)))] [2])
 (.ret)) (.skip))))
 (.seq (.reg [q1 27 (.mv (.t 3)),q1 2 (.asg (.t 27))] [2])
 (.ret))))))
theorem con_spec_cbCount {v0 : (List Int)} {r : Int} (h : sh_spec_cbCount v0 = some r) : Con Tryz.prog 30 [cc13.enc v0] [] (rs_spec_cbCount r) := by
 delta sh_spec_cbCount at h
 refine top (out := none) (f := Tryz.f30) (m := m30) (rs := [.t 2]) (by kernel_rfl) rfl (by kernel_rfl) (by kernel_rfl) (by kernel_rfl) (by kernel_rfl) (by kernel_rfl) ?_
 exact
  ini [q2 0 cc13 v0] rfl <| wpC_seq <| reg_s <| x_asg (sc cI (0 : Int) rfl) <| sq [q2 0 cc13 v0] <|
  xn <| wpC_seq <| wpC_kp <| wpC_seq <| reg_s <| st rfl <| mvd rfl rfl <| stw rfl <| lens rfl fun l14 => st rfl <| b_gtr (k := .i64) rfl rfl <| st rfl <| mvd rfl rfl <| ite_k h (fun b15 h => gf rfl b15 <| gf rfl b15 <| gf rfl b15 <| st rfl <| pick1 rfl b15 (cd := cB) (v := true) rfl rfl <| sq [q2 0 cc13 v0, q2 13 cB true] <|
  xn <| cnd1 rfl rfl <| wpC_seq <| reg_s <| x_asg (sc cI (0 : Int) rfl) <| sq [q2 2 cI (0 : Int)] <|
  xn <| wpC_ret <| rt <| rt <| re <| fin h (r1 (ss rfl rfl) <| r0) rfl)
  (fun b15 h => gt' rfl b15 <| st rfl <| mvd rfl rfl <| gt' rfl b15 <| bnd h fun x16 e17 h => st rfl <| o_call (a1 (c := cc13) (tLs tK) rfl (a1 (c := cI) tK rfl (a1 (c := cI) tK rfl a0))) (con_spec_l1All e17) (.inl (so1 sB so0)) <| gt' rfl b15 <| st rfl <| o_nt rfl <| st rfl <| pick0 rfl b15 (cd := cB) (v := (!x16)) rfl rfl <| sq [q2 0 cc13 v0, q2 13 cB (!x16)] <|
  xn <| cnd rfl h (fun b18 h => wpC_seq <| reg_s <| x_asg (sc cI (0 : Int) rfl) <| sq [q2 2 cI (0 : Int)] <|
  xn <| wpC_ret <| rt <| rt <| re <| fin h (r1 (ss rfl rfl) <| r0) rfl)
  (fun b18 h => wpC_skip <| kpN [q2 0 cc13 v0] (by kernel_rfl) <| xn <| wpC_seq <| reg_s <| x_asg (sc cI (1 : Int) rfl) <| sq [q2 0 cc13 v0, q2 3 cI (1 : Int)] <|
  xn <| wpC_seq <| wpC_kp <| wpC_seq <| reg_s <| st rfl <| mvd rfl rfl <| stw rfl <| lens rfl fun l42 => st rfl <| mvc cI (0 : Int) rfl <| sq [q2 0 cc13 v0, q2 3 cI (1 : Int), q2 14 cc13 v0, q2 15 cI (v0.length : Int), q2 16 cI (0 : Int)] <|
  xn <| wpC_blk <| lpR (fun (k44 : Nat) (s43 : Int) => [q2 0 cc13 v0, q2 3 cI s43, q2 14 cc13 v0, q2 15 cI (v0.length : Int), q2 16 cI (k44 : Int)]) (1 : Int) rfl h
  (fun G58 s43 h => wpC_seq <| reg_s <| st rfl <| b_lss (k := .i64) rfl rfl <| sq [q2 0 cc13 v0, q2 3 cI s43, q2 14 cc13 v0, q2 15 cI (v0.length : Int), q2 16 cI (v0.length : Int), q2 17 cB (decide ((v0.length : Int) < (v0.length : Int)))] <|
  xn <| wpC_seq <| wpC_kp <| cnd0 rfl (dlf _) <| wpC_exit <| xt <| xt <| xt <| xb <| kpN [q2 3 cI s43] (by kernel_rfl) <| xn <| wpC_seq <| wpC_kp <| wpC_seq <| reg_s <| st rfl <| mvd rfl rfl <| st rfl <| b_gtr (k := .i64) rfl rfl <| sq [q2 3 cI s43, q2 26 cB (decide ((2000 : Int) < s43))] <|
  xn <| cnd rfl h (fun b60 h => wpC_seq <| reg_s <| x_asg (sc cI (0 : Int) rfl) <| sq [q2 2 cI (0 : Int)] <|
  xn <| wpC_ret <| rt <| rt <| re <| fin h (r1 (ss rfl rfl) <| r0) rfl)
  (fun b60 h => wpC_skip <| kpN [q2 3 cI s43] (by kernel_rfl) <| xn <| wpC_seq <| reg_s <| st rfl <| mvd rfl rfl <| x_asg (ss rfl rfl) <| sq [q2 2 cI s43] <|
  xn <| wpC_ret <| re <| fin h (r1 (ss rfl rfl) <| r0) rfl))
  (fun G58 nx56 k44 s43 x45 hk46 hx47 hn57 h => wpC_seq <| reg_s <| st rfl <| b_lss (k := .i64) rfl rfl <| sq [q2 0 cc13 v0, q2 3 cI s43, q2 14 cc13 v0, q2 15 cI (v0.length : Int), q2 16 cI (k44 : Int), q2 17 cB (decide ((k44 : Int) < (v0.length : Int)))] <|
  xn <| wpC_seq <| wpC_kp <| cnd1 rfl (dlt hk46) <| wpC_skip <| kpN [q2 0 cc13 v0, q2 3 cI s43, q2 14 cc13 v0, q2 15 cI (v0.length : Int), q2 16 cI (k44 : Int)] (by kernel_rfl) <| xn <| wpC_seq <| wpC_kp <| wpC_blk <| wpC_seq <| reg_s <| st rfl <| ias rfl rfl (Int.natCast_nonneg _) hx47 rfl <| st rfl <| ldi rfl rfl rfl rfl <| x_asg (ss rfl rfl) <| sq [q2 0 cc13 v0, q2 3 cI s43, q2 5 cI x45, q2 14 cc13 v0, q2 15 cI (v0.length : Int), q2 16 cI (k44 : Int)] <|
  xn <| reg_s <| st rfl <| mvd rfl rfl <| st rfl <| mvd rfl rfl <| ckI_k h fun i63 h => st rfl <| b_add (k := .i64) rfl rfl i63 <| ckI_k h fun i64 h => st rfl <| b_mul (k := .i64) rfl rfl i64 <| x_asg (ss rfl rfl) <| sq [q2 0 cc13 v0, q2 3 cI (s43 * (x45 + (1 : Int))), q2 14 cc13 v0, q2 15 cI (v0.length : Int), q2 16 cI (k44 : Int)] <|
  xbb <| kpN [q2 0 cc13 v0, q2 3 cI (s43 * (x45 + (1 : Int))), q2 14 cc13 v0, q2 15 cI (v0.length : Int), q2 16 cI (k44 : Int)] (by kernel_rfl) <| xn <| reg_s <| st rfl <| b_inc rfl rfl l42 hk46 <| st rfl <| mvd rfl rfl <| sq [q2 0 cc13 v0, q2 3 cI (s43 * (x45 + (1 : Int))), q2 14 cc13 v0, q2 15 cI (v0.length : Int), q2 16 cI ((k44 + 1 : Nat) : Int)] <|
  xn <| hn57 (s43 * (x45 + (1 : Int))) h)))

def rs_spec_cbIndices (r : (List Int)) : List D := [cc14.enc r]
def m66 : MC := .seq (.reg [q1 4 (.asg (.c (.slice true [])))] [0, 1])
 (.seq (.reg [q1 7 (.mv (.t 0)),q1 8 (.len false (.t 7)),q1 9 (.mk (.int .i64 0) (.t 8)),q1 5 (.asg (.t 9))] [0, 1, 5])
 (.seq (.kp [5] (.seq (.reg [q1 10 (.mv (.t 0)),q1 11 (.len false (.t 10)),q1 12 (.bin .sub (.t 11) (.c (.int .i64 1))),q1 6 (.asg (.t 12))] [0, 1, 5, 6])
 (.blk 0 (.loop (.seq (.kp [0, 1, 5, 6] (.seq (.reg [q1 13 (.mv (.t 6)),q1 14 (.bin .geq (.t 13) (.c (.int .i64 0)))] [0, 1, 5, 6, 14])
 (.cond (.t 14) (.skip) (.exit 0))))
 (.seq (.kp [0, 1, 5, 6] (.blk 1 (.seq (.reg [q1 17 (.mv (.t 5)),q1 18 (.mv (.t 6)),q1 19 (.mv (.t 1)),q1 20 (.mv (.t 0)),q1 21 (.mv (.t 6)),q1 22 (.ia 20 (.t 21) 1),q1 23 (.ld 22 1 false),q1 24 (.bin .add (.t 23) (.c (.int .i64 1))),q1 25 (.bin .rem (.t 19) (.t 24)),q1 26 (.ia 17 (.t 18) 1),q0 (.st 26 (.t 25) 1)] [0, 1, 5, 6])
 (.reg [q1 27 (.mv (.t 1)),q1 28 (.mv (.t 0)),q1 29 (.mv (.t 6)),q1 30 (.ia 28 (.t 29) 1),q1 31 (.ld 30 1 false),q1 32 (.bin .add (.t 31) (.c (.int .i64 1))),q1 33 (.bin .quo (.t 27) (.t 32)),q1 1 (.asg (.t 33))] [0, 1, 5, 6]))))
 (.reg [q1 15 (.mv (.t 6)),q1 16 (.bin .sub (.t 15) (.c (.int .i64 1))),q1 6 (.asg (.t 16))] [0, 1, 5, 6])))))))
 (.seq (.reg [q1 34 (.mv (.t 5)),q1 4 (.asg (.t 34))] [4])
 (.ret))))
theorem con_spec_cbIndices {v0 : (List Int)} {v1 : Int} {r : (List Int)} (h : sh_spec_cbIndices v0 v1 = some r) : Con Tryz.prog 66 [cc13.enc v0, cI.enc v1] [] (rs_spec_cbIndices r) := by
 delta sh_spec_cbIndices at h
 refine top (out := none) (f := Tryz.f66) (m := m66) (rs := [.t 4]) (by kernel_rfl) rfl (by kernel_rfl) (by kernel_rfl) (by kernel_rfl) (by kernel_rfl) (by kernel_rfl) ?_
 exact
  ini [q2 0 cc13 v0, q2 1 cI v1] rfl <| wpC_seq <| reg_s <| x_asg (sc cc14 ([] : List Int) rfl) <| sq [q2 0 cc13 v0, q2 1 cI v1] <|
  xn <| wpC_seq <| reg_s <| st rfl <| mvd rfl rfl <| stw rfl <| lens rfl fun l4 => mkO_k h fun i5 l6 h => st rfl <| o_mk (c := cI) (a0 := (0 : Int)) rfl (k := .i64) rfl i5 l6 <| x_asg (so rfl rfl) <| sq [q2 0 cc13 v0, q2 1 cI v1, q2 5 cc14 (List.replicate ((v0.length : Int)).toNat (0 : Int))] <|
  xn <| wpC_seq <| wpC_kp <| wpC_seq <| reg_s <| st rfl <| mvd rfl rfl <| stw rfl <| lens rfl fun l144 => ckI_k h fun i145 h => st rfl <| b_sub (k := .i64) rfl rfl i145 <| x_asg (ss rfl rfl) <| sq [q2 0 cc13 v0, q2 1 cI v1, q2 5 cc14 (List.replicate ((v0.length : Int)).toNat (0 : Int)), q2 6 cI ((v0.length : Int) - (1 : Int))] <|
  xn <| wpC_blk <| lpF (fun (s146 : (Int × (List Int) × Int)) => [q2 0 cc13 v0, q2 1 cI s146.1, q2 5 cc14 s146.2.1, q2 6 cI s146.2.2]) (v1, (List.replicate ((v0.length : Int)).toNat (0 : Int)), ((v0.length : Int) - (1 : Int))) rfl h
  fun G235 nx233 s146 hn234 h => wpC_seq <| wpC_kp <| wpC_seq <| reg_s <| st rfl <| mvd rfl rfl <| st rfl <| b_geq (k := .i64) rfl rfl <| sq [q2 0 cc13 v0, q2 1 cI s146.1, q2 5 cc14 s146.2.1, q2 6 cI s146.2.2, q2 14 cB (decide ((0 : Int) ≤ s146.2.2))] <|
  xn <| cnd rfl h (fun b237 h => wpC_skip <| kpN [q2 0 cc13 v0, q2 1 cI s146.1, q2 5 cc14 s146.2.1, q2 6 cI s146.2.2] (by kernel_rfl) <| xn <| wpC_seq <| wpC_kp <| wpC_blk <| wpC_seq <| reg_s <| st rfl <| mvo rfl rfl <| st rfl <| mvd rfl rfl <| st rfl <| mvd rfl rfl <| st rfl <| mvd rfl rfl <| st rfl <| mvd rfl rfl <| getO_k h fun x265 i266 g267 h => st rfl <| ias rfl rfl i266 g267 rfl <| st rfl <| ldi rfl rfl rfl rfl <| ckI_k h fun i268 h => st rfl <| b_add (k := .i64) rfl rfl i268 <| ck_k h fun i269 h => st rfl <| b_rem (k := .i64) rfl rfl i269 <| getO_k h fun x270 i271 g272 h => st rfl <| iar rfl rfl rfl rfl i271 g272 rfl <| x_sta (cc14.enc (s146.2.1.set (s146.2.2).toNat (s146.1.tmod (x265 + (1 : Int))))) (ss rfl rfl) rfl rfl (Ln.idx g272 Ln.nil) (Cd.h_sz cI _) rfl <| sq [q2 0 cc13 v0, q2 1 cI s146.1, q2 5 cc14 (s146.2.1.set (s146.2.2).toNat (s146.1.tmod (x265 + (1 : Int)))), q2 6 cI s146.2.2] <|
  xn <| reg_s <| st rfl <| mvd rfl rfl <| st rfl <| mvd rfl rfl <| st rfl <| mvd rfl rfl <| st rfl <| ias rfl rfl i266 g267 rfl <| st rfl <| ldi rfl rfl rfl rfl <| ckI_k h fun i273 h => st rfl <| b_add (k := .i64) rfl rfl i273 <| ck_k h fun i274 h => ckI_k h fun i275 h => st rfl <| b_quo (k := .i64) rfl rfl i274 i275 <| x_asg (ss rfl rfl) <| sq [q2 0 cc13 v0, q2 1 cI (s146.1.tdiv (x265 + (1 : Int))), q2 5 cc14 (s146.2.1.set (s146.2.2).toNat (s146.1.tmod (x265 + (1 : Int)))), q2 6 cI s146.2.2] <|
  xbb <| kpN [q2 0 cc13 v0, q2 1 cI (s146.1.tdiv (x265 + (1 : Int))), q2 5 cc14 (s146.2.1.set (s146.2.2).toNat (s146.1.tmod (x265 + (1 : Int)))), q2 6 cI s146.2.2] (by kernel_rfl) <| xn <| reg_s <| st rfl <| mvd rfl rfl <| ckI_k h fun i276 h => st rfl <| b_sub (k := .i64) rfl rfl i276 <| x_asg (ss rfl rfl) <| sq [q2 0 cc13 v0, q2 1 cI (s146.1.tdiv (x265 + (1 : Int))), q2 5 cc14 (s146.2.1.set (s146.2.2).toNat (s146.1.tmod (x265 + (1 : Int)))), q2 6 cI (s146.2.2 - (1 : Int))] <|
  xn <| hn234 ((s146.1.tdiv (x265 + (1 : Int))), (s146.2.1.set (s146.2.2).toNat (s146.1.tmod (x265 + (1 : Int)))), (s146.2.2 - (1 : Int))) h)
  (fun b237 h => wpC_exit <| xt <| xt <| xt <| xb <| kpN [q2 5 cc14 s146.2.1] (by kernel_rfl) <| xn <| wpC_seq <| reg_s <| st rfl <| mvo rfl rfl <| x_asg (sr rfl rfl) <| sq [q2 4 cc14 s146.2.1] <|
  xn <| wpC_ret <| re <| fin h (r1 (so rfl rfl) <| r0) rfl)

def rs_spec_cbAt (r : Int) : List D := [cI.enc r]
def m67 : MC := .seq (.reg [q1 4 (.asg (.c (.int .i64 0)))] [0, 1])
 (.seq (.reg [q1 5 (.asg (.c (.int .i64 0)))] [0, 1, 5])
 (.seq (.kp [5] (.seq (.reg [q1 8 (.mv (.t 0)),q1 9 (.len false (.t 8)),q1 10 (.mv (.c (.int .i64 0)))] [0, 1, 5, 8, 9, 10])
 (.blk 0 (.loop (.seq (.reg [q1 11 (.bin .lss (.t 10) (.t 9))] [0, 1, 5, 8, 9, 10, 11])
 (.seq (.kp [0, 1, 5, 8, 9, 10] (.cond (.t 11) (.skip) (.exit 0)))
 (.seq (.kp [0, 1, 5, 8, 9, 10] (.blk 1 (.seq (.reg [q1 12 (.mv (.t 10)),q1 13 (.ia 8 (.t 10) 1),q1 14 (.ld 13 1 false),q1 6 (.asg (.t 12)),q1 7 (.asg (.t 14))] [0, 1, 5, 6, 7, 8, 9, 10])
 (.reg [q1 15 (.mv (.t 5)),q1 16 (.mv (.t 7)),q1 17 (.bin .add (.t 16) (.c (.int .i64 1))),q1 18 (.bin .mul (.t 15) (.t 17)),q1 19 (.mv (.t 1)),q1 20 (.mv (.t 6)),q1 21 (.ia 19 (.t 20) 1),q1 22 (.ld 21 1 false),q1 23 (.bin .add (.t 18) (.t 22)),q1 5 (.asg (.t 23))] [0, 1, 5, 8, 9, 10]))))
 (.reg [q1 24 (.bin .add (.t 10) (.c (.int .i64 1))),q1 10 (.mv (.t 24))] [0, 1, 5, 8, 9, 10]))))))))
 (.seq (.reg [q1 25 (.mv (.t 5)),q1 4 (.asg (.t 25))] [4])
 (.ret))))
theorem con_spec_cbAt {v0 : (List Int)} {v1 : (List Int)} {r : Int} (h : sh_spec_cbAt v0 v1 = some r) : Con Tryz.prog 67 [cc13.enc v0, cc13.enc v1] [] (rs_spec_cbAt r) := by
 delta sh_spec_cbAt at h
 refine top (out := none) (f := Tryz.f67) (m := m67) (rs := [.t 4]) (by kernel_rfl) rfl (by kernel_rfl) (by kernel_rfl) (by kernel_rfl) (by kernel_rfl) (by kernel_rfl) ?_
 exact
  ini [q2 0 cc13 v0, q2 1 cc13 v1] rfl <| wpC_seq <| reg_s <| x_asg (sc cI (0 : Int) rfl) <| sq [q2 0 cc13 v0, q2 1 cc13 v1] <|
  xn <| wpC_seq <| reg_s <| x_asg (sc cI (0 : Int) rfl) <| sq [q2 0 cc13 v0, q2 1 cc13 v1, q2 5 cI (0 : Int)] <|
  xn <| wpC_seq <| wpC_kp <| wpC_seq <| reg_s <| st rfl <| mvd rfl rfl <| stw rfl <| lens rfl fun l48 => st rfl <| mvc cI (0 : Int) rfl <| sq [q2 0 cc13 v0, q2 1 cc13 v1, q2 5 cI (0 : Int), q2 8 cc13 v0, q2 9 cI (v0.length : Int), q2 10 cI (0 : Int)] <|
  xn <| wpC_blk <| lpR (fun (k50 : Nat) (s49 : Int) => [q2 0 cc13 v0, q2 1 cc13 v1, q2 5 cI s49, q2 8 cc13 v0, q2 9 cI (v0.length : Int), q2 10 cI (k50 : Int)]) (0 : Int) rfl h
  (fun G80 s49 h => wpC_seq <| reg_s <| st rfl <| b_lss (k := .i64) rfl rfl <| sq [q2 0 cc13 v0, q2 1 cc13 v1, q2 5 cI s49, q2 8 cc13 v0, q2 9 cI (v0.length : Int), q2 10 cI (v0.length : Int), q2 11 cB (decide ((v0.length : Int) < (v0.length : Int)))] <|
  xn <| wpC_seq <| wpC_kp <| cnd0 rfl (dlf _) <| wpC_exit <| xt <| xt <| xt <| xb <| kpN [q2 5 cI s49] (by kernel_rfl) <| xn <| wpC_seq <| reg_s <| st rfl <| mvd rfl rfl <| x_asg (ss rfl rfl) <| sq [q2 4 cI s49] <|
  xn <| wpC_ret <| re <| fin h (r1 (ss rfl rfl) <| r0) rfl)
  (fun G80 nx78 k50 s49 x51 hk52 hx53 hn79 h => wpC_seq <| reg_s <| st rfl <| b_lss (k := .i64) rfl rfl <| sq [q2 0 cc13 v0, q2 1 cc13 v1, q2 5 cI s49, q2 8 cc13 v0, q2 9 cI (v0.length : Int), q2 10 cI (k50 : Int), q2 11 cB (decide ((k50 : Int) < (v0.length : Int)))] <|
  xn <| wpC_seq <| wpC_kp <| cnd1 rfl (dlt hk52) <| wpC_skip <| kpN [q2 0 cc13 v0, q2 1 cc13 v1, q2 5 cI s49, q2 8 cc13 v0, q2 9 cI (v0.length : Int), q2 10 cI (k50 : Int)] (by kernel_rfl) <| xn <| wpC_seq <| wpC_kp <| wpC_blk <| wpC_seq <| reg_s <| st rfl <| mvd rfl rfl <| st rfl <| ias rfl rfl (Int.natCast_nonneg _) hx53 rfl <| st rfl <| ldi rfl rfl rfl rfl <| x_asg (ss rfl rfl) <| x_asg (ss rfl rfl) <| sq [q2 0 cc13 v0, q2 1 cc13 v1, q2 5 cI s49, q2 6 cI (k50 : Int), q2 7 cI x51, q2 8 cc13 v0, q2 9 cI (v0.length : Int), q2 10 cI (k50 : Int)] <|
  xn <| reg_s <| st rfl <| mvd rfl rfl <| st rfl <| mvd rfl rfl <| ckI_k h fun i87 h => st rfl <| b_add (k := .i64) rfl rfl i87 <| ckI_k h fun i88 h => st rfl <| b_mul (k := .i64) rfl rfl i88 <| st rfl <| mvd rfl rfl <| st rfl <| mvd rfl rfl <| getO_k h fun x89 i90 g91 h => st rfl <| ias rfl rfl i90 g91 rfl <| st rfl <| ldi rfl rfl rfl rfl <| ckI_k h fun i92 h => st rfl <| b_add (k := .i64) rfl rfl i92 <| x_asg (ss rfl rfl) <| sq [q2 0 cc13 v0, q2 1 cc13 v1, q2 5 cI ((s49 * (x51 + (1 : Int))) + x89), q2 8 cc13 v0, q2 9 cI (v0.length : Int), q2 10 cI (k50 : Int)] <|
  xbb <| kpN [q2 0 cc13 v0, q2 1 cc13 v1, q2 5 cI ((s49 * (x51 + (1 : Int))) + x89), q2 8 cc13 v0, q2 9 cI (v0.length : Int), q2 10 cI (k50 : Int)] (by kernel_rfl) <| xn <| reg_s <| st rfl <| b_inc rfl rfl l48 hk52 <| st rfl <| mvd rfl rfl <| sq [q2 0 cc13 v0, q2 1 cc13 v1, q2 5 cI ((s49 * (x51 + (1 : Int))) + x89), q2 8 cc13 v0, q2 9 cI (v0.length : Int), q2 10 cI ((k50 + 1 : Nat) : Int)] <|
  xn <| hn79 ((s49 * (x51 + (1 : Int))) + x89) h)

def rs_impl_cubeCells (r : Int) : List D := [cI.enc r]
def m76 : MC := .seq (.reg [q1 2 (.asg (.c (.int .i64 0)))] [0])
 (.seq (.kp [0] (.seq (.reg [q1 6 (.mv (.t 0)),q1 7 (.len false (.t 6)),q1 8 (.bin .gtr (.t 7) (.c (.int .i64 4)))] [0, 8])
 (.cond (.t 8) (.seq (.reg [q1 2 (.asg (.c (.int .i64 0)))] [2])
 (.ret)) (.skip))))
 (.seq (.reg [q1 3 (.asg (.c (.int .i64 1)))] [0, 3])
 (.seq (.kp [3] (.seq (.reg [q1 9 (.mv (.t 0)),q1 10 (.len false (.t 9)),q1 11 (.mv (.c (.int .i64 0)))] [0, 3, 9, 10, 11])
 (.blk 0 (.loop (.seq (.reg [q1 12 (.bin .lss (.t 11) (.t 10))] [0, 3, 9, 10, 11, 12])
 (.seq (.kp [0, 3, 9, 10, 11] (.cond (.t 12) (.skip) (.exit 0)))
 (.seq (.kp [0, 3, 9, 10, 11] (.blk 1 (.seq (.reg [q1 13 (.ia 9 (.t 11) 1),q1 14 (.ld 13 1 false),q1 5 (.asg (.t 14))] [0, 3, 5, 9, 10, 11])
 (.seq (.kp [0, 3, 5, 9, 10, 11] (.seq (.reg [q1 15 (.mv (.t 5)),q1 16 (.bin .lss (.t 15) (.c (.int .i64 1))),q1 17 (.mv (.t 16)),
  ⟨some 18, .mv (.t 5), some (17, false)⟩,
  ⟨some 19, .bin .gtr (.t 18) (.c (.int .i64 30)), some (17, false)⟩,q1 20 (.pick (.t 17) (.c (.bool true)) (.t 19))] [0, 3, 5, 9, 10, 11, 20])
 (.cond (.t 20) (.seq (.reg [q1 2 (.asg (.c (.int .i64 0)))] [2])
 (.ret)) (.skip))))
 (.reg [q1 21 (.mv (.t 3)),q1 22 (.mv (.t 5)),q1 23 (.bin .add (.t 22) (.c (.int .i64 1))),q1 24 (.bin .mul (.t 21) (.t 23)),q1 3 (.asg (.t 24))] [0, 3, 9, 10, 11])))))
 (.reg [q1 25 (.bin .add (.t 11) (.c (.int .i64 1))),q1 11 (.mv (.t 25))] [0, 3, 9, 10, 11]))))))))
 (.seq (.kp [3] (.seq (.reg [q1 26 (.mv (.t 3)),q1 27 (.bin .gtr (.t 26) (.c (.int .i64 2000)))] [3, 27])
 (.cond (.t 27) (.seq (.reg [q1 2 (.asg (.c (.int .i64 0)))] [2])
 (.ret)) (.skip))))
 (.seq (.reg [q1 28 (.mv (.t 3)),q1 2 (.asg (.t 28))] [2])
 (.ret))))))
theorem con_impl_cubeCells {v0 : (List Int)} {r : Int} (h : sh_impl_cubeCells v0 = some r) : Con Tryz.prog 76 [cc13.enc v0] [] (rs_impl_cubeCells r) := by
 delta sh_impl_cubeCells at h
 refine top (out := none) (f := Tryz.f76) (m := m76) (rs := [.t 2]) (by kernel_rfl) rfl (by kernel_rfl) (by kernel_rfl) (by kernel_rfl) (by kernel_rfl) (by kernel_rfl) ?_
 exact
  ini [q2 0 cc13 v0] rfl <| wpC_seq <| reg_s <| x_asg (sc cI (0 : Int) rfl) <| sq [q2 0 cc13 v0] <|
  xn <| wpC_seq <| wpC_kp <| wpC_seq <| reg_s <| st rfl <| mvd rfl rfl <| stw rfl <| lens rfl fun l5 => st rfl <| b_gtr (k := .i64) rfl rfl <| sq [q2 0 cc13 v0, q2 8 cB (decide ((4 : Int) < (v0.length : Int)))] <|
  xn <| cnd rfl h (fun b6 h => wpC_seq <| reg_s <| x_asg (sc cI (0 : Int) rfl) <| sq [q2 2 cI (0 : Int)] <|
  xn <| wpC_ret <| rt <| rt <| re <| fin h (r1 (ss rfl rfl) <| r0) rfl)
  (fun b6 h => wpC_skip <| kpN [q2 0 cc13 v0] (by kernel_rfl) <| xn <| wpC_seq <| reg_s <| x_asg (sc cI (1 : Int) rfl) <| sq [q2 0 cc13 v0, q2 3 cI (1 : Int)] <|
  xn <| wpC_seq <| wpC_kp <| wpC_seq <| reg_s <| st rfl <| mvd rfl rfl <| stw rfl <| lens rfl fun l66 => st rfl <| mvc cI (0 : Int) rfl <| sq [q2 0 cc13 v0, q2 3 cI (1 : Int), q2 9 cc13 v0, q2 10 cI (v0.length : Int), q2 11 cI (0 : Int)] <|
  xn <| wpC_blk <| lpR (fun (k68 : Nat) (s67 : Int) => [q2 0 cc13 v0, q2 3 cI s67, q2 9 cc13 v0, q2 10 cI (v0.length : Int), q2 11 cI (k68 : Int)]) (1 : Int) rfl h
  (fun G106 s67 h => wpC_seq <| reg_s <| st rfl <| b_lss (k := .i64) rfl rfl <| sq [q2 0 cc13 v0, q2 3 cI s67, q2 9 cc13 v0, q2 10 cI (v0.length : Int), q2 11 cI (v0.length : Int), q2 12 cB (decide ((v0.length : Int) < (v0.length : Int)))] <|
  xn <| wpC_seq <| wpC_kp <| cnd0 rfl (dlf _) <| wpC_exit <| xt <| xt <| xt <| xb <| kpN [q2 3 cI s67] (by kernel_rfl) <| xn <| wpC_seq <| wpC_kp <| wpC_seq <| reg_s <| st rfl <| mvd rfl rfl <| st rfl <| b_gtr (k := .i64) rfl rfl <| sq [q2 3 cI s67, q2 27 cB (decide ((2000 : Int) < s67))] <|
  xn <| cnd rfl h (fun b108 h => wpC_seq <| reg_s <| x_asg (sc cI (0 : Int) rfl) <| sq [q2 2 cI (0 : Int)] <|
  xn <| wpC_ret <| rt <| rt <| re <| fin h (r1 (ss rfl rfl) <| r0) rfl)
  (fun b108 h => wpC_skip <| kpN [q2 3 cI s67] (by kernel_rfl) <| xn <| wpC_seq <| reg_s <| st rfl <| mvd rfl rfl <| x_asg (ss rfl rfl) <| sq [q2 2 cI s67] <|
  xn <| wpC_ret <| re <| fin h (r1 (ss rfl rfl) <| r0) rfl))
  (fun G106 nx104 k68 s67 x69 hk70 hx71 hn105 h => wpC_seq <| reg_s <| st rfl <| b_lss (k := .i64) rfl rfl <| sq [q2 0 cc13 v0, q2 3 cI s67, q2 9 cc13 v0, q2 10 cI (v0.length : Int), q2 11 cI (k68 : Int), q2 12 cB (decide ((k68 : Int) < (v0.length : Int)))] <|
  xn <| wpC_seq <| wpC_kp <| cnd1 rfl (dlt hk70) <| wpC_skip <| kpN [q2 0 cc13 v0, q2 3 cI s67, q2 9 cc13 v0, q2 10 cI (v0.length : Int), q2 11 cI (k68 : Int)] (by kernel_rfl) <| xn <| wpC_seq <| wpC_kp <| wpC_blk <| wpC_seq <| reg_s <| st rfl <| ias rfl rfl (Int.natCast_nonneg _) hx71 rfl <| st rfl <| ldi rfl rfl rfl rfl <| x_asg (ss rfl rfl) <| sq [q2 0 cc13 v0, q2 3 cI s67, q2 5 cI x69, q2 9 cc13 v0, q2 10 cI (v0.length : Int), q2 11 cI (k68 : Int)] <|
  xn <| wpC_seq <| wpC_kp <| wpC_seq <| reg_s <| st rfl <| mvd rfl rfl <| st rfl <| b_lss (k := .i64) rfl rfl <| st rfl <| mvd rfl rfl <| ite_k h (fun b121 h => gf rfl b121 <| gf rfl b121 <| st rfl <| pick1 rfl b121 (cd := cB) (v := true) rfl rfl <| sq [q2 0 cc13 v0, q2 3 cI s67, q2 5 cI x69, q2 9 cc13 v0, q2 10 cI (v0.length : Int), q2 11 cI (k68 : Int), q2 20 cB true] <|
  xn <| cnd1 rfl rfl <| wpC_seq <| reg_s <| x_asg (sc cI (0 : Int) rfl) <| sq [q2 2 cI (0 : Int)] <|
  xn <| wpC_ret <| rt <| rt <| rb <| rt <| rt <| rt <| rb <| rt <| rt <| re <| fin h (r1 (ss rfl rfl) <| r0) rfl)
  (fun b121 h => gt' rfl b121 <| st rfl <| mvd rfl rfl <| gt' rfl b121 <| st rfl <| b_gtr (k := .i64) rfl rfl <| st rfl <| pick0 rfl b121 (cd := cB) (v := (decide ((30 : Int) < x69))) rfl rfl <| sq [q2 0 cc13 v0, q2 3 cI s67, q2 5 cI x69, q2 9 cc13 v0, q2 10 cI (v0.length : Int), q2 11 cI (k68 : Int), q2 20 cB (decide ((30 : Int) < x69))] <|
  xn <| cnd rfl h (fun b122 h => wpC_seq <| reg_s <| x_asg (sc cI (0 : Int) rfl) <| sq [q2 2 cI (0 : Int)] <|
  xn <| wpC_ret <| rt <| rt <| rb <| rt <| rt <| rt <| rb <| rt <| rt <| re <| fin h (r1 (ss rfl rfl) <| r0) rfl)
  (fun b122 h => wpC_skip <| kpN [q2 0 cc13 v0, q2 3 cI s67, q2 5 cI x69, q2 9 cc13 v0, q2 10 cI (v0.length : Int), q2 11 cI (k68 : Int)] (by kernel_rfl) <| xn <| reg_s <| st rfl <| mvd rfl rfl <| st rfl <| mvd rfl rfl <| ckI_k h fun i123 h => st rfl <| b_add (k := .i64) rfl rfl i123 <| ckI_k h fun i124 h => st rfl <| b_mul (k := .i64) rfl rfl i124 <| x_asg (ss rfl rfl) <| sq [q2 0 cc13 v0, q2 3 cI (s67 * (x69 + (1 : Int))), q2 9 cc13 v0, q2 10 cI (v0.length : Int), q2 11 cI (k68 : Int)] <|
  xbb <| kpN [q2 0 cc13 v0, q2 3 cI (s67 * (x69 + (1 : Int))), q2 9 cc13 v0, q2 10 cI (v0.length : Int), q2 11 cI (k68 : Int)] (by kernel_rfl) <| xn <| reg_s <| st rfl <| b_inc rfl rfl l66 hk70 <| st rfl <| mvd rfl rfl <| sq [q2 0 cc13 v0, q2 3 cI (s67 * (x69 + (1 : Int))), q2 9 cc13 v0, q2 10 cI (v0.length : Int), q2 11 cI ((k68 + 1 : Nat) : Int)] <|
  xn <| hn105 (s67 * (x69 + (1 : Int))) h))))

def rs_impl_strides (r : (List Int)) : List D := [cc14.enc r]
def m102 : MC := .seq (.reg [q1 2 (.asg (.c (.slice true [])))] [0])
 (.seq (.reg [q1 6 (.mv (.t 0)),q1 7 (.len false (.t 6)),q1 8 (.mk (.int .i64 0) (.t 7)),q1 3 (.asg (.t 8))] [0, 3])
 (.seq (.reg [q1 4 (.asg (.c (.int .i64 1)))] [0, 3, 4])
 (.seq (.kp [3] (.seq (.reg [q1 9 (.mv (.t 0)),q1 10 (.len false (.t 9)),q1 11 (.bin .sub (.t 10) (.c (.int .i64 1))),q1 5 (.asg (.t 11))] [0, 3, 4, 5])
 (.blk 0 (.loop (.seq (.kp [0, 3, 4, 5] (.seq (.reg [q1 12 (.mv (.t 5)),q1 13 (.bin .geq (.t 12) (.c (.int .i64 0)))] [0, 3, 4, 5, 13])
 (.cond (.t 13) (.skip) (.exit 0))))
 (.seq (.kp [0, 3, 4, 5] (.blk 1 (.seq (.reg [q1 16 (.mv (.t 3)),q1 17 (.mv (.t 5)),q1 18 (.mv (.t 4)),q1 19 (.ia 16 (.t 17) 1),q0 (.st 19 (.t 18) 1)] [0, 3, 4, 5])
 (.reg [q1 20 (.mv (.t 4)),q1 21 (.mv (.t 0)),q1 22 (.mv (.t 5)),q1 23 (.ia 21 (.t 22) 1),q1 24 (.ld 23 1 false),q1 25 (.bin .add (.t 24) (.c (.int .i64 1))),q1 26 (.bin .mul (.t 20) (.t 25)),q1 4 (.asg (.t 26))] [0, 3, 4, 5]))))
 (.reg [q1 14 (.mv (.t 5)),q1 15 (.bin .sub (.t 14) (.c (.int .i64 1))),q1 5 (.asg (.t 15))] [0, 3, 4, 5])))))))
 (.seq (.reg [q1 27 (.mv (.t 3)),q1 2 (.asg (.t 27))] [2])
 (.ret)))))
theorem con_impl_strides {v0 : (List Int)} {r : (List Int)} (h : sh_impl_strides v0 = some r) : Con Tryz.prog 102 [cc13.enc v0] [] (rs_impl_strides r) := by
 delta sh_impl_strides at h
 refine top (out := none) (f := Tryz.f102) (m := m102) (rs := [.t 2]) (by kernel_rfl) rfl (by kernel_rfl) (by kernel_rfl) (by kernel_rfl) (by kernel_rfl) (by kernel_rfl) ?_
 exact
  ini [q2 0 cc13 v0] rfl <| wpC_seq <| reg_s <| x_asg (sc cc14 ([] : List Int) rfl) <| sq [q2 0 cc13 v0] <|
  xn <| wpC_seq <| reg_s <| st rfl <| mvd rfl rfl <| stw rfl <| lens rfl fun l4 => mkO_k h fun i5 l6 h => st rfl <| o_mk (c := cI) (a0 := (0 : Int)) rfl (k := .i64) rfl i5 l6 <| x_asg (so rfl rfl) <| sq [q2 0 cc13 v0, q2 3 cc14 (List.replicate ((v0.length : Int)).toNat (0 : Int))] <|
  xn <| wpC_seq <| reg_s <| x_asg (sc cI (1 : Int) rfl) <| sq [q2 0 cc13 v0, q2 3 cc14 (List.replicate ((v0.length : Int)).toNat (0 : Int)), q2 4 cI (1 : Int)] <|
  xn <| wpC_seq <| wpC_kp <| wpC_seq <| reg_s <| st rfl <| mvd rfl rfl <| stw rfl <| lens rfl fun l96 => ckI_k h fun i97 h => st rfl <| b_sub (k := .i64) rfl rfl i97 <| x_asg (ss rfl rfl) <| sq [q2 0 cc13 v0, q2 3 cc14 (List.replicate ((v0.length : Int)).toNat (0 : Int)), q2 4 cI (1 : Int), q2 5 cI ((v0.length : Int) - (1 : Int))] <|
  xn <| wpC_blk <| lpF (fun (s98 : ((List Int) × Int × Int)) => [q2 0 cc13 v0, q2 3 cc14 s98.1, q2 4 cI s98.2.1, q2 5 cI s98.2.2]) ((List.replicate ((v0.length : Int)).toNat (0 : Int)), (1 : Int), ((v0.length : Int) - (1 : Int))) rfl h
  fun G155 nx153 s98 hn154 h => wpC_seq <| wpC_kp <| wpC_seq <| reg_s <| st rfl <| mvd rfl rfl <| st rfl <| b_geq (k := .i64) rfl rfl <| sq [q2 0 cc13 v0, q2 3 cc14 s98.1, q2 4 cI s98.2.1, q2 5 cI s98.2.2, q2 13 cB (decide ((0 : Int) ≤ s98.2.2))] <|
  xn <| cnd rfl h (fun b157 h => wpC_skip <| kpN [q2 0 cc13 v0, q2 3 cc14 s98.1, q2 4 cI s98.2.1, q2 5 cI s98.2.2] (by kernel_rfl) <| xn <| wpC_seq <| wpC_kp <| wpC_blk <| wpC_seq <| reg_s <| st rfl <| mvo rfl rfl <| st rfl <| mvd rfl rfl <| st rfl <| mvd rfl rfl <| getO_k h fun x172 i173 g174 h => st rfl <| iar rfl rfl rfl rfl i173 g174 rfl <| x_sta (cc14.enc (s98.1.set (s98.2.2).toNat s98.2.1)) (ss rfl rfl) rfl rfl (Ln.idx g174 Ln.nil) (Cd.h_sz cI _) rfl <| sq [q2 0 cc13 v0, q2 3 cc14 (s98.1.set (s98.2.2).toNat s98.2.1), q2 4 cI s98.2.1, q2 5 cI s98.2.2] <|
  xn <| reg_s <| st rfl <| mvd rfl rfl <| st rfl <| mvd rfl rfl <| st rfl <| mvd rfl rfl <| getO_k h fun x175 i176 g177 h => st rfl <| ias rfl rfl i176 g177 rfl <| st rfl <| ldi rfl rfl rfl rfl <| ckI_k h fun i178 h => st rfl <| b_add (k := .i64) rfl rfl i178 <| ckI_k h fun i179 h => st rfl <| b_mul (k := .i64) rfl rfl i179 <| x_asg (ss rfl rfl) <| sq [q2 0 cc13 v0, q2 3 cc14 (s98.1.set (s98.2.2).toNat s98.2.1), q2 4 cI (s98.2.1 * (x175 + (1 : Int))), q2 5 cI s98.2.2] <|
  xbb <| kpN [q2 0 cc13 v0, q2 3 cc14 (s98.1.set (s98.2.2).toNat s98.2.1), q2 4 cI (s98.2.1 * (x175 + (1 : Int))), q2 5 cI s98.2.2] (by kernel_rfl) <| xn <| reg_s <| st rfl <| mvd rfl rfl <| ckI_k h fun i180 h => st rfl <| b_sub (k := .i64) rfl rfl i180 <| x_asg (ss rfl rfl) <| sq [q2 0 cc13 v0, q2 3 cc14 (s98.1.set (s98.2.2).toNat s98.2.1), q2 4 cI (s98.2.1 * (x175 + (1 : Int))), q2 5 cI (s98.2.2 - (1 : Int))] <|
  xn <| hn154 ((s98.1.set (s98.2.2).toNat s98.2.1), (s98.2.1 * (x175 + (1 : Int))), (s98.2.2 - (1 : Int))) h)
  (fun b157 h => wpC_exit <| xt <| xt <| xt <| xb <| kpN [q2 3 cc14 s98.1] (by kernel_rfl) <| xn <| wpC_seq <| reg_s <| st rfl <| mvo rfl rfl <| x_asg (sr rfl rfl) <| sq [q2 2 cc14 s98.1] <|
  xn <| wpC_ret <| re <| fin h (r1 (so rfl rfl) <| r0) rfl)

def rs_impl_indexOf (r : (List Int)) : List D := [cc14.enc r]
def m100 : MC := .seq (.reg [q1 4 (.asg (.c (.slice true [])))] [0, 1])
 (.seq (.reg [q1 8 (.mv (.t 0)),q1 9 (.len false (.t 8)),q1 10 (.mk (.int .i64 0) (.t 9)),q1 5 (.asg (.t 10))] [0, 1, 5])
 (.seq (.kp [5] (.seq (.reg [q1 11 (.mv (.t 0)),q1 12 (.call 102 [(.t 11)]),q1 13 (.len false (.t 12)),q1 14 (.mv (.c (.int .i64 0)))] [1, 5, 12, 13, 14])
 (.blk 0 (.loop (.seq (.reg [q1 15 (.bin .lss (.t 14) (.t 13))] [1, 5, 12, 13, 14, 15])
 (.seq (.kp [1, 5, 12, 13, 14] (.cond (.t 15) (.skip) (.exit 0)))
 (.seq (.kp [1, 5, 12, 13, 14] (.blk 1 (.seq (.reg [q1 16 (.mv (.t 14)),q1 17 (.ia 12 (.t 14) 1),q1 18 (.ld 17 1 false),q1 6 (.asg (.t 16)),q1 7 (.asg (.t 18))] [1, 5, 6, 7, 12, 13, 14])
 (.seq (.reg [q1 19 (.mv (.t 5)),q1 20 (.mv (.t 6)),q1 21 (.mv (.t 1)),q1 22 (.mv (.t 7)),q1 23 (.bin .quo (.t 21) (.t 22)),q1 24 (.ia 19 (.t 20) 1),q0 (.st 24 (.t 23) 1)] [1, 5, 7, 12, 13, 14])
 (.reg [q1 25 (.mv (.t 1)),q1 26 (.mv (.t 7)),q1 27 (.bin .rem (.t 25) (.t 26)),q1 1 (.asg (.t 27))] [1, 5, 12, 13, 14])))))
 (.reg [q1 28 (.bin .add (.t 14) (.c (.int .i64 1))),q1 14 (.mv (.t 28))] [1, 5, 12, 13, 14]))))))))
 (.seq (.reg [q1 29 (.mv (.t 5)),q1 4 (.asg (.t 29))] [4])
 (.ret))))
theorem con_impl_indexOf {v0 : (List Int)} {v1 : Int} {r : (List Int)} (h : sh_impl_indexOf v0 v1 = some r) : Con Tryz.prog 100 [cc13.enc v0, cI.enc v1] [] (rs_impl_indexOf r) := by
 delta sh_impl_indexOf at h
 refine top (out := none) (f := Tryz.f100) (m := m100) (rs := [.t 4]) (by kernel_rfl) rfl (by kernel_rfl) (by kernel_rfl) (by kernel_rfl) (by kernel_rfl) (by kernel_rfl) ?_
 exact
  ini [q2 0 cc13 v0, q2 1 cI v1] rfl <| wpC_seq <| reg_s <| x_asg (sc cc14 ([] : List Int) rfl) <| sq [q2 0 cc13 v0, q2 1 cI v1] <|
  xn <| wpC_seq <| reg_s <| st rfl <| mvd rfl rfl <| stw rfl <| lens rfl fun l4 => mkO_k h fun i5 l6 h => st rfl <| o_mk (c := cI) (a0 := (0 : Int)) rfl (k := .i64) rfl i5 l6 <| x_asg (so rfl rfl) <| sq [q2 0 cc13 v0, q2 1 cI v1, q2 5 cc14 (List.replicate ((v0.length : Int)).toNat (0 : Int))] <|
  xn <| wpC_seq <| wpC_kp <| wpC_seq <| reg_s <| st rfl <| mvd rfl rfl <| bnd h fun x90 e91 h => st rfl <| o_call (a1 (c := cc13) (tLs tK) rfl a0) (con_impl_strides e91) (.inl (so1 (sLo sK) so0)) <| stw rfl <| leno rfl fun l92 => st rfl <| mvc cI (0 : Int) rfl <| sq [q2 1 cI v1, q2 5 cc14 (List.replicate ((v0.length : Int)).toNat (0 : Int)), q2 12 cc14 x90, q2 13 cI (x90.length : Int), q2 14 cI (0 : Int)] <|
  xn <| wpC_blk <| lpR (fun (k94 : Nat) (s93 : (Int × (List Int))) => [q2 1 cI s93.1, q2 5 cc14 s93.2, q2 12 cc14 x90, q2 13 cI (x90.length : Int), q2 14 cI (k94 : Int)]) (v1, (List.replicate ((v0.length : Int)).toNat (0 : Int))) rfl h
  (fun G144 s93 h => wpC_seq <| reg_s <| st rfl <| b_lss (k := .i64) rfl rfl <| sq [q2 1 cI s93.1, q2 5 cc14 s93.2, q2 12 cc14 x90, q2 13 cI (x90.length : Int), q2 14 cI (x90.length : Int), q2 15 cB (decide ((x90.length : Int) < (x90.length : Int)))] <|
  xn <| wpC_seq <| wpC_kp <| cnd0 rfl (dlf _) <| wpC_exit <| xt <| xt <| xt <| xb <| kpN [q2 5 cc14 s93.2] (by kernel_rfl) <| xn <| wpC_seq <| reg_s <| st rfl <| mvo rfl rfl <| x_asg (sr rfl rfl) <| sq [q2 4 cc14 s93.2] <|
  xn <| wpC_ret <| re <| fin h (r1 (so rfl rfl) <| r0) rfl)
  (fun G144 nx142 k94 s93 x95 hk96 hx97 hn143 h => wpC_seq <| reg_s <| st rfl <| b_lss (k := .i64) rfl rfl <| sq [q2 1 cI s93.1, q2 5 cc14 s93.2, q2 12 cc14 x90, q2 13 cI (x90.length : Int), q2 14 cI (k94 : Int), q2 15 cB (decide ((k94 : Int) < (x90.length : Int)))] <|
  xn <| wpC_seq <| wpC_kp <| cnd1 rfl (dlt hk96) <| wpC_skip <| kpN [q2 1 cI s93.1, q2 5 cc14 s93.2, q2 12 cc14 x90, q2 13 cI (x90.length : Int), q2 14 cI (k94 : Int)] (by kernel_rfl) <| xn <| wpC_seq <| wpC_kp <| wpC_blk <| wpC_seq <| reg_s <| st rfl <| mvd rfl rfl <| st rfl <| iao rfl rfl (Int.natCast_nonneg _) hx97 rfl <| st rfl <| lda rfl rfl (Gt.idx hx97 Gt.nil) rfl rfl rfl <| x_asg (ss rfl rfl) <| x_asg (ss rfl rfl) <| sq [q2 1 cI s93.1, q2 5 cc14 s93.2, q2 6 cI (k94 : Int), q2 7 cI x95, q2 12 cc14 x90, q2 13 cI (x90.length : Int), q2 14 cI (k94 : Int)] <|
  xn <| wpC_seq <| reg_s <| st rfl <| mvo rfl rfl <| st rfl <| mvd rfl rfl <| st rfl <| mvd rfl rfl <| st rfl <| mvd rfl rfl <| ck_k h fun i161 h => ckI_k h fun i162 h => st rfl <| b_quo (k := .i64) rfl rfl i161 i162 <| getO_k h fun x163 i164 g165 h => st rfl <| iar rfl rfl rfl rfl i164 g165 rfl <| x_sta (cc14.enc (s93.2.set ((k94 : Int)).toNat (s93.1.tdiv x95))) (ss rfl rfl) rfl rfl (Ln.idx g165 Ln.nil) (Cd.h_sz cI _) rfl <| sq [q2 1 cI s93.1, q2 5 cc14 (s93.2.set ((k94 : Int)).toNat (s93.1.tdiv x95)), q2 7 cI x95, q2 12 cc14 x90, q2 13 cI (x90.length : Int), q2 14 cI (k94 : Int)] <|
  xn <| reg_s <| st rfl <| mvd rfl rfl <| st rfl <| mvd rfl rfl <| ck_k h fun i166 h => st rfl <| b_rem (k := .i64) rfl rfl i166 <| x_asg (ss rfl rfl) <| sq [q2 1 cI (s93.1.tmod x95), q2 5 cc14 (s93.2.set ((k94 : Int)).toNat (s93.1.tdiv x95)), q2 12 cc14 x90, q2 13 cI (x90.length : Int), q2 14 cI (k94 : Int)] <|
  xbb <| kpN [q2 1 cI (s93.1.tmod x95), q2 5 cc14 (s93.2.set ((k94 : Int)).toNat (s93.1.tdiv x95)), q2 12 cc14 x90, q2 13 cI (x90.length : Int), q2 14 cI (k94 : Int)] (by kernel_rfl) <| xn <| reg_s <| st rfl <| b_inc rfl rfl l92 hk96 <| st rfl <| mvd rfl rfl <| sq [q2 1 cI (s93.1.tmod x95), q2 5 cc14 (s93.2.set ((k94 : Int)).toNat (s93.1.tdiv x95)), q2 12 cc14 x90, q2 13 cI (x90.length : Int), q2 14 cI ((k94 + 1 : Nat) : Int)] <|
  xn <| hn143 ((s93.1.tmod x95), (s93.2.set ((k94 : Int)).toNat (s93.1.tdiv x95))) h)
def rs_laws_eqIntS (r : Bool) : List D := [cB.enc r]
def m44 : MC := .seq (.reg [q1 4 (.asg (.c (.bool false)))] [0, 1])
 (.seq (.kp [0, 1] (.seq (.reg [q1 6 (.mv (.t 0)),q1 7 (.len false (.t 6)),q1 8 (.mv (.t 1)),q1 9 (.len false (.t 8)),q1 10 (.bin .neq (.t 7) (.t 9))] [0, 1, 10])
 (.cond (.t 10) (.seq (.reg [q1 4 (.asg (.c (.bool false)))] [4])
 (.ret)) (.skip))))
 (.seq (.kp [] (.seq (.reg [q1 5 (.asg (.c (.int .i64 0)))] [0, 1, 5])
 (.blk 0 (.loop (.seq (.kp [0, 1, 5] (.seq (.reg [q1 11 (.mv (.t 5)),q1 12 (.mv (.t 0)),q1 13 (.len false (.t 12)),q1 14 (.bin .lss (.t 11) (.t 13))] [0, 1, 5, 14])
 (.cond (.t 14) (.skip) (.exit 0))))
 (.seq (.kp [0, 1, 5] (.blk 1 (.seq (.drw [⟨0, q1 17 (.mv (.t 0)), [18, 19, 20, 21, 22, 23, 24, 25]⟩,
  ⟨1, q1 18 (.mv (.t 5)), [17, 19, 20, 21, 22, 23, 24, 25]⟩,
  ⟨2, q1 19 (.ia 17 (.t 18) 1), [20, 21, 22, 23, 24, 25]⟩,
  ⟨3, q1 20 (.ld 19 1 false), [21, 22, 23, 24, 25]⟩,
  ⟨4, q1 21 (.mv (.t 1)), [17, 18, 19, 20, 22, 23, 24, 25]⟩,
  ⟨5, q1 22 (.mv (.t 5)), [17, 18, 19, 20, 21, 23, 24, 25]⟩,
  ⟨6, q1 23 (.ia 21 (.t 22) 1), [17, 18, 19, 20, 24, 25]⟩,
  ⟨7, q1 24 (.ld 23 1 false), [17, 18, 19, 20, 25]⟩,
  ⟨8, q1 25 (.bin .neq (.t 20) (.t 24)), []⟩]
  [] [0, 1, 5, 25])
 (.cond (.t 25) (.seq (.reg [q1 4 (.asg (.c (.bool false)))] [4])
 (.ret)) (.skip)))))
 (.reg [q1 15 (.mv (.t 5)),q1 16 (.bin .add (.t 15) (.c (.int .i64 1))),q1 5 (.asg (.t 16))] [0, 1, 5])))))))
 (.seq (.reg [q1 4 (.asg (.c (.bool true)))] [4])
 (.ret))))
theorem con_laws_eqIntS {v0 : (List Int)} {v1 : (List Int)} {r : Bool} (h : sh_laws_eqIntS v0 v1 = some r) : Con Tryz.prog 44 [cc13.enc v0, cc13.enc v1] [] (rs_laws_eqIntS r) := by
 delta sh_laws_eqIntS at h
 refine top (out := none) (f := Tryz.f44) (m := m44) (rs := [.t 4]) (by kernel_rfl) rfl (by kernel_rfl) (by kernel_rfl) (by kernel_rfl) (by kernel_rfl) (by kernel_rfl) ?_
 exact
  ini [q2 0 cc13 v0, q2 1 cc13 v1] rfl <| wpC_seq <| reg_s <| x_asg (sc cB false rfl) <| sq [q2 0 cc13 v0, q2 1 cc13 v1] <|
  xn <| wpC_seq <| wpC_kp <| wpC_seq <| reg_s <| st rfl <| mvd rfl rfl <| stw rfl <| lens rfl fun l8 => st rfl <| mvd rfl rfl <| stw rfl <| lens rfl fun l9 => st rfl <| b_neq (k := .i64) rfl rfl <| sq [q2 0 cc13 v0, q2 1 cc13 v1, q2 10 cB (decide ((v0.length : Int) ≠ (v1.length : Int)))] <|
  xn <| cnd rfl h (fun b10 h => wpC_seq <| reg_s <| x_asg (sc cB false rfl) <| sq [q2 4 cB false] <|
  xn <| wpC_ret <| rt <| rt <| re <| fin h (r1 (ss rfl rfl) <| r0) rfl)
  (fun b10 h => wpC_skip <| kpN [q2 0 cc13 v0, q2 1 cc13 v1] (by kernel_rfl) <| xn <| wpC_seq <| wpC_kp <| wpC_seq <| reg_s <| x_asg (sc cI (0 : Int) rfl) <| sq [q2 0 cc13 v0, q2 1 cc13 v1, q2 5 cI (0 : Int)] <|
  xn <| wpC_blk <| lpF (fun (s118 : Int) => [q2 0 cc13 v0, q2 1 cc13 v1, q2 5 cI s118]) (0 : Int) rfl h
  fun G191 nx189 s118 hn190 h => wpC_seq <| wpC_kp <| wpC_seq <| reg_s <| st rfl <| mvd rfl rfl <| st rfl <| mvd rfl rfl <| stw rfl <| lens rfl fun l196 => st rfl <| b_lss (k := .i64) rfl rfl <| sq [q2 0 cc13 v0, q2 1 cc13 v1, q2 5 cI s118, q2 14 cB (decide (s118 < (v0.length : Int)))] <|
  xn <| cnd rfl h (fun b197 h => wpC_skip <| kpN [q2 0 cc13 v0, q2 1 cc13 v1, q2 5 cI s118] (by kernel_rfl) <| xn <| wpC_seq <| wpC_kp <| wpC_blk <| wpC_seq <| drw_s <| pst rfl <| mvd rfl rfl ⟨rfl, pst rfl <| mvd rfl rfl ⟨rfl, getO_kp h fun x217 i218 g219 h => pst rfl <| ias rfl rfl i218 g219 rfl ⟨rfl, pst rfl <| ldi rfl rfl rfl rfl ⟨rfl, pst rfl <| mvd rfl rfl ⟨rfl, pst rfl <| mvd rfl rfl ⟨rfl, getO_kp h fun x220 i221 g222 h => pst rfl <| ias rfl rfl i221 g222 rfl ⟨rfl, pst rfl <| ldi rfl rfl rfl rfl ⟨rfl, pst rfl <| b_neq (k := .i64) rfl rfl ⟨rfl, preN <| sq [q2 0 cc13 v0, q2 1 cc13 v1, q2 5 cI s118, q2 25 cB (decide (x217 ≠ x220))] <|
  xn <| cnd rfl h (fun b223 h => wpC_seq <| reg_s <| x_asg (sc cB false rfl) <| sq [q2 4 cB false] <|
  xn <| wpC_ret <| rb <| rt <| rt <| rt <| rb <| rt <| rt <| re <| fin h (r1 (ss rfl rfl) <| r0) rfl)
  (fun b223 h => wpC_skip <| xbb <| kpN [q2 0 cc13 v0, q2 1 cc13 v1, q2 5 cI s118] (by kernel_rfl) <| xn <| reg_s <| st rfl <| mvd rfl rfl <| ckI_k h fun i224 h => st rfl <| b_add (k := .i64) rfl rfl i224 <| x_asg (ss rfl rfl) <| sq [q2 0 cc13 v0, q2 1 cc13 v1, q2 5 cI (s118 + (1 : Int))] <|
  xn <| hn190 (s118 + (1 : Int)) h)⟩⟩⟩⟩⟩⟩⟩⟩⟩)
  (fun b197 h => wpC_exit <| xt <| xt <| xt <| xb <| kpN [] (by kernel_rfl) <| xn <| wpC_seq <| reg_s <| x_asg (sc cB true rfl) <| sq [q2 4 cB true] <|
  xn <| wpC_ret <| re <| fin h (r1 (ss rfl rfl) <| r0) rfl))

def rs_laws_eqCube (r : Bool) : List D := [cB.enc r]
def m14 : MC := .seq (.reg [q1 2 (.box (.t 0)),q1 3 (.box (.t 1)),q1 4 (.asg (.c (.bool false)))] [2, 3])
 (.seq (.kp [2, 3] (.seq (.reg [q1 5 (.fa 2 0 0),q1 6 (.ld 5 1 false),q1 7 (.fa 3 0 0),q1 8 (.ld 7 1 false),q1 9 (.call 44 [(.t 6), (.t 8)]),q1 10 (.nt (.t 9))] [2, 3, 10])
 (.cond (.t 10) (.seq (.reg [q1 4 (.asg (.c (.bool false)))] [4])
 (.ret)) (.skip))))
 (.seq (.kp [] (.seq (.reg [q1 11 (.fa 2 1 1),q1 12 (.ld 11 1 false),q1 13 (.fa 3 1 1),q1 14 (.ld 13 1 false),q1 15 (.call 44 [(.t 12), (.t 14)]),q1 16 (.nt (.t 15))] [16])
 (.cond (.t 16) (.seq (.reg [q1 4 (.asg (.c (.bool false)))] [4])
 (.ret)) (.skip))))
 (.seq (.reg [q1 4 (.asg (.c (.bool true)))] [4])
 (.ret))))
theorem con_laws_eqCube {v0 : XCube} {v1 : XCube} {r : Bool} (h : sh_laws_eqCube v0 v1 = some r) : Con Tryz.prog 14 [cc2.enc v0, cc2.enc v1] [] (rs_laws_eqCube r) := by
 delta sh_laws_eqCube at h
 refine top (out := none) (f := Tryz.f14) (m := m14) (rs := [.t 4]) (by kernel_rfl) rfl (by kernel_rfl) (by kernel_rfl) (by kernel_rfl) (by kernel_rfl) (by kernel_rfl) ?_
 exact
  ini [q2 0 cc2 v0, q2 1 cc2 v1] rfl <| wpC_seq <| reg_s <| x_box (ss rfl rfl) <| x_box (ss rfl rfl) <| x_asg (sc cB false rfl) <| sq [q3 2 cc2 v0, q3 3 cc2 v1] <|
  xn <| wpC_seq <| wpC_kp <| wpC_seq <| reg_s <| st rfl <| fab rfl rfl rfl rfl <| st rfl <| lda rfl rfl rfl rfl rfl rfl <| st rfl <| fab rfl rfl rfl rfl <| st rfl <| lda rfl rfl rfl rfl rfl rfl <| bnd h fun x8 e9 h => st rfl <| o_call (a1 (c := cc13) (tLs tK) rfl (a1 (c := cc13) (tLs tK) rfl a0)) (con_laws_eqIntS e9) (.inl (so1 sB so0)) <| st rfl <| o_nt rfl <| sq [q3 2 cc2 v0, q3 3 cc2 v1, q2 10 cB (!x8)] <|
  xn <| cnd rfl h (fun b10 h => wpC_seq <| reg_s <| x_asg (sc cB false rfl) <| sq [q2 4 cB false] <|
  xn <| wpC_ret <| rt <| rt <| re <| fin h (r1 (ss rfl rfl) <| r0) rfl)
  (fun b10 h => wpC_skip <| kpN [q3 2 cc2 v0, q3 3 cc2 v1] (by kernel_rfl) <| xn <| wpC_seq <| wpC_kp <| wpC_seq <| reg_s <| st rfl <| fab rfl rfl rfl rfl <| st rfl <| lda rfl rfl rfl rfl rfl rfl <| st rfl <| fab rfl rfl rfl rfl <| st rfl <| lda rfl rfl rfl rfl rfl rfl <| bnd h fun x18 e19 h => st rfl <| o_call (a1 (c := cc13) (tLs tK) rfl (a1 (c := cc13) (tLs tK) rfl a0)) (con_laws_eqIntS e19) (.inl (so1 sB so0)) <| st rfl <| o_nt rfl <| sq [q2 16 cB (!x18)] <|
  xn <| cnd rfl h (fun b20 h => wpC_seq <| reg_s <| x_asg (sc cB false rfl) <| sq [q2 4 cB false] <|
  xn <| wpC_ret <| rt <| rt <| re <| fin h (r1 (ss rfl rfl) <| r0) rfl)
  (fun b20 h => wpC_skip <| kpN [] (by kernel_rfl) <| xn <| wpC_seq <| reg_s <| x_asg (sc cB true rfl) <| sq [q2 4 cB true] <|
  xn <| wpC_ret <| re <| fin h (r1 (ss rfl rfl) <| r0) rfl))

def os_laws_markIntS (r : ((List Int) × Int)) : D := cc14.enc r.1
def rs_laws_markIntS (r : ((List Int) × Int)) : List D := [cI.enc r.2]
def m47 : MC := .seq (.reg [q1 4 (.asg (.c (.int .i64 0)))] [0, 1])
 (.seq (.kp [0, 1] (.seq (.reg [q1 5 (.asg (.c (.int .i64 0)))] [0, 1, 5])
 (.blk 0 (.loop (.seq (.kp [0, 1, 5] (.seq (.reg [q1 6 (.mv (.t 5)),q1 7 (.mv (.t 0)),q1 8 (.len false (.t 7)),q1 9 (.bin .lss (.t 6) (.t 8))] [0, 1, 5, 9])
 (.cond (.t 9) (.skip) (.exit 0))))
 (.seq (.kp [0, 1, 5] (.blk 1 (.seq (.reg [q1 12 (.mv (.t 0)),q1 13 (.mv (.t 5)),q1 14 (.mv (.t 1)),q1 15 (.ia 12 (.t 13) 1),q0 (.st 15 (.t 14) 1)] [0, 1, 5])
 (.reg [q1 16 (.mv (.t 1)),q1 17 (.bin .add (.t 16) (.c (.int .i64 1))),q1 1 (.asg (.t 17))] [0, 1, 5]))))
 (.reg [q1 10 (.mv (.t 5)),q1 11 (.bin .add (.t 10) (.c (.int .i64 1))),q1 5 (.asg (.t 11))] [0, 1, 5])))))))
 (.seq (.reg [q1 18 (.mv (.t 1)),q1 4 (.asg (.t 18))] [0, 4])
 (.ret)))
theorem con_laws_markIntS {v0 : (List Int)} {v1 : Int} {r : ((List Int) × Int)} (h : sh_laws_markIntS v0 v1 = some r) : Con Tryz.prog 47 [cc14.enc v0, cI.enc v1] (outsOf (some (os_laws_markIntS r))) (rs_laws_markIntS r) := by
 delta sh_laws_markIntS at h
 refine top (out := some (os_laws_markIntS r)) (f := Tryz.f47) (m := m47) (rs := [.t 4]) (by kernel_rfl) rfl (by kernel_rfl) (by kernel_rfl) (by kernel_rfl) (by kernel_rfl) (by kernel_rfl) ?_
 exact
  ini [q2 0 cc14 v0, q2 1 cI v1] rfl <| wpC_seq <| reg_s <| x_asg (sc cI (0 : Int) rfl) <| sq [q2 0 cc14 v0, q2 1 cI v1] <|
  xn <| wpC_seq <| wpC_kp <| wpC_seq <| reg_s <| x_asg (sc cI (0 : Int) rfl) <| sq [q2 0 cc14 v0, q2 1 cI v1, q2 5 cI (0 : Int)] <|
  xn <| wpC_blk <| lpF (fun (s72 : ((List Int) × Int × Int)) => [q2 0 cc14 s72.1, q2 1 cI s72.2.1, q2 5 cI s72.2.2]) (v0, v1, (0 : Int)) rfl h
  fun G121 nx119 s72 hn120 h => wpC_seq <| wpC_kp <| wpC_seq <| reg_s <| st rfl <| mvd rfl rfl <| st rfl <| mvo rfl rfl <| stw rfl <| leno rfl fun l126 => st rfl <| b_lss (k := .i64) rfl rfl <| sq [q2 0 cc14 s72.1, q2 1 cI s72.2.1, q2 5 cI s72.2.2, q2 9 cB (decide (s72.2.2 < (s72.1.length : Int)))] <|
  xn <| cnd rfl h (fun b127 h => wpC_skip <| kpN [q2 0 cc14 s72.1, q2 1 cI s72.2.1, q2 5 cI s72.2.2] (by kernel_rfl) <| xn <| wpC_seq <| wpC_kp <| wpC_blk <| wpC_seq <| reg_s <| st rfl <| mvo rfl rfl <| st rfl <| mvd rfl rfl <| st rfl <| mvd rfl rfl <| getO_k h fun x138 i139 g140 h => st rfl <| iar rfl rfl rfl rfl i139 g140 rfl <| x_sta (cc14.enc (s72.1.set (s72.2.2).toNat s72.2.1)) (ss rfl rfl) rfl rfl (Ln.idx g140 Ln.nil) (Cd.h_sz cI _) rfl <| sq [q2 0 cc14 (s72.1.set (s72.2.2).toNat s72.2.1), q2 1 cI s72.2.1, q2 5 cI s72.2.2] <|
  xn <| reg_s <| st rfl <| mvd rfl rfl <| ckI_k h fun i141 h => st rfl <| b_add (k := .i64) rfl rfl i141 <| x_asg (ss rfl rfl) <| sq [q2 0 cc14 (s72.1.set (s72.2.2).toNat s72.2.1), q2 1 cI (s72.2.1 + (1 : Int)), q2 5 cI s72.2.2] <|
  xbb <| kpN [q2 0 cc14 (s72.1.set (s72.2.2).toNat s72.2.1), q2 1 cI (s72.2.1 + (1 : Int)), q2 5 cI s72.2.2] (by kernel_rfl) <| xn <| reg_s <| st rfl <| mvd rfl rfl <| ckI_k h fun i142 h => st rfl <| b_add (k := .i64) rfl rfl i142 <| x_asg (ss rfl rfl) <| sq [q2 0 cc14 (s72.1.set (s72.2.2).toNat s72.2.1), q2 1 cI (s72.2.1 + (1 : Int)), q2 5 cI (s72.2.2 + (1 : Int))] <|
  xn <| hn120 ((s72.1.set (s72.2.2).toNat s72.2.1), (s72.2.1 + (1 : Int)), (s72.2.2 + (1 : Int))) h)
  (fun b127 h => wpC_exit <| xt <| xt <| xt <| xb <| kpN [q2 0 cc14 s72.1, q2 1 cI s72.2.1] (by kernel_rfl) <| xn <| wpC_seq <| reg_s <| st rfl <| mvd rfl rfl <| x_asg (ss rfl rfl) <| sq [q2 0 cc14 s72.1, q2 4 cI s72.2.1] <|
  xn <| wpC_ret <| re <| finO h (r1 (ss rfl rfl) <| r0) rfl rfl)

def os_laws_markCube (r : (XCube × Int)) : D := cc7.enc r.1
def rs_laws_markCube (r : (XCube × Int)) : List D := [cI.enc r.2]
def m23 : MC := .seq (.reg [q1 2 (.boxm 0),q1 4 (.asg (.c (.int .i64 0)))] [0, 1, 2])
 (.seq (.reg [q1 5 (.fa 2 0 0),q1 6 (.ld 5 1 false),q1 7 (.mv (.t 1)),q1 8 (.callO 47 [(.t 6), (.t 7)]),q1 1 (.asg (.t 8))] [0, 1, 2])
 (.seq (.reg [q1 9 (.fa 2 1 1),q1 10 (.ld 9 1 false),q1 11 (.mv (.t 1)),q1 12 (.callO 47 [(.t 10), (.t 11)]),q1 1 (.asg (.t 12))] [0, 1])
 (.seq (.reg [q1 13 (.mv (.t 1)),q1 4 (.asg (.t 13))] [0, 4])
 (.ret))))
theorem con_laws_markCube {v0 : XCube} {v1 : Int} {r : (XCube × Int)} (h : sh_laws_markCube v0 v1 = some r) : Con Tryz.prog 23 [cc7.enc v0, cI.enc v1] (outsOf (some (os_laws_markCube r))) (rs_laws_markCube r) := by
 delta sh_laws_markCube at h
 refine top (out := some (os_laws_markCube r)) (f := Tryz.f23) (m := m23) (rs := [.t 4]) (by kernel_rfl) rfl (by kernel_rfl) (by kernel_rfl) (by kernel_rfl) (by kernel_rfl) (by kernel_rfl) ?_
 exact
  ini [q2 0 cc7 v0, q2 1 cI v1] rfl <| wpC_seq <| reg_s <| x_boxm rfl rfl <| x_asg (sc cI (0 : Int) rfl) <| sq [q2 0 cc7 v0, q2 1 cI v1, (2, .mad 0 [])] <|
  xn <| wpC_seq <| reg_s <| st rfl <| fam rfl rfl rfl rfl rfl rfl <| st rfl <| ldmo rfl rfl rfl rfl rfl rfl <| st rfl <| mvd rfl rfl <| bnd h fun x3 e4 h => x_clr (c := cc14) (c' := cc14) (cc7.enc (⟨x3.1, v0.Cells⟩ : XCube)) (sLo sK) rfl (a1 (c := cI) tK rfl a0) rfl (Ln.fld rfl rfl Ln.nil rfl) (con_laws_markIntS e4) rfl rfl (so1 sK so0) <| x_asg (ss rfl rfl) <| sq [q2 0 cc7 (⟨x3.1, v0.Cells⟩ : XCube), q2 1 cI x3.2, (2, .mad 0 [])] <|
  xn <| wpC_seq <| reg_s <| st rfl <| fam rfl rfl rfl rfl rfl rfl <| st rfl <| ldmo rfl rfl rfl rfl rfl rfl <| st rfl <| mvd rfl rfl <| bnd h fun x7 e8 h => x_clr (c := cc14) (c' := cc14) (cc7.enc (⟨x3.1, x7.1⟩ : XCube)) (sLo sK) rfl (a1 (c := cI) tK rfl a0) rfl (Ln.fld rfl rfl Ln.nil rfl) (con_laws_markIntS e8) rfl rfl (so1 sK so0) <| x_asg (ss rfl rfl) <| sq [q2 0 cc7 (⟨x3.1, x7.1⟩ : XCube), q2 1 cI x7.2] <|
  xn <| wpC_seq <| reg_s <| st rfl <| mvd rfl rfl <| x_asg (ss rfl rfl) <| sq [q2 0 cc7 (⟨x3.1, x7.1⟩ : XCube), q2 4 cI x7.2] <|
  xn <| wpC_ret <| re <| finO h (r1 (ss rfl rfl) <| r0) rfl rfl

def rs_laws_heldIntS (r : Int) : List D := [cI.enc r]
def m49 : MC := .seq (.reg [q1 4 (.asg (.c (.int .i64 0)))] [0, 1])
 (.seq (.kp [1] (.seq (.reg [q1 5 (.asg (.c (.int .i64 0)))] [0, 1, 5])
 (.blk 0 (.loop (.seq (.kp [0, 1, 5] (.seq (.reg [q1 6 (.mv (.t 5)),q1 7 (.mv (.t 0)),q1 8 (.len false (.t 7)),q1 9 (.bin .lss (.t 6) (.t 8))] [0, 1, 5, 9])
 (.cond (.t 9) (.skip) (.exit 0))))
 (.seq (.kp [0, 1, 5] (.blk 1 (.seq (.kp [0, 1, 5] (.seq (.reg [q1 12 (.mv (.t 0)),q1 13 (.mv (.t 5)),q1 14 (.ia 12 (.t 13) 1),q1 15 (.ld 14 1 false),q1 16 (.mv (.t 1)),q1 17 (.bin .neq (.t 15) (.t 16))] [0, 1, 5, 17])
 (.cond (.t 17) (.seq (.reg [q1 4 (.asg (.c (.int .i64 (-1))))] [4])
 (.ret)) (.skip))))
 (.reg [q1 18 (.mv (.t 1)),q1 19 (.bin .add (.t 18) (.c (.int .i64 1))),q1 1 (.asg (.t 19))] [0, 1, 5]))))
 (.reg [q1 10 (.mv (.t 5)),q1 11 (.bin .add (.t 10) (.c (.int .i64 1))),q1 5 (.asg (.t 11))] [0, 1, 5])))))))
 (.seq (.reg [q1 20 (.mv (.t 1)),q1 4 (.asg (.t 20))] [4])
 (.ret)))
theorem con_laws_heldIntS {v0 : (List Int)} {v1 : Int} {r : Int} (h : sh_laws_heldIntS v0 v1 = some r) : Con Tryz.prog 49 [cc13.enc v0, cI.enc v1] [] (rs_laws_heldIntS r) := by
 delta sh_laws_heldIntS at h
 refine top (out := none) (f := Tryz.f49) (m := m49) (rs := [.t 4]) (by kernel_rfl) rfl (by kernel_rfl) (by kernel_rfl) (by kernel_rfl) (by kernel_rfl) (by kernel_rfl) ?_
 exact
  ini [q2 0 cc13 v0, q2 1 cI v1] rfl <| wpC_seq <| reg_s <| x_asg (sc cI (0 : Int) rfl) <| sq [q2 0 cc13 v0, q2 1 cI v1] <|
  xn <| wpC_seq <| wpC_kp <| wpC_seq <| reg_s <| x_asg (sc cI (0 : Int) rfl) <| sq [q2 0 cc13 v0, q2 1 cI v1, q2 5 cI (0 : Int)] <|
  xn <| wpC_blk <| lpF (fun (s120 : (Int × Int)) => [q2 0 cc13 v0, q2 1 cI s120.1, q2 5 cI s120.2]) (v1, (0 : Int)) rfl h
  fun G201 nx199 s120 hn200 h => wpC_seq <| wpC_kp <| wpC_seq <| reg_s <| st rfl <| mvd rfl rfl <| st rfl <| mvd rfl rfl <| stw rfl <| lens rfl fun l206 => st rfl <| b_lss (k := .i64) rfl rfl <| sq [q2 0 cc13 v0, q2 1 cI s120.1, q2 5 cI s120.2, q2 9 cB (decide (s120.2 < (v0.length : Int)))] <|
  xn <| cnd rfl h (fun b207 h => wpC_skip <| kpN [q2 0 cc13 v0, q2 1 cI s120.1, q2 5 cI s120.2] (by kernel_rfl) <| xn <| wpC_seq <| wpC_kp <| wpC_blk <| wpC_seq <| wpC_kp <| wpC_seq <| reg_s <| st rfl <| mvd rfl rfl <| st rfl <| mvd rfl rfl <| getO_k h fun x233 i234 g235 h => st rfl <| ias rfl rfl i234 g235 rfl <| st rfl <| ldi rfl rfl rfl rfl <| st rfl <| mvd rfl rfl <| st rfl <| b_neq (k := .i64) rfl rfl <| sq [q2 0 cc13 v0, q2 1 cI s120.1, q2 5 cI s120.2, q2 17 cB (decide (x233 ≠ s120.1))] <|
  xn <| cnd rfl h (fun b236 h => wpC_seq <| reg_s <| x_asg (sc cI (-1 : Int) rfl) <| sq [q2 4 cI (-1 : Int)] <|
  xn <| wpC_ret <| rt <| rt <| rb <| rt <| rt <| rt <| rb <| rt <| rt <| re <| fin h (r1 (ss rfl rfl) <| r0) rfl)
  (fun b236 h => wpC_skip <| kpN [q2 0 cc13 v0, q2 1 cI s120.1, q2 5 cI s120.2] (by kernel_rfl) <| xn <| reg_s <| st rfl <| mvd rfl rfl <| ckI_k h fun i237 h => st rfl <| b_add (k := .i64) rfl rfl i237 <| x_asg (ss rfl rfl) <| sq [q2 0 cc13 v0, q2 1 cI (s120.1 + (1 : Int)), q2 5 cI s120.2] <|
  xbb <| kpN [q2 0 cc13 v0, q2 1 cI (s120.1 + (1 : Int)), q2 5 cI s120.2] (by kernel_rfl) <| xn <| reg_s <| st rfl <| mvd rfl rfl <| ckI_k h fun i238 h => st rfl <| b_add (k := .i64) rfl rfl i238 <| x_asg (ss rfl rfl) <| sq [q2 0 cc13 v0, q2 1 cI (s120.1 + (1 : Int)), q2 5 cI (s120.2 + (1 : Int))] <|
  xn <| hn200 ((s120.1 + (1 : Int)), (s120.2 + (1 : Int))) h))
  (fun b207 h => wpC_exit <| xt <| xt <| xt <| xb <| kpN [q2 1 cI s120.1] (by kernel_rfl) <| xn <| wpC_seq <| reg_s <| st rfl <| mvd rfl rfl <| x_asg (ss rfl rfl) <| sq [q2 4 cI s120.1] <|
  xn <| wpC_ret <| re <| fin h (r1 (ss rfl rfl) <| r0) rfl)

def rs_laws_heldCube (r : Int) : List D := [cI.enc r]
def m24 : MC := .seq (.reg [q1 2 (.box (.t 0)),q1 4 (.asg (.c (.int .i64 0)))] [1, 2])
 (.seq (.reg [q1 5 (.fa 2 0 0),q1 6 (.ld 5 1 false),q1 7 (.mv (.t 1)),q1 8 (.call 49 [(.t 6), (.t 7)]),q1 1 (.asg (.t 8))] [1, 2])
 (.seq (.kp [1, 2] (.seq (.reg [q1 9 (.mv (.t 1)),q1 10 (.bin .lss (.t 9) (.c (.int .i64 0)))] [1, 2, 10])
 (.cond (.t 10) (.seq (.reg [q1 4 (.asg (.c (.int .i64 (-1))))] [4])
 (.ret)) (.skip))))
 (.seq (.reg [q1 11 (.fa 2 1 1),q1 12 (.ld 11 1 false),q1 13 (.mv (.t 1)),q1 14 (.call 49 [(.t 12), (.t 13)]),q1 1 (.asg (.t 14))] [1])
 (.seq (.kp [1] (.seq (.reg [q1 15 (.mv (.t 1)),q1 16 (.bin .lss (.t 15) (.c (.int .i64 0)))] [1, 16])
 (.cond (.t 16) (.seq (.reg [q1 4 (.asg (.c (.int .i64 (-1))))] [4])
 (.ret)) (.skip))))
 (.seq (.reg [q1 17 (.mv (.t 1)),q1 4 (.asg (.t 17))] [4])
 (.ret))))))
theorem con_laws_heldCube {v0 : XCube} {v1 : Int} {r : Int} (h : sh_laws_heldCube v0 v1 = some r) : Con Tryz.prog 24 [cc2.enc v0, cI.enc v1] [] (rs_laws_heldCube r) := by
 delta sh_laws_heldCube at h
 refine top (out := none) (f := Tryz.f24) (m := m24) (rs := [.t 4]) (by kernel_rfl) rfl (by kernel_rfl) (by kernel_rfl) (by kernel_rfl) (by kernel_rfl) (by kernel_rfl) ?_
 exact
  ini [q2 0 cc2 v0, q2 1 cI v1] rfl <| wpC_seq <| reg_s <| x_box (ss rfl rfl) <| x_asg (sc cI (0 : Int) rfl) <| sq [q2 1 cI v1, q3 2 cc2 v0] <|
  xn <| wpC_seq <| reg_s <| st rfl <| fab rfl rfl rfl rfl <| st rfl <| lda rfl rfl rfl rfl rfl rfl <| st rfl <| mvd rfl rfl <| bnd h fun x3 e4 h => st rfl <| o_call (a1 (c := cc13) (tLs tK) rfl (a1 (c := cI) tK rfl a0)) (con_laws_heldIntS e4) (.inl (so1 sK so0)) <| x_asg (ss rfl rfl) <| sq [q2 1 cI x3, q3 2 cc2 v0] <|
  xn <| wpC_seq <| wpC_kp <| wpC_seq <| reg_s <| st rfl <| mvd rfl rfl <| st rfl <| b_lss (k := .i64) rfl rfl <| sq [q2 1 cI x3, q3 2 cc2 v0, q2 10 cB (decide (x3 < (0 : Int)))] <|
  xn <| cnd rfl h (fun b6 h => wpC_seq <| reg_s <| x_asg (sc cI (-1 : Int) rfl) <| sq [q2 4 cI (-1 : Int)] <|
  xn <| wpC_ret <| rt <| rt <| re <| fin h (r1 (ss rfl rfl) <| r0) rfl)
  (fun b6 h => wpC_skip <| kpN [q2 1 cI x3, q3 2 cc2 v0] (by kernel_rfl) <| xn <| wpC_seq <| reg_s <| st rfl <| fab rfl rfl rfl rfl <| st rfl <| lda rfl rfl rfl rfl rfl rfl <| st rfl <| mvd rfl rfl <| bnd h fun x9 e10 h => st rfl <| o_call (a1 (c := cc13) (tLs tK) rfl (a1 (c := cI) tK rfl a0)) (con_laws_heldIntS e10) (.inl (so1 sK so0)) <| x_asg (ss rfl rfl) <| sq [q2 1 cI x9] <|
  xn <| wpC_seq <| wpC_kp <| wpC_seq <| reg_s <| st rfl <| mvd rfl rfl <| st rfl <| b_lss (k := .i64) rfl rfl <| sq [q2 1 cI x9, q2 16 cB (decide (x9 < (0 : Int)))] <|
  xn <| cnd rfl h (fun b12 h => wpC_seq <| reg_s <| x_asg (sc cI (-1 : Int) rfl) <| sq [q2 4 cI (-1 : Int)] <|
  xn <| wpC_ret <| rt <| rt <| re <| fin h (r1 (ss rfl rfl) <| r0) rfl)
  (fun b12 h => wpC_skip <| kpN [q2 1 cI x9] (by kernel_rfl) <| xn <| wpC_seq <| reg_s <| st rfl <| mvd rfl rfl <| x_asg (ss rfl rfl) <| sq [q2 4 cI x9] <|
  xn <| wpC_ret <| re <| fin h (r1 (ss rfl rfl) <| r0) rfl))

def rs_spec_cbForm (r : Bool) : List D := [cB.enc r]
def m86 : MC := .seq (.reg [q1 1 (.box (.t 0)),q1 2 (.asg (.c (.bool false)))] [1])
 (.seq (.reg [q1 4 (.fa 1 0 0),q1 5 (.ld 4 1 false),q1 6 (.call 30 [(.t 5)]),q1 3 (.asg (.t 6))] [1, 3])
 (.seq (.reg [q1 7 (.mv (.t 3)),q1 8 (.bin .gtr (.t 7) (.c (.int .i64 0))),q1 9 (.mv (.t 8)),
  ⟨some 10, .fa 1 1 1, some (9, true)⟩,
  ⟨some 11, .ld 10 1 false, some (9, true)⟩,
  ⟨some 12, .len false (.t 11), some (9, true)⟩,
  ⟨some 13, .mv (.t 3), some (9, true)⟩,
  ⟨some 14, .bin .eql (.t 12) (.t 13), some (9, true)⟩,q1 15 (.pick (.t 9) (.t 14) (.c (.bool false))),q1 16 (.mv (.t 15)),
  ⟨some 17, .fa 1 1 1, some (16, true)⟩,
  ⟨some 18, .ld 17 1 false, some (16, true)⟩,
  ⟨some 19, .call 60 [(.t 18), (.c (.int .i64 (-1000000))), (.c (.int .i64 1000000))], some (16, true)⟩,q1 20 (.pick (.t 16) (.t 19) (.c (.bool false))),q1 2 (.asg (.t 20))] [2])
 (.ret)))
theorem con_spec_cbForm {v0 : XCube} {r : Bool} (h : sh_spec_cbForm v0 = some r) : Con Tryz.prog 86 [cc2.enc v0] [] (rs_spec_cbForm r) := by
 delta sh_spec_cbForm at h
 refine top (out := none) (f := Tryz.f86) (m := m86) (rs := [.t 2]) (by kernel_rfl) rfl (by kernel_rfl) (by kernel_rfl) (by kernel_rfl) (by kernel_rfl) (by kernel_rfl) ?_
 exact
  ini [q2 0 cc2 v0] rfl <| wpC_seq <| reg_s <| x_box (ss rfl rfl) <| x_asg (sc cB false rfl) <| sq [q3 1 cc2 v0] <|
  xn <| wpC_seq <| reg_s <| st rfl <| fab rfl rfl rfl rfl <| st rfl <| lda rfl rfl rfl rfl rfl rfl <| bnd h fun x3 e4 h => st rfl <| o_call (a1 (c := cc13) (tLs tK) rfl a0) (con_spec_cbCount e4) (.inl (so1 sK so0)) <| x_asg (ss rfl rfl) <| sq [q3 1 cc2 v0, q2 3 cI x3] <|
  xn <| wpC_seq <| reg_s <| st rfl <| mvd rfl rfl <| st rfl <| b_gtr (k := .i64) rfl rfl <| st rfl <| mvd rfl rfl <| ite_k h (fun b10 h => gt' rfl b10 <| st rfl <| fab rfl rfl rfl rfl <| gt' rfl b10 <| st rfl <| lda rfl rfl rfl rfl rfl rfl <| gt' rfl b10 <| stw rfl <| lens rfl fun l11 => gt' rfl b10 <| st rfl <| mvd rfl rfl <| gt' rfl b10 <| st rfl <| b_eql (k := .i64) rfl rfl <| st rfl <| pick1 rfl b10 (cd := cB) (v := (decide ((v0.Cells.length : Int) = x3))) rfl rfl <| st rfl <| mvd rfl rfl <| ite_k h (fun b12 h => gt' rfl b12 <| st rfl <| fab rfl rfl rfl rfl <| gt' rfl b12 <| st rfl <| lda rfl rfl rfl rfl rfl rfl <| gt' rfl b12 <| bnd h fun x13 e14 h => st rfl <| o_call (a1 (c := cc13) (tLs tK) rfl (a1 (c := cI) tK rfl (a1 (c := cI) tK rfl a0))) (con_spec_l1All e14) (.inl (so1 sB so0)) <| st rfl <| pick1 rfl b12 (cd := cB) (v := x13) rfl rfl <| x_asg (ss rfl rfl) <| sq [q2 2 cB x13] <|
  xn <| wpC_ret <| re <| fin h (r1 (ss rfl rfl) <| r0) rfl)
  (fun b12 h => gf rfl b12 <| gf rfl b12 <| gf rfl b12 <| st rfl <| pick0 rfl b12 (cd := cB) (v := false) rfl rfl <| x_asg (ss rfl rfl) <| sq [q2 2 cB false] <|
  xn <| wpC_ret <| re <| fin h (r1 (ss rfl rfl) <| r0) rfl))
  (fun b10 h => gf rfl b10 <| gf rfl b10 <| gf rfl b10 <| gf rfl b10 <| gf rfl b10 <| st rfl <| pick0 rfl b10 (cd := cB) (v := false) rfl rfl <| st rfl <| mvd rfl rfl <| gf rfl rfl <| gf rfl rfl <| gf rfl rfl <| st rfl <| pick0 rfl rfl (cd := cB) (v := false) rfl rfl <| x_asg (ss rfl rfl) <| sq [q2 2 cB false] <|
  xn <| wpC_ret <| re <| fin h (r1 (ss rfl rfl) <| r0) rfl)

def rs_spec_cbParts (r : (List Int)) : List D := [cc14.enc r]
def m115 : MC := .seq (.reg [q1 6 (.asg (.c (.slice true [])))] [0, 1, 2])
 (.seq (.reg [q1 10 (.mv (.t 0)),q1 11 (.mv (.t 1)),q1 12 (.call 66 [(.t 10), (.t 11)]),q1 7 (.asg (.t 12))] [0, 2, 7])
 (.seq (.reg [q1 8 (.asg (.c (.slice true [])))] [0, 2, 7, 8])
 (.seq (.kp [8] (.seq (.reg [q1 9 (.asg (.c (.int .i64 0)))] [0, 2, 7, 8, 9])
 (.blk 0 (.loop (.seq (.kp [0, 2, 7, 8, 9] (.seq (.reg [q1 13 (.mv (.t 9)),q1 14 (.mv (.t 0)),q1 15 (.mv (.t 2)),q1 16 (.ia 14 (.t 15) 1),q1 17 (.ld 16 1 false),q1 18 (.bin .lss (.t 13) (.t 17))] [0, 2, 7, 8, 9, 18])
 (.cond (.t 18) (.skip) (.exit 0))))
 (.seq (.kp [0, 2, 7, 8, 9] (.blk 1 (.seq (.reg [q1 21 (.mv (.t 7)),q1 22 (.mv (.t 2)),q1 23 (.mv (.t 9)),q1 24 (.ia 21 (.t 22) 1),q0 (.st 24 (.t 23) 1)] [0, 2, 7, 8, 9])
 (.reg [q1 25 (.mv (.t 8)),q1 26 (.mv (.t 0)),q1 27 (.mv (.t 7)),q1 28 (.call 67 [(.t 26), (.t 27)]),q1 29 (.bsl [(.t 28)] 1),q1 30 (.app (.t 25) (.t 29) 1),q1 8 (.asg (.t 30))] [0, 2, 7, 8, 9]))))
 (.reg [q1 19 (.mv (.t 9)),q1 20 (.bin .add (.t 19) (.c (.int .i64 1))),q1 9 (.asg (.t 20))] [0, 2, 7, 8, 9])))))))
 (.seq (.reg [q1 31 (.mv (.t 8)),q1 6 (.asg (.t 31))] [6])
 (.ret)))))
theorem con_spec_cbParts {v0 : (List Int)} {v1 : Int} {v2 : Int} {r : (List Int)} (h : sh_spec_cbParts v0 v1 v2 = some r) : Con Tryz.prog 115 [cc13.enc v0, cI.enc v1, cI.enc v2] [] (rs_spec_cbParts r) := by
 delta sh_spec_cbParts at h
 refine top (out := none) (f := Tryz.f115) (m := m115) (rs := [.t 6]) (by kernel_rfl) rfl (by kernel_rfl) (by kernel_rfl) (by kernel_rfl) (by kernel_rfl) (by kernel_rfl) ?_
 exact
  ini [q2 0 cc13 v0, q2 1 cI v1, q2 2 cI v2] rfl <| wpC_seq <| reg_s <| x_asg (sc cc14 ([] : List Int) rfl) <| sq [q2 0 cc13 v0, q2 1 cI v1, q2 2 cI v2] <|
  xn <| wpC_seq <| reg_s <| st rfl <| mvd rfl rfl <| st rfl <| mvd rfl rfl <| bnd h fun x3 e4 h => st rfl <| o_call (a1 (c := cc13) (tLs tK) rfl (a1 (c := cI) tK rfl a0)) (con_spec_cbIndices e4) (.inl (so1 (sLo sK) so0)) <| x_asg (so rfl rfl) <| sq [q2 0 cc13 v0, q2 2 cI v2, q2 7 cc14 x3] <|
  xn <| wpC_seq <| reg_s <| x_asg (sc cc14 ([] : List Int) rfl) <| sq [q2 0 cc13 v0, q2 2 cI v2, q2 7 cc14 x3, q2 8 cc14 ([] : List Int)] <|
  xn <| wpC_seq <| wpC_kp <| wpC_seq <| reg_s <| x_asg (sc cI (0 : Int) rfl) <| sq [q2 0 cc13 v0, q2 2 cI v2, q2 7 cc14 x3, q2 8 cc14 ([] : List Int), q2 9 cI (0 : Int)] <|
  xn <| wpC_blk <| lpF (fun (s112 : ((List Int) × (List Int) × Int)) => [q2 0 cc13 v0, q2 2 cI v2, q2 7 cc14 s112.1, q2 8 cc14 s112.2.1, q2 9 cI s112.2.2]) (x3, ([] : List Int), (0 : Int)) rfl h
  fun G185 nx183 s112 hn184 h => wpC_seq <| wpC_kp <| wpC_seq <| reg_s <| st rfl <| mvd rfl rfl <| st rfl <| mvd rfl rfl <| st rfl <| mvd rfl rfl <| getO_k h fun x196 i197 g198 h => st rfl <| ias rfl rfl i197 g198 rfl <| st rfl <| ldi rfl rfl rfl rfl <| st rfl <| b_lss (k := .i64) rfl rfl <| sq [q2 0 cc13 v0, q2 2 cI v2, q2 7 cc14 s112.1, q2 8 cc14 s112.2.1, q2 9 cI s112.2.2, q2 18 cB (decide (s112.2.2 < x196))] <|
  xn <| cnd rfl h (fun b199 h => wpC_skip <| kpN [q2 0 cc13 v0, q2 2 cI v2, q2 7 cc14 s112.1, q2 8 cc14 s112.2.1, q2 9 cI s112.2.2] (by kernel_rfl) <| xn <| wpC_seq <| wpC_kp <| wpC_blk <| wpC_seq <| reg_s <| st rfl <| mvo rfl rfl <| st rfl <| mvd rfl rfl <| st rfl <| mvd rfl rfl <| getO_k h fun x212 i213 g214 h => st rfl <| iar rfl rfl rfl rfl i213 g214 rfl <| x_sta (cc14.enc (s112.1.set (v2).toNat s112.2.2)) (ss rfl rfl) rfl rfl (Ln.idx g214 Ln.nil) (Cd.h_sz cI _) rfl <| sq [q2 0 cc13 v0, q2 2 cI v2, q2 7 cc14 (s112.1.set (v2).toNat s112.2.2), q2 8 cc14 s112.2.1, q2 9 cI s112.2.2] <|
  xn <| reg_s <| st rfl <| mvo rfl rfl <| st rfl <| mvd rfl rfl <| st rfl <| mvo rfl rfl <| bnd h fun x215 e216 h => st rfl <| o_call (a1 (c := cc13) (tLs tK) rfl (a1 (c := cc14) (tLo tK) rfl a0)) (con_spec_cbAt e216) (.inl (so1 sK so0)) <| x_bsl cI [x215] (t1 (ss rfl rfl) rfl t0) rfl rfl <| lnO_k h fun l217 h => x_app (sr rfl rfl) (to rfl rfl) l217 rfl <| x_asg (so rfl rfl) <| sq [q2 0 cc13 v0, q2 2 cI v2, q2 7 cc14 (s112.1.set (v2).toNat s112.2.2), q2 8 cc14 (s112.2.1 ++ [x215]), q2 9 cI s112.2.2] <|
  xbb <| kpN [q2 0 cc13 v0, q2 2 cI v2, q2 7 cc14 (s112.1.set (v2).toNat s112.2.2), q2 8 cc14 (s112.2.1 ++ [x215]), q2 9 cI s112.2.2] (by kernel_rfl) <| xn <| reg_s <| st rfl <| mvd rfl rfl <| ckI_k h fun i218 h => st rfl <| b_add (k := .i64) rfl rfl i218 <| x_asg (ss rfl rfl) <| sq [q2 0 cc13 v0, q2 2 cI v2, q2 7 cc14 (s112.1.set (v2).toNat s112.2.2), q2 8 cc14 (s112.2.1 ++ [x215]), q2 9 cI (s112.2.2 + (1 : Int))] <|
  xn <| hn184 ((s112.1.set (v2).toNat s112.2.2), (s112.2.1 ++ [x215]), (s112.2.2 + (1 : Int))) h)
  (fun b199 h => wpC_exit <| xt <| xt <| xt <| xb <| kpN [q2 8 cc14 s112.2.1] (by kernel_rfl) <| xn <| wpC_seq <| reg_s <| st rfl <| mvo rfl rfl <| x_asg (sr rfl rfl) <| sq [q2 6 cc14 s112.2.1] <|
  xn <| wpC_ret <| re <| fin h (r1 (so rfl rfl) <| r0) rfl)

def rs_spec_cbBroken (r : Bool) : List D := [cB.enc r]
def m108 : MC := .seq (.reg [q1 2 (.box (.t 0)),q1 4 (.asg (.c (.bool false)))] [1, 2])
 (.seq (.kp [] (.seq (.reg [q1 10 (.fa 2 0 0),q1 11 (.ld 10 1 false),q1 12 (.mv (.t 1)),q1 13 (.call 66 [(.t 11), (.t 12)]),q1 14 (.len false (.t 13)),q1 15 (.mv (.c (.int .i64 0)))] [1, 2, 13, 14, 15])
 (.blk 0 (.loop (.seq (.reg [q1 16 (.bin .lss (.t 15) (.t 14))] [1, 2, 13, 14, 15, 16])
 (.seq (.kp [1, 2, 13, 14, 15] (.cond (.t 16) (.skip) (.exit 0)))
 (.seq (.kp [1, 2, 13, 14, 15] (.blk 1 (.seq (.reg [q1 17 (.mv (.t 15)),q1 18 (.ia 13 (.t 15) 1),q1 19 (.ld 18 1 false),q1 5 (.asg (.t 17)),q1 6 (.asg (.t 19))] [1, 2, 5, 6, 13, 14, 15])
 (.seq (.kp [1, 2, 5, 13, 14, 15] (.seq (.reg [q1 20 (.mv (.t 6)),q1 21 (.fa 2 0 0),q1 22 (.ld 21 1 false),q1 23 (.mv (.t 5)),q1 24 (.ia 22 (.t 23) 1),q1 25 (.ld 24 1 false),q1 26 (.bin .neq (.t 20) (.t 25))] [1, 2, 5, 13, 14, 15, 26])
 (.cond (.t 26) (.exit 1) (.skip))))
 (.seq (.reg [q1 7 (.asg (.c (.int .i64 0)))] [1, 2, 5, 7, 13, 14, 15])
 (.seq (.kp [1, 2, 7, 13, 14, 15] (.seq (.reg [q1 27 (.fa 2 0 0),q1 28 (.ld 27 1 false),q1 29 (.mv (.t 1)),q1 30 (.mv (.t 5)),q1 31 (.call 115 [(.t 28), (.t 29), (.t 30)]),q1 32 (.len false (.t 31)),q1 33 (.mv (.c (.int .i64 0)))] [1, 2, 7, 13, 14, 15, 31, 32, 33])
 (.blk 2 (.loop (.seq (.reg [q1 34 (.bin .lss (.t 33) (.t 32))] [1, 2, 7, 13, 14, 15, 31, 32, 33, 34])
 (.seq (.kp [1, 2, 7, 13, 14, 15, 31, 32, 33] (.cond (.t 34) (.skip) (.exit 2)))
 (.seq (.kp [1, 2, 7, 13, 14, 15, 31, 32, 33] (.blk 3 (.seq (.reg [q1 35 (.ia 31 (.t 33) 1),q1 36 (.ld 35 1 false),q1 9 (.asg (.t 36))] [1, 2, 7, 9, 13, 14, 15, 31, 32, 33])
 (.reg [q1 37 (.mv (.t 7)),q1 38 (.fa 2 1 1),q1 39 (.ld 38 1 false),q1 40 (.mv (.t 9)),q1 41 (.ia 39 (.t 40) 1),q1 42 (.ld 41 1 false),q1 43 (.bin .add (.t 37) (.t 42)),q1 7 (.asg (.t 43))] [1, 2, 7, 13, 14, 15, 31, 32, 33]))))
 (.reg [q1 44 (.bin .add (.t 33) (.c (.int .i64 1))),q1 33 (.mv (.t 44))] [1, 2, 7, 13, 14, 15, 31, 32, 33]))))))))
 (.seq (.reg [q1 45 (.mv (.t 7)),q1 46 (.fa 2 1 1),q1 47 (.ld 46 1 false),q1 48 (.mv (.t 1)),q1 49 (.ia 47 (.t 48) 1),q1 50 (.ld 49 1 false),q1 51 (.bin .neq (.t 45) (.t 50))] [1, 2, 13, 14, 15, 51])
 (.cond (.t 51) (.seq (.reg [q1 4 (.asg (.c (.bool true)))] [4])
 (.ret)) (.skip)))))))))
 (.reg [q1 52 (.bin .add (.t 15) (.c (.int .i64 1))),q1 15 (.mv (.t 52))] [1, 2, 13, 14, 15]))))))))
 (.seq (.reg [q1 4 (.asg (.c (.bool false)))] [4])
 (.ret)))
theorem con_spec_cbBroken {v0 : XCube} {v1 : Int} {r : Bool} (h : sh_spec_cbBroken v0 v1 = some r) : Con Tryz.prog 108 [cc2.enc v0, cI.enc v1] [] (rs_spec_cbBroken r) := by
 delta sh_spec_cbBroken at h
 refine top (out := none) (f := Tryz.f108) (m := m108) (rs := [.t 4]) (by kernel_rfl) rfl (by kernel_rfl) (by kernel_rfl) (by kernel_rfl) (by kernel_rfl) (by kernel_rfl) ?_
 exact
  ini [q2 0 cc2 v0, q2 1 cI v1] rfl <| wpC_seq <| reg_s <| x_box (ss rfl rfl) <| x_asg (sc cB false rfl) <| sq [q2 1 cI v1, q3 2 cc2 v0] <|
  xn <| wpC_seq <| wpC_kp <| wpC_seq <| reg_s <| st rfl <| fab rfl rfl rfl rfl <| st rfl <| lda rfl rfl rfl rfl rfl rfl <| st rfl <| mvd rfl rfl <| bnd h fun x406 e407 h => st rfl <| o_call (a1 (c := cc13) (tLs tK) rfl (a1 (c := cI) tK rfl a0)) (con_spec_cbIndices e407) (.inl (so1 (sLo sK) so0)) <| stw rfl <| leno rfl fun l408 => st rfl <| mvc cI (0 : Int) rfl <| sq [q2 1 cI v1, q3 2 cc2 v0, q2 13 cc14 x406, q2 14 cI (x406.length : Int), q2 15 cI (0 : Int)] <|
  xn <| wpC_blk <| lpR (fun (k410 : Nat) (s409 : Unit) => [q2 1 cI v1, q3 2 cc2 v0, q2 13 cc14 x406, q2 14 cI (x406.length : Int), q2 15 cI (k410 : Int)]) () rfl h
  (fun G610 s409 h => wpC_seq <| reg_s <| st rfl <| b_lss (k := .i64) rfl rfl <| sq [q2 1 cI v1, q3 2 cc2 v0, q2 13 cc14 x406, q2 14 cI (x406.length : Int), q2 15 cI (x406.length : Int), q2 16 cB (decide ((x406.length : Int) < (x406.length : Int)))] <|
  xn <| wpC_seq <| wpC_kp <| cnd0 rfl (dlf _) <| wpC_exit <| xt <| xt <| xt <| xb <| kpN [] (by kernel_rfl) <| xn <| wpC_seq <| reg_s <| x_asg (sc cB false rfl) <| sq [q2 4 cB false] <|
  xn <| wpC_ret <| re <| fin h (r1 (ss rfl rfl) <| r0) rfl)
  (fun G610 nx608 k410 s409 x411 hk412 hx413 hn609 h => wpC_seq <| reg_s <| st rfl <| b_lss (k := .i64) rfl rfl <| sq [q2 1 cI v1, q3 2 cc2 v0, q2 13 cc14 x406, q2 14 cI (x406.length : Int), q2 15 cI (k410 : Int), q2 16 cB (decide ((k410 : Int) < (x406.length : Int)))] <|
  xn <| wpC_seq <| wpC_kp <| cnd1 rfl (dlt hk412) <| wpC_skip <| kpN [q2 1 cI v1, q3 2 cc2 v0, q2 13 cc14 x406, q2 14 cI (x406.length : Int), q2 15 cI (k410 : Int)] (by kernel_rfl) <| xn <| wpC_seq <| wpC_kp <| wpC_blk <| wpC_seq <| reg_s <| st rfl <| mvd rfl rfl <| st rfl <| iao rfl rfl (Int.natCast_nonneg _) hx413 rfl <| st rfl <| lda rfl rfl (Gt.idx hx413 Gt.nil) rfl rfl rfl <| x_asg (ss rfl rfl) <| x_asg (ss rfl rfl) <| sq [q2 1 cI v1, q3 2 cc2 v0, q2 5 cI (k410 : Int), q2 6 cI x411, q2 13 cc14 x406, q2 14 cI (x406.length : Int), q2 15 cI (k410 : Int)] <|
  xn <| wpC_seq <| wpC_kp <| wpC_seq <| reg_s <| st rfl <| mvd rfl rfl <| st rfl <| fab rfl rfl rfl rfl <| st rfl <| lda rfl rfl rfl rfl rfl rfl <| st rfl <| mvd rfl rfl <| getO_k h fun x718 i719 g720 h => st rfl <| ias rfl rfl i719 g720 rfl <| st rfl <| ldi rfl rfl rfl rfl <| st rfl <| b_neq (k := .i64) rfl rfl <| sq [q2 1 cI v1, q3 2 cc2 v0, q2 5 cI (k410 : Int), q2 13 cc14 x406, q2 14 cI (x406.length : Int), q2 15 cI (k410 : Int), q2 26 cB (decide (x411 ≠ x718))] <|
  xn <| cnd rfl h (fun b721 h => wpC_exit <| xt <| xt <| xb <| kpN [q2 1 cI v1, q3 2 cc2 v0, q2 13 cc14 x406, q2 14 cI (x406.length : Int), q2 15 cI (k410 : Int)] (by kernel_rfl) <| xn <| reg_s <| st rfl <| b_inc rfl rfl l408 hk412 <| st rfl <| mvd rfl rfl <| sq [q2 1 cI v1, q3 2 cc2 v0, q2 13 cc14 x406, q2 14 cI (x406.length : Int), q2 15 cI ((k410 + 1 : Nat) : Int)] <|
  xn <| hn609 () h)
  (fun b721 h => wpC_skip <| kpN [q2 1 cI v1, q3 2 cc2 v0, q2 5 cI (k410 : Int), q2 13 cc14 x406, q2 14 cI (x406.length : Int), q2 15 cI (k410 : Int)] (by kernel_rfl) <| xn <| wpC_seq <| reg_s <| x_asg (sc cI (0 : Int) rfl) <| sq [q2 1 cI v1, q3 2 cc2 v0, q2 5 cI (k410 : Int), q2 7 cI (0 : Int), q2 13 cc14 x406, q2 14 cI (x406.length : Int), q2 15 cI (k410 : Int)] <|
  xn <| wpC_seq <| wpC_kp <| wpC_seq <| reg_s <| st rfl <| fab rfl rfl rfl rfl <| st rfl <| lda rfl rfl rfl rfl rfl rfl <| st rfl <| mvd rfl rfl <| st rfl <| mvd rfl rfl <| bnd h fun x763 e764 h => st rfl <| o_call (a1 (c := cc13) (tLs tK) rfl (a1 (c := cI) tK rfl (a1 (c := cI) tK rfl a0))) (con_spec_cbParts e764) (.inl (so1 (sLo sK) so0)) <| stw rfl <| leno rfl fun l765 => st rfl <| mvc cI (0 : Int) rfl <| sq [q2 1 cI v1, q3 2 cc2 v0, q2 7 cI (0 : Int), q2 13 cc14 x406, q2 14 cI (x406.length : Int), q2 15 cI (k410 : Int), q2 31 cc14 x763, q2 32 cI (x763.length : Int), q2 33 cI (0 : Int)] <|
  xn <| wpC_blk <| lpR (fun (k767 : Nat) (s766 : Int) => [q2 1 cI v1, q3 2 cc2 v0, q2 7 cI s766, q2 13 cc14 x406, q2 14 cI (x406.length : Int), q2 15 cI (k410 : Int), q2 31 cc14 x763, q2 32 cI (x763.length : Int), q2 33 cI (k767 : Int)]) (0 : Int) rfl h
  (fun G789 s766 h => wpC_seq <| reg_s <| st rfl <| b_lss (k := .i64) rfl rfl <| sq [q2 1 cI v1, q3 2 cc2 v0, q2 7 cI s766, q2 13 cc14 x406, q2 14 cI (x406.length : Int), q2 15 cI (k410 : Int), q2 31 cc14 x763, q2 32 cI (x763.length : Int), q2 33 cI (x763.length : Int), q2 34 cB (decide ((x763.length : Int) < (x763.length : Int)))] <|
  xn <| wpC_seq <| wpC_kp <| cnd0 rfl (dlf _) <| wpC_exit <| xt <| xt <| xt <| xb <| kpN [q2 1 cI v1, q3 2 cc2 v0, q2 7 cI s766, q2 13 cc14 x406, q2 14 cI (x406.length : Int), q2 15 cI (k410 : Int)] (by kernel_rfl) <| xn <| wpC_seq <| reg_s <| st rfl <| mvd rfl rfl <| st rfl <| fab rfl rfl rfl rfl <| st rfl <| lda rfl rfl rfl rfl rfl rfl <| st rfl <| mvd rfl rfl <| getO_k h fun x793 i794 g795 h => st rfl <| ias rfl rfl i794 g795 rfl <| st rfl <| ldi rfl rfl rfl rfl <| st rfl <| b_neq (k := .i64) rfl rfl <| sq [q2 1 cI v1, q3 2 cc2 v0, q2 13 cc14 x406, q2 14 cI (x406.length : Int), q2 15 cI (k410 : Int), q2 51 cB (decide (s766 ≠ x793))] <|
  xn <| cnd rfl h (fun b796 h => wpC_seq <| reg_s <| x_asg (sc cB true rfl) <| sq [q2 4 cB true] <|
  xn <| wpC_ret <| rb <| rt <| rt <| rt <| rb <| rt <| rt <| re <| fin h (r1 (ss rfl rfl) <| r0) rfl)
  (fun b796 h => wpC_skip <| xbb <| kpN [q2 1 cI v1, q3 2 cc2 v0, q2 13 cc14 x406, q2 14 cI (x406.length : Int), q2 15 cI (k410 : Int)] (by kernel_rfl) <| xn <| reg_s <| st rfl <| b_inc rfl rfl l408 hk412 <| st rfl <| mvd rfl rfl <| sq [q2 1 cI v1, q3 2 cc2 v0, q2 13 cc14 x406, q2 14 cI (x406.length : Int), q2 15 cI ((k410 + 1 : Nat) : Int)] <|
  xn <| hn609 () h))
  (fun G789 nx787 k767 s766 x768 hk769 hx770 hn788 h => wpC_seq <| reg_s <| st rfl <| b_lss (k := .i64) rfl rfl <| sq [q2 1 cI v1, q3 2 cc2 v0, q2 7 cI s766, q2 13 cc14 x406, q2 14 cI (x406.length : Int), q2 15 cI (k410 : Int), q2 31 cc14 x763, q2 32 cI (x763.length : Int), q2 33 cI (k767 : Int), q2 34 cB (decide ((k767 : Int) < (x763.length : Int)))] <|
  xn <| wpC_seq <| wpC_kp <| cnd1 rfl (dlt hk769) <| wpC_skip <| kpN [q2 1 cI v1, q3 2 cc2 v0, q2 7 cI s766, q2 13 cc14 x406, q2 14 cI (x406.length : Int), q2 15 cI (k410 : Int), q2 31 cc14 x763, q2 32 cI (x763.length : Int), q2 33 cI (k767 : Int)] (by kernel_rfl) <| xn <| wpC_seq <| wpC_kp <| wpC_blk <| wpC_seq <| reg_s <| st rfl <| iao rfl rfl (Int.natCast_nonneg _) hx770 rfl <| st rfl <| lda rfl rfl (Gt.idx hx770 Gt.nil) rfl rfl rfl <| x_asg (ss rfl rfl) <| sq [q2 1 cI v1, q3 2 cc2 v0, q2 7 cI s766, q2 9 cI x768, q2 13 cc14 x406, q2 14 cI (x406.length : Int), q2 15 cI (k410 : Int), q2 31 cc14 x763, q2 32 cI (x763.length : Int), q2 33 cI (k767 : Int)] <|
  xn <| reg_s <| st rfl <| mvd rfl rfl <| st rfl <| fab rfl rfl rfl rfl <| st rfl <| lda rfl rfl rfl rfl rfl rfl <| st rfl <| mvd rfl rfl <| getO_k h fun x801 i802 g803 h => st rfl <| ias rfl rfl i802 g803 rfl <| st rfl <| ldi rfl rfl rfl rfl <| ckI_k h fun i804 h => st rfl <| b_add (k := .i64) rfl rfl i804 <| x_asg (ss rfl rfl) <| sq [q2 1 cI v1, q3 2 cc2 v0, q2 7 cI (s766 + x801), q2 13 cc14 x406, q2 14 cI (x406.length : Int), q2 15 cI (k410 : Int), q2 31 cc14 x763, q2 32 cI (x763.length : Int), q2 33 cI (k767 : Int)] <|
  xbb <| kpN [q2 1 cI v1, q3 2 cc2 v0, q2 7 cI (s766 + x801), q2 13 cc14 x406, q2 14 cI (x406.length : Int), q2 15 cI (k410 : Int), q2 31 cc14 x763, q2 32 cI (x763.length : Int), q2 33 cI (k767 : Int)] (by kernel_rfl) <| xn <| reg_s <| st rfl <| b_inc rfl rfl l765 hk769 <| st rfl <| mvd rfl rfl <| sq [q2 1 cI v1, q3 2 cc2 v0, q2 7 cI (s766 + x801), q2 13 cc14 x406, q2 14 cI (x406.length : Int), q2 15 cI (k410 : Int), q2 31 cc14 x763, q2 32 cI (x763.length : Int), q2 33 cI ((k767 + 1 : Nat) : Int)] <|
  xn <| hn788 (s766 + x801) h)))

def rs_spec_cbFirst (r : Int) : List D := [cI.enc r]
def m87 : MC := .seq (.reg [q1 1 (.box (.t 0)),q1 2 (.asg (.c (.int .i64 0)))] [1])
 (.seq (.kp [1] (.seq (.reg [q1 4 (.fa 1 1 1),q1 5 (.ld 4 1 false),q1 6 (.len false (.t 5)),q1 7 (.mv (.c (.int .i64 0)))] [1, 6, 7])
 (.blk 0 (.loop (.seq (.reg [q1 8 (.bin .lss (.t 7) (.t 6))] [1, 6, 7, 8])
 (.seq (.kp [1, 6, 7] (.cond (.t 8) (.skip) (.exit 0)))
 (.seq (.kp [1, 6, 7] (.blk 1 (.seq (.reg [q1 9 (.mv (.t 7)),q1 3 (.asg (.t 9))] [1, 3, 6, 7])
 (.seq (.reg [q1 10 (.ld 1 2 true),q1 11 (.mv (.t 3)),q1 12 (.call 108 [(.t 10), (.t 11)])] [1, 3, 6, 7, 12])
 (.cond (.t 12) (.seq (.reg [q1 13 (.mv (.t 3)),q1 2 (.asg (.t 13))] [2])
 (.ret)) (.skip))))))
 (.reg [q1 14 (.bin .add (.t 7) (.c (.int .i64 1))),q1 7 (.mv (.t 14))] [1, 6, 7]))))))))
 (.seq (.reg [q1 15 (.fa 1 1 1),q1 16 (.ld 15 1 false),q1 17 (.len false (.t 16)),q1 2 (.asg (.t 17))] [2])
 (.ret)))
theorem con_spec_cbFirst {v0 : XCube} {r : Int} (h : sh_spec_cbFirst v0 = some r) : Con Tryz.prog 87 [cc2.enc v0] [] (rs_spec_cbFirst r) := by
 delta sh_spec_cbFirst at h
 refine top (out := none) (f := Tryz.f87) (m := m87) (rs := [.t 2]) (by kernel_rfl) rfl (by kernel_rfl) (by kernel_rfl) (by kernel_rfl) (by kernel_rfl) (by kernel_rfl) ?_
 exact
  ini [q2 0 cc2 v0] rfl <| wpC_seq <| reg_s <| x_box (ss rfl rfl) <| x_asg (sc cI (0 : Int) rfl) <| sq [q3 1 cc2 v0] <|
  xn <| wpC_seq <| wpC_kp <| wpC_seq <| reg_s <| st rfl <| fab rfl rfl rfl rfl <| st rfl <| lda rfl rfl rfl rfl rfl rfl <| stw rfl <| lens rfl fun l32 => st rfl <| mvc cI (0 : Int) rfl <| sq [q3 1 cc2 v0, q2 6 cI (v0.Cells.length : Int), q2 7 cI (0 : Int)] <|
  xn <| wpC_blk <| lpR (fun (k34 : Nat) (s33 : Unit) => [q3 1 cc2 v0, q2 6 cI (v0.Cells.length : Int), q2 7 cI (k34 : Int)]) () rfl h
  (fun G50 s33 h => wpC_seq <| reg_s <| st rfl <| b_lss (k := .i64) rfl rfl <| sq [q3 1 cc2 v0, q2 6 cI (v0.Cells.length : Int), q2 7 cI (v0.Cells.length : Int), q2 8 cB (decide ((v0.Cells.length : Int) < (v0.Cells.length : Int)))] <|
  xn <| wpC_seq <| wpC_kp <| cnd0 rfl (dlf _) <| wpC_exit <| xt <| xt <| xt <| xb <| kpN [q3 1 cc2 v0] (by kernel_rfl) <| xn <| wpC_seq <| reg_s <| st rfl <| fab rfl rfl rfl rfl <| st rfl <| lda rfl rfl rfl rfl rfl rfl <| stw rfl <| lens rfl fun l52 => x_asg (ss rfl rfl) <| sq [q2 2 cI (v0.Cells.length : Int)] <|
  xn <| wpC_ret <| re <| fin h (r1 (ss rfl rfl) <| r0) rfl)
  (fun G50 nx48 k34 s33 x35 hk36 hx37 hn49 h => wpC_seq <| reg_s <| st rfl <| b_lss (k := .i64) rfl rfl <| sq [q3 1 cc2 v0, q2 6 cI (v0.Cells.length : Int), q2 7 cI (k34 : Int), q2 8 cB (decide ((k34 : Int) < (v0.Cells.length : Int)))] <|
  xn <| wpC_seq <| wpC_kp <| cnd1 rfl (dlt hk36) <| wpC_skip <| kpN [q3 1 cc2 v0, q2 6 cI (v0.Cells.length : Int), q2 7 cI (k34 : Int)] (by kernel_rfl) <| xn <| wpC_seq <| wpC_kp <| wpC_blk <| wpC_seq <| reg_s <| st rfl <| mvd rfl rfl <| x_asg (ss rfl rfl) <| sq [q3 1 cc2 v0, q2 3 cI (k34 : Int), q2 6 cI (v0.Cells.length : Int), q2 7 cI (k34 : Int)] <|
  xn <| wpC_seq <| reg_s <| st rfl <| ldb rfl rfl rfl rfl <| st rfl <| mvd rfl rfl <| bnd h fun x60 e61 h => st rfl <| o_call (a1 (c := cc2) (tXCube (tLs tK) (tLs tK)) rfl (a1 (c := cI) tK rfl a0)) (con_spec_cbBroken e61) (.inl (so1 sB so0)) <| sq [q3 1 cc2 v0, q2 3 cI (k34 : Int), q2 6 cI (v0.Cells.length : Int), q2 7 cI (k34 : Int), q2 12 cB x60] <|
  xn <| cnd rfl h (fun b62 h => wpC_seq <| reg_s <| st rfl <| mvd rfl rfl <| x_asg (ss rfl rfl) <| sq [q2 2 cI (k34 : Int)] <|
  xn <| wpC_ret <| rb <| rt <| rt <| rt <| rb <| rt <| rt <| re <| fin h (r1 (ss rfl rfl) <| r0) rfl)
  (fun b62 h => wpC_skip <| xbb <| kpN [q3 1 cc2 v0, q2 6 cI (v0.Cells.length : Int), q2 7 cI (k34 : Int)] (by kernel_rfl) <| xn <| reg_s <| st rfl <| b_inc rfl rfl l32 hk36 <| st rfl <| mvd rfl rfl <| sq [q3 1 cc2 v0, q2 6 cI (v0.Cells.length : Int), q2 7 cI ((k34 + 1 : Nat) : Int)] <|
  xn <| hn49 () h))

def rs_spec_cbGood (r : Bool) : List D := [cB.enc r]
def m63 : MC := .seq (.reg [q1 1 (.box (.t 0)),q1 2 (.asg (.c (.bool false)))] [1])
 (.seq (.drw [⟨0, q1 3 (.ld 1 2 true), [4, 5, 6, 7, 8, 9, 10, 11, 12]⟩,
  ⟨1, q1 4 (.call 86 [(.t 3)]), [5, 6, 7, 8, 9, 10, 11, 12]⟩,
  ⟨2, q1 5 (.mv (.t 4)), [6, 7, 8, 9, 10, 11, 12]⟩,
  ⟨3, ⟨some 6, .ld 1 2 true, some (5, true)⟩, [7, 8, 9, 10, 11, 12]⟩,
  ⟨4, ⟨some 7, .call 87 [(.t 6)], some (5, true)⟩, [8, 9, 10, 11, 12]⟩,
  ⟨5, ⟨some 8, .fa 1 1 1, some (5, true)⟩, [6, 7, 9, 10, 11, 12]⟩,
  ⟨6, ⟨some 9, .ld 8 1 false, some (5, true)⟩, [6, 7, 10, 11, 12]⟩,
  ⟨7, ⟨some 10, .len false (.t 9), some (5, true)⟩, [6, 7, 11, 12]⟩,
  ⟨8, ⟨some 11, .bin .eql (.t 7) (.t 10), some (5, true)⟩, [12]⟩,
  ⟨9, q1 12 (.pick (.t 5) (.t 11) (.c (.bool false))), []⟩]
  [(10, q1 2 (.asg (.t 12)))] [2])
 (.ret))
theorem con_spec_cbGood {v0 : XCube} {r : Bool} (h : sh_spec_cbGood v0 = some r) : Con Tryz.prog 63 [cc2.enc v0] [] (rs_spec_cbGood r) := by
 delta sh_spec_cbGood at h
 refine top (out := none) (f := Tryz.f63) (m := m63) (rs := [.t 2]) (by kernel_rfl) rfl (by kernel_rfl) (by kernel_rfl) (by kernel_rfl) (by kernel_rfl) (by kernel_rfl) ?_
 exact
  ini [q2 0 cc2 v0] rfl <| wpC_seq <| reg_s <| x_box (ss rfl rfl) <| x_asg (sc cB false rfl) <| sq [q3 1 cc2 v0] <|
  xn <| wpC_seq <| drw_s <| pst rfl <| ldb rfl rfl rfl rfl ⟨rfl, bndp h fun x7 e8 h => pst rfl <| o_call (a1 (c := cc2) (tXCube (tLs tK) (tLs tK)) rfl a0) (con_spec_cbForm e8) (.inl (so1 sB so0)) ⟨rfl, pst rfl <| mvd rfl rfl ⟨rfl, ite_kp h (fun b9 h => pgt rfl b9 <| pst rfl <| ldb rfl rfl rfl rfl ⟨rfl, pgt rfl b9 <| bndp h fun x10 e11 h => pst rfl <| o_call (a1 (c := cc2) (tXCube (tLs tK) (tLs tK)) rfl a0) (con_spec_cbFirst e11) (.inl (so1 sK so0)) ⟨rfl, pgt rfl b9 <| pst rfl <| fab rfl rfl rfl rfl ⟨rfl, pgt rfl b9 <| pst rfl <| lda rfl rfl rfl rfl rfl rfl ⟨rfl, pgt rfl b9 <| lmO_kp h fun l12 h => pst rfl <| plns rfl l12 ⟨rfl, pgt rfl b9 <| pst rfl <| b_eql (k := .i64) rfl rfl ⟨rfl, pst rfl <| pick1 rfl b9 (cd := cB) (v := (decide (x10 = (v0.Cells.length : Int)))) rfl rfl ⟨rfl, preN <| x_asg (ss rfl rfl) <| sq [q2 2 cB (decide (x10 = (v0.Cells.length : Int)))] <|
  xn <| wpC_ret <| re <| fin h (r1 (ss rfl rfl) <| r0) rfl⟩⟩⟩⟩⟩⟩⟩)
  (fun b9 h => pgf rfl rfl b9 <| pgf rfl rfl b9 <| pgf rfl rfl b9 <| pgf rfl rfl b9 <| pgf rfl rfl b9 <| pgf rfl rfl b9 <| pst rfl <| pick0 rfl b9 (cd := cB) (v := false) rfl rfl ⟨rfl, preN <| x_asg (ss rfl rfl) <| sq [q2 2 cB false] <|
  xn <| wpC_ret <| re <| fin h (r1 (ss rfl rfl) <| r0) rfl⟩)⟩⟩⟩
def rs_laws_szIntS (r : Int) : List D := [cI.enc r]
def m25 : MC := .seq (.reg [q1 4 (.asg (.c (.int .i64 0)))] [0, 1])
 (.seq (.reg [q1 5 (.mv (.t 1)),q1 6 (.mv (.t 0)),q1 7 (.len false (.t 6)),q1 8 (.bin .sub (.t 5) (.t 7)),q1 1 (.asg (.t 8))] [1])
 (.seq (.kp [1] (.seq (.reg [q1 9 (.mv (.t 1)),q1 10 (.bin .lss (.t 9) (.c (.int .i64 0)))] [1, 10])
 (.cond (.t 10) (.seq (.reg [q1 4 (.asg (.c (.int .i64 (-1))))] [4])
 (.ret)) (.skip))))
 (.seq (.reg [q1 11 (.mv (.t 1)),q1 4 (.asg (.t 11))] [4])
 (.ret))))
theorem con_laws_szIntS {v0 : (List Int)} {v1 : Int} {r : Int} (h : sh_laws_szIntS v0 v1 = some r) : Con Tryz.prog 25 [cc13.enc v0, cI.enc v1] [] (rs_laws_szIntS r) := by
 delta sh_laws_szIntS at h
 refine top (out := none) (f := Tryz.f25) (m := m25) (rs := [.t 4]) (by kernel_rfl) rfl (by kernel_rfl) (by kernel_rfl) (by kernel_rfl) (by kernel_rfl) (by kernel_rfl) ?_
 exact
  ini [q2 0 cc13 v0, q2 1 cI v1] rfl <| wpC_seq <| reg_s <| x_asg (sc cI (0 : Int) rfl) <| sq [q2 0 cc13 v0, q2 1 cI v1] <|
  xn <| wpC_seq <| reg_s <| st rfl <| mvd rfl rfl <| st rfl <| mvd rfl rfl <| stw rfl <| lens rfl fun l3 => ckI_k h fun i4 h => st rfl <| b_sub (k := .i64) rfl rfl i4 <| x_asg (ss rfl rfl) <| sq [q2 1 cI (v1 - (v0.length : Int))] <|
  xn <| wpC_seq <| wpC_kp <| wpC_seq <| reg_s <| st rfl <| mvd rfl rfl <| st rfl <| b_lss (k := .i64) rfl rfl <| sq [q2 1 cI (v1 - (v0.length : Int)), q2 10 cB (decide ((v1 - (v0.length : Int)) < (0 : Int)))] <|
  xn <| cnd rfl h (fun b6 h => wpC_seq <| reg_s <| x_asg (sc cI (-1 : Int) rfl) <| sq [q2 4 cI (-1 : Int)] <|
  xn <| wpC_ret <| rt <| rt <| re <| fin h (r1 (ss rfl rfl) <| r0) rfl)
  (fun b6 h => wpC_skip <| kpN [q2 1 cI (v1 - (v0.length : Int))] (by kernel_rfl) <| xn <| wpC_seq <| reg_s <| st rfl <| mvd rfl rfl <| x_asg (ss rfl rfl) <| sq [q2 4 cI (v1 - (v0.length : Int))] <|
  xn <| wpC_ret <| re <| fin h (r1 (ss rfl rfl) <| r0) rfl)

def rs_laws_szGeo (r : Int) : List D := [cI.enc r]
def m4 : MC := .seq (.reg [q1 2 (.box (.t 0)),q1 4 (.asg (.c (.int .i64 0)))] [1, 2])
 (.seq (.reg [q1 5 (.fa 2 0 0),q1 6 (.ld 5 1 false),q1 7 (.mv (.t 1)),q1 8 (.call 25 [(.t 6), (.t 7)]),q1 1 (.asg (.t 8))] [1])
 (.seq (.kp [1] (.seq (.reg [q1 9 (.mv (.t 1)),q1 10 (.bin .lss (.t 9) (.c (.int .i64 0)))] [1, 10])
 (.cond (.t 10) (.seq (.reg [q1 4 (.asg (.c (.int .i64 (-1))))] [4])
 (.ret)) (.skip))))
 (.seq (.reg [q1 11 (.mv (.t 1)),q1 4 (.asg (.t 11))] [4])
 (.ret))))
theorem con_laws_szGeo {v0 : XGeo} {v1 : Int} {r : Int} (h : sh_laws_szGeo v0 v1 = some r) : Con Tryz.prog 4 [cc10.enc v0, cI.enc v1] [] (rs_laws_szGeo r) := by
 delta sh_laws_szGeo at h
 refine top (out := none) (f := Tryz.f4) (m := m4) (rs := [.t 4]) (by kernel_rfl) rfl (by kernel_rfl) (by kernel_rfl) (by kernel_rfl) (by kernel_rfl) (by kernel_rfl) ?_
 exact
  ini [q2 0 cc10 v0, q2 1 cI v1] rfl <| wpC_seq <| reg_s <| x_box (ss rfl rfl) <| x_asg (sc cI (0 : Int) rfl) <| sq [q2 1 cI v1, q3 2 cc10 v0] <|
  xn <| wpC_seq <| reg_s <| st rfl <| fab rfl rfl rfl rfl <| st rfl <| lda rfl rfl rfl rfl rfl rfl <| st rfl <| mvd rfl rfl <| bnd h fun x3 e4 h => st rfl <| o_call (a1 (c := cc13) (tLs tK) rfl (a1 (c := cI) tK rfl a0)) (con_laws_szIntS e4) (.inl (so1 sK so0)) <| x_asg (ss rfl rfl) <| sq [q2 1 cI x3] <|
  xn <| wpC_seq <| wpC_kp <| wpC_seq <| reg_s <| st rfl <| mvd rfl rfl <| st rfl <| b_lss (k := .i64) rfl rfl <| sq [q2 1 cI x3, q2 10 cB (decide (x3 < (0 : Int)))] <|
  xn <| cnd rfl h (fun b6 h => wpC_seq <| reg_s <| x_asg (sc cI (-1 : Int) rfl) <| sq [q2 4 cI (-1 : Int)] <|
  xn <| wpC_ret <| rt <| rt <| re <| fin h (r1 (ss rfl rfl) <| r0) rfl)
  (fun b6 h => wpC_skip <| kpN [q2 1 cI x3] (by kernel_rfl) <| xn <| wpC_seq <| reg_s <| st rfl <| mvd rfl rfl <| x_asg (ss rfl rfl) <| sq [q2 4 cI x3] <|
  xn <| wpC_ret <| re <| fin h (r1 (ss rfl rfl) <| r0) rfl)

def rs_laws_szVariable (r : Int) : List D := [cI.enc r]
def m26 : MC := .seq (.reg [q1 2 (.box (.t 0)),q1 4 (.asg (.c (.int .i64 0)))] [1, 2])
 (.seq (.reg [q1 5 (.mv (.t 1)),q1 6 (.fa 2 0 0),q1 7 (.ld 6 1 false),q1 8 (.len true (.t 7)),q1 9 (.bin .sub (.t 5) (.t 8)),q1 1 (.asg (.t 9))] [1])
 (.seq (.kp [1] (.seq (.reg [q1 10 (.mv (.t 1)),q1 11 (.bin .lss (.t 10) (.c (.int .i64 0)))] [1, 11])
 (.cond (.t 11) (.seq (.reg [q1 4 (.asg (.c (.int .i64 (-1))))] [4])
 (.ret)) (.skip))))
 (.seq (.reg [q1 12 (.mv (.t 1)),q1 4 (.asg (.t 12))] [4])
 (.ret))))
theorem con_laws_szVariable {v0 : XVariable} {v1 : Int} {r : Int} (h : sh_laws_szVariable v0 v1 = some r) : Con Tryz.prog 26 [cc11.enc v0, cI.enc v1] [] (rs_laws_szVariable r) := by
 delta sh_laws_szVariable at h
 refine top (out := none) (f := Tryz.f26) (m := m26) (rs := [.t 4]) (by kernel_rfl) rfl (by kernel_rfl) (by kernel_rfl) (by kernel_rfl) (by kernel_rfl) (by kernel_rfl) ?_
 exact
  ini [q2 0 cc11 v0, q2 1 cI v1] rfl <| wpC_seq <| reg_s <| x_box (ss rfl rfl) <| x_asg (sc cI (0 : Int) rfl) <| sq [q2 1 cI v1, q3 2 cc11 v0] <|
  xn <| wpC_seq <| reg_s <| st rfl <| mvd rfl rfl <| st rfl <| fab rfl rfl rfl rfl <| st rfl <| lda rfl rfl rfl rfl rfl rfl <| stw rfl <| lent rfl fun l3 => ckI_k h fun i4 h => st rfl <| b_sub (k := .i64) rfl rfl i4 <| x_asg (ss rfl rfl) <| sq [q2 1 cI (v1 - (v0.Name.length : Int))] <|
  xn <| wpC_seq <| wpC_kp <| wpC_seq <| reg_s <| st rfl <| mvd rfl rfl <| st rfl <| b_lss (k := .i64) rfl rfl <| sq [q2 1 cI (v1 - (v0.Name.length : Int)), q2 11 cB (decide ((v1 - (v0.Name.length : Int)) < (0 : Int)))] <|
  xn <| cnd rfl h (fun b6 h => wpC_seq <| reg_s <| x_asg (sc cI (-1 : Int) rfl) <| sq [q2 4 cI (-1 : Int)] <|
  xn <| wpC_ret <| rt <| rt <| re <| fin h (r1 (ss rfl rfl) <| r0) rfl)
  (fun b6 h => wpC_skip <| kpN [q2 1 cI (v1 - (v0.Name.length : Int))] (by kernel_rfl) <| xn <| wpC_seq <| reg_s <| st rfl <| mvd rfl rfl <| x_asg (ss rfl rfl) <| sq [q2 4 cI (v1 - (v0.Name.length : Int))] <|
  xn <| wpC_ret <| re <| fin h (r1 (ss rfl rfl) <| r0) rfl)

def rs_laws_szVariableS (r : Int) : List D := [cI.enc r]
def m5 : MC := .seq (.reg [q1 4 (.asg (.c (.int .i64 0)))] [0, 1])
 (.seq (.reg [q1 6 (.mv (.t 1)),q1 7 (.mv (.t 0)),q1 8 (.len false (.t 7)),q1 9 (.bin .sub (.t 6) (.t 8)),q1 1 (.asg (.t 9))] [0, 1])
 (.seq (.kp [0, 1] (.seq (.reg [q1 10 (.mv (.t 1)),q1 11 (.bin .lss (.t 10) (.c (.int .i64 0)))] [0, 1, 11])
 (.cond (.t 11) (.seq (.reg [q1 4 (.asg (.c (.int .i64 (-1))))] [4])
 (.ret)) (.skip))))
 (.seq (.kp [1] (.seq (.reg [q1 5 (.asg (.c (.int .i64 0)))] [0, 1, 5])
 (.blk 0 (.loop (.seq (.kp [0, 1, 5] (.seq (.reg [q1 12 (.mv (.t 5)),q1 13 (.mv (.t 0)),q1 14 (.len false (.t 13)),q1 15 (.bin .lss (.t 12) (.t 14))] [0, 1, 5, 15])
 (.cond (.t 15) (.skip) (.exit 0))))
 (.seq (.kp [0, 1, 5] (.blk 1 (.seq (.reg [q1 18 (.mv (.t 0)),q1 19 (.mv (.t 5)),q1 20 (.ia 18 (.t 19) 2),q1 21 (.ld 20 2 true),q1 22 (.mv (.t 1)),q1 23 (.call 26 [(.t 21), (.t 22)]),q1 1 (.asg (.t 23))] [0, 1, 5])
 (.seq (.reg [q1 24 (.mv (.t 1)),q1 25 (.bin .lss (.t 24) (.c (.int .i64 0)))] [0, 1, 5, 25])
 (.cond (.t 25) (.seq (.reg [q1 4 (.asg (.c (.int .i64 (-1))))] [4])
 (.ret)) (.skip))))))
 (.reg [q1 16 (.mv (.t 5)),q1 17 (.bin .add (.t 16) (.c (.int .i64 1))),q1 5 (.asg (.t 17))] [0, 1, 5])))))))
 (.seq (.reg [q1 26 (.mv (.t 1)),q1 4 (.asg (.t 26))] [4])
 (.ret)))))
theorem con_laws_szVariableS {v0 : (List XVariable)} {v1 : Int} {r : Int} (h : sh_laws_szVariableS v0 v1 = some r) : Con Tryz.prog 5 [cc6.enc v0, cI.enc v1] [] (rs_laws_szVariableS r) := by
 delta sh_laws_szVariableS at h
 refine top (out := none) (f := Tryz.f5) (m := m5) (rs := [.t 4]) (by kernel_rfl) rfl (by kernel_rfl) (by kernel_rfl) (by kernel_rfl) (by kernel_rfl) (by kernel_rfl) ?_
 exact
  ini [q2 0 cc6 v0, q2 1 cI v1] rfl <| wpC_seq <| reg_s <| x_asg (sc cI (0 : Int) rfl) <| sq [q2 0 cc6 v0, q2 1 cI v1] <|
  xn <| wpC_seq <| reg_s <| st rfl <| mvd rfl rfl <| st rfl <| mvd rfl rfl <| stw rfl <| lens rfl fun l3 => ckI_k h fun i4 h => st rfl <| b_sub (k := .i64) rfl rfl i4 <| x_asg (ss rfl rfl) <| sq [q2 0 cc6 v0, q2 1 cI (v1 - (v0.length : Int))] <|
  xn <| wpC_seq <| wpC_kp <| wpC_seq <| reg_s <| st rfl <| mvd rfl rfl <| st rfl <| b_lss (k := .i64) rfl rfl <| sq [q2 0 cc6 v0, q2 1 cI (v1 - (v0.length : Int)), q2 11 cB (decide ((v1 - (v0.length : Int)) < (0 : Int)))] <|
  xn <| cnd rfl h (fun b6 h => wpC_seq <| reg_s <| x_asg (sc cI (-1 : Int) rfl) <| sq [q2 4 cI (-1 : Int)] <|
  xn <| wpC_ret <| rt <| rt <| re <| fin h (r1 (ss rfl rfl) <| r0) rfl)
  (fun b6 h => wpC_skip <| kpN [q2 0 cc6 v0, q2 1 cI (v1 - (v0.length : Int))] (by kernel_rfl) <| xn <| wpC_seq <| wpC_kp <| wpC_seq <| reg_s <| x_asg (sc cI (0 : Int) rfl) <| sq [q2 0 cc6 v0, q2 1 cI (v1 - (v0.length : Int)), q2 5 cI (0 : Int)] <|
  xn <| wpC_blk <| lpF (fun (s102 : (Int × Int)) => [q2 0 cc6 v0, q2 1 cI s102.1, q2 5 cI s102.2]) ((v1 - (v0.length : Int)), (0 : Int)) rfl h
  fun G167 nx165 s102 hn166 h => wpC_seq <| wpC_kp <| wpC_seq <| reg_s <| st rfl <| mvd rfl rfl <| st rfl <| mvd rfl rfl <| stw rfl <| lens rfl fun l172 => st rfl <| b_lss (k := .i64) rfl rfl <| sq [q2 0 cc6 v0, q2 1 cI s102.1, q2 5 cI s102.2, q2 15 cB (decide (s102.2 < (v0.length : Int)))] <|
  xn <| cnd rfl h (fun b173 h => wpC_skip <| kpN [q2 0 cc6 v0, q2 1 cI s102.1, q2 5 cI s102.2] (by kernel_rfl) <| xn <| wpC_seq <| wpC_kp <| wpC_blk <| wpC_seq <| reg_s <| st rfl <| mvd rfl rfl <| st rfl <| mvd rfl rfl <| getO_k h fun x190 i191 g192 h => st rfl <| ias rfl rfl i191 g192 rfl <| st rfl <| ldi rfl rfl rfl rfl <| st rfl <| mvd rfl rfl <| bnd h fun x193 e194 h => st rfl <| o_call (a1 (c := cc11) (tXVariable tS tK) rfl (a1 (c := cI) tK rfl a0)) (con_laws_szVariable e194) (.inl (so1 sK so0)) <| x_asg (ss rfl rfl) <| sq [q2 0 cc6 v0, q2 1 cI x193, q2 5 cI s102.2] <|
  xn <| wpC_seq <| reg_s <| st rfl <| mvd rfl rfl <| st rfl <| b_lss (k := .i64) rfl rfl <| sq [q2 0 cc6 v0, q2 1 cI x193, q2 5 cI s102.2, q2 25 cB (decide (x193 < (0 : Int)))] <|
  xn <| cnd rfl h (fun b195 h => wpC_seq <| reg_s <| x_asg (sc cI (-1 : Int) rfl) <| sq [q2 4 cI (-1 : Int)] <|
  xn <| wpC_ret <| rb <| rt <| rt <| rt <| rb <| rt <| rt <| re <| fin h (r1 (ss rfl rfl) <| r0) rfl)
  (fun b195 h => wpC_skip <| xbb <| kpN [q2 0 cc6 v0, q2 1 cI x193, q2 5 cI s102.2] (by kernel_rfl) <| xn <| reg_s <| st rfl <| mvd rfl rfl <| ckI_k h fun i196 h => st rfl <| b_add (k := .i64) rfl rfl i196 <| x_asg (ss rfl rfl) <| sq [q2 0 cc6 v0, q2 1 cI x193, q2 5 cI (s102.2 + (1 : Int))] <|
  xn <| hn166 (x193, (s102.2 + (1 : Int))) h))
  (fun b173 h => wpC_exit <| xt <| xt <| xt <| xb <| kpN [q2 1 cI s102.1] (by kernel_rfl) <| xn <| wpC_seq <| reg_s <| st rfl <| mvd rfl rfl <| x_asg (ss rfl rfl) <| sq [q2 4 cI s102.1] <|
  xn <| wpC_ret <| re <| fin h (r1 (ss rfl rfl) <| r0) rfl))

def rs_laws_szTable (r : Int) : List D := [cI.enc r]
def m6 : MC := .seq (.reg [q1 2 (.box (.t 0)),q1 4 (.asg (.c (.int .i64 0)))] [1, 2])
 (.seq (.reg [q1 5 (.fa 2 1 1),q1 6 (.ld 5 1 false),q1 7 (.mv (.t 1)),q1 8 (.call 25 [(.t 6), (.t 7)]),q1 1 (.asg (.t 8))] [1, 2])
 (.seq (.kp [1, 2] (.seq (.reg [q1 9 (.mv (.t 1)),q1 10 (.bin .lss (.t 9) (.c (.int .i64 0)))] [1, 2, 10])
 (.cond (.t 10) (.seq (.reg [q1 4 (.asg (.c (.int .i64 (-1))))] [4])
 (.ret)) (.skip))))
 (.seq (.reg [q1 11 (.fa 2 2 2),q1 12 (.ld 11 1 false),q1 13 (.mv (.t 1)),q1 14 (.call 25 [(.t 12), (.t 13)]),q1 1 (.asg (.t 14))] [1])
 (.seq (.kp [1] (.seq (.reg [q1 15 (.mv (.t 1)),q1 16 (.bin .lss (.t 15) (.c (.int .i64 0)))] [1, 16])
 (.cond (.t 16) (.seq (.reg [q1 4 (.asg (.c (.int .i64 (-1))))] [4])
 (.ret)) (.skip))))
 (.seq (.reg [q1 17 (.mv (.t 1)),q1 4 (.asg (.t 17))] [4])
 (.ret))))))
theorem con_laws_szTable {v0 : XTable} {v1 : Int} {r : Int} (h : sh_laws_szTable v0 v1 = some r) : Con Tryz.prog 6 [cc0.enc v0, cI.enc v1] [] (rs_laws_szTable r) := by
 delta sh_laws_szTable at h
 refine top (out := none) (f := Tryz.f6) (m := m6) (rs := [.t 4]) (by kernel_rfl) rfl (by kernel_rfl) (by kernel_rfl) (by kernel_rfl) (by kernel_rfl) (by kernel_rfl) ?_
 exact
  ini [q2 0 cc0 v0, q2 1 cI v1] rfl <| wpC_seq <| reg_s <| x_box (ss rfl rfl) <| x_asg (sc cI (0 : Int) rfl) <| sq [q2 1 cI v1, q3 2 cc0 v0] <|
  xn <| wpC_seq <| reg_s <| st rfl <| fab rfl rfl rfl rfl <| st rfl <| lda rfl rfl rfl rfl rfl rfl <| st rfl <| mvd rfl rfl <| bnd h fun x3 e4 h => st rfl <| o_call (a1 (c := cc13) (tLs tK) rfl (a1 (c := cI) tK rfl a0)) (con_laws_szIntS e4) (.inl (so1 sK so0)) <| x_asg (ss rfl rfl) <| sq [q2 1 cI x3, q3 2 cc0 v0] <|
  xn <| wpC_seq <| wpC_kp <| wpC_seq <| reg_s <| st rfl <| mvd rfl rfl <| st rfl <| b_lss (k := .i64) rfl rfl <| sq [q2 1 cI x3, q3 2 cc0 v0, q2 10 cB (decide (x3 < (0 : Int)))] <|
  xn <| cnd rfl h (fun b6 h => wpC_seq <| reg_s <| x_asg (sc cI (-1 : Int) rfl) <| sq [q2 4 cI (-1 : Int)] <|
  xn <| wpC_ret <| rt <| rt <| re <| fin h (r1 (ss rfl rfl) <| r0) rfl)
  (fun b6 h => wpC_skip <| kpN [q2 1 cI x3, q3 2 cc0 v0] (by kernel_rfl) <| xn <| wpC_seq <| reg_s <| st rfl <| fab rfl rfl rfl rfl <| st rfl <| lda rfl rfl rfl rfl rfl rfl <| st rfl <| mvd rfl rfl <| bnd h fun x9 e10 h => st rfl <| o_call (a1 (c := cc13) (tLs tK) rfl (a1 (c := cI) tK rfl a0)) (con_laws_szIntS e10) (.inl (so1 sK so0)) <| x_asg (ss rfl rfl) <| sq [q2 1 cI x9] <|
  xn <| wpC_seq <| wpC_kp <| wpC_seq <| reg_s <| st rfl <| mvd rfl rfl <| st rfl <| b_lss (k := .i64) rfl rfl <| sq [q2 1 cI x9, q2 16 cB (decide (x9 < (0 : Int)))] <|
  xn <| cnd rfl h (fun b12 h => wpC_seq <| reg_s <| x_asg (sc cI (-1 : Int) rfl) <| sq [q2 4 cI (-1 : Int)] <|
  xn <| wpC_ret <| rt <| rt <| re <| fin h (r1 (ss rfl rfl) <| r0) rfl)
  (fun b12 h => wpC_skip <| kpN [q2 1 cI x9] (by kernel_rfl) <| xn <| wpC_seq <| reg_s <| st rfl <| mvd rfl rfl <| x_asg (ss rfl rfl) <| sq [q2 4 cI x9] <|
  xn <| wpC_ret <| re <| fin h (r1 (ss rfl rfl) <| r0) rfl))

def rs_laws_szRecord (r : Int) : List D := [cI.enc r]
def m27 : MC := .seq (.reg [q1 2 (.box (.t 0)),q1 4 (.asg (.c (.int .i64 0)))] [1, 2])
 (.seq (.reg [q1 5 (.fa 2 2 2),q1 6 (.ld 5 1 false),q1 7 (.mv (.t 1)),q1 8 (.call 25 [(.t 6), (.t 7)]),q1 1 (.asg (.t 8))] [1])
 (.seq (.kp [1] (.seq (.reg [q1 9 (.mv (.t 1)),q1 10 (.bin .lss (.t 9) (.c (.int .i64 0)))] [1, 10])
 (.cond (.t 10) (.seq (.reg [q1 4 (.asg (.c (.int .i64 (-1))))] [4])
 (.ret)) (.skip))))
 (.seq (.reg [q1 11 (.mv (.t 1)),q1 4 (.asg (.t 11))] [4])
 (.ret))))
theorem con_laws_szRecord {v0 : XRecord} {v1 : Int} {r : Int} (h : sh_laws_szRecord v0 v1 = some r) : Con Tryz.prog 27 [cc5.enc v0, cI.enc v1] [] (rs_laws_szRecord r) := by
 delta sh_laws_szRecord at h
 refine top (out := none) (f := Tryz.f27) (m := m27) (rs := [.t 4]) (by kernel_rfl) rfl (by kernel_rfl) (by kernel_rfl) (by kernel_rfl) (by kernel_rfl) (by kernel_rfl) ?_
 exact
  ini [q2 0 cc5 v0, q2 1 cI v1] rfl <| wpC_seq <| reg_s <| x_box (ss rfl rfl) <| x_asg (sc cI (0 : Int) rfl) <| sq [q2 1 cI v1, q3 2 cc5 v0] <|
  xn <| wpC_seq <| reg_s <| st rfl <| fab rfl rfl rfl rfl <| st rfl <| lda rfl rfl rfl rfl rfl rfl <| st rfl <| mvd rfl rfl <| bnd h fun x3 e4 h => st rfl <| o_call (a1 (c := cc13) (tLs tK) rfl (a1 (c := cI) tK rfl a0)) (con_laws_szIntS e4) (.inl (so1 sK so0)) <| x_asg (ss rfl rfl) <| sq [q2 1 cI x3] <|
  xn <| wpC_seq <| wpC_kp <| wpC_seq <| reg_s <| st rfl <| mvd rfl rfl <| st rfl <| b_lss (k := .i64) rfl rfl <| sq [q2 1 cI x3, q2 10 cB (decide (x3 < (0 : Int)))] <|
  xn <| cnd rfl h (fun b6 h => wpC_seq <| reg_s <| x_asg (sc cI (-1 : Int) rfl) <| sq [q2 4 cI (-1 : Int)] <|
  xn <| wpC_ret <| rt <| rt <| re <| fin h (r1 (ss rfl rfl) <| r0) rfl)
  (fun b6 h => wpC_skip <| kpN [q2 1 cI x3] (by kernel_rfl) <| xn <| wpC_seq <| reg_s <| st rfl <| mvd rfl rfl <| x_asg (ss rfl rfl) <| sq [q2 4 cI x3] <|
  xn <| wpC_ret <| re <| fin h (r1 (ss rfl rfl) <| r0) rfl)

def rs_laws_szRecordS (r : Int) : List D := [cI.enc r]
def m7 : MC := .seq (.reg [q1 4 (.asg (.c (.int .i64 0)))] [0, 1])
 (.seq (.reg [q1 6 (.mv (.t 1)),q1 7 (.mv (.t 0)),q1 8 (.len false (.t 7)),q1 9 (.bin .sub (.t 6) (.t 8)),q1 1 (.asg (.t 9))] [0, 1])
 (.seq (.kp [0, 1] (.seq (.reg [q1 10 (.mv (.t 1)),q1 11 (.bin .lss (.t 10) (.c (.int .i64 0)))] [0, 1, 11])
 (.cond (.t 11) (.seq (.reg [q1 4 (.asg (.c (.int .i64 (-1))))] [4])
 (.ret)) (.skip))))
 (.seq (.kp [1] (.seq (.reg [q1 5 (.asg (.c (.int .i64 0)))] [0, 1, 5])
 (.blk 0 (.loop (.seq (.kp [0, 1, 5] (.seq (.reg [q1 12 (.mv (.t 5)),q1 13 (.mv (.t 0)),q1 14 (.len false (.t 13)),q1 15 (.bin .lss (.t 12) (.t 14))] [0, 1, 5, 15])
 (.cond (.t 15) (.skip) (.exit 0))))
 (.seq (.kp [0, 1, 5] (.blk 1 (.seq (.reg [q1 18 (.mv (.t 0)),q1 19 (.mv (.t 5)),q1 20 (.ia 18 (.t 19) 3),q1 21 (.ld 20 3 true),q1 22 (.mv (.t 1)),q1 23 (.call 27 [(.t 21), (.t 22)]),q1 1 (.asg (.t 23))] [0, 1, 5])
 (.seq (.reg [q1 24 (.mv (.t 1)),q1 25 (.bin .lss (.t 24) (.c (.int .i64 0)))] [0, 1, 5, 25])
 (.cond (.t 25) (.seq (.reg [q1 4 (.asg (.c (.int .i64 (-1))))] [4])
 (.ret)) (.skip))))))
 (.reg [q1 16 (.mv (.t 5)),q1 17 (.bin .add (.t 16) (.c (.int .i64 1))),q1 5 (.asg (.t 17))] [0, 1, 5])))))))
 (.seq (.reg [q1 26 (.mv (.t 1)),q1 4 (.asg (.t 26))] [4])
 (.ret)))))
theorem con_laws_szRecordS {v0 : (List XRecord)} {v1 : Int} {r : Int} (h : sh_laws_szRecordS v0 v1 = some r) : Con Tryz.prog 7 [cc1.enc v0, cI.enc v1] [] (rs_laws_szRecordS r) := by
 delta sh_laws_szRecordS at h
 refine top (out := none) (f := Tryz.f7) (m := m7) (rs := [.t 4]) (by kernel_rfl) rfl (by kernel_rfl) (by kernel_rfl) (by kernel_rfl) (by kernel_rfl) (by kernel_rfl) ?_
 exact
  ini [q2 0 cc1 v0, q2 1 cI v1] rfl <| wpC_seq <| reg_s <| x_asg (sc cI (0 : Int) rfl) <| sq [q2 0 cc1 v0, q2 1 cI v1] <|
  xn <| wpC_seq <| reg_s <| st rfl <| mvd rfl rfl <| st rfl <| mvd rfl rfl <| stw rfl <| lens rfl fun l3 => ckI_k h fun i4 h => st rfl <| b_sub (k := .i64) rfl rfl i4 <| x_asg (ss rfl rfl) <| sq [q2 0 cc1 v0, q2 1 cI (v1 - (v0.length : Int))] <|
  xn <| wpC_seq <| wpC_kp <| wpC_seq <| reg_s <| st rfl <| mvd rfl rfl <| st rfl <| b_lss (k := .i64) rfl rfl <| sq [q2 0 cc1 v0, q2 1 cI (v1 - (v0.length : Int)), q2 11 cB (decide ((v1 - (v0.length : Int)) < (0 : Int)))] <|
  xn <| cnd rfl h (fun b6 h => wpC_seq <| reg_s <| x_asg (sc cI (-1 : Int) rfl) <| sq [q2 4 cI (-1 : Int)] <|
  xn <| wpC_ret <| rt <| rt <| re <| fin h (r1 (ss rfl rfl) <| r0) rfl)
  (fun b6 h => wpC_skip <| kpN [q2 0 cc1 v0, q2 1 cI (v1 - (v0.length : Int))] (by kernel_rfl) <| xn <| wpC_seq <| wpC_kp <| wpC_seq <| reg_s <| x_asg (sc cI (0 : Int) rfl) <| sq [q2 0 cc1 v0, q2 1 cI (v1 - (v0.length : Int)), q2 5 cI (0 : Int)] <|
  xn <| wpC_blk <| lpF (fun (s102 : (Int × Int)) => [q2 0 cc1 v0, q2 1 cI s102.1, q2 5 cI s102.2]) ((v1 - (v0.length : Int)), (0 : Int)) rfl h
  fun G167 nx165 s102 hn166 h => wpC_seq <| wpC_kp <| wpC_seq <| reg_s <| st rfl <| mvd rfl rfl <| st rfl <| mvd rfl rfl <| stw rfl <| lens rfl fun l172 => st rfl <| b_lss (k := .i64) rfl rfl <| sq [q2 0 cc1 v0, q2 1 cI s102.1, q2 5 cI s102.2, q2 15 cB (decide (s102.2 < (v0.length : Int)))] <|
  xn <| cnd rfl h (fun b173 h => wpC_skip <| kpN [q2 0 cc1 v0, q2 1 cI s102.1, q2 5 cI s102.2] (by kernel_rfl) <| xn <| wpC_seq <| wpC_kp <| wpC_blk <| wpC_seq <| reg_s <| st rfl <| mvd rfl rfl <| st rfl <| mvd rfl rfl <| getO_k h fun x190 i191 g192 h => st rfl <| ias rfl rfl i191 g192 rfl <| st rfl <| ldi rfl rfl rfl rfl <| st rfl <| mvd rfl rfl <| bnd h fun x193 e194 h => st rfl <| o_call (a1 (c := cc5) (tXRecord tK tK (tLs tK)) rfl (a1 (c := cI) tK rfl a0)) (con_laws_szRecord e194) (.inl (so1 sK so0)) <| x_asg (ss rfl rfl) <| sq [q2 0 cc1 v0, q2 1 cI x193, q2 5 cI s102.2] <|
  xn <| wpC_seq <| reg_s <| st rfl <| mvd rfl rfl <| st rfl <| b_lss (k := .i64) rfl rfl <| sq [q2 0 cc1 v0, q2 1 cI x193, q2 5 cI s102.2, q2 25 cB (decide (x193 < (0 : Int)))] <|
  xn <| cnd rfl h (fun b195 h => wpC_seq <| reg_s <| x_asg (sc cI (-1 : Int) rfl) <| sq [q2 4 cI (-1 : Int)] <|
  xn <| wpC_ret <| rb <| rt <| rt <| rt <| rb <| rt <| rt <| re <| fin h (r1 (ss rfl rfl) <| r0) rfl)
  (fun b195 h => wpC_skip <| xbb <| kpN [q2 0 cc1 v0, q2 1 cI x193, q2 5 cI s102.2] (by kernel_rfl) <| xn <| reg_s <| st rfl <| mvd rfl rfl <| ckI_k h fun i196 h => st rfl <| b_add (k := .i64) rfl rfl i196 <| x_asg (ss rfl rfl) <| sq [q2 0 cc1 v0, q2 1 cI x193, q2 5 cI (s102.2 + (1 : Int))] <|
  xn <| hn166 (x193, (s102.2 + (1 : Int))) h))
  (fun b173 h => wpC_exit <| xt <| xt <| xt <| xb <| kpN [q2 1 cI s102.1] (by kernel_rfl) <| xn <| wpC_seq <| reg_s <| st rfl <| mvd rfl rfl <| x_asg (ss rfl rfl) <| sq [q2 4 cI s102.1] <|
  xn <| wpC_ret <| re <| fin h (r1 (ss rfl rfl) <| r0) rfl))

def rs_laws_toIntS (r : (List Int)) : List D := [cc14.enc r]
def m35 : MC := .seq (.reg [q1 2 (.asg (.c (.slice true [])))] [0])
 (.seq (.reg [q1 5 (.mv (.t 0)),q1 6 (.len false (.t 5)),q1 7 (.mk (.int .i64 0) (.t 6)),q1 3 (.asg (.t 7))] [0, 3])
 (.seq (.kp [3] (.seq (.reg [q1 4 (.asg (.c (.int .i64 0)))] [0, 3, 4])
 (.blk 0 (.loop (.seq (.kp [0, 3, 4] (.seq (.reg [q1 8 (.mv (.t 4)),q1 9 (.mv (.t 0)),q1 10 (.len false (.t 9)),q1 11 (.bin .lss (.t 8) (.t 10))] [0, 3, 4, 11])
 (.cond (.t 11) (.skip) (.exit 0))))
 (.seq (.kp [0, 3, 4] (.blk 1 (.reg [q1 14 (.mv (.t 3)),q1 15 (.mv (.t 4)),q1 16 (.mv (.t 0)),q1 17 (.mv (.t 4)),q1 18 (.ia 16 (.t 17) 1),q1 19 (.ld 18 1 false),q1 20 (.ia 14 (.t 15) 1),q0 (.st 20 (.t 19) 1)] [0, 3, 4])))
 (.reg [q1 12 (.mv (.t 4)),q1 13 (.bin .add (.t 12) (.c (.int .i64 1))),q1 4 (.asg (.t 13))] [0, 3, 4])))))))
 (.seq (.reg [q1 21 (.mv (.t 3)),q1 2 (.asg (.t 21))] [2])
 (.ret))))
theorem con_laws_toIntS {v0 : (List Int)} {r : (List Int)} (h : sh_laws_toIntS v0 = some r) : Con Tryz.prog 35 [cc13.enc v0] [] (rs_laws_toIntS r) := by
 delta sh_laws_toIntS at h
 refine top (out := none) (f := Tryz.f35) (m := m35) (rs := [.t 2]) (by kernel_rfl) rfl (by kernel_rfl) (by kernel_rfl) (by kernel_rfl) (by kernel_rfl) (by kernel_rfl) ?_
 exact
  ini [q2 0 cc13 v0] rfl <| wpC_seq <| reg_s <| x_asg (sc cc14 ([] : List Int) rfl) <| sq [q2 0 cc13 v0] <|
  xn <| wpC_seq <| reg_s <| st rfl <| mvd rfl rfl <| stw rfl <| lens rfl fun l4 => mkO_k h fun i5 l6 h => st rfl <| o_mk (c := cI) (a0 := (0 : Int)) rfl (k := .i64) rfl i5 l6 <| x_asg (so rfl rfl) <| sq [q2 0 cc13 v0, q2 3 cc14 (List.replicate ((v0.length : Int)).toNat (0 : Int))] <|
  xn <| wpC_seq <| wpC_kp <| wpC_seq <| reg_s <| x_asg (sc cI (0 : Int) rfl) <| sq [q2 0 cc13 v0, q2 3 cc14 (List.replicate ((v0.length : Int)).toNat (0 : Int)), q2 4 cI (0 : Int)] <|
  xn <| wpC_blk <| lpF (fun (s72 : ((List Int) × Int)) => [q2 0 cc13 v0, q2 3 cc14 s72.1, q2 4 cI s72.2]) ((List.replicate ((v0.length : Int)).toNat (0 : Int)), (0 : Int)) rfl h
  fun G117 nx115 s72 hn116 h => wpC_seq <| wpC_kp <| wpC_seq <| reg_s <| st rfl <| mvd rfl rfl <| st rfl <| mvd rfl rfl <| stw rfl <| lens rfl fun l122 => st rfl <| b_lss (k := .i64) rfl rfl <| sq [q2 0 cc13 v0, q2 3 cc14 s72.1, q2 4 cI s72.2, q2 11 cB (decide (s72.2 < (v0.length : Int)))] <|
  xn <| cnd rfl h (fun b123 h => wpC_skip <| kpN [q2 0 cc13 v0, q2 3 cc14 s72.1, q2 4 cI s72.2] (by kernel_rfl) <| xn <| wpC_seq <| wpC_kp <| wpC_blk <| reg_s <| st rfl <| mvo rfl rfl <| st rfl <| mvd rfl rfl <| st rfl <| mvd rfl rfl <| st rfl <| mvd rfl rfl <| getO_k h fun x130 i131 g132 h => st rfl <| ias rfl rfl i131 g132 rfl <| st rfl <| ldi rfl rfl rfl rfl <| getO_k h fun x133 i134 g135 h => st rfl <| iar rfl rfl rfl rfl i134 g135 rfl <| x_sta (cc14.enc (s72.1.set (s72.2).toNat x130)) (ss rfl rfl) rfl rfl (Ln.idx g135 Ln.nil) (Cd.h_sz cI _) rfl <| sq [q2 0 cc13 v0, q2 3 cc14 (s72.1.set (s72.2).toNat x130), q2 4 cI s72.2] <|
  xbb <| kpN [q2 0 cc13 v0, q2 3 cc14 (s72.1.set (s72.2).toNat x130), q2 4 cI s72.2] (by kernel_rfl) <| xn <| reg_s <| st rfl <| mvd rfl rfl <| ckI_k h fun i136 h => st rfl <| b_add (k := .i64) rfl rfl i136 <| x_asg (ss rfl rfl) <| sq [q2 0 cc13 v0, q2 3 cc14 (s72.1.set (s72.2).toNat x130), q2 4 cI (s72.2 + (1 : Int))] <|
  xn <| hn116 ((s72.1.set (s72.2).toNat x130), (s72.2 + (1 : Int))) h)
  (fun b123 h => wpC_exit <| xt <| xt <| xt <| xb <| kpN [q2 3 cc14 s72.1] (by kernel_rfl) <| xn <| wpC_seq <| reg_s <| st rfl <| mvo rfl rfl <| x_asg (sr rfl rfl) <| sq [q2 2 cc14 s72.1] <|
  xn <| wpC_ret <| re <| fin h (r1 (so rfl rfl) <| r0) rfl)

def rs_laws_toGeo (r : XGeo) : List D := [cc12.enc r]
def m9 : MC := .seq (.reg [q1 1 (.box (.t 0)),q1 2 (.alloc (.agg [.slice true []]))] [1, 2])
 (.seq (.reg [q1 3 (.alloc (.agg [.slice true []]))] [1, 2, 3])
 (.seq (.reg [q1 4 (.fa 1 0 0),q1 5 (.ld 4 1 false),q1 6 (.call 35 [(.t 5)]),q1 7 (.fa 3 0 0),q0 (.st 7 (.t 6) 1)] [2, 3])
 (.seq (.reg [q1 8 (.ld 3 1 true),q0 (.st 2 (.t 8) 1)] [2])
 (.ret))))
theorem con_laws_toGeo {v0 : XGeo} {r : XGeo} (h : sh_laws_toGeo v0 = some r) : Con Tryz.prog 9 [cc10.enc v0] [] (rs_laws_toGeo r) := by
 delta sh_laws_toGeo at h
 refine top (out := none) (f := Tryz.f9) (m := m9) (rs := [.c 2 1 true]) (by kernel_rfl) rfl (by kernel_rfl) (by kernel_rfl) (by kernel_rfl) (by kernel_rfl) (by kernel_rfl) ?_
 exact
  ini [q2 0 cc10 v0] rfl <| wpC_seq <| reg_s <| x_box (ss rfl rfl) <| x_all cc12 (⟨([] : List Int)⟩ : XGeo) rfl <| sq [q3 1 cc10 v0, q3 2 cc12 (⟨([] : List Int)⟩ : XGeo)] <|
  xn <| wpC_seq <| reg_s <| x_all cc12 (⟨([] : List Int)⟩ : XGeo) rfl <| sq [q3 1 cc10 v0, q3 2 cc12 (⟨([] : List Int)⟩ : XGeo), q3 3 cc12 (⟨([] : List Int)⟩ : XGeo)] <|
  xn <| wpC_seq <| reg_s <| st rfl <| fab rfl rfl rfl rfl <| st rfl <| lda rfl rfl rfl rfl rfl rfl <| bnd h fun x3 e4 h => st rfl <| o_call (a1 (c := cc13) (tLs tK) rfl a0) (con_laws_toIntS e4) (.inl (so1 (sLo sK) so0)) <| st rfl <| fab rfl rfl rfl rfl <| x_sta (cc12.enc (⟨x3⟩ : XGeo)) (so rfl rfl) rfl rfl (Ln.fld rfl rfl Ln.nil rfl) (Cd.h_sz cc14 _) rfl <| sq [q3 2 cc12 (⟨([] : List Int)⟩ : XGeo), q3 3 cc12 (⟨x3⟩ : XGeo)] <|
  xn <| wpC_seq <| reg_s <| st rfl <| ldbo rfl rfl rfl rfl <| x_stb (sb rfl rfl) rfl (Cd.h_sz _ _) rfl <| sq [q3 2 cc12 (⟨x3⟩ : XGeo)] <|
  xn <| wpC_ret <| re <| fin h (r2 rfl rfl rfl <| r0) rfl

def rs_laws_toVariable (r : XVariable) : List D := [cc11.enc r]
def m36 : MC := .seq (.reg [q1 1 (.box (.t 0)),q1 2 (.alloc (.agg [.str [], .int .i64 0]))] [1, 2])
 (.seq (.reg [q1 3 (.alloc (.agg [.str [], .int .i64 0]))] [1, 2, 3])
 (.seq (.reg [q1 4 (.fa 1 0 0),q1 5 (.ld 4 1 false),q1 6 (.fa 3 0 0),q0 (.st 6 (.t 5) 1)] [1, 2, 3])
 (.seq (.reg [q1 7 (.fa 1 1 1),q1 8 (.ld 7 1 false),q1 9 (.fa 3 1 1),q0 (.st 9 (.t 8) 1)] [2, 3])
 (.seq (.reg [q1 10 (.ld 3 2 true),q0 (.st 2 (.t 10) 2)] [2])
 (.ret)))))
theorem con_laws_toVariable {v0 : XVariable} {r : XVariable} (h : sh_laws_toVariable v0 = some r) : Con Tryz.prog 36 [cc11.enc v0] [] (rs_laws_toVariable r) := by
 delta sh_laws_toVariable at h
 refine top (out := none) (f := Tryz.f36) (m := m36) (rs := [.c 2 2 true]) (by kernel_rfl) rfl (by kernel_rfl) (by kernel_rfl) (by kernel_rfl) (by kernel_rfl) (by kernel_rfl) ?_
 exact
  ini [q2 0 cc11 v0] rfl <| wpC_seq <| reg_s <| x_box (ss rfl rfl) <| x_all cc11 (⟨([] : List UInt8), (0 : Int)⟩ : XVariable) rfl <| sq [q3 1 cc11 v0, q3 2 cc11 (⟨([] : List UInt8), (0 : Int)⟩ : XVariable)] <|
  xn <| wpC_seq <| reg_s <| x_all cc11 (⟨([] : List UInt8), (0 : Int)⟩ : XVariable) rfl <| sq [q3 1 cc11 v0, q3 2 cc11 (⟨([] : List UInt8), (0 : Int)⟩ : XVariable), q3 3 cc11 (⟨([] : List UInt8), (0 : Int)⟩ : XVariable)] <|
  xn <| wpC_seq <| reg_s <| st rfl <| fab rfl rfl rfl rfl <| st rfl <| lda rfl rfl rfl rfl rfl rfl <| st rfl <| fab rfl rfl rfl rfl <| x_sta (cc11.enc (⟨v0.Name, (0 : Int)⟩ : XVariable)) (ss rfl rfl) rfl rfl (Ln.fld rfl rfl Ln.nil rfl) (Cd.h_sz cS _) rfl <| sq [q3 1 cc11 v0, q3 2 cc11 (⟨([] : List UInt8), (0 : Int)⟩ : XVariable), q3 3 cc11 (⟨v0.Name, (0 : Int)⟩ : XVariable)] <|
  xn <| wpC_seq <| reg_s <| st rfl <| fab rfl rfl rfl rfl <| st rfl <| lda rfl rfl rfl rfl rfl rfl <| st rfl <| fab rfl rfl rfl rfl <| x_sta (cc11.enc (⟨v0.Name, v0.Levels⟩ : XVariable)) (ss rfl rfl) rfl rfl (Ln.fld rfl rfl Ln.nil rfl) (Cd.h_sz cI _) rfl <| sq [q3 2 cc11 (⟨([] : List UInt8), (0 : Int)⟩ : XVariable), q3 3 cc11 (⟨v0.Name, v0.Levels⟩ : XVariable)] <|
  xn <| wpC_seq <| reg_s <| st rfl <| ldb rfl rfl rfl rfl <| x_stb (ss rfl rfl) rfl (Cd.h_sz _ _) rfl <| sq [q3 2 cc11 (⟨v0.Name, v0.Levels⟩ : XVariable)] <|
  xn <| wpC_ret <| re <| fin h (r2 rfl rfl rfl <| r0) rfl

def rs_laws_toVariableS (r : (List XVariable)) : List D := [cc9.enc r]
def m10 : MC := .seq (.reg [q1 2 (.asg (.c (.slice true [])))] [0])
 (.seq (.reg [q1 5 (.mv (.t 0)),q1 6 (.len false (.t 5)),q1 7 (.mk (.agg [.str [], .int .i64 0]) (.t 6)),q1 3 (.asg (.t 7))] [0, 3])
 (.seq (.kp [3] (.seq (.reg [q1 4 (.asg (.c (.int .i64 0)))] [0, 3, 4])
 (.blk 0 (.loop (.seq (.kp [0, 3, 4] (.seq (.reg [q1 8 (.mv (.t 4)),q1 9 (.mv (.t 0)),q1 10 (.len false (.t 9)),q1 11 (.bin .lss (.t 8) (.t 10))] [0, 3, 4, 11])
 (.cond (.t 11) (.skip) (.exit 0))))
 (.seq (.kp [0, 3, 4] (.blk 1 (.reg [q1 14 (.mv (.t 3)),q1 15 (.mv (.t 4)),q1 16 (.mv (.t 0)),q1 17 (.mv (.t 4)),q1 18 (.ia 16 (.t 17) 2),q1 19 (.ld 18 2 true),q1 20 (.call 36 [(.t 19)]),q1 21 (.ia 14 (.t 15) 2),q0 (.st 21 (.t 20) 2)] [0, 3, 4])))
 (.reg [q1 12 (.mv (.t 4)),q1 13 (.bin .add (.t 12) (.c (.int .i64 1))),q1 4 (.asg (.t 13))] [0, 3, 4])))))))
 (.seq (.reg [q1 22 (.mv (.t 3)),q1 2 (.asg (.t 22))] [2])
 (.ret))))
theorem con_laws_toVariableS {v0 : (List XVariable)} {r : (List XVariable)} (h : sh_laws_toVariableS v0 = some r) : Con Tryz.prog 10 [cc6.enc v0] [] (rs_laws_toVariableS r) := by
 delta sh_laws_toVariableS at h
 refine top (out := none) (f := Tryz.f10) (m := m10) (rs := [.t 2]) (by kernel_rfl) rfl (by kernel_rfl) (by kernel_rfl) (by kernel_rfl) (by kernel_rfl) (by kernel_rfl) ?_
 exact
  ini [q2 0 cc6 v0] rfl <| wpC_seq <| reg_s <| x_asg (sc cc9 ([] : List XVariable) rfl) <| sq [q2 0 cc6 v0] <|
  xn <| wpC_seq <| reg_s <| st rfl <| mvd rfl rfl <| stw rfl <| lens rfl fun l4 => mkO_k h fun i5 l6 h => st rfl <| o_mk (c := cc11) (a0 := (⟨([] : List UInt8), (0 : Int)⟩ : XVariable)) rfl (k := .i64) rfl i5 l6 <| x_asg (so rfl rfl) <| sq [q2 0 cc6 v0, q2 3 cc9 (List.replicate ((v0.length : Int)).toNat (⟨([] : List UInt8), (0 : Int)⟩ : XVariable))] <|
  xn <| wpC_seq <| wpC_kp <| wpC_seq <| reg_s <| x_asg (sc cI (0 : Int) rfl) <| sq [q2 0 cc6 v0, q2 3 cc9 (List.replicate ((v0.length : Int)).toNat (⟨([] : List UInt8), (0 : Int)⟩ : XVariable)), q2 4 cI (0 : Int)] <|
  xn <| wpC_blk <| lpF (fun (s84 : ((List XVariable) × Int)) => [q2 0 cc6 v0, q2 3 cc9 s84.1, q2 4 cI s84.2]) ((List.replicate ((v0.length : Int)).toNat (⟨([] : List UInt8), (0 : Int)⟩ : XVariable)), (0 : Int)) rfl h
  fun G137 nx135 s84 hn136 h => wpC_seq <| wpC_kp <| wpC_seq <| reg_s <| st rfl <| mvd rfl rfl <| st rfl <| mvd rfl rfl <| stw rfl <| lens rfl fun l142 => st rfl <| b_lss (k := .i64) rfl rfl <| sq [q2 0 cc6 v0, q2 3 cc9 s84.1, q2 4 cI s84.2, q2 11 cB (decide (s84.2 < (v0.length : Int)))] <|
  xn <| cnd rfl h (fun b143 h => wpC_skip <| kpN [q2 0 cc6 v0, q2 3 cc9 s84.1, q2 4 cI s84.2] (by kernel_rfl) <| xn <| wpC_seq <| wpC_kp <| wpC_blk <| reg_s <| st rfl <| mvo rfl rfl <| st rfl <| mvd rfl rfl <| st rfl <| mvd rfl rfl <| st rfl <| mvd rfl rfl <| getO_k h fun x152 i153 g154 h => st rfl <| ias rfl rfl i153 g154 rfl <| st rfl <| ldi rfl rfl rfl rfl <| bnd h fun x155 e156 h => st rfl <| o_call (a1 (c := cc11) (tXVariable tS tK) rfl a0) (con_laws_toVariable e156) (.inl (so1 (sXVariable sS sK) so0)) <| getO_k h fun x157 i158 g159 h => st rfl <| iar rfl rfl rfl rfl i158 g159 rfl <| x_sta (cc9.enc (s84.1.set (s84.2).toNat x155)) (ss rfl rfl) rfl rfl (Ln.idx g159 Ln.nil) (Cd.h_sz cc11 _) rfl <| sq [q2 0 cc6 v0, q2 3 cc9 (s84.1.set (s84.2).toNat x155), q2 4 cI s84.2] <|
  xbb <| kpN [q2 0 cc6 v0, q2 3 cc9 (s84.1.set (s84.2).toNat x155), q2 4 cI s84.2] (by kernel_rfl) <| xn <| reg_s <| st rfl <| mvd rfl rfl <| ckI_k h fun i160 h => st rfl <| b_add (k := .i64) rfl rfl i160 <| x_asg (ss rfl rfl) <| sq [q2 0 cc6 v0, q2 3 cc9 (s84.1.set (s84.2).toNat x155), q2 4 cI (s84.2 + (1 : Int))] <|
  xn <| hn136 ((s84.1.set (s84.2).toNat x155), (s84.2 + (1 : Int))) h)
  (fun b143 h => wpC_exit <| xt <| xt <| xt <| xb <| kpN [q2 3 cc9 s84.1] (by kernel_rfl) <| xn <| wpC_seq <| reg_s <| st rfl <| mvo rfl rfl <| x_asg (sr rfl rfl) <| sq [q2 2 cc9 s84.1] <|
  xn <| wpC_ret <| re <| fin h (r1 (so rfl rfl) <| r0) rfl)

end AS.W
