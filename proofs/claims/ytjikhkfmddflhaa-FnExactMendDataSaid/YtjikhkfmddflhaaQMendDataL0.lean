/- The program computes the plain functions. No condition. -/
import Derived.Test.YtjikhkfmddflhaaQMendDataS
import Derived.Test.YtjikhkfmddflhaaProg
set_option maxRecDepth 100000
set_option linter.unusedVariables false
set_option linter.unusedSimpArgs false
namespace AS.W
open Go Go.Proofs
abbrev q1 (d : Nat) (k : MK) : MOp := ⟨some d, k, none⟩
abbrev q0 (k : MK) : MOp := ⟨none, k, none⟩
abbrev q2 {α : Type} (n : Nat) (c : Cd α) (a : α) : Nat × SV := (n, .d (c.enc a))
abbrev q3 {α : Type} (n : Nat) (c : Cd α) (a : α) : Nat × SV := (n, .box (c.enc a))
theorem sq {P : Program} {T : Nat → SV} {Q : MX → (Nat → SV) → Prop} {ks : List Nat} (L : TL) (h : Q .nrm (gl L)) (e : kG T ks ks = L := by kernel_rfl) : SQ P [] T fun T' => Q .nrm (ofL (keepL T' ks ks)) := seqN L e h
abbrev cc12 := (cLo cI)
abbrev cc11 := (cLs cI rfl)
abbrev cc10 := (cXEdit (cLo cI))
abbrev cc9 := (cXVariable cS cI)
abbrev cc8 := (cXEdit (cLs cI rfl))
abbrev cc7 := (cLo (cXEdit (cLo cI)))
abbrev cc6 := (cLo (cXVariable cS cI))
abbrev cc5 := (cXRecord cI cI (cLo cI))
abbrev cc4 := (cLs (cXVariable cS cI) rfl)
abbrev cc3 := (cXRecord cI cI (cLs cI rfl))
abbrev cc1 := (cLs (cXEdit (cLs cI rfl)) rfl)
abbrev cc2 := (cLo (cXRecord cI cI (cLo cI)))
abbrev cc0 := (cLs (cXRecord cI cI (cLs cI rfl)) rfl)
def rs_spec_l1In (r : Bool) : List D := [cB.enc r]
def m111 : MC := .seq (.reg [q1 6 (.asg (.c (.bool false)))] [0, 1, 2])
 (.seq (.reg [q1 7 (.mv (.t 0)),q1 8 (.mv (.t 1)),q1 9 (.bin .geq (.t 7) (.t 8)),q1 10 (.mv (.t 9)),
  ⟨some 11, .mv (.t 0), some (10, true)⟩,
  ⟨some 12, .mv (.t 2), some (10, true)⟩,
  ⟨some 13, .bin .leq (.t 11) (.t 12), some (10, true)⟩,q1 14 (.pick (.t 10) (.t 13) (.c (.bool false))),q1 6 (.asg (.t 14))] [6])
 (.ret))
theorem con_spec_l1In {v0 : Int} {v1 : Int} {v2 : Int} {r : Bool} (h : sh_spec_l1In v0 v1 v2 = some r) : Con Try.prog 111 [cI.enc v0, cI.enc v1, cI.enc v2] [] (rs_spec_l1In r) := by
 delta sh_spec_l1In at h
 refine top (out := none) (f := Try.f111) (m := m111) (rs := [.t 6]) (by kernel_rfl) rfl (by kernel_rfl) (by kernel_rfl) (by kernel_rfl) (by kernel_rfl) (by kernel_rfl) ?_
 exact
  ini [q2 0 cI v0, q2 1 cI v1, q2 2 cI v2] rfl <| wpC_seq <| reg_s <| x_asg (sc cB false rfl) <| sq [q2 0 cI v0, q2 1 cI v1, q2 2 cI v2] <|
  xn <| wpC_seq <| reg_s <| st rfl <| mvd rfl rfl <| st rfl <| mvd rfl rfl <| st rfl <| b_geq (k := .i64) rfl rfl <| st rfl <| mvd rfl rfl <| ite_k h (fun b2 h => gt' rfl b2 <| st rfl <| mvd rfl rfl <| gt' rfl b2 <| st rfl <| mvd rfl rfl <| gt' rfl b2 <| st rfl <| b_leq (k := .i64) rfl rfl <| st rfl <| pick1 rfl b2 (cd := cB) (v := (decide (v0 ≤ v2))) rfl rfl <| x_asg (ss rfl rfl) <| sq [q2 6 cB (decide (v0 ≤ v2))] <|
  xn <| wpC_ret <| re <| fin h (r1 (ss rfl rfl) <| r0) rfl)
  (fun b2 h => gf rfl b2 <| gf rfl b2 <| gf rfl b2 <| st rfl <| pick0 rfl b2 (cd := cB) (v := false) rfl rfl <| x_asg (ss rfl rfl) <| sq [q2 6 cB false] <|
  xn <| wpC_ret <| re <| fin h (r1 (ss rfl rfl) <| r0) rfl)

def rs_spec_l1All (r : Bool) : List D := [cB.enc r]
def m144 : MC := .seq (.reg [q1 6 (.asg (.c (.bool false)))] [0, 1, 2])
 (.seq (.kp [] (.seq (.reg [q1 9 (.mv (.t 0)),q1 10 (.len false (.t 9)),q1 11 (.mv (.c (.int .i64 0)))] [0, 1, 2, 9, 10, 11])
 (.blk 0 (.loop (.seq (.reg [q1 12 (.bin .lss (.t 11) (.t 10))] [0, 1, 2, 9, 10, 11, 12])
 (.seq (.kp [0, 1, 2, 9, 10, 11] (.cond (.t 12) (.skip) (.exit 0)))
 (.seq (.kp [0, 1, 2, 9, 10, 11] (.blk 1 (.seq (.reg [q1 13 (.ia 9 (.t 11) 1),q1 14 (.ld 13 1 false),q1 8 (.asg (.t 14))] [0, 1, 2, 8, 9, 10, 11])
 (.seq (.reg [q1 15 (.mv (.t 8)),q1 16 (.mv (.t 1)),q1 17 (.mv (.t 2)),q1 18 (.call 111 [(.t 15), (.t 16), (.t 17)]),q1 19 (.nt (.t 18))] [0, 1, 2, 9, 10, 11, 19])
 (.cond (.t 19) (.seq (.reg [q1 6 (.asg (.c (.bool false)))] [6])
 (.ret)) (.skip))))))
 (.reg [q1 20 (.bin .add (.t 11) (.c (.int .i64 1))),q1 11 (.mv (.t 20))] [0, 1, 2, 9, 10, 11]))))))))
 (.seq (.reg [q1 6 (.asg (.c (.bool true)))] [6])
 (.ret)))
theorem con_spec_l1All {v0 : (List Int)} {v1 : Int} {v2 : Int} {r : Bool} (h : sh_spec_l1All v0 v1 v2 = some r) : Con Try.prog 144 [cc11.enc v0, cI.enc v1, cI.enc v2] [] (rs_spec_l1All r) := by
 delta sh_spec_l1All at h
 refine top (out := none) (f := Try.f144) (m := m144) (rs := [.t 6]) (by kernel_rfl) rfl (by kernel_rfl) (by kernel_rfl) (by kernel_rfl) (by kernel_rfl) (by kernel_rfl) ?_
 exact
  ini [q2 0 cc11 v0, q2 1 cI v1, q2 2 cI v2] rfl <| wpC_seq <| reg_s <| x_asg (sc cB false rfl) <| sq [q2 0 cc11 v0, q2 1 cI v1, q2 2 cI v2] <|
  xn <| wpC_seq <| wpC_kp <| wpC_seq <| reg_s <| st rfl <| mvd rfl rfl <| stw rfl <| lens rfl fun l32 => st rfl <| mvc cI (0 : Int) rfl <| sq [q2 0 cc11 v0, q2 1 cI v1, q2 2 cI v2, q2 9 cc11 v0, q2 10 cI (v0.length : Int), q2 11 cI (0 : Int)] <|
  xn <| wpC_blk <| lpR (fun (k34 : Nat) (s33 : Unit) => [q2 0 cc11 v0, q2 1 cI v1, q2 2 cI v2, q2 9 cc11 v0, q2 10 cI (v0.length : Int), q2 11 cI (k34 : Int)]) () rfl h
  (fun G50 s33 h => wpC_seq <| reg_s <| st rfl <| b_lss (k := .i64) rfl rfl <| sq [q2 0 cc11 v0, q2 1 cI v1, q2 2 cI v2, q2 9 cc11 v0, q2 10 cI (v0.length : Int), q2 11 cI (v0.length : Int), q2 12 cB (decide ((v0.length : Int) < (v0.length : Int)))] <|
  xn <| wpC_seq <| wpC_kp <| cnd0 rfl (dlf _) <| wpC_exit <| xt <| xt <| xt <| xb <| kpN [] (by kernel_rfl) <| xn <| wpC_seq <| reg_s <| x_asg (sc cB true rfl) <| sq [q2 6 cB true] <|
  xn <| wpC_ret <| re <| fin h (r1 (ss rfl rfl) <| r0) rfl)
  (fun G50 nx48 k34 s33 x35 hk36 hx37 hn49 h => wpC_seq <| reg_s <| st rfl <| b_lss (k := .i64) rfl rfl <| sq [q2 0 cc11 v0, q2 1 cI v1, q2 2 cI v2, q2 9 cc11 v0, q2 10 cI (v0.length : Int), q2 11 cI (k34 : Int), q2 12 cB (decide ((k34 : Int) < (v0.length : Int)))] <|
  xn <| wpC_seq <| wpC_kp <| cnd1 rfl (dlt hk36) <| wpC_skip <| kpN [q2 0 cc11 v0, q2 1 cI v1, q2 2 cI v2, q2 9 cc11 v0, q2 10 cI (v0.length : Int), q2 11 cI (k34 : Int)] (by kernel_rfl) <| xn <| wpC_seq <| wpC_kp <| wpC_blk <| wpC_seq <| reg_s <| st rfl <| ias rfl rfl (Int.natCast_nonneg _) hx37 rfl <| st rfl <| ldi rfl rfl rfl rfl <| x_asg (ss rfl rfl) <| sq [q2 0 cc11 v0, q2 1 cI v1, q2 2 cI v2, q2 8 cI x35, q2 9 cc11 v0, q2 10 cI (v0.length : Int), q2 11 cI (k34 : Int)] <|
  xn <| wpC_seq <| reg_s <| st rfl <| mvd rfl rfl <| st rfl <| mvd rfl rfl <| st rfl <| mvd rfl rfl <| bnd h fun x58 e59 h => st rfl <| o_call (a1 (c := cI) tK rfl (a1 (c := cI) tK rfl (a1 (c := cI) tK rfl a0))) (con_spec_l1In e59) (.inl (so1 sB so0)) <| st rfl <| o_nt rfl <| sq [q2 0 cc11 v0, q2 1 cI v1, q2 2 cI v2, q2 9 cc11 v0, q2 10 cI (v0.length : Int), q2 11 cI (k34 : Int), q2 19 cB (!x58)] <|
  xn <| cnd rfl h (fun b60 h => wpC_seq <| reg_s <| x_asg (sc cB false rfl) <| sq [q2 6 cB false] <|
  xn <| wpC_ret <| rb <| rt <| rt <| rt <| rb <| rt <| rt <| re <| fin h (r1 (ss rfl rfl) <| r0) rfl)
  (fun b60 h => wpC_skip <| xbb <| kpN [q2 0 cc11 v0, q2 1 cI v1, q2 2 cI v2, q2 9 cc11 v0, q2 10 cI (v0.length : Int), q2 11 cI (k34 : Int)] (by kernel_rfl) <| xn <| reg_s <| st rfl <| b_inc rfl rfl l32 hk36 <| st rfl <| mvd rfl rfl <| sq [q2 0 cc11 v0, q2 1 cI v1, q2 2 cI v2, q2 9 cc11 v0, q2 10 cI (v0.length : Int), q2 11 cI ((k34 + 1 : Nat) : Int)] <|
  xn <| hn49 () h))

def rs_laws_szIntS (r : Int) : List D := [cI.enc r]
def m109 : MC := .seq (.reg [q1 4 (.asg (.c (.int .i64 0)))] [0, 1])
 (.seq (.reg [q1 5 (.mv (.t 1)),q1 6 (.mv (.t 0)),q1 7 (.len false (.t 6)),q1 8 (.bin .sub (.t 5) (.t 7)),q1 1 (.asg (.t 8))] [1])
 (.seq (.kp [1] (.seq (.reg [q1 9 (.mv (.t 1)),q1 10 (.bin .lss (.t 9) (.c (.int .i64 0)))] [1, 10])
 (.cond (.t 10) (.seq (.reg [q1 4 (.asg (.c (.int .i64 (-1))))] [4])
 (.ret)) (.skip))))
 (.seq (.reg [q1 11 (.mv (.t 1)),q1 4 (.asg (.t 11))] [4])
 (.ret))))
theorem con_laws_szIntS {v0 : (List Int)} {v1 : Int} {r : Int} (h : sh_laws_szIntS v0 v1 = some r) : Con Try.prog 109 [cc11.enc v0, cI.enc v1] [] (rs_laws_szIntS r) := by
 delta sh_laws_szIntS at h
 refine top (out := none) (f := Try.f109) (m := m109) (rs := [.t 4]) (by kernel_rfl) rfl (by kernel_rfl) (by kernel_rfl) (by kernel_rfl) (by kernel_rfl) (by kernel_rfl) ?_
 exact
  ini [q2 0 cc11 v0, q2 1 cI v1] rfl <| wpC_seq <| reg_s <| x_asg (sc cI (0 : Int) rfl) <| sq [q2 0 cc11 v0, q2 1 cI v1] <|
  xn <| wpC_seq <| reg_s <| st rfl <| mvd rfl rfl <| st rfl <| mvd rfl rfl <| stw rfl <| lens rfl fun l3 => ckI_k h fun i4 h => st rfl <| b_sub (k := .i64) rfl rfl i4 <| x_asg (ss rfl rfl) <| sq [q2 1 cI (v1 - (v0.length : Int))] <|
  xn <| wpC_seq <| wpC_kp <| wpC_seq <| reg_s <| st rfl <| mvd rfl rfl <| st rfl <| b_lss (k := .i64) rfl rfl <| sq [q2 1 cI (v1 - (v0.length : Int)), q2 10 cB (decide ((v1 - (v0.length : Int)) < (0 : Int)))] <|
  xn <| cnd rfl h (fun b6 h => wpC_seq <| reg_s <| x_asg (sc cI (-1 : Int) rfl) <| sq [q2 4 cI (-1 : Int)] <|
  xn <| wpC_ret <| rt <| rt <| re <| fin h (r1 (ss rfl rfl) <| r0) rfl)
  (fun b6 h => wpC_skip <| kpN [q2 1 cI (v1 - (v0.length : Int))] (by kernel_rfl) <| xn <| wpC_seq <| reg_s <| st rfl <| mvd rfl rfl <| x_asg (ss rfl rfl) <| sq [q2 4 cI (v1 - (v0.length : Int))] <|
  xn <| wpC_ret <| re <| fin h (r1 (ss rfl rfl) <| r0) rfl)

def rs_laws_toIntS (r : (List Int)) : List D := [cc12.enc r]
def m27 : MC := .seq (.reg [q1 2 (.asg (.c (.slice true [])))] [0])
 (.seq (.reg [q1 5 (.mv (.t 0)),q1 6 (.len false (.t 5)),q1 7 (.mk (.int .i64 0) (.t 6)),q1 3 (.asg (.t 7))] [0, 3])
 (.seq (.kp [3] (.seq (.reg [q1 4 (.asg (.c (.int .i64 0)))] [0, 3, 4])
 (.blk 0 (.loop (.seq (.kp [0, 3, 4] (.seq (.reg [q1 8 (.mv (.t 4)),q1 9 (.mv (.t 0)),q1 10 (.len false (.t 9)),q1 11 (.bin .lss (.t 8) (.t 10))] [0, 3, 4, 11])
 (.cond (.t 11) (.skip) (.exit 0))))
 (.seq (.kp [0, 3, 4] (.blk 1 (.reg [q1 14 (.mv (.t 3)),q1 15 (.mv (.t 4)),q1 16 (.mv (.t 0)),q1 17 (.mv (.t 4)),q1 18 (.ia 16 (.t 17) 1),q1 19 (.ld 18 1 false),q1 20 (.ia 14 (.t 15) 1),q0 (.st 20 (.t 19) 1)] [0, 3, 4])))
 (.reg [q1 12 (.mv (.t 4)),q1 13 (.bin .add (.t 12) (.c (.int .i64 1))),q1 4 (.asg (.t 13))] [0, 3, 4])))))))
 (.seq (.reg [q1 21 (.mv (.t 3)),q1 2 (.asg (.t 21))] [2])
 (.ret))))
theorem con_laws_toIntS {v0 : (List Int)} {r : (List Int)} (h : sh_laws_toIntS v0 = some r) : Con Try.prog 27 [cc11.enc v0] [] (rs_laws_toIntS r) := by
 delta sh_laws_toIntS at h
 refine top (out := none) (f := Try.f27) (m := m27) (rs := [.t 2]) (by kernel_rfl) rfl (by kernel_rfl) (by kernel_rfl) (by kernel_rfl) (by kernel_rfl) (by kernel_rfl) ?_
 exact
  ini [q2 0 cc11 v0] rfl <| wpC_seq <| reg_s <| x_asg (sc cc12 ([] : List Int) rfl) <| sq [q2 0 cc11 v0] <|
  xn <| wpC_seq <| reg_s <| st rfl <| mvd rfl rfl <| stw rfl <| lens rfl fun l4 => mkO_k h fun i5 l6 h => st rfl <| o_mk (c := cI) (a0 := (0 : Int)) rfl (k := .i64) rfl i5 l6 <| x_asg (so rfl rfl) <| sq [q2 0 cc11 v0, q2 3 cc12 (List.replicate ((v0.length : Int)).toNat (0 : Int))] <|
  xn <| wpC_seq <| wpC_kp <| wpC_seq <| reg_s <| x_asg (sc cI (0 : Int) rfl) <| sq [q2 0 cc11 v0, q2 3 cc12 (List.replicate ((v0.length : Int)).toNat (0 : Int)), q2 4 cI (0 : Int)] <|
  xn <| wpC_blk <| lpF (fun (s72 : ((List Int) × Int)) => [q2 0 cc11 v0, q2 3 cc12 s72.1, q2 4 cI s72.2]) ((List.replicate ((v0.length : Int)).toNat (0 : Int)), (0 : Int)) rfl h
  fun G117 nx115 s72 hn116 h => wpC_seq <| wpC_kp <| wpC_seq <| reg_s <| st rfl <| mvd rfl rfl <| st rfl <| mvd rfl rfl <| stw rfl <| lens rfl fun l122 => st rfl <| b_lss (k := .i64) rfl rfl <| sq [q2 0 cc11 v0, q2 3 cc12 s72.1, q2 4 cI s72.2, q2 11 cB (decide (s72.2 < (v0.length : Int)))] <|
  xn <| cnd rfl h (fun b123 h => wpC_skip <| kpN [q2 0 cc11 v0, q2 3 cc12 s72.1, q2 4 cI s72.2] (by kernel_rfl) <| xn <| wpC_seq <| wpC_kp <| wpC_blk <| reg_s <| st rfl <| mvo rfl rfl <| st rfl <| mvd rfl rfl <| st rfl <| mvd rfl rfl <| st rfl <| mvd rfl rfl <| getO_k h fun x130 i131 g132 h => st rfl <| ias rfl rfl i131 g132 rfl <| st rfl <| ldi rfl rfl rfl rfl <| getO_k h fun x133 i134 g135 h => st rfl <| iar rfl rfl rfl rfl i134 g135 rfl <| x_sta (cc12.enc (s72.1.set (s72.2).toNat x130)) (ss rfl rfl) rfl rfl (Ln.idx g135 Ln.nil) (Cd.h_sz cI _) rfl <| sq [q2 0 cc11 v0, q2 3 cc12 (s72.1.set (s72.2).toNat x130), q2 4 cI s72.2] <|
  xbb <| kpN [q2 0 cc11 v0, q2 3 cc12 (s72.1.set (s72.2).toNat x130), q2 4 cI s72.2] (by kernel_rfl) <| xn <| reg_s <| st rfl <| mvd rfl rfl <| ckI_k h fun i136 h => st rfl <| b_add (k := .i64) rfl rfl i136 <| x_asg (ss rfl rfl) <| sq [q2 0 cc11 v0, q2 3 cc12 (s72.1.set (s72.2).toNat x130), q2 4 cI (s72.2 + (1 : Int))] <|
  xn <| hn116 ((s72.1.set (s72.2).toNat x130), (s72.2 + (1 : Int))) h)
  (fun b123 h => wpC_exit <| xt <| xt <| xt <| xb <| kpN [q2 3 cc12 s72.1] (by kernel_rfl) <| xn <| wpC_seq <| reg_s <| st rfl <| mvo rfl rfl <| x_asg (sr rfl rfl) <| sq [q2 2 cc12 s72.1] <|
  xn <| wpC_ret <| re <| fin h (r1 (so rfl rfl) <| r0) rfl)

def rs_laws_eqIntS (r : Bool) : List D := [cB.enc r]
def m19 : MC := .seq (.reg [q1 4 (.asg (.c (.bool false)))] [0, 1])
 (.seq (.kp [0, 1] (.seq (.reg [q1 6 (.mv (.t 0)),q1 7 (.len false (.t 6)),q1 8 (.mv (.t 1)),q1 9 (.len false (.t 8)),q1 10 (.bin .neq (.t 7) (.t 9))] [0, 1, 10])
 (.cond (.t 10) (.seq (.reg [q1 4 (.asg (.c (.bool false)))] [4])
 (.ret)) (.skip))))
 (.seq (.kp [] (.seq (.reg [q1 5 (.asg (.c (.int .i64 0)))] [0, 1, 5])
 (.blk 0 (.loop (.seq (.kp [0, 1, 5] (.seq (.reg [q1 11 (.mv (.t 5)),q1 12 (.mv (.t 0)),q1 13 (.len false (.t 12)),q1 14 (.bin .lss (.t 11) (.t 13))] [0, 1, 5, 14])
 (.cond (.t 14) (.skip) (.exit 0))))
 (.seq (.kp [0, 1, 5] (.blk 1 (.seq (.drw [⟨0, q1 17 (.mv (.t 0)), [18, 19, 20, 21, 22, 23, 24, 25]⟩,
  ⟨1, q1 18 (.mv (.t 5)), [17, 19, 20, 21, 22, 23, 24, 25]⟩,
  ⟨2, q1 19 (.ia 17 (.t 18) 1), [20, 21, 22, 23, 24, 25]⟩,
  ⟨3, q1 20 (.ld 19 1 false), [21, 22, 23, 24, 25]⟩,
  ⟨4, q1 21 (.mv (.t 1)), [17, 18, 19, 20, 22, 23, 24, 25]⟩,
  ⟨5, q1 22 (.mv (.t 5)), [17, 18, 19, 20, 21, 23, 24, 25]⟩,
  ⟨6, q1 23 (.ia 21 (.t 22) 1), [17, 18, 19, 20, 24, 25]⟩,
  ⟨7, q1 24 (.ld 23 1 false), [17, 18, 19, 20, 25]⟩,
  ⟨8, q1 25 (.bin .neq (.t 20) (.t 24)), []⟩]
  [] [0, 1, 5, 25])
 (.cond (.t 25) (.seq (.reg [q1 4 (.asg (.c (.bool false)))] [4])
 (.ret)) (.skip)))))
 (.reg [q1 15 (.mv (.t 5)),q1 16 (.bin .add (.t 15) (.c (.int .i64 1))),q1 5 (.asg (.t 16))] [0, 1, 5])))))))
 (.seq (.reg [q1 4 (.asg (.c (.bool true)))] [4])
 (.ret))))
theorem con_laws_eqIntS {v0 : (List Int)} {v1 : (List Int)} {r : Bool} (h : sh_laws_eqIntS v0 v1 = some r) : Con Try.prog 19 [cc11.enc v0, cc11.enc v1] [] (rs_laws_eqIntS r) := by
 delta sh_laws_eqIntS at h
 refine top (out := none) (f := Try.f19) (m := m19) (rs := [.t 4]) (by kernel_rfl) rfl (by kernel_rfl) (by kernel_rfl) (by kernel_rfl) (by kernel_rfl) (by kernel_rfl) ?_
 exact
  ini [q2 0 cc11 v0, q2 1 cc11 v1] rfl <| wpC_seq <| reg_s <| x_asg (sc cB false rfl) <| sq [q2 0 cc11 v0, q2 1 cc11 v1] <|
  xn <| wpC_seq <| wpC_kp <| wpC_seq <| reg_s <| st rfl <| mvd rfl rfl <| stw rfl <| lens rfl fun l8 => st rfl <| mvd rfl rfl <| stw rfl <| lens rfl fun l9 => st rfl <| b_neq (k := .i64) rfl rfl <| sq [q2 0 cc11 v0, q2 1 cc11 v1, q2 10 cB (decide ((v0.length : Int) ≠ (v1.length : Int)))] <|
  xn <| cnd rfl h (fun b10 h => wpC_seq <| reg_s <| x_asg (sc cB false rfl) <| sq [q2 4 cB false] <|
  xn <| wpC_ret <| rt <| rt <| re <| fin h (r1 (ss rfl rfl) <| r0) rfl)
  (fun b10 h => wpC_skip <| kpN [q2 0 cc11 v0, q2 1 cc11 v1] (by kernel_rfl) <| xn <| wpC_seq <| wpC_kp <| wpC_seq <| reg_s <| x_asg (sc cI (0 : Int) rfl) <| sq [q2 0 cc11 v0, q2 1 cc11 v1, q2 5 cI (0 : Int)] <|
  xn <| wpC_blk <| lpF (fun (s118 : Int) => [q2 0 cc11 v0, q2 1 cc11 v1, q2 5 cI s118]) (0 : Int) rfl h
  fun G191 nx189 s118 hn190 h => wpC_seq <| wpC_kp <| wpC_seq <| reg_s <| st rfl <| mvd rfl rfl <| st rfl <| mvd rfl rfl <| stw rfl <| lens rfl fun l196 => st rfl <| b_lss (k := .i64) rfl rfl <| sq [q2 0 cc11 v0, q2 1 cc11 v1, q2 5 cI s118, q2 14 cB (decide (s118 < (v0.length : Int)))] <|
  xn <| cnd rfl h (fun b197 h => wpC_skip <| kpN [q2 0 cc11 v0, q2 1 cc11 v1, q2 5 cI s118] (by kernel_rfl) <| xn <| wpC_seq <| wpC_kp <| wpC_blk <| wpC_seq <| drw_s <| pst rfl <| mvd rfl rfl ⟨rfl, pst rfl <| mvd rfl rfl ⟨rfl, getO_kp h fun x217 i218 g219 h => pst rfl <| ias rfl rfl i218 g219 rfl ⟨rfl, pst rfl <| ldi rfl rfl rfl rfl ⟨rfl, pst rfl <| mvd rfl rfl ⟨rfl, pst rfl <| mvd rfl rfl ⟨rfl, getO_kp h fun x220 i221 g222 h => pst rfl <| ias rfl rfl i221 g222 rfl ⟨rfl, pst rfl <| ldi rfl rfl rfl rfl ⟨rfl, pst rfl <| b_neq (k := .i64) rfl rfl ⟨rfl, preN <| sq [q2 0 cc11 v0, q2 1 cc11 v1, q2 5 cI s118, q2 25 cB (decide (x217 ≠ x220))] <|
  xn <| cnd rfl h (fun b223 h => wpC_seq <| reg_s <| x_asg (sc cB false rfl) <| sq [q2 4 cB false] <|
  xn <| wpC_ret <| rb <| rt <| rt <| rt <| rb <| rt <| rt <| re <| fin h (r1 (ss rfl rfl) <| r0) rfl)
  (fun b223 h => wpC_skip <| xbb <| kpN [q2 0 cc11 v0, q2 1 cc11 v1, q2 5 cI s118] (by kernel_rfl) <| xn <| reg_s <| st rfl <| mvd rfl rfl <| ckI_k h fun i224 h => st rfl <| b_add (k := .i64) rfl rfl i224 <| x_asg (ss rfl rfl) <| sq [q2 0 cc11 v0, q2 1 cc11 v1, q2 5 cI (s118 + (1 : Int))] <|
  xn <| hn190 (s118 + (1 : Int)) h)⟩⟩⟩⟩⟩⟩⟩⟩⟩)
  (fun b197 h => wpC_exit <| xt <| xt <| xt <| xb <| kpN [] (by kernel_rfl) <| xn <| wpC_seq <| reg_s <| x_asg (sc cB true rfl) <| sq [q2 4 cB true] <|
  xn <| wpC_ret <| re <| fin h (r1 (ss rfl rfl) <| r0) rfl))

def os_laws_markIntS (r : ((List Int) × Int)) : D := cc12.enc r.1
def rs_laws_markIntS (r : ((List Int) × Int)) : List D := [cI.enc r.2]
def m24 : MC := .seq (.reg [q1 4 (.asg (.c (.int .i64 0)))] [0, 1])
 (.seq (.kp [0, 1] (.seq (.reg [q1 5 (.asg (.c (.int .i64 0)))] [0, 1, 5])
 (.blk 0 (.loop (.seq (.kp [0, 1, 5] (.seq (.reg [q1 6 (.mv (.t 5)),q1 7 (.mv (.t 0)),q1 8 (.len false (.t 7)),q1 9 (.bin .lss (.t 6) (.t 8))] [0, 1, 5, 9])
 (.cond (.t 9) (.skip) (.exit 0))))
 (.seq (.kp [0, 1, 5] (.blk 1 (.seq (.reg [q1 12 (.mv (.t 0)),q1 13 (.mv (.t 5)),q1 14 (.mv (.t 1)),q1 15 (.ia 12 (.t 13) 1),q0 (.st 15 (.t 14) 1)] [0, 1, 5])
 (.reg [q1 16 (.mv (.t 1)),q1 17 (.bin .add (.t 16) (.c (.int .i64 1))),q1 1 (.asg (.t 17))] [0, 1, 5]))))
 (.reg [q1 10 (.mv (.t 5)),q1 11 (.bin .add (.t 10) (.c (.int .i64 1))),q1 5 (.asg (.t 11))] [0, 1, 5])))))))
 (.seq (.reg [q1 18 (.mv (.t 1)),q1 4 (.asg (.t 18))] [0, 4])
 (.ret)))
theorem con_laws_markIntS {v0 : (List Int)} {v1 : Int} {r : ((List Int) × Int)} (h : sh_laws_markIntS v0 v1 = some r) : Con Try.prog 24 [cc12.enc v0, cI.enc v1] (outsOf (some (0, os_laws_markIntS r))) (rs_laws_markIntS r) := by
 delta sh_laws_markIntS at h
 refine top (out := some (0, os_laws_markIntS r)) (f := Try.f24) (m := m24) (rs := [.t 4]) (by kernel_rfl) rfl (by kernel_rfl) (by kernel_rfl) (by kernel_rfl) (by kernel_rfl) (by kernel_rfl) ?_
 exact
  ini [q2 0 cc12 v0, q2 1 cI v1] rfl <| wpC_seq <| reg_s <| x_asg (sc cI (0 : Int) rfl) <| sq [q2 0 cc12 v0, q2 1 cI v1] <|
  xn <| wpC_seq <| wpC_kp <| wpC_seq <| reg_s <| x_asg (sc cI (0 : Int) rfl) <| sq [q2 0 cc12 v0, q2 1 cI v1, q2 5 cI (0 : Int)] <|
  xn <| wpC_blk <| lpF (fun (s72 : ((List Int) × Int × Int)) => [q2 0 cc12 s72.1, q2 1 cI s72.2.1, q2 5 cI s72.2.2]) (v0, v1, (0 : Int)) rfl h
  fun G121 nx119 s72 hn120 h => wpC_seq <| wpC_kp <| wpC_seq <| reg_s <| st rfl <| mvd rfl rfl <| st rfl <| mvo rfl rfl <| stw rfl <| leno rfl fun l126 => st rfl <| b_lss (k := .i64) rfl rfl <| sq [q2 0 cc12 s72.1, q2 1 cI s72.2.1, q2 5 cI s72.2.2, q2 9 cB (decide (s72.2.2 < (s72.1.length : Int)))] <|
  xn <| cnd rfl h (fun b127 h => wpC_skip <| kpN [q2 0 cc12 s72.1, q2 1 cI s72.2.1, q2 5 cI s72.2.2] (by kernel_rfl) <| xn <| wpC_seq <| wpC_kp <| wpC_blk <| wpC_seq <| reg_s <| st rfl <| mvo rfl rfl <| st rfl <| mvd rfl rfl <| st rfl <| mvd rfl rfl <| getO_k h fun x138 i139 g140 h => st rfl <| iar rfl rfl rfl rfl i139 g140 rfl <| x_sta (cc12.enc (s72.1.set (s72.2.2).toNat s72.2.1)) (ss rfl rfl) rfl rfl (Ln.idx g140 Ln.nil) (Cd.h_sz cI _) rfl <| sq [q2 0 cc12 (s72.1.set (s72.2.2).toNat s72.2.1), q2 1 cI s72.2.1, q2 5 cI s72.2.2] <|
  xn <| reg_s <| st rfl <| mvd rfl rfl <| ckI_k h fun i141 h => st rfl <| b_add (k := .i64) rfl rfl i141 <| x_asg (ss rfl rfl) <| sq [q2 0 cc12 (s72.1.set (s72.2.2).toNat s72.2.1), q2 1 cI (s72.2.1 + (1 : Int)), q2 5 cI s72.2.2] <|
  xbb <| kpN [q2 0 cc12 (s72.1.set (s72.2.2).toNat s72.2.1), q2 1 cI (s72.2.1 + (1 : Int)), q2 5 cI s72.2.2] (by kernel_rfl) <| xn <| reg_s <| st rfl <| mvd rfl rfl <| ckI_k h fun i142 h => st rfl <| b_add (k := .i64) rfl rfl i142 <| x_asg (ss rfl rfl) <| sq [q2 0 cc12 (s72.1.set (s72.2.2).toNat s72.2.1), q2 1 cI (s72.2.1 + (1 : Int)), q2 5 cI (s72.2.2 + (1 : Int))] <|
  xn <| hn120 ((s72.1.set (s72.2.2).toNat s72.2.1), (s72.2.1 + (1 : Int)), (s72.2.2 + (1 : Int))) h)
  (fun b127 h => wpC_exit <| xt <| xt <| xt <| xb <| kpN [q2 0 cc12 s72.1, q2 1 cI s72.2.1] (by kernel_rfl) <| xn <| wpC_seq <| reg_s <| st rfl <| mvd rfl rfl <| x_asg (ss rfl rfl) <| sq [q2 0 cc12 s72.1, q2 4 cI s72.2.1] <|
  xn <| wpC_ret <| re <| finO h (r1 (ss rfl rfl) <| r0) rfl rfl)

def rs_laws_heldIntS (r : Int) : List D := [cI.enc r]
def m25 : MC := .seq (.reg [q1 4 (.asg (.c (.int .i64 0)))] [0, 1])
 (.seq (.kp [1] (.seq (.reg [q1 5 (.asg (.c (.int .i64 0)))] [0, 1, 5])
 (.blk 0 (.loop (.seq (.kp [0, 1, 5] (.seq (.reg [q1 6 (.mv (.t 5)),q1 7 (.mv (.t 0)),q1 8 (.len false (.t 7)),q1 9 (.bin .lss (.t 6) (.t 8))] [0, 1, 5, 9])
 (.cond (.t 9) (.skip) (.exit 0))))
 (.seq (.kp [0, 1, 5] (.blk 1 (.seq (.kp [0, 1, 5] (.seq (.reg [q1 12 (.mv (.t 0)),q1 13 (.mv (.t 5)),q1 14 (.ia 12 (.t 13) 1),q1 15 (.ld 14 1 false),q1 16 (.mv (.t 1)),q1 17 (.bin .neq (.t 15) (.t 16))] [0, 1, 5, 17])
 (.cond (.t 17) (.seq (.reg [q1 4 (.asg (.c (.int .i64 (-1))))] [4])
 (.ret)) (.skip))))
 (.reg [q1 18 (.mv (.t 1)),q1 19 (.bin .add (.t 18) (.c (.int .i64 1))),q1 1 (.asg (.t 19))] [0, 1, 5]))))
 (.reg [q1 10 (.mv (.t 5)),q1 11 (.bin .add (.t 10) (.c (.int .i64 1))),q1 5 (.asg (.t 11))] [0, 1, 5])))))))
 (.seq (.reg [q1 20 (.mv (.t 1)),q1 4 (.asg (.t 20))] [4])
 (.ret)))
theorem con_laws_heldIntS {v0 : (List Int)} {v1 : Int} {r : Int} (h : sh_laws_heldIntS v0 v1 = some r) : Con Try.prog 25 [cc11.enc v0, cI.enc v1] [] (rs_laws_heldIntS r) := by
 delta sh_laws_heldIntS at h
 refine top (out := none) (f := Try.f25) (m := m25) (rs := [.t 4]) (by kernel_rfl) rfl (by kernel_rfl) (by kernel_rfl) (by kernel_rfl) (by kernel_rfl) (by kernel_rfl) ?_
 exact
  ini [q2 0 cc11 v0, q2 1 cI v1] rfl <| wpC_seq <| reg_s <| x_asg (sc cI (0 : Int) rfl) <| sq [q2 0 cc11 v0, q2 1 cI v1] <|
  xn <| wpC_seq <| wpC_kp <| wpC_seq <| reg_s <| x_asg (sc cI (0 : Int) rfl) <| sq [q2 0 cc11 v0, q2 1 cI v1, q2 5 cI (0 : Int)] <|
  xn <| wpC_blk <| lpF (fun (s120 : (Int × Int)) => [q2 0 cc11 v0, q2 1 cI s120.1, q2 5 cI s120.2]) (v1, (0 : Int)) rfl h
  fun G201 nx199 s120 hn200 h => wpC_seq <| wpC_kp <| wpC_seq <| reg_s <| st rfl <| mvd rfl rfl <| st rfl <| mvd rfl rfl <| stw rfl <| lens rfl fun l206 => st rfl <| b_lss (k := .i64) rfl rfl <| sq [q2 0 cc11 v0, q2 1 cI s120.1, q2 5 cI s120.2, q2 9 cB (decide (s120.2 < (v0.length : Int)))] <|
  xn <| cnd rfl h (fun b207 h => wpC_skip <| kpN [q2 0 cc11 v0, q2 1 cI s120.1, q2 5 cI s120.2] (by kernel_rfl) <| xn <| wpC_seq <| wpC_kp <| wpC_blk <| wpC_seq <| wpC_kp <| wpC_seq <| reg_s <| st rfl <| mvd rfl rfl <| st rfl <| mvd rfl rfl <| getO_k h fun x233 i234 g235 h => st rfl <| ias rfl rfl i234 g235 rfl <| st rfl <| ldi rfl rfl rfl rfl <| st rfl <| mvd rfl rfl <| st rfl <| b_neq (k := .i64) rfl rfl <| sq [q2 0 cc11 v0, q2 1 cI s120.1, q2 5 cI s120.2, q2 17 cB (decide (x233 ≠ s120.1))] <|
  xn <| cnd rfl h (fun b236 h => wpC_seq <| reg_s <| x_asg (sc cI (-1 : Int) rfl) <| sq [q2 4 cI (-1 : Int)] <|
  xn <| wpC_ret <| rt <| rt <| rb <| rt <| rt <| rt <| rb <| rt <| rt <| re <| fin h (r1 (ss rfl rfl) <| r0) rfl)
  (fun b236 h => wpC_skip <| kpN [q2 0 cc11 v0, q2 1 cI s120.1, q2 5 cI s120.2] (by kernel_rfl) <| xn <| reg_s <| st rfl <| mvd rfl rfl <| ckI_k h fun i237 h => st rfl <| b_add (k := .i64) rfl rfl i237 <| x_asg (ss rfl rfl) <| sq [q2 0 cc11 v0, q2 1 cI (s120.1 + (1 : Int)), q2 5 cI s120.2] <|
  xbb <| kpN [q2 0 cc11 v0, q2 1 cI (s120.1 + (1 : Int)), q2 5 cI s120.2] (by kernel_rfl) <| xn <| reg_s <| st rfl <| mvd rfl rfl <| ckI_k h fun i238 h => st rfl <| b_add (k := .i64) rfl rfl i238 <| x_asg (ss rfl rfl) <| sq [q2 0 cc11 v0, q2 1 cI (s120.1 + (1 : Int)), q2 5 cI (s120.2 + (1 : Int))] <|
  xn <| hn200 ((s120.1 + (1 : Int)), (s120.2 + (1 : Int))) h))
  (fun b207 h => wpC_exit <| xt <| xt <| xt <| xb <| kpN [q2 1 cI s120.1] (by kernel_rfl) <| xn <| wpC_seq <| reg_s <| st rfl <| mvd rfl rfl <| x_asg (ss rfl rfl) <| sq [q2 4 cI s120.1] <|
  xn <| wpC_ret <| re <| fin h (r1 (ss rfl rfl) <| r0) rfl)

def rs_laws_szVariable (r : Int) : List D := [cI.enc r]
def m56 : MC := .seq (.reg [q1 2 (.box (.t 0)),q1 4 (.asg (.c (.int .i64 0)))] [1, 2])
 (.seq (.reg [q1 5 (.mv (.t 1)),q1 6 (.fa 2 0 0),q1 7 (.ld 6 1 false),q1 8 (.len true (.t 7)),q1 9 (.bin .sub (.t 5) (.t 8)),q1 1 (.asg (.t 9))] [1])
 (.seq (.kp [1] (.seq (.reg [q1 10 (.mv (.t 1)),q1 11 (.bin .lss (.t 10) (.c (.int .i64 0)))] [1, 11])
 (.cond (.t 11) (.seq (.reg [q1 4 (.asg (.c (.int .i64 (-1))))] [4])
 (.ret)) (.skip))))
 (.seq (.reg [q1 12 (.mv (.t 1)),q1 4 (.asg (.t 12))] [4])
 (.ret))))
theorem con_laws_szVariable {v0 : XVariable} {v1 : Int} {r : Int} (h : sh_laws_szVariable v0 v1 = some r) : Con Try.prog 56 [cc9.enc v0, cI.enc v1] [] (rs_laws_szVariable r) := by
 delta sh_laws_szVariable at h
 refine top (out := none) (f := Try.f56) (m := m56) (rs := [.t 4]) (by kernel_rfl) rfl (by kernel_rfl) (by kernel_rfl) (by kernel_rfl) (by kernel_rfl) (by kernel_rfl) ?_
 exact
  ini [q2 0 cc9 v0, q2 1 cI v1] rfl <| wpC_seq <| reg_s <| x_box (ss rfl rfl) <| x_asg (sc cI (0 : Int) rfl) <| sq [q2 1 cI v1, q3 2 cc9 v0] <|
  xn <| wpC_seq <| reg_s <| st rfl <| mvd rfl rfl <| st rfl <| fab rfl rfl rfl rfl <| st rfl <| lda rfl rfl rfl rfl rfl rfl <| stw rfl <| lent rfl fun l3 => ckI_k h fun i4 h => st rfl <| b_sub (k := .i64) rfl rfl i4 <| x_asg (ss rfl rfl) <| sq [q2 1 cI (v1 - (v0.Name.length : Int))] <|
  xn <| wpC_seq <| wpC_kp <| wpC_seq <| reg_s <| st rfl <| mvd rfl rfl <| st rfl <| b_lss (k := .i64) rfl rfl <| sq [q2 1 cI (v1 - (v0.Name.length : Int)), q2 11 cB (decide ((v1 - (v0.Name.length : Int)) < (0 : Int)))] <|
  xn <| cnd rfl h (fun b6 h => wpC_seq <| reg_s <| x_asg (sc cI (-1 : Int) rfl) <| sq [q2 4 cI (-1 : Int)] <|
  xn <| wpC_ret <| rt <| rt <| re <| fin h (r1 (ss rfl rfl) <| r0) rfl)
  (fun b6 h => wpC_skip <| kpN [q2 1 cI (v1 - (v0.Name.length : Int))] (by kernel_rfl) <| xn <| wpC_seq <| reg_s <| st rfl <| mvd rfl rfl <| x_asg (ss rfl rfl) <| sq [q2 4 cI (v1 - (v0.Name.length : Int))] <|
  xn <| wpC_ret <| re <| fin h (r1 (ss rfl rfl) <| r0) rfl)

def rs_laws_szVariableS (r : Int) : List D := [cI.enc r]
def m13 : MC := .seq (.reg [q1 4 (.asg (.c (.int .i64 0)))] [0, 1])
 (.seq (.reg [q1 6 (.mv (.t 1)),q1 7 (.mv (.t 0)),q1 8 (.len false (.t 7)),q1 9 (.bin .sub (.t 6) (.t 8)),q1 1 (.asg (.t 9))] [0, 1])
 (.seq (.kp [0, 1] (.seq (.reg [q1 10 (.mv (.t 1)),q1 11 (.bin .lss (.t 10) (.c (.int .i64 0)))] [0, 1, 11])
 (.cond (.t 11) (.seq (.reg [q1 4 (.asg (.c (.int .i64 (-1))))] [4])
 (.ret)) (.skip))))
 (.seq (.kp [1] (.seq (.reg [q1 5 (.asg (.c (.int .i64 0)))] [0, 1, 5])
 (.blk 0 (.loop (.seq (.kp [0, 1, 5] (.seq (.reg [q1 12 (.mv (.t 5)),q1 13 (.mv (.t 0)),q1 14 (.len false (.t 13)),q1 15 (.bin .lss (.t 12) (.t 14))] [0, 1, 5, 15])
 (.cond (.t 15) (.skip) (.exit 0))))
 (.seq (.kp [0, 1, 5] (.blk 1 (.seq (.reg [q1 18 (.mv (.t 0)),q1 19 (.mv (.t 5)),q1 20 (.ia 18 (.t 19) 2),q1 21 (.ld 20 2 true),q1 22 (.mv (.t 1)),q1 23 (.call 56 [(.t 21), (.t 22)]),q1 1 (.asg (.t 23))] [0, 1, 5])
 (.seq (.reg [q1 24 (.mv (.t 1)),q1 25 (.bin .lss (.t 24) (.c (.int .i64 0)))] [0, 1, 5, 25])
 (.cond (.t 25) (.seq (.reg [q1 4 (.asg (.c (.int .i64 (-1))))] [4])
 (.ret)) (.skip))))))
 (.reg [q1 16 (.mv (.t 5)),q1 17 (.bin .add (.t 16) (.c (.int .i64 1))),q1 5 (.asg (.t 17))] [0, 1, 5])))))))
 (.seq (.reg [q1 26 (.mv (.t 1)),q1 4 (.asg (.t 26))] [4])
 (.ret)))))
theorem con_laws_szVariableS {v0 : (List XVariable)} {v1 : Int} {r : Int} (h : sh_laws_szVariableS v0 v1 = some r) : Con Try.prog 13 [cc4.enc v0, cI.enc v1] [] (rs_laws_szVariableS r) := by
 delta sh_laws_szVariableS at h
 refine top (out := none) (f := Try.f13) (m := m13) (rs := [.t 4]) (by kernel_rfl) rfl (by kernel_rfl) (by kernel_rfl) (by kernel_rfl) (by kernel_rfl) (by kernel_rfl) ?_
 exact
  ini [q2 0 cc4 v0, q2 1 cI v1] rfl <| wpC_seq <| reg_s <| x_asg (sc cI (0 : Int) rfl) <| sq [q2 0 cc4 v0, q2 1 cI v1] <|
  xn <| wpC_seq <| reg_s <| st rfl <| mvd rfl rfl <| st rfl <| mvd rfl rfl <| stw rfl <| lens rfl fun l3 => ckI_k h fun i4 h => st rfl <| b_sub (k := .i64) rfl rfl i4 <| x_asg (ss rfl rfl) <| sq [q2 0 cc4 v0, q2 1 cI (v1 - (v0.length : Int))] <|
  xn <| wpC_seq <| wpC_kp <| wpC_seq <| reg_s <| st rfl <| mvd rfl rfl <| st rfl <| b_lss (k := .i64) rfl rfl <| sq [q2 0 cc4 v0, q2 1 cI (v1 - (v0.length : Int)), q2 11 cB (decide ((v1 - (v0.length : Int)) < (0 : Int)))] <|
  xn <| cnd rfl h (fun b6 h => wpC_seq <| reg_s <| x_asg (sc cI (-1 : Int) rfl) <| sq [q2 4 cI (-1 : Int)] <|
  xn <| wpC_ret <| rt <| rt <| re <| fin h (r1 (ss rfl rfl) <| r0) rfl)
  (fun b6 h => wpC_skip <| kpN [q2 0 cc4 v0, q2 1 cI (v1 - (v0.length : Int))] (by kernel_rfl) <| xn <| wpC_seq <| wpC_kp <| wpC_seq <| reg_s <| x_asg (sc cI (0 : Int) rfl) <| sq [q2 0 cc4 v0, q2 1 cI (v1 - (v0.length : Int)), q2 5 cI (0 : Int)] <|
  xn <| wpC_blk <| lpF (fun (s102 : (Int × Int)) => [q2 0 cc4 v0, q2 1 cI s102.1, q2 5 cI s102.2]) ((v1 - (v0.length : Int)), (0 : Int)) rfl h
  fun G167 nx165 s102 hn166 h => wpC_seq <| wpC_kp <| wpC_seq <| reg_s <| st rfl <| mvd rfl rfl <| st rfl <| mvd rfl rfl <| stw rfl <| lens rfl fun l172 => st rfl <| b_lss (k := .i64) rfl rfl <| sq [q2 0 cc4 v0, q2 1 cI s102.1, q2 5 cI s102.2, q2 15 cB (decide (s102.2 < (v0.length : Int)))] <|
  xn <| cnd rfl h (fun b173 h => wpC_skip <| kpN [q2 0 cc4 v0, q2 1 cI s102.1, q2 5 cI s102.2] (by kernel_rfl) <| xn <| wpC_seq <| wpC_kp <| wpC_blk <| wpC_seq <| reg_s <| st rfl <| mvd rfl rfl <| st rfl <| mvd rfl rfl <| getO_k h fun x190 i191 g192 h => st rfl <| ias rfl rfl i191 g192 rfl <| st rfl <| ldi rfl rfl rfl rfl <| st rfl <| mvd rfl rfl <| bnd h fun x193 e194 h => st rfl <| o_call (a1 (c := cc9) (tXVariable tS tK) rfl (a1 (c := cI) tK rfl a0)) (con_laws_szVariable e194) (.inl (so1 sK so0)) <| x_asg (ss rfl rfl) <| sq [q2 0 cc4 v0, q2 1 cI x193, q2 5 cI s102.2] <|
  xn <| wpC_seq <| reg_s <| st rfl <| mvd rfl rfl <| st rfl <| b_lss (k := .i64) rfl rfl <| sq [q2 0 cc4 v0, q2 1 cI x193, q2 5 cI s102.2, q2 25 cB (decide (x193 < (0 : Int)))] <|
  xn <| cnd rfl h (fun b195 h => wpC_seq <| reg_s <| x_asg (sc cI (-1 : Int) rfl) <| sq [q2 4 cI (-1 : Int)] <|
  xn <| wpC_ret <| rb <| rt <| rt <| rt <| rb <| rt <| rt <| re <| fin h (r1 (ss rfl rfl) <| r0) rfl)
  (fun b195 h => wpC_skip <| xbb <| kpN [q2 0 cc4 v0, q2 1 cI x193, q2 5 cI s102.2] (by kernel_rfl) <| xn <| reg_s <| st rfl <| mvd rfl rfl <| ckI_k h fun i196 h => st rfl <| b_add (k := .i64) rfl rfl i196 <| x_asg (ss rfl rfl) <| sq [q2 0 cc4 v0, q2 1 cI x193, q2 5 cI (s102.2 + (1 : Int))] <|
  xn <| hn166 (x193, (s102.2 + (1 : Int))) h))
  (fun b173 h => wpC_exit <| xt <| xt <| xt <| xb <| kpN [q2 1 cI s102.1] (by kernel_rfl) <| xn <| wpC_seq <| reg_s <| st rfl <| mvd rfl rfl <| x_asg (ss rfl rfl) <| sq [q2 4 cI s102.1] <|
  xn <| wpC_ret <| re <| fin h (r1 (ss rfl rfl) <| r0) rfl))

def rs_laws_szEdit (r : Int) : List D := [cI.enc r]
def m57 : MC := .seq (.reg [q1 2 (.box (.t 0)),q1 4 (.asg (.c (.int .i64 0)))] [1, 2])
 (.seq (.reg [q1 5 (.fa 2 0 0),q1 6 (.ld 5 1 false),q1 7 (.mv (.t 1)),q1 8 (.call 109 [(.t 6), (.t 7)]),q1 1 (.asg (.t 8))] [1])
 (.seq (.kp [1] (.seq (.reg [q1 9 (.mv (.t 1)),q1 10 (.bin .lss (.t 9) (.c (.int .i64 0)))] [1, 10])
 (.cond (.t 10) (.seq (.reg [q1 4 (.asg (.c (.int .i64 (-1))))] [4])
 (.ret)) (.skip))))
 (.seq (.reg [q1 11 (.mv (.t 1)),q1 4 (.asg (.t 11))] [4])
 (.ret))))
theorem con_laws_szEdit {v0 : XEdit} {v1 : Int} {r : Int} (h : sh_laws_szEdit v0 v1 = some r) : Con Try.prog 57 [cc8.enc v0, cI.enc v1] [] (rs_laws_szEdit r) := by
 delta sh_laws_szEdit at h
 refine top (out := none) (f := Try.f57) (m := m57) (rs := [.t 4]) (by kernel_rfl) rfl (by kernel_rfl) (by kernel_rfl) (by kernel_rfl) (by kernel_rfl) (by kernel_rfl) ?_
 exact
  ini [q2 0 cc8 v0, q2 1 cI v1] rfl <| wpC_seq <| reg_s <| x_box (ss rfl rfl) <| x_asg (sc cI (0 : Int) rfl) <| sq [q2 1 cI v1, q3 2 cc8 v0] <|
  xn <| wpC_seq <| reg_s <| st rfl <| fab rfl rfl rfl rfl <| st rfl <| lda rfl rfl rfl rfl rfl rfl <| st rfl <| mvd rfl rfl <| bnd h fun x3 e4 h => st rfl <| o_call (a1 (c := cc11) (tLs tK) rfl (a1 (c := cI) tK rfl a0)) (con_laws_szIntS e4) (.inl (so1 sK so0)) <| x_asg (ss rfl rfl) <| sq [q2 1 cI x3] <|
  xn <| wpC_seq <| wpC_kp <| wpC_seq <| reg_s <| st rfl <| mvd rfl rfl <| st rfl <| b_lss (k := .i64) rfl rfl <| sq [q2 1 cI x3, q2 10 cB (decide (x3 < (0 : Int)))] <|
  xn <| cnd rfl h (fun b6 h => wpC_seq <| reg_s <| x_asg (sc cI (-1 : Int) rfl) <| sq [q2 4 cI (-1 : Int)] <|
  xn <| wpC_ret <| rt <| rt <| re <| fin h (r1 (ss rfl rfl) <| r0) rfl)
  (fun b6 h => wpC_skip <| kpN [q2 1 cI x3] (by kernel_rfl) <| xn <| wpC_seq <| reg_s <| st rfl <| mvd rfl rfl <| x_asg (ss rfl rfl) <| sq [q2 4 cI x3] <|
  xn <| wpC_ret <| re <| fin h (r1 (ss rfl rfl) <| r0) rfl)

def rs_laws_szEditS (r : Int) : List D := [cI.enc r]
def m14 : MC := .seq (.reg [q1 4 (.asg (.c (.int .i64 0)))] [0, 1])
 (.seq (.reg [q1 6 (.mv (.t 1)),q1 7 (.mv (.t 0)),q1 8 (.len false (.t 7)),q1 9 (.bin .sub (.t 6) (.t 8)),q1 1 (.asg (.t 9))] [0, 1])
 (.seq (.kp [0, 1] (.seq (.reg [q1 10 (.mv (.t 1)),q1 11 (.bin .lss (.t 10) (.c (.int .i64 0)))] [0, 1, 11])
 (.cond (.t 11) (.seq (.reg [q1 4 (.asg (.c (.int .i64 (-1))))] [4])
 (.ret)) (.skip))))
 (.seq (.kp [1] (.seq (.reg [q1 5 (.asg (.c (.int .i64 0)))] [0, 1, 5])
 (.blk 0 (.loop (.seq (.kp [0, 1, 5] (.seq (.reg [q1 12 (.mv (.t 5)),q1 13 (.mv (.t 0)),q1 14 (.len false (.t 13)),q1 15 (.bin .lss (.t 12) (.t 14))] [0, 1, 5, 15])
 (.cond (.t 15) (.skip) (.exit 0))))
 (.seq (.kp [0, 1, 5] (.blk 1 (.seq (.reg [q1 18 (.mv (.t 0)),q1 19 (.mv (.t 5)),q1 20 (.ia 18 (.t 19) 1),q1 21 (.ld 20 1 true),q1 22 (.mv (.t 1)),q1 23 (.call 57 [(.t 21), (.t 22)]),q1 1 (.asg (.t 23))] [0, 1, 5])
 (.seq (.reg [q1 24 (.mv (.t 1)),q1 25 (.bin .lss (.t 24) (.c (.int .i64 0)))] [0, 1, 5, 25])
 (.cond (.t 25) (.seq (.reg [q1 4 (.asg (.c (.int .i64 (-1))))] [4])
 (.ret)) (.skip))))))
 (.reg [q1 16 (.mv (.t 5)),q1 17 (.bin .add (.t 16) (.c (.int .i64 1))),q1 5 (.asg (.t 17))] [0, 1, 5])))))))
 (.seq (.reg [q1 26 (.mv (.t 1)),q1 4 (.asg (.t 26))] [4])
 (.ret)))))
theorem con_laws_szEditS {v0 : (List XEdit)} {v1 : Int} {r : Int} (h : sh_laws_szEditS v0 v1 = some r) : Con Try.prog 14 [cc1.enc v0, cI.enc v1] [] (rs_laws_szEditS r) := by
 delta sh_laws_szEditS at h
 refine top (out := none) (f := Try.f14) (m := m14) (rs := [.t 4]) (by kernel_rfl) rfl (by kernel_rfl) (by kernel_rfl) (by kernel_rfl) (by kernel_rfl) (by kernel_rfl) ?_
 exact
  ini [q2 0 cc1 v0, q2 1 cI v1] rfl <| wpC_seq <| reg_s <| x_asg (sc cI (0 : Int) rfl) <| sq [q2 0 cc1 v0, q2 1 cI v1] <|
  xn <| wpC_seq <| reg_s <| st rfl <| mvd rfl rfl <| st rfl <| mvd rfl rfl <| stw rfl <| lens rfl fun l3 => ckI_k h fun i4 h => st rfl <| b_sub (k := .i64) rfl rfl i4 <| x_asg (ss rfl rfl) <| sq [q2 0 cc1 v0, q2 1 cI (v1 - (v0.length : Int))] <|
  xn <| wpC_seq <| wpC_kp <| wpC_seq <| reg_s <| st rfl <| mvd rfl rfl <| st rfl <| b_lss (k := .i64) rfl rfl <| sq [q2 0 cc1 v0, q2 1 cI (v1 - (v0.length : Int)), q2 11 cB (decide ((v1 - (v0.length : Int)) < (0 : Int)))] <|
  xn <| cnd rfl h (fun b6 h => wpC_seq <| reg_s <| x_asg (sc cI (-1 : Int) rfl) <| sq [q2 4 cI (-1 : Int)] <|
  xn <| wpC_ret <| rt <| rt <| re <| fin h (r1 (ss rfl rfl) <| r0) rfl)
  (fun b6 h => wpC_skip <| kpN [q2 0 cc1 v0, q2 1 cI (v1 - (v0.length : Int))] (by kernel_rfl) <| xn <| wpC_seq <| wpC_kp <| wpC_seq <| reg_s <| x_asg (sc cI (0 : Int) rfl) <| sq [q2 0 cc1 v0, q2 1 cI (v1 - (v0.length : Int)), q2 5 cI (0 : Int)] <|
  xn <| wpC_blk <| lpF (fun (s102 : (Int × Int)) => [q2 0 cc1 v0, q2 1 cI s102.1, q2 5 cI s102.2]) ((v1 - (v0.length : Int)), (0 : Int)) rfl h
  fun G167 nx165 s102 hn166 h => wpC_seq <| wpC_kp <| wpC_seq <| reg_s <| st rfl <| mvd rfl rfl <| st rfl <| mvd rfl rfl <| stw rfl <| lens rfl fun l172 => st rfl <| b_lss (k := .i64) rfl rfl <| sq [q2 0 cc1 v0, q2 1 cI s102.1, q2 5 cI s102.2, q2 15 cB (decide (s102.2 < (v0.length : Int)))] <|
  xn <| cnd rfl h (fun b173 h => wpC_skip <| kpN [q2 0 cc1 v0, q2 1 cI s102.1, q2 5 cI s102.2] (by kernel_rfl) <| xn <| wpC_seq <| wpC_kp <| wpC_blk <| wpC_seq <| reg_s <| st rfl <| mvd rfl rfl <| st rfl <| mvd rfl rfl <| getO_k h fun x190 i191 g192 h => st rfl <| ias rfl rfl i191 g192 rfl <| st rfl <| ldi rfl rfl rfl rfl <| st rfl <| mvd rfl rfl <| bnd h fun x193 e194 h => st rfl <| o_call (a1 (c := cc8) (tXEdit (tLs tK)) rfl (a1 (c := cI) tK rfl a0)) (con_laws_szEdit e194) (.inl (so1 sK so0)) <| x_asg (ss rfl rfl) <| sq [q2 0 cc1 v0, q2 1 cI x193, q2 5 cI s102.2] <|
  xn <| wpC_seq <| reg_s <| st rfl <| mvd rfl rfl <| st rfl <| b_lss (k := .i64) rfl rfl <| sq [q2 0 cc1 v0, q2 1 cI x193, q2 5 cI s102.2, q2 25 cB (decide (x193 < (0 : Int)))] <|
  xn <| cnd rfl h (fun b195 h => wpC_seq <| reg_s <| x_asg (sc cI (-1 : Int) rfl) <| sq [q2 4 cI (-1 : Int)] <|
  xn <| wpC_ret <| rb <| rt <| rt <| rt <| rb <| rt <| rt <| re <| fin h (r1 (ss rfl rfl) <| r0) rfl)
  (fun b195 h => wpC_skip <| xbb <| kpN [q2 0 cc1 v0, q2 1 cI x193, q2 5 cI s102.2] (by kernel_rfl) <| xn <| reg_s <| st rfl <| mvd rfl rfl <| ckI_k h fun i196 h => st rfl <| b_add (k := .i64) rfl rfl i196 <| x_asg (ss rfl rfl) <| sq [q2 0 cc1 v0, q2 1 cI x193, q2 5 cI (s102.2 + (1 : Int))] <|
  xn <| hn166 (x193, (s102.2 + (1 : Int))) h))
  (fun b173 h => wpC_exit <| xt <| xt <| xt <| xb <| kpN [q2 1 cI s102.1] (by kernel_rfl) <| xn <| wpC_seq <| reg_s <| st rfl <| mvd rfl rfl <| x_asg (ss rfl rfl) <| sq [q2 4 cI s102.1] <|
  xn <| wpC_ret <| re <| fin h (r1 (ss rfl rfl) <| r0) rfl))

def rs_laws_toVariable (r : XVariable) : List D := [cc9.enc r]
def m61 : MC := .seq (.reg [q1 1 (.box (.t 0)),q1 2 (.alloc (.agg [.str [], .int .i64 0]))] [1, 2])
 (.seq (.reg [q1 3 (.alloc (.agg [.str [], .int .i64 0]))] [1, 2, 3])
 (.seq (.reg [q1 4 (.fa 1 0 0),q1 5 (.ld 4 1 false),q1 6 (.fa 3 0 0),q0 (.st 6 (.t 5) 1)] [1, 2, 3])
 (.seq (.reg [q1 7 (.fa 1 1 1),q1 8 (.ld 7 1 false),q1 9 (.fa 3 1 1),q0 (.st 9 (.t 8) 1)] [2, 3])
 (.seq (.reg [q1 10 (.ld 3 2 true),q0 (.st 2 (.t 10) 2)] [2])
 (.ret)))))
theorem con_laws_toVariable {v0 : XVariable} {r : XVariable} (h : sh_laws_toVariable v0 = some r) : Con Try.prog 61 [cc9.enc v0] [] (rs_laws_toVariable r) := by
 delta sh_laws_toVariable at h
 refine top (out := none) (f := Try.f61) (m := m61) (rs := [.c 2 2 true]) (by kernel_rfl) rfl (by kernel_rfl) (by kernel_rfl) (by kernel_rfl) (by kernel_rfl) (by kernel_rfl) ?_
 exact
  ini [q2 0 cc9 v0] rfl <| wpC_seq <| reg_s <| x_box (ss rfl rfl) <| x_all cc9 (⟨([] : List UInt8), (0 : Int)⟩ : XVariable) rfl <| sq [q3 1 cc9 v0, q3 2 cc9 (⟨([] : List UInt8), (0 : Int)⟩ : XVariable)] <|
  xn <| wpC_seq <| reg_s <| x_all cc9 (⟨([] : List UInt8), (0 : Int)⟩ : XVariable) rfl <| sq [q3 1 cc9 v0, q3 2 cc9 (⟨([] : List UInt8), (0 : Int)⟩ : XVariable), q3 3 cc9 (⟨([] : List UInt8), (0 : Int)⟩ : XVariable)] <|
  xn <| wpC_seq <| reg_s <| st rfl <| fab rfl rfl rfl rfl <| st rfl <| lda rfl rfl rfl rfl rfl rfl <| st rfl <| fab rfl rfl rfl rfl <| x_sta (cc9.enc (⟨v0.Name, (0 : Int)⟩ : XVariable)) (ss rfl rfl) rfl rfl (Ln.fld rfl rfl Ln.nil rfl) (Cd.h_sz cS _) rfl <| sq [q3 1 cc9 v0, q3 2 cc9 (⟨([] : List UInt8), (0 : Int)⟩ : XVariable), q3 3 cc9 (⟨v0.Name, (0 : Int)⟩ : XVariable)] <|
  xn <| wpC_seq <| reg_s <| st rfl <| fab rfl rfl rfl rfl <| st rfl <| lda rfl rfl rfl rfl rfl rfl <| st rfl <| fab rfl rfl rfl rfl <| x_sta (cc9.enc (⟨v0.Name, v0.Levels⟩ : XVariable)) (ss rfl rfl) rfl rfl (Ln.fld rfl rfl Ln.nil rfl) (Cd.h_sz cI _) rfl <| sq [q3 2 cc9 (⟨([] : List UInt8), (0 : Int)⟩ : XVariable), q3 3 cc9 (⟨v0.Name, v0.Levels⟩ : XVariable)] <|
  xn <| wpC_seq <| reg_s <| st rfl <| ldb rfl rfl rfl rfl <| x_stb (ss rfl rfl) rfl (Cd.h_sz _ _) rfl <| sq [q3 2 cc9 (⟨v0.Name, v0.Levels⟩ : XVariable)] <|
  xn <| wpC_ret <| re <| fin h (r2 rfl rfl rfl <| r0) rfl

def rs_laws_toVariableS (r : (List XVariable)) : List D := [cc6.enc r]
def m16 : MC := .seq (.reg [q1 2 (.asg (.c (.slice true [])))] [0])
 (.seq (.reg [q1 5 (.mv (.t 0)),q1 6 (.len false (.t 5)),q1 7 (.mk (.agg [.str [], .int .i64 0]) (.t 6)),q1 3 (.asg (.t 7))] [0, 3])
 (.seq (.kp [3] (.seq (.reg [q1 4 (.asg (.c (.int .i64 0)))] [0, 3, 4])
 (.blk 0 (.loop (.seq (.kp [0, 3, 4] (.seq (.reg [q1 8 (.mv (.t 4)),q1 9 (.mv (.t 0)),q1 10 (.len false (.t 9)),q1 11 (.bin .lss (.t 8) (.t 10))] [0, 3, 4, 11])
 (.cond (.t 11) (.skip) (.exit 0))))
 (.seq (.kp [0, 3, 4] (.blk 1 (.reg [q1 14 (.mv (.t 3)),q1 15 (.mv (.t 4)),q1 16 (.mv (.t 0)),q1 17 (.mv (.t 4)),q1 18 (.ia 16 (.t 17) 2),q1 19 (.ld 18 2 true),q1 20 (.call 61 [(.t 19)]),q1 21 (.ia 14 (.t 15) 2),q0 (.st 21 (.t 20) 2)] [0, 3, 4])))
 (.reg [q1 12 (.mv (.t 4)),q1 13 (.bin .add (.t 12) (.c (.int .i64 1))),q1 4 (.asg (.t 13))] [0, 3, 4])))))))
 (.seq (.reg [q1 22 (.mv (.t 3)),q1 2 (.asg (.t 22))] [2])
 (.ret))))
theorem con_laws_toVariableS {v0 : (List XVariable)} {r : (List XVariable)} (h : sh_laws_toVariableS v0 = some r) : Con Try.prog 16 [cc4.enc v0] [] (rs_laws_toVariableS r) := by
 delta sh_laws_toVariableS at h
 refine top (out := none) (f := Try.f16) (m := m16) (rs := [.t 2]) (by kernel_rfl) rfl (by kernel_rfl) (by kernel_rfl) (by kernel_rfl) (by kernel_rfl) (by kernel_rfl) ?_
 exact
  ini [q2 0 cc4 v0] rfl <| wpC_seq <| reg_s <| x_asg (sc cc6 ([] : List XVariable) rfl) <| sq [q2 0 cc4 v0] <|
  xn <| wpC_seq <| reg_s <| st rfl <| mvd rfl rfl <| stw rfl <| lens rfl fun l4 => mkO_k h fun i5 l6 h => st rfl <| o_mk (c := cc9) (a0 := (⟨([] : List UInt8), (0 : Int)⟩ : XVariable)) rfl (k := .i64) rfl i5 l6 <| x_asg (so rfl rfl) <| sq [q2 0 cc4 v0, q2 3 cc6 (List.replicate ((v0.length : Int)).toNat (⟨([] : List UInt8), (0 : Int)⟩ : XVariable))] <|
  xn <| wpC_seq <| wpC_kp <| wpC_seq <| reg_s <| x_asg (sc cI (0 : Int) rfl) <| sq [q2 0 cc4 v0, q2 3 cc6 (List.replicate ((v0.length : Int)).toNat (⟨([] : List UInt8), (0 : Int)⟩ : XVariable)), q2 4 cI (0 : Int)] <|
  xn <| wpC_blk <| lpF (fun (s84 : ((List XVariable) × Int)) => [q2 0 cc4 v0, q2 3 cc6 s84.1, q2 4 cI s84.2]) ((List.replicate ((v0.length : Int)).toNat (⟨([] : List UInt8), (0 : Int)⟩ : XVariable)), (0 : Int)) rfl h
  fun G137 nx135 s84 hn136 h => wpC_seq <| wpC_kp <| wpC_seq <| reg_s <| st rfl <| mvd rfl rfl <| st rfl <| mvd rfl rfl <| stw rfl <| lens rfl fun l142 => st rfl <| b_lss (k := .i64) rfl rfl <| sq [q2 0 cc4 v0, q2 3 cc6 s84.1, q2 4 cI s84.2, q2 11 cB (decide (s84.2 < (v0.length : Int)))] <|
  xn <| cnd rfl h (fun b143 h => wpC_skip <| kpN [q2 0 cc4 v0, q2 3 cc6 s84.1, q2 4 cI s84.2] (by kernel_rfl) <| xn <| wpC_seq <| wpC_kp <| wpC_blk <| reg_s <| st rfl <| mvo rfl rfl <| st rfl <| mvd rfl rfl <| st rfl <| mvd rfl rfl <| st rfl <| mvd rfl rfl <| getO_k h fun x152 i153 g154 h => st rfl <| ias rfl rfl i153 g154 rfl <| st rfl <| ldi rfl rfl rfl rfl <| bnd h fun x155 e156 h => st rfl <| o_call (a1 (c := cc9) (tXVariable tS tK) rfl a0) (con_laws_toVariable e156) (.inl (so1 (sXVariable sS sK) so0)) <| getO_k h fun x157 i158 g159 h => st rfl <| iar rfl rfl rfl rfl i158 g159 rfl <| x_sta (cc6.enc (s84.1.set (s84.2).toNat x155)) (ss rfl rfl) rfl rfl (Ln.idx g159 Ln.nil) (Cd.h_sz cc9 _) rfl <| sq [q2 0 cc4 v0, q2 3 cc6 (s84.1.set (s84.2).toNat x155), q2 4 cI s84.2] <|
  xbb <| kpN [q2 0 cc4 v0, q2 3 cc6 (s84.1.set (s84.2).toNat x155), q2 4 cI s84.2] (by kernel_rfl) <| xn <| reg_s <| st rfl <| mvd rfl rfl <| ckI_k h fun i160 h => st rfl <| b_add (k := .i64) rfl rfl i160 <| x_asg (ss rfl rfl) <| sq [q2 0 cc4 v0, q2 3 cc6 (s84.1.set (s84.2).toNat x155), q2 4 cI (s84.2 + (1 : Int))] <|
  xn <| hn136 ((s84.1.set (s84.2).toNat x155), (s84.2 + (1 : Int))) h)
  (fun b143 h => wpC_exit <| xt <| xt <| xt <| xb <| kpN [q2 3 cc6 s84.1] (by kernel_rfl) <| xn <| wpC_seq <| reg_s <| st rfl <| mvo rfl rfl <| x_asg (sr rfl rfl) <| sq [q2 2 cc6 s84.1] <|
  xn <| wpC_ret <| re <| fin h (r1 (so rfl rfl) <| r0) rfl)

def rs_laws_toEdit (r : XEdit) : List D := [cc10.enc r]
def m62 : MC := .seq (.reg [q1 1 (.box (.t 0)),q1 2 (.alloc (.agg [.slice true []]))] [1, 2])
 (.seq (.reg [q1 3 (.alloc (.agg [.slice true []]))] [1, 2, 3])
 (.seq (.reg [q1 4 (.fa 1 0 0),q1 5 (.ld 4 1 false),q1 6 (.call 27 [(.t 5)]),q1 7 (.fa 3 0 0),q0 (.st 7 (.t 6) 1)] [2, 3])
 (.seq (.reg [q1 8 (.ld 3 1 true),q0 (.st 2 (.t 8) 1)] [2])
 (.ret))))
theorem con_laws_toEdit {v0 : XEdit} {r : XEdit} (h : sh_laws_toEdit v0 = some r) : Con Try.prog 62 [cc8.enc v0] [] (rs_laws_toEdit r) := by
 delta sh_laws_toEdit at h
 refine top (out := none) (f := Try.f62) (m := m62) (rs := [.c 2 1 true]) (by kernel_rfl) rfl (by kernel_rfl) (by kernel_rfl) (by kernel_rfl) (by kernel_rfl) (by kernel_rfl) ?_
 exact
  ini [q2 0 cc8 v0] rfl <| wpC_seq <| reg_s <| x_box (ss rfl rfl) <| x_all cc10 (⟨([] : List Int)⟩ : XEdit) rfl <| sq [q3 1 cc8 v0, q3 2 cc10 (⟨([] : List Int)⟩ : XEdit)] <|
  xn <| wpC_seq <| reg_s <| x_all cc10 (⟨([] : List Int)⟩ : XEdit) rfl <| sq [q3 1 cc8 v0, q3 2 cc10 (⟨([] : List Int)⟩ : XEdit), q3 3 cc10 (⟨([] : List Int)⟩ : XEdit)] <|
  xn <| wpC_seq <| reg_s <| st rfl <| fab rfl rfl rfl rfl <| st rfl <| lda rfl rfl rfl rfl rfl rfl <| bnd h fun x3 e4 h => st rfl <| o_call (a1 (c := cc11) (tLs tK) rfl a0) (con_laws_toIntS e4) (.inl (so1 (sLo sK) so0)) <| st rfl <| fab rfl rfl rfl rfl <| x_sta (cc10.enc (⟨x3⟩ : XEdit)) (so rfl rfl) rfl rfl (Ln.fld rfl rfl Ln.nil rfl) (Cd.h_sz cc12 _) rfl <| sq [q3 2 cc10 (⟨([] : List Int)⟩ : XEdit), q3 3 cc10 (⟨x3⟩ : XEdit)] <|
  xn <| wpC_seq <| reg_s <| st rfl <| ldbo rfl rfl rfl rfl <| x_stb (sb rfl rfl) rfl (Cd.h_sz _ _) rfl <| sq [q3 2 cc10 (⟨x3⟩ : XEdit)] <|
  xn <| wpC_ret <| re <| fin h (r2 rfl rfl rfl <| r0) rfl

def rs_laws_toEditS (r : (List XEdit)) : List D := [cc7.enc r]
def m17 : MC := .seq (.reg [q1 2 (.asg (.c (.slice true [])))] [0])
 (.seq (.reg [q1 5 (.mv (.t 0)),q1 6 (.len false (.t 5)),q1 7 (.mk (.agg [.slice true []]) (.t 6)),q1 3 (.asg (.t 7))] [0, 3])
 (.seq (.kp [3] (.seq (.reg [q1 4 (.asg (.c (.int .i64 0)))] [0, 3, 4])
 (.blk 0 (.loop (.seq (.kp [0, 3, 4] (.seq (.reg [q1 8 (.mv (.t 4)),q1 9 (.mv (.t 0)),q1 10 (.len false (.t 9)),q1 11 (.bin .lss (.t 8) (.t 10))] [0, 3, 4, 11])
 (.cond (.t 11) (.skip) (.exit 0))))
 (.seq (.kp [0, 3, 4] (.blk 1 (.reg [q1 14 (.mv (.t 3)),q1 15 (.mv (.t 4)),q1 16 (.mv (.t 0)),q1 17 (.mv (.t 4)),q1 18 (.ia 16 (.t 17) 1),q1 19 (.ld 18 1 true),q1 20 (.call 62 [(.t 19)]),q1 21 (.ia 14 (.t 15) 1),q0 (.st 21 (.t 20) 1)] [0, 3, 4])))
 (.reg [q1 12 (.mv (.t 4)),q1 13 (.bin .add (.t 12) (.c (.int .i64 1))),q1 4 (.asg (.t 13))] [0, 3, 4])))))))
 (.seq (.reg [q1 22 (.mv (.t 3)),q1 2 (.asg (.t 22))] [2])
 (.ret))))
theorem con_laws_toEditS {v0 : (List XEdit)} {r : (List XEdit)} (h : sh_laws_toEditS v0 = some r) : Con Try.prog 17 [cc1.enc v0] [] (rs_laws_toEditS r) := by
 delta sh_laws_toEditS at h
 refine top (out := none) (f := Try.f17) (m := m17) (rs := [.t 2]) (by kernel_rfl) rfl (by kernel_rfl) (by kernel_rfl) (by kernel_rfl) (by kernel_rfl) (by kernel_rfl) ?_
 exact
  ini [q2 0 cc1 v0] rfl <| wpC_seq <| reg_s <| x_asg (sc cc7 ([] : List XEdit) rfl) <| sq [q2 0 cc1 v0] <|
  xn <| wpC_seq <| reg_s <| st rfl <| mvd rfl rfl <| stw rfl <| lens rfl fun l4 => mkO_k h fun i5 l6 h => st rfl <| o_mk (c := cc10) (a0 := (⟨([] : List Int)⟩ : XEdit)) rfl (k := .i64) rfl i5 l6 <| x_asg (so rfl rfl) <| sq [q2 0 cc1 v0, q2 3 cc7 (List.replicate ((v0.length : Int)).toNat (⟨([] : List Int)⟩ : XEdit))] <|
  xn <| wpC_seq <| wpC_kp <| wpC_seq <| reg_s <| x_asg (sc cI (0 : Int) rfl) <| sq [q2 0 cc1 v0, q2 3 cc7 (List.replicate ((v0.length : Int)).toNat (⟨([] : List Int)⟩ : XEdit)), q2 4 cI (0 : Int)] <|
  xn <| wpC_blk <| lpF (fun (s84 : ((List XEdit) × Int)) => [q2 0 cc1 v0, q2 3 cc7 s84.1, q2 4 cI s84.2]) ((List.replicate ((v0.length : Int)).toNat (⟨([] : List Int)⟩ : XEdit)), (0 : Int)) rfl h
  fun G137 nx135 s84 hn136 h => wpC_seq <| wpC_kp <| wpC_seq <| reg_s <| st rfl <| mvd rfl rfl <| st rfl <| mvd rfl rfl <| stw rfl <| lens rfl fun l142 => st rfl <| b_lss (k := .i64) rfl rfl <| sq [q2 0 cc1 v0, q2 3 cc7 s84.1, q2 4 cI s84.2, q2 11 cB (decide (s84.2 < (v0.length : Int)))] <|
  xn <| cnd rfl h (fun b143 h => wpC_skip <| kpN [q2 0 cc1 v0, q2 3 cc7 s84.1, q2 4 cI s84.2] (by kernel_rfl) <| xn <| wpC_seq <| wpC_kp <| wpC_blk <| reg_s <| st rfl <| mvo rfl rfl <| st rfl <| mvd rfl rfl <| st rfl <| mvd rfl rfl <| st rfl <| mvd rfl rfl <| getO_k h fun x152 i153 g154 h => st rfl <| ias rfl rfl i153 g154 rfl <| st rfl <| ldi rfl rfl rfl rfl <| bnd h fun x155 e156 h => st rfl <| o_call (a1 (c := cc8) (tXEdit (tLs tK)) rfl a0) (con_laws_toEdit e156) (.inl (so1 (sXEdit (sLo sK)) so0)) <| getO_k h fun x157 i158 g159 h => st rfl <| iar rfl rfl rfl rfl i158 g159 rfl <| x_sta (cc7.enc (s84.1.set (s84.2).toNat x155)) (so rfl rfl) rfl rfl (Ln.idx g159 Ln.nil) (Cd.h_sz cc10 _) rfl <| sq [q2 0 cc1 v0, q2 3 cc7 (s84.1.set (s84.2).toNat x155), q2 4 cI s84.2] <|
  xbb <| kpN [q2 0 cc1 v0, q2 3 cc7 (s84.1.set (s84.2).toNat x155), q2 4 cI s84.2] (by kernel_rfl) <| xn <| reg_s <| st rfl <| mvd rfl rfl <| ckI_k h fun i160 h => st rfl <| b_add (k := .i64) rfl rfl i160 <| x_asg (ss rfl rfl) <| sq [q2 0 cc1 v0, q2 3 cc7 (s84.1.set (s84.2).toNat x155), q2 4 cI (s84.2 + (1 : Int))] <|
  xn <| hn136 ((s84.1.set (s84.2).toNat x155), (s84.2 + (1 : Int))) h)
  (fun b143 h => wpC_exit <| xt <| xt <| xt <| xb <| kpN [q2 3 cc7 s84.1] (by kernel_rfl) <| xn <| wpC_seq <| reg_s <| st rfl <| mvo rfl rfl <| x_asg (sr rfl rfl) <| sq [q2 2 cc7 s84.1] <|
  xn <| wpC_ret <| re <| fin h (r1 (so rfl rfl) <| r0) rfl)

def rs_spec_sName (r : Bool) : List D := [cB.enc r]
def m159 : MC := .seq (.reg [q1 2 (.asg (.c (.bool false)))] [0])
 (.seq (.kp [0] (.seq (.reg [q1 3 (.asg (.c (.int .i64 0)))] [0, 3])
 (.blk 0 (.loop (.seq (.kp [0, 3] (.seq (.reg [q1 4 (.mv (.t 3)),q1 5 (.mv (.t 0)),q1 6 (.len true (.t 5)),q1 7 (.bin .lss (.t 4) (.t 6))] [0, 3, 7])
 (.cond (.t 7) (.skip) (.exit 0))))
 (.seq (.kp [0, 3] (.blk 1 (.seq (.reg [q1 10 (.mv (.t 0)),q1 11 (.mv (.t 3)),q1 12 (.ix (.t 10) (.t 11)),q1 13 (.bin .lss (.t 12) (.c (.int .u8 97))),q1 14 (.mv (.t 13)),
  ⟨some 15, .mv (.t 0), some (14, false)⟩,
  ⟨some 16, .mv (.t 3), some (14, false)⟩,
  ⟨some 17, .ix (.t 15) (.t 16), some (14, false)⟩,
  ⟨some 18, .bin .gtr (.t 17) (.c (.int .u8 122)), some (14, false)⟩,q1 19 (.pick (.t 14) (.c (.bool true)) (.t 18))] [0, 3, 19])
 (.cond (.t 19) (.seq (.reg [q1 2 (.asg (.c (.bool false)))] [2])
 (.ret)) (.skip)))))
 (.reg [q1 8 (.mv (.t 3)),q1 9 (.bin .add (.t 8) (.c (.int .i64 1))),q1 3 (.asg (.t 9))] [0, 3])))))))
 (.seq (.reg [q1 20 (.mv (.t 0)),q1 21 (.len true (.t 20)),q1 22 (.call 111 [(.t 21), (.c (.int .i64 1)), (.c (.int .i64 8))]),q1 2 (.asg (.t 22))] [2])
 (.ret)))
theorem con_spec_sName {v0 : (List UInt8)} {r : Bool} (h : sh_spec_sName v0 = some r) : Con Try.prog 159 [cS.enc v0] [] (rs_spec_sName r) := by
 delta sh_spec_sName at h
 refine top (out := none) (f := Try.f159) (m := m159) (rs := [.t 2]) (by kernel_rfl) rfl (by kernel_rfl) (by kernel_rfl) (by kernel_rfl) (by kernel_rfl) (by kernel_rfl) ?_
 exact
  ini [q2 0 cS v0] rfl <| wpC_seq <| reg_s <| x_asg (sc cB false rfl) <| sq [q2 0 cS v0] <|
  xn <| wpC_seq <| wpC_kp <| wpC_seq <| reg_s <| x_asg (sc cI (0 : Int) rfl) <| sq [q2 0 cS v0, q2 3 cI (0 : Int)] <|
  xn <| wpC_blk <| lpF (fun (s84 : Int) => [q2 0 cS v0, q2 3 cI s84]) (0 : Int) rfl h
  fun G141 nx139 s84 hn140 h => wpC_seq <| wpC_kp <| wpC_seq <| reg_s <| st rfl <| mvd rfl rfl <| st rfl <| mvd rfl rfl <| stw rfl <| lent rfl fun l146 => st rfl <| b_lss (k := .i64) rfl rfl <| sq [q2 0 cS v0, q2 3 cI s84, q2 7 cB (decide (s84 < (v0.length : Int)))] <|
  xn <| cnd rfl h (fun b147 h => wpC_skip <| kpN [q2 0 cS v0, q2 3 cI s84] (by kernel_rfl) <| xn <| wpC_seq <| wpC_kp <| wpC_blk <| wpC_seq <| reg_s <| st rfl <| mvd rfl rfl <| st rfl <| mvd rfl rfl <| getO_k h fun x161 i162 g163 h => st rfl <| o_ix (k := .i64) rfl rfl i162 g163 <| st rfl <| b_lss (k := .u8) rfl rfl <| st rfl <| mvd rfl rfl <| ite_k h (fun b164 h => gf rfl b164 <| gf rfl b164 <| gf rfl b164 <| gf rfl b164 <| st rfl <| pick1 rfl b164 (cd := cB) (v := true) rfl rfl <| sq [q2 0 cS v0, q2 3 cI s84, q2 19 cB true] <|
  xn <| cnd1 rfl rfl <| wpC_seq <| reg_s <| x_asg (sc cB false rfl) <| sq [q2 2 cB false] <|
  xn <| wpC_ret <| rb <| rt <| rt <| rt <| rb <| rt <| rt <| re <| fin h (r1 (ss rfl rfl) <| r0) rfl)
  (fun b164 h => gt' rfl b164 <| st rfl <| mvd rfl rfl <| gt' rfl b164 <| st rfl <| mvd rfl rfl <| gt' rfl b164 <| st rfl <| o_ix (k := .i64) rfl rfl i162 g163 <| gt' rfl b164 <| st rfl <| b_gtr (k := .u8) rfl rfl <| st rfl <| pick0 rfl b164 (cd := cB) (v := (decide ((122 : Int) < (x161.toNat : Int)))) rfl rfl <| sq [q2 0 cS v0, q2 3 cI s84, q2 19 cB (decide ((122 : Int) < (x161.toNat : Int)))] <|
  xn <| cnd rfl h (fun b165 h => wpC_seq <| reg_s <| x_asg (sc cB false rfl) <| sq [q2 2 cB false] <|
  xn <| wpC_ret <| rb <| rt <| rt <| rt <| rb <| rt <| rt <| re <| fin h (r1 (ss rfl rfl) <| r0) rfl)
  (fun b165 h => wpC_skip <| xbb <| kpN [q2 0 cS v0, q2 3 cI s84] (by kernel_rfl) <| xn <| reg_s <| st rfl <| mvd rfl rfl <| ckI_k h fun i166 h => st rfl <| b_add (k := .i64) rfl rfl i166 <| x_asg (ss rfl rfl) <| sq [q2 0 cS v0, q2 3 cI (s84 + (1 : Int))] <|
  xn <| hn140 (s84 + (1 : Int)) h)))
  (fun b147 h => wpC_exit <| xt <| xt <| xt <| xb <| kpN [q2 0 cS v0] (by kernel_rfl) <| xn <| wpC_seq <| reg_s <| st rfl <| mvd rfl rfl <| stw rfl <| lent rfl fun l170 => bnd h fun x171 e172 h => st rfl <| o_call (a1 (c := cI) tK rfl (a1 (c := cI) tK rfl (a1 (c := cI) tK rfl a0))) (con_spec_l1In e172) (.inl (so1 sB so0)) <| x_asg (ss rfl rfl) <| sq [q2 2 cB x171] <|
  xn <| wpC_ret <| re <| fin h (r1 (ss rfl rfl) <| r0) rfl)

def rs_spec_sFind (r : Int) : List D := [cI.enc r]
def m160 : MC := .seq (.reg [q1 4 (.asg (.c (.int .i64 0)))] [0, 1])
 (.seq (.kp [] (.seq (.reg [q1 7 (.mv (.t 0)),q1 8 (.len false (.t 7)),q1 9 (.mv (.c (.int .i64 0)))] [0, 1, 7, 8, 9])
 (.blk 0 (.loop (.seq (.reg [q1 10 (.bin .lss (.t 9) (.t 8))] [0, 1, 7, 8, 9, 10])
 (.seq (.kp [0, 1, 7, 8, 9] (.cond (.t 10) (.skip) (.exit 0)))
 (.seq (.kp [0, 1, 7, 8, 9] (.blk 1 (.seq (.reg [q1 11 (.mv (.t 9)),q1 12 (.ia 7 (.t 9) 2),q1 13 (.ld 12 2 true),q1 6 (.alloc (.agg [.str [], .int .i64 0])),q1 5 (.asg (.t 11)),q0 (.st 6 (.t 13) 2)] [0, 1, 5, 6, 7, 8, 9])
 (.seq (.reg [q1 14 (.fa 6 0 0),q1 15 (.ld 14 1 false),q1 16 (.mv (.t 1)),q1 17 (.bin .eql (.t 15) (.t 16))] [0, 1, 5, 7, 8, 9, 17])
 (.cond (.t 17) (.seq (.reg [q1 18 (.mv (.t 5)),q1 4 (.asg (.t 18))] [4])
 (.ret)) (.skip))))))
 (.reg [q1 19 (.bin .add (.t 9) (.c (.int .i64 1))),q1 9 (.mv (.t 19))] [0, 1, 7, 8, 9]))))))))
 (.seq (.reg [q1 4 (.asg (.c (.int .i64 (-1))))] [4])
 (.ret)))
theorem con_spec_sFind {v0 : (List XVariable)} {v1 : (List UInt8)} {r : Int} (h : sh_spec_sFind v0 v1 = some r) : Con Try.prog 160 [cc4.enc v0, cS.enc v1] [] (rs_spec_sFind r) := by
 delta sh_spec_sFind at h
 refine top (out := none) (f := Try.f160) (m := m160) (rs := [.t 4]) (by kernel_rfl) rfl (by kernel_rfl) (by kernel_rfl) (by kernel_rfl) (by kernel_rfl) (by kernel_rfl) ?_
 exact
  ini [q2 0 cc4 v0, q2 1 cS v1] rfl <| wpC_seq <| reg_s <| x_asg (sc cI (0 : Int) rfl) <| sq [q2 0 cc4 v0, q2 1 cS v1] <|
  xn <| wpC_seq <| wpC_kp <| wpC_seq <| reg_s <| st rfl <| mvd rfl rfl <| stw rfl <| lens rfl fun l16 => st rfl <| mvc cI (0 : Int) rfl <| sq [q2 0 cc4 v0, q2 1 cS v1, q2 7 cc4 v0, q2 8 cI (v0.length : Int), q2 9 cI (0 : Int)] <|
  xn <| wpC_blk <| lpR (fun (k18 : Nat) (s17 : Unit) => [q2 0 cc4 v0, q2 1 cS v1, q2 7 cc4 v0, q2 8 cI (v0.length : Int), q2 9 cI (k18 : Int)]) () rfl h
  (fun G26 s17 h => wpC_seq <| reg_s <| st rfl <| b_lss (k := .i64) rfl rfl <| sq [q2 0 cc4 v0, q2 1 cS v1, q2 7 cc4 v0, q2 8 cI (v0.length : Int), q2 9 cI (v0.length : Int), q2 10 cB (decide ((v0.length : Int) < (v0.length : Int)))] <|
  xn <| wpC_seq <| wpC_kp <| cnd0 rfl (dlf _) <| wpC_exit <| xt <| xt <| xt <| xb <| kpN [] (by kernel_rfl) <| xn <| wpC_seq <| reg_s <| x_asg (sc cI (-1 : Int) rfl) <| sq [q2 4 cI (-1 : Int)] <|
  xn <| wpC_ret <| re <| fin h (r1 (ss rfl rfl) <| r0) rfl)
  (fun G26 nx24 k18 s17 x19 hk20 hx21 hn25 h => wpC_seq <| reg_s <| st rfl <| b_lss (k := .i64) rfl rfl <| sq [q2 0 cc4 v0, q2 1 cS v1, q2 7 cc4 v0, q2 8 cI (v0.length : Int), q2 9 cI (k18 : Int), q2 10 cB (decide ((k18 : Int) < (v0.length : Int)))] <|
  xn <| wpC_seq <| wpC_kp <| cnd1 rfl (dlt hk20) <| wpC_skip <| kpN [q2 0 cc4 v0, q2 1 cS v1, q2 7 cc4 v0, q2 8 cI (v0.length : Int), q2 9 cI (k18 : Int)] (by kernel_rfl) <| xn <| wpC_seq <| wpC_kp <| wpC_blk <| wpC_seq <| reg_s <| st rfl <| mvd rfl rfl <| st rfl <| ias rfl rfl (Int.natCast_nonneg _) hx21 rfl <| st rfl <| ldi rfl rfl rfl rfl <| x_all cc9 (⟨([] : List UInt8), (0 : Int)⟩ : XVariable) rfl <| x_asg (ss rfl rfl) <| x_stb (ss rfl rfl) rfl (Cd.h_sz _ _) rfl <| sq [q2 0 cc4 v0, q2 1 cS v1, q2 5 cI (k18 : Int), q3 6 cc9 x19, q2 7 cc4 v0, q2 8 cI (v0.length : Int), q2 9 cI (k18 : Int)] <|
  xn <| wpC_seq <| reg_s <| st rfl <| fab rfl rfl rfl rfl <| st rfl <| lda rfl rfl rfl rfl rfl rfl <| st rfl <| mvd rfl rfl <| st rfl <| b_seq rfl rfl <| sq [q2 0 cc4 v0, q2 1 cS v1, q2 5 cI (k18 : Int), q2 7 cc4 v0, q2 8 cI (v0.length : Int), q2 9 cI (k18 : Int), q2 17 cB (decide (x19.Name = v1))] <|
  xn <| cnd rfl h (fun b28 h => wpC_seq <| reg_s <| st rfl <| mvd rfl rfl <| x_asg (ss rfl rfl) <| sq [q2 4 cI (k18 : Int)] <|
  xn <| wpC_ret <| rb <| rt <| rt <| rt <| rb <| rt <| rt <| re <| fin h (r1 (ss rfl rfl) <| r0) rfl)
  (fun b28 h => wpC_skip <| xbb <| kpN [q2 0 cc4 v0, q2 1 cS v1, q2 7 cc4 v0, q2 8 cI (v0.length : Int), q2 9 cI (k18 : Int)] (by kernel_rfl) <| xn <| reg_s <| st rfl <| b_inc rfl rfl l16 hk20 <| st rfl <| mvd rfl rfl <| sq [q2 0 cc4 v0, q2 1 cS v1, q2 7 cc4 v0, q2 8 cI (v0.length : Int), q2 9 cI ((k18 + 1 : Nat) : Int)] <|
  xn <| hn25 () h))

def rs_spec_sGood (r : Bool) : List D := [cB.enc r]
def m123 : MC := .seq (.reg [q1 2 (.asg (.c (.bool false)))] [0])
 (.seq (.kp [0] (.seq (.reg [q1 5 (.mv (.t 0)),q1 6 (.len false (.t 5)),q1 7 (.call 111 [(.t 6), (.c (.int .i64 1)), (.c (.int .i64 6))]),q1 8 (.nt (.t 7))] [0, 8])
 (.cond (.t 8) (.seq (.reg [q1 2 (.asg (.c (.bool false)))] [2])
 (.ret)) (.skip))))
 (.seq (.kp [] (.seq (.reg [q1 9 (.mv (.t 0)),q1 10 (.len false (.t 9)),q1 11 (.mv (.c (.int .i64 0)))] [0, 9, 10, 11])
 (.blk 0 (.loop (.seq (.reg [q1 12 (.bin .lss (.t 11) (.t 10))] [0, 9, 10, 11, 12])
 (.seq (.kp [0, 9, 10, 11] (.cond (.t 12) (.skip) (.exit 0)))
 (.seq (.kp [0, 9, 10, 11] (.blk 1 (.seq (.reg [q1 13 (.mv (.t 11)),q1 14 (.ia 9 (.t 11) 2),q1 15 (.ld 14 2 true),q1 4 (.alloc (.agg [.str [], .int .i64 0])),q1 3 (.asg (.t 13)),q0 (.st 4 (.t 15) 2)] [0, 3, 4, 9, 10, 11])
 (.seq (.drw [⟨0, q1 16 (.fa 4 0 0), [17, 18, 19, 20, 21, 22, 23, 24, 25, 26, 27, 28, 29, 30, 31, 32, 33, 34]⟩,
  ⟨1, q1 17 (.ld 16 1 false), [18, 19, 20, 21, 22, 23, 24, 25, 26, 27, 28, 29, 30, 31, 32, 33, 34]⟩,
  ⟨2, q1 18 (.call 159 [(.t 17)]), [19, 20, 21, 22, 23, 24, 25, 26, 27, 28, 29, 30, 31, 32, 33, 34]⟩,
  ⟨3, q1 19 (.nt (.t 18)), [20, 21, 22, 23, 24, 25, 26, 27, 28, 29, 30, 31, 32, 33, 34]⟩,
  ⟨4, q1 20 (.mv (.t 19)), [21, 22, 23, 24, 25, 26, 27, 28, 29, 30, 31, 32, 33, 34]⟩,
  ⟨5, ⟨some 21, .fa 4 1 1, some (20, false)⟩, [22, 23, 24, 25, 26, 27, 28, 29, 30, 31, 32, 33, 34]⟩,
  ⟨6, ⟨some 22, .ld 21 1 false, some (20, false)⟩, [23, 24, 25, 26, 27, 28, 29, 30, 31, 32, 33, 34]⟩,
  ⟨7, ⟨some 23, .call 111 [(.t 22), (.c (.int .i64 2)), (.c (.int .i64 8))], some (20, false)⟩, [24, 25, 26, 27, 28, 29, 30, 31, 32, 33, 34]⟩,
  ⟨8, ⟨some 24, .nt (.t 23), some (20, false)⟩, [25, 26, 27, 28, 29, 30, 31, 32, 33, 34]⟩,
  ⟨9, q1 25 (.pick (.t 20) (.c (.bool true)) (.t 24)), [26, 27, 28, 29, 30, 31, 32, 33, 34]⟩,
  ⟨10, q1 26 (.mv (.t 25)), [27, 28, 29, 30, 31, 32, 33, 34]⟩,
  ⟨11, ⟨some 27, .mv (.t 0), some (26, false)⟩, [28, 29, 30, 31, 32, 33, 34]⟩,
  ⟨12, ⟨some 28, .mv (.t 3), some (26, false)⟩, [27, 29, 30, 31, 32, 33, 34]⟩,
  ⟨13, ⟨some 29, .sl (.t 27) none (some (.t 28)) 2, some (26, false)⟩, [30, 31, 32, 33, 34]⟩,
  ⟨14, ⟨some 30, .fa 4 0 0, some (26, false)⟩, [27, 28, 29, 31, 32, 33, 34]⟩,
  ⟨15, ⟨some 31, .ld 30 1 false, some (26, false)⟩, [27, 28, 29, 32, 33, 34]⟩,
  ⟨16, ⟨some 32, .call 160 [(.t 29), (.t 31)], some (26, false)⟩, [33, 34]⟩,
  ⟨17, ⟨some 33, .bin .geq (.t 32) (.c (.int .i64 0)), some (26, false)⟩, [34]⟩,
  ⟨18, q1 34 (.pick (.t 26) (.c (.bool true)) (.t 33)), []⟩]
  [] [0, 9, 10, 11, 34])
 (.cond (.t 34) (.seq (.reg [q1 2 (.asg (.c (.bool false)))] [2])
 (.ret)) (.skip))))))
 (.reg [q1 35 (.bin .add (.t 11) (.c (.int .i64 1))),q1 11 (.mv (.t 35))] [0, 9, 10, 11]))))))))
 (.seq (.reg [q1 2 (.asg (.c (.bool true)))] [2])
 (.ret))))
theorem con_spec_sGood {v0 : (List XVariable)} {r : Bool} (h : sh_spec_sGood v0 = some r) : Con Try.prog 123 [cc4.enc v0] [] (rs_spec_sGood r) := by
 delta sh_spec_sGood at h
 refine top (out := none) (f := Try.f123) (m := m123) (rs := [.t 2]) (by kernel_rfl) rfl (by kernel_rfl) (by kernel_rfl) (by kernel_rfl) (by kernel_rfl) (by kernel_rfl) ?_
 exact
  ini [q2 0 cc4 v0] rfl <| wpC_seq <| reg_s <| x_asg (sc cB false rfl) <| sq [q2 0 cc4 v0] <|
  xn <| wpC_seq <| wpC_kp <| wpC_seq <| reg_s <| st rfl <| mvd rfl rfl <| stw rfl <| lens rfl fun l11 => bnd h fun x12 e13 h => st rfl <| o_call (a1 (c := cI) tK rfl (a1 (c := cI) tK rfl (a1 (c := cI) tK rfl a0))) (con_spec_l1In e13) (.inl (so1 sB so0)) <| st rfl <| o_nt rfl <| sq [q2 0 cc4 v0, q2 8 cB (!x12)] <|
  xn <| cnd rfl h (fun b14 h => wpC_seq <| reg_s <| x_asg (sc cB false rfl) <| sq [q2 2 cB false] <|
  xn <| wpC_ret <| rt <| rt <| re <| fin h (r1 (ss rfl rfl) <| r0) rfl)
  (fun b14 h => wpC_skip <| kpN [q2 0 cc4 v0] (by kernel_rfl) <| xn <| wpC_seq <| wpC_kp <| wpC_seq <| reg_s <| st rfl <| mvd rfl rfl <| stw rfl <| lens rfl fun l102 => st rfl <| mvc cI (0 : Int) rfl <| sq [q2 0 cc4 v0, q2 9 cc4 v0, q2 10 cI (v0.length : Int), q2 11 cI (0 : Int)] <|
  xn <| wpC_blk <| lpR (fun (k104 : Nat) (s103 : Unit) => [q2 0 cc4 v0, q2 9 cc4 v0, q2 10 cI (v0.length : Int), q2 11 cI (k104 : Int)]) () rfl h
  (fun G148 s103 h => wpC_seq <| reg_s <| st rfl <| b_lss (k := .i64) rfl rfl <| sq [q2 0 cc4 v0, q2 9 cc4 v0, q2 10 cI (v0.length : Int), q2 11 cI (v0.length : Int), q2 12 cB (decide ((v0.length : Int) < (v0.length : Int)))] <|
  xn <| wpC_seq <| wpC_kp <| cnd0 rfl (dlf _) <| wpC_exit <| xt <| xt <| xt <| xb <| kpN [] (by kernel_rfl) <| xn <| wpC_seq <| reg_s <| x_asg (sc cB true rfl) <| sq [q2 2 cB true] <|
  xn <| wpC_ret <| re <| fin h (r1 (ss rfl rfl) <| r0) rfl)
  (fun G148 nx146 k104 s103 x105 hk106 hx107 hn147 h => wpC_seq <| reg_s <| st rfl <| b_lss (k := .i64) rfl rfl <| sq [q2 0 cc4 v0, q2 9 cc4 v0, q2 10 cI (v0.length : Int), q2 11 cI (k104 : Int), q2 12 cB (decide ((k104 : Int) < (v0.length : Int)))] <|
  xn <| wpC_seq <| wpC_kp <| cnd1 rfl (dlt hk106) <| wpC_skip <| kpN [q2 0 cc4 v0, q2 9 cc4 v0, q2 10 cI (v0.length : Int), q2 11 cI (k104 : Int)] (by kernel_rfl) <| xn <| wpC_seq <| wpC_kp <| wpC_blk <| wpC_seq <| reg_s <| st rfl <| mvd rfl rfl <| st rfl <| ias rfl rfl (Int.natCast_nonneg _) hx107 rfl <| st rfl <| ldi rfl rfl rfl rfl <| x_all cc9 (⟨([] : List UInt8), (0 : Int)⟩ : XVariable) rfl <| x_asg (ss rfl rfl) <| x_stb (ss rfl rfl) rfl (Cd.h_sz _ _) rfl <| sq [q2 0 cc4 v0, q2 3 cI (k104 : Int), q3 4 cc9 x105, q2 9 cc4 v0, q2 10 cI (v0.length : Int), q2 11 cI (k104 : Int)] <|
  xn <| wpC_seq <| drw_s <| pst rfl <| fab rfl rfl rfl rfl ⟨rfl, pst rfl <| lda rfl rfl rfl rfl rfl rfl ⟨rfl, bndp h fun x177 e178 h => pst rfl <| o_call (a1 (c := cS) tS rfl a0) (con_spec_sName e178) (.inl (so1 sB so0)) ⟨rfl, pst rfl <| o_nt rfl ⟨rfl, pst rfl <| mvd rfl rfl ⟨rfl, ite_kp h (fun b179 h => pgf rfl rfl b179 <| pgf rfl rfl b179 <| pgf rfl rfl b179 <| pgf rfl rfl b179 <| pst rfl <| pick1 rfl b179 (cd := cB) (v := true) rfl rfl ⟨rfl, pst rfl <| mvd rfl rfl ⟨rfl, pgf rfl rfl rfl <| pgf rfl rfl rfl <| pgf rfl rfl rfl <| pgf rfl rfl rfl <| pgf rfl rfl rfl <| pgf rfl rfl rfl <| pgf rfl rfl rfl <| pst rfl <| pick1 rfl rfl (cd := cB) (v := true) rfl rfl ⟨rfl, preN <| sq [q2 0 cc4 v0, q2 9 cc4 v0, q2 10 cI (v0.length : Int), q2 11 cI (k104 : Int), q2 34 cB true] <|
  xn <| cnd1 rfl rfl <| wpC_seq <| reg_s <| x_asg (sc cB false rfl) <| sq [q2 2 cB false] <|
  xn <| wpC_ret <| rb <| rt <| rt <| rt <| rb <| rt <| rt <| re <| fin h (r1 (ss rfl rfl) <| r0) rfl⟩⟩⟩)
  (fun b179 h => pgt rfl b179 <| pst rfl <| fab rfl rfl rfl rfl ⟨rfl, pgt rfl b179 <| pst rfl <| lda rfl rfl rfl rfl rfl rfl ⟨rfl, pgt rfl b179 <| bndp h fun x180 e181 h => pst rfl <| o_call (a1 (c := cI) tK rfl (a1 (c := cI) tK rfl (a1 (c := cI) tK rfl a0))) (con_spec_l1In e181) (.inl (so1 sB so0)) ⟨rfl, pgt rfl b179 <| pst rfl <| o_nt rfl ⟨rfl, pst rfl <| pick0 rfl b179 (cd := cB) (v := (!x180)) rfl rfl ⟨rfl, pst rfl <| mvd rfl rfl ⟨rfl, ite_kp h (fun b182 h => pgf rfl rfl b182 <| pgf rfl rfl b182 <| pgf rfl rfl b182 <| pgf rfl rfl b182 <| pgf rfl rfl b182 <| pgf rfl rfl b182 <| pgf rfl rfl b182 <| pst rfl <| pick1 rfl b182 (cd := cB) (v := true) rfl rfl ⟨rfl, preN <| sq [q2 0 cc4 v0, q2 9 cc4 v0, q2 10 cI (v0.length : Int), q2 11 cI (k104 : Int), q2 34 cB true] <|
  xn <| cnd1 rfl rfl <| wpC_seq <| reg_s <| x_asg (sc cB false rfl) <| sq [q2 2 cB false] <|
  xn <| wpC_ret <| rb <| rt <| rt <| rt <| rb <| rt <| rt <| re <| fin h (r1 (ss rfl rfl) <| r0) rfl⟩)
  (fun b182 h => pgt rfl b182 <| pst rfl <| mvd rfl rfl ⟨rfl, pgt rfl b182 <| pst rfl <| mvd rfl rfl ⟨rfl, pgt rfl b182 <| ck_kp h fun i183 h => pst rfl <| o_sl rfl rfl lo0 (hi1 (k := .i64) rfl i183.1) i183.2 ⟨rfl, pgt rfl b182 <| pst rfl <| fab rfl rfl rfl rfl ⟨rfl, pgt rfl b182 <| pst rfl <| lda rfl rfl rfl rfl rfl rfl ⟨rfl, pgt rfl b182 <| bndp h fun x184 e185 h => pst rfl <| o_call (a1 (c := cc4) (tLs (tXVariable tS tK)) rfl (a1 (c := cS) tS rfl a0)) (con_spec_sFind e185) (.inl (so1 sK so0)) ⟨rfl, pgt rfl b182 <| pst rfl <| b_geq (k := .i64) rfl rfl ⟨rfl, pst rfl <| pick0 rfl b182 (cd := cB) (v := (decide ((0 : Int) ≤ x184))) rfl rfl ⟨rfl, preN <| sq [q2 0 cc4 v0, q2 9 cc4 v0, q2 10 cI (v0.length : Int), q2 11 cI (k104 : Int), q2 34 cB (decide ((0 : Int) ≤ x184))] <|
  xn <| cnd rfl h (fun b186 h => wpC_seq <| reg_s <| x_asg (sc cB false rfl) <| sq [q2 2 cB false] <|
  xn <| wpC_ret <| rb <| rt <| rt <| rt <| rb <| rt <| rt <| re <| fin h (r1 (ss rfl rfl) <| r0) rfl)
  (fun b186 h => wpC_skip <| xbb <| kpN [q2 0 cc4 v0, q2 9 cc4 v0, q2 10 cI (v0.length : Int), q2 11 cI (k104 : Int)] (by kernel_rfl) <| xn <| reg_s <| st rfl <| b_inc rfl rfl l102 hk106 <| st rfl <| mvd rfl rfl <| sq [q2 0 cc4 v0, q2 9 cc4 v0, q2 10 cI (v0.length : Int), q2 11 cI ((k104 + 1 : Nat) : Int)] <|
  xn <| hn147 () h)⟩⟩⟩⟩⟩⟩⟩⟩)⟩⟩⟩⟩⟩⟩)⟩⟩⟩⟩⟩))

def rs_spec_eFull (r : Int) : List D := [cI.enc r]
def m161 : MC := .seq (.reg [q1 4 (.asg (.c (.int .i64 0)))] [0, 1])
 (.seq (.reg [q1 5 (.mv (.t 0)),q1 6 (.mv (.t 1)),q1 7 (.ia 5 (.t 6) 2),q1 8 (.fa 7 1 1),q1 9 (.ld 8 1 false),q1 10 (.cvi .u64 (.t 9)),q1 11 (.bin .shl (.c (.int .i64 1)) (.t 10)),q1 12 (.bin .sub (.t 11) (.c (.int .i64 1))),q1 4 (.asg (.t 12))] [4])
 (.ret))
theorem con_spec_eFull {v0 : (List XVariable)} {v1 : Int} {r : Int} (h : sh_spec_eFull v0 v1 = some r) : Con Try.prog 161 [cc4.enc v0, cI.enc v1] [] (rs_spec_eFull r) := by
 delta sh_spec_eFull at h
 refine top (out := none) (f := Try.f161) (m := m161) (rs := [.t 4]) (by kernel_rfl) rfl (by kernel_rfl) (by kernel_rfl) (by kernel_rfl) (by kernel_rfl) (by kernel_rfl) ?_
 exact
  ini [q2 0 cc4 v0, q2 1 cI v1] rfl <| wpC_seq <| reg_s <| x_asg (sc cI (0 : Int) rfl) <| sq [q2 0 cc4 v0, q2 1 cI v1] <|
  xn <| wpC_seq <| reg_s <| st rfl <| mvd rfl rfl <| st rfl <| mvd rfl rfl <| getO_k h fun x8 i9 g10 h => st rfl <| ias rfl rfl i9 g10 rfl <| st rfl <| fai rfl rfl rfl rfl <| st rfl <| ldi rfl rfl rfl rfl <| ckK_k h fun i11 h => st rfl <| o_cvi (k := .i64) (k' := .u64) rfl i11 <| ck_k h fun i12 h => ckI_k h fun i13 h => st rfl <| b_shl (k := .i64) (k' := .u64) rfl rfl i12 rfl i13 <| ckI_k h fun i14 h => st rfl <| b_sub (k := .i64) rfl rfl i14 <| x_asg (ss rfl rfl) <| sq [q2 4 cI (((1 : Int) * 2 ^ (x8.Levels).toNat) - (1 : Int))] <|
  xn <| wpC_ret <| re <| fin h (r1 (ss rfl rfl) <| r0) rfl

def rs_spec_eGood (r : Bool) : List D := [cB.enc r]
def m124 : MC := .seq (.reg [q1 3 (.box (.t 1)),q1 4 (.asg (.c (.bool false)))] [0, 3])
 (.seq (.kp [0, 3] (.seq (.reg [q1 7 (.fa 3 0 0),q1 8 (.ld 7 1 false),q1 9 (.len false (.t 8)),q1 10 (.mv (.t 0)),q1 11 (.len false (.t 10)),q1 12 (.bin .neq (.t 9) (.t 11))] [0, 3, 12])
 (.cond (.t 12) (.seq (.reg [q1 4 (.asg (.c (.bool false)))] [4])
 (.ret)) (.skip))))
 (.seq (.kp [] (.seq (.reg [q1 13 (.fa 3 0 0),q1 14 (.ld 13 1 false),q1 15 (.len false (.t 14)),q1 16 (.mv (.c (.int .i64 0)))] [0, 3, 13, 14, 15, 16])
 (.blk 0 (.loop (.seq (.reg [q1 17 (.bin .lss (.t 16) (.t 15))] [0, 3, 13, 14, 15, 16, 17])
 (.seq (.kp [0, 3, 13, 14, 15, 16] (.cond (.t 17) (.skip) (.exit 0)))
 (.seq (.kp [0, 3, 13, 14, 15, 16] (.blk 1 (.seq (.reg [q1 18 (.mv (.t 16)),q1 19 (.ia 14 (.t 16) 1),q1 20 (.ld 19 1 false),q1 5 (.asg (.t 18)),q1 6 (.asg (.t 20))] [0, 3, 5, 6, 13, 14, 15, 16])
 (.seq (.reg [q1 21 (.mv (.t 6)),q1 22 (.mv (.t 0)),q1 23 (.mv (.t 5)),q1 24 (.call 161 [(.t 22), (.t 23)]),q1 25 (.call 111 [(.t 21), (.c (.int .i64 1)), (.t 24)]),q1 26 (.nt (.t 25))] [0, 3, 13, 14, 15, 16, 26])
 (.cond (.t 26) (.seq (.reg [q1 4 (.asg (.c (.bool false)))] [4])
 (.ret)) (.skip))))))
 (.reg [q1 27 (.bin .add (.t 16) (.c (.int .i64 1))),q1 16 (.mv (.t 27))] [0, 3, 13, 14, 15, 16]))))))))
 (.seq (.reg [q1 4 (.asg (.c (.bool true)))] [4])
 (.ret))))
theorem con_spec_eGood {v0 : (List XVariable)} {v1 : XEdit} {r : Bool} (h : sh_spec_eGood v0 v1 = some r) : Con Try.prog 124 [cc4.enc v0, cc8.enc v1] [] (rs_spec_eGood r) := by
 delta sh_spec_eGood at h
 refine top (out := none) (f := Try.f124) (m := m124) (rs := [.t 4]) (by kernel_rfl) rfl (by kernel_rfl) (by kernel_rfl) (by kernel_rfl) (by kernel_rfl) (by kernel_rfl) ?_
 exact
  ini [q2 0 cc4 v0, q2 1 cc8 v1] rfl <| wpC_seq <| reg_s <| x_box (ss rfl rfl) <| x_asg (sc cB false rfl) <| sq [q2 0 cc4 v0, q3 3 cc8 v1] <|
  xn <| wpC_seq <| wpC_kp <| wpC_seq <| reg_s <| st rfl <| fab rfl rfl rfl rfl <| st rfl <| lda rfl rfl rfl rfl rfl rfl <| stw rfl <| lens rfl fun l8 => st rfl <| mvd rfl rfl <| stw rfl <| lens rfl fun l9 => st rfl <| b_neq (k := .i64) rfl rfl <| sq [q2 0 cc4 v0, q3 3 cc8 v1, q2 12 cB (decide ((v1.Sets.length : Int) ≠ (v0.length : Int)))] <|
  xn <| cnd rfl h (fun b10 h => wpC_seq <| reg_s <| x_asg (sc cB false rfl) <| sq [q2 4 cB false] <|
  xn <| wpC_ret <| rt <| rt <| re <| fin h (r1 (ss rfl rfl) <| r0) rfl)
  (fun b10 h => wpC_skip <| kpN [q2 0 cc4 v0, q3 3 cc8 v1] (by kernel_rfl) <| xn <| wpC_seq <| wpC_kp <| wpC_seq <| reg_s <| st rfl <| fab rfl rfl rfl rfl <| st rfl <| lda rfl rfl rfl rfl rfl rfl <| stw rfl <| lens rfl fun l58 => st rfl <| mvc cI (0 : Int) rfl <| sq [q2 0 cc4 v0, q3 3 cc8 v1, (13, .adr 3 [.fld 0]), q2 14 cc11 v1.Sets, q2 15 cI (v1.Sets.length : Int), q2 16 cI (0 : Int)] <|
  xn <| wpC_blk <| lpR (fun (k60 : Nat) (s59 : Unit) => [q2 0 cc4 v0, q3 3 cc8 v1, (13, .adr 3 [.fld 0]), q2 14 cc11 v1.Sets, q2 15 cI (v1.Sets.length : Int), q2 16 cI (k60 : Int)]) () rfl h
  (fun G84 s59 h => wpC_seq <| reg_s <| st rfl <| b_lss (k := .i64) rfl rfl <| sq [q2 0 cc4 v0, q3 3 cc8 v1, (13, .adr 3 [.fld 0]), q2 14 cc11 v1.Sets, q2 15 cI (v1.Sets.length : Int), q2 16 cI (v1.Sets.length : Int), q2 17 cB (decide ((v1.Sets.length : Int) < (v1.Sets.length : Int)))] <|
  xn <| wpC_seq <| wpC_kp <| cnd0 rfl (dlf _) <| wpC_exit <| xt <| xt <| xt <| xb <| kpN [] (by kernel_rfl) <| xn <| wpC_seq <| reg_s <| x_asg (sc cB true rfl) <| sq [q2 4 cB true] <|
  xn <| wpC_ret <| re <| fin h (r1 (ss rfl rfl) <| r0) rfl)
  (fun G84 nx82 k60 s59 x61 hk62 hx63 hn83 h => wpC_seq <| reg_s <| st rfl <| b_lss (k := .i64) rfl rfl <| sq [q2 0 cc4 v0, q3 3 cc8 v1, (13, .adr 3 [.fld 0]), q2 14 cc11 v1.Sets, q2 15 cI (v1.Sets.length : Int), q2 16 cI (k60 : Int), q2 17 cB (decide ((k60 : Int) < (v1.Sets.length : Int)))] <|
  xn <| wpC_seq <| wpC_kp <| cnd1 rfl (dlt hk62) <| wpC_skip <| kpN [q2 0 cc4 v0, q3 3 cc8 v1, (13, .adr 3 [.fld 0]), q2 14 cc11 v1.Sets, q2 15 cI (v1.Sets.length : Int), q2 16 cI (k60 : Int)] (by kernel_rfl) <| xn <| wpC_seq <| wpC_kp <| wpC_blk <| wpC_seq <| reg_s <| st rfl <| mvd rfl rfl <| st rfl <| ias rfl rfl (Int.natCast_nonneg _) hx63 rfl <| st rfl <| ldi rfl rfl rfl rfl <| x_asg (ss rfl rfl) <| x_asg (ss rfl rfl) <| sq [q2 0 cc4 v0, q3 3 cc8 v1, q2 5 cI (k60 : Int), q2 6 cI x61, (13, .adr 3 [.fld 0]), q2 14 cc11 v1.Sets, q2 15 cI (v1.Sets.length : Int), q2 16 cI (k60 : Int)] <|
  xn <| wpC_seq <| reg_s <| st rfl <| mvd rfl rfl <| st rfl <| mvd rfl rfl <| st rfl <| mvd rfl rfl <| bnd h fun x98 e99 h => st rfl <| o_call (a1 (c := cc4) (tLs (tXVariable tS tK)) rfl (a1 (c := cI) tK rfl a0)) (con_spec_eFull e99) (.inl (so1 sK so0)) <| bnd h fun x100 e101 h => st rfl <| o_call (a1 (c := cI) tK rfl (a1 (c := cI) tK rfl (a1 (c := cI) tK rfl a0))) (con_spec_l1In e101) (.inl (so1 sB so0)) <| st rfl <| o_nt rfl <| sq [q2 0 cc4 v0, q3 3 cc8 v1, (13, .adr 3 [.fld 0]), q2 14 cc11 v1.Sets, q2 15 cI (v1.Sets.length : Int), q2 16 cI (k60 : Int), q2 26 cB (!x100)] <|
  xn <| cnd rfl h (fun b102 h => wpC_seq <| reg_s <| x_asg (sc cB false rfl) <| sq [q2 4 cB false] <|
  xn <| wpC_ret <| rb <| rt <| rt <| rt <| rb <| rt <| rt <| re <| fin h (r1 (ss rfl rfl) <| r0) rfl)
  (fun b102 h => wpC_skip <| xbb <| kpN [q2 0 cc4 v0, q3 3 cc8 v1, (13, .adr 3 [.fld 0]), q2 14 cc11 v1.Sets, q2 15 cI (v1.Sets.length : Int), q2 16 cI (k60 : Int)] (by kernel_rfl) <| xn <| reg_s <| st rfl <| b_inc rfl rfl l58 hk62 <| st rfl <| mvd rfl rfl <| sq [q2 0 cc4 v0, q3 3 cc8 v1, (13, .adr 3 [.fld 0]), q2 14 cc11 v1.Sets, q2 15 cI (v1.Sets.length : Int), q2 16 cI ((k60 + 1 : Nat) : Int)] <|
  xn <| hn83 () h)))

def rs_spec_eList (r : Bool) : List D := [cB.enc r]
def m58 : MC := .seq (.reg [q1 4 (.asg (.c (.bool false)))] [0, 1])
 (.seq (.kp [0, 1] (.seq (.reg [q1 7 (.mv (.t 0)),q1 8 (.call 123 [(.t 7)]),q1 9 (.nt (.t 8)),q1 10 (.mv (.t 9)),
  ⟨some 11, .mv (.t 1), some (10, false)⟩,
  ⟨some 12, .len false (.t 11), some (10, false)⟩,
  ⟨some 13, .bin .gtr (.t 12) (.c (.int .i64 40)), some (10, false)⟩,q1 14 (.pick (.t 10) (.c (.bool true)) (.t 13))] [0, 1, 14])
 (.cond (.t 14) (.seq (.reg [q1 4 (.asg (.c (.bool false)))] [4])
 (.ret)) (.skip))))
 (.seq (.kp [] (.seq (.reg [q1 15 (.mv (.t 1)),q1 16 (.len false (.t 15)),q1 17 (.mv (.c (.int .i64 0)))] [0, 1, 15, 16, 17])
 (.blk 0 (.loop (.seq (.reg [q1 18 (.bin .lss (.t 17) (.t 16))] [0, 1, 15, 16, 17, 18])
 (.seq (.kp [0, 1, 15, 16, 17] (.cond (.t 18) (.skip) (.exit 0)))
 (.seq (.kp [0, 1, 15, 16, 17] (.blk 1 (.seq (.reg [q1 19 (.ia 15 (.t 17) 1),q1 20 (.ld 19 1 true),q1 6 (.alloc (.agg [.slice true []])),q0 (.st 6 (.t 20) 1)] [0, 1, 6, 15, 16, 17])
 (.seq (.reg [q1 21 (.mv (.t 0)),q1 22 (.ld 6 1 true),q1 23 (.call 124 [(.t 21), (.t 22)]),q1 24 (.nt (.t 23))] [0, 1, 15, 16, 17, 24])
 (.cond (.t 24) (.seq (.reg [q1 4 (.asg (.c (.bool false)))] [4])
 (.ret)) (.skip))))))
 (.reg [q1 25 (.bin .add (.t 17) (.c (.int .i64 1))),q1 17 (.mv (.t 25))] [0, 1, 15, 16, 17]))))))))
 (.seq (.reg [q1 4 (.asg (.c (.bool true)))] [4])
 (.ret))))
theorem con_spec_eList {v0 : (List XVariable)} {v1 : (List XEdit)} {r : Bool} (h : sh_spec_eList v0 v1 = some r) : Con Try.prog 58 [cc4.enc v0, cc1.enc v1] [] (rs_spec_eList r) := by
 delta sh_spec_eList at h
 refine top (out := none) (f := Try.f58) (m := m58) (rs := [.t 4]) (by kernel_rfl) rfl (by kernel_rfl) (by kernel_rfl) (by kernel_rfl) (by kernel_rfl) (by kernel_rfl) ?_
 exact
  ini [q2 0 cc4 v0, q2 1 cc1 v1] rfl <| wpC_seq <| reg_s <| x_asg (sc cB false rfl) <| sq [q2 0 cc4 v0, q2 1 cc1 v1] <|
  xn <| wpC_seq <| wpC_kp <| wpC_seq <| reg_s <| st rfl <| mvd rfl rfl <| bnd h fun x14 e15 h => st rfl <| o_call (a1 (c := cc4) (tLs (tXVariable tS tK)) rfl a0) (con_spec_sGood e15) (.inl (so1 sB so0)) <| st rfl <| o_nt rfl <| st rfl <| mvd rfl rfl <| ite_k h (fun b16 h => gf rfl b16 <| gf rfl b16 <| gf rfl b16 <| st rfl <| pick1 rfl b16 (cd := cB) (v := true) rfl rfl <| sq [q2 0 cc4 v0, q2 1 cc1 v1, q2 14 cB true] <|
  xn <| cnd1 rfl rfl <| wpC_seq <| reg_s <| x_asg (sc cB false rfl) <| sq [q2 4 cB false] <|
  xn <| wpC_ret <| rt <| rt <| re <| fin h (r1 (ss rfl rfl) <| r0) rfl)
  (fun b16 h => gt' rfl b16 <| st rfl <| mvd rfl rfl <| gt' rfl b16 <| stw rfl <| lens rfl fun l17 => gt' rfl b16 <| st rfl <| b_gtr (k := .i64) rfl rfl <| st rfl <| pick0 rfl b16 (cd := cB) (v := (decide ((40 : Int) < (v1.length : Int)))) rfl rfl <| sq [q2 0 cc4 v0, q2 1 cc1 v1, q2 14 cB (decide ((40 : Int) < (v1.length : Int)))] <|
  xn <| cnd rfl h (fun b18 h => wpC_seq <| reg_s <| x_asg (sc cB false rfl) <| sq [q2 4 cB false] <|
  xn <| wpC_ret <| rt <| rt <| re <| fin h (r1 (ss rfl rfl) <| r0) rfl)
  (fun b18 h => wpC_skip <| kpN [q2 0 cc4 v0, q2 1 cc1 v1] (by kernel_rfl) <| xn <| wpC_seq <| wpC_kp <| wpC_seq <| reg_s <| st rfl <| mvd rfl rfl <| stw rfl <| lens rfl fun l50 => st rfl <| mvc cI (0 : Int) rfl <| sq [q2 0 cc4 v0, q2 1 cc1 v1, q2 15 cc1 v1, q2 16 cI (v1.length : Int), q2 17 cI (0 : Int)] <|
  xn <| wpC_blk <| lpR (fun (k52 : Nat) (s51 : Unit) => [q2 0 cc4 v0, q2 1 cc1 v1, q2 15 cc1 v1, q2 16 cI (v1.length : Int), q2 17 cI (k52 : Int)]) () rfl h
  (fun G68 s51 h => wpC_seq <| reg_s <| st rfl <| b_lss (k := .i64) rfl rfl <| sq [q2 0 cc4 v0, q2 1 cc1 v1, q2 15 cc1 v1, q2 16 cI (v1.length : Int), q2 17 cI (v1.length : Int), q2 18 cB (decide ((v1.length : Int) < (v1.length : Int)))] <|
  xn <| wpC_seq <| wpC_kp <| cnd0 rfl (dlf _) <| wpC_exit <| xt <| xt <| xt <| xb <| kpN [] (by kernel_rfl) <| xn <| wpC_seq <| reg_s <| x_asg (sc cB true rfl) <| sq [q2 4 cB true] <|
  xn <| wpC_ret <| re <| fin h (r1 (ss rfl rfl) <| r0) rfl)
  (fun G68 nx66 k52 s51 x53 hk54 hx55 hn67 h => wpC_seq <| reg_s <| st rfl <| b_lss (k := .i64) rfl rfl <| sq [q2 0 cc4 v0, q2 1 cc1 v1, q2 15 cc1 v1, q2 16 cI (v1.length : Int), q2 17 cI (k52 : Int), q2 18 cB (decide ((k52 : Int) < (v1.length : Int)))] <|
  xn <| wpC_seq <| wpC_kp <| cnd1 rfl (dlt hk54) <| wpC_skip <| kpN [q2 0 cc4 v0, q2 1 cc1 v1, q2 15 cc1 v1, q2 16 cI (v1.length : Int), q2 17 cI (k52 : Int)] (by kernel_rfl) <| xn <| wpC_seq <| wpC_kp <| wpC_blk <| wpC_seq <| reg_s <| st rfl <| ias rfl rfl (Int.natCast_nonneg _) hx55 rfl <| st rfl <| ldi rfl rfl rfl rfl <| x_all cc10 (⟨([] : List Int)⟩ : XEdit) rfl <| x_stb (ss rfl rfl) rfl (Cd.h_sz _ _) rfl <| sq [q2 0 cc4 v0, q2 1 cc1 v1, q3 6 cc8 x53, q2 15 cc1 v1, q2 16 cI (v1.length : Int), q2 17 cI (k52 : Int)] <|
  xn <| wpC_seq <| reg_s <| st rfl <| mvd rfl rfl <| st rfl <| ldb rfl rfl rfl rfl <| bnd h fun x76 e77 h => st rfl <| o_call (a1 (c := cc4) (tLs (tXVariable tS tK)) rfl (a1 (c := cc8) (tXEdit (tLs tK)) rfl a0)) (con_spec_eGood e77) (.inl (so1 sB so0)) <| st rfl <| o_nt rfl <| sq [q2 0 cc4 v0, q2 1 cc1 v1, q2 15 cc1 v1, q2 16 cI (v1.length : Int), q2 17 cI (k52 : Int), q2 24 cB (!x76)] <|
  xn <| cnd rfl h (fun b78 h => wpC_seq <| reg_s <| x_asg (sc cB false rfl) <| sq [q2 4 cB false] <|
  xn <| wpC_ret <| rb <| rt <| rt <| rt <| rb <| rt <| rt <| re <| fin h (r1 (ss rfl rfl) <| r0) rfl)
  (fun b78 h => wpC_skip <| xbb <| kpN [q2 0 cc4 v0, q2 1 cc1 v1, q2 15 cc1 v1, q2 16 cI (v1.length : Int), q2 17 cI (k52 : Int)] (by kernel_rfl) <| xn <| reg_s <| st rfl <| b_inc rfl rfl l50 hk54 <| st rfl <| mvd rfl rfl <| sq [q2 0 cc4 v0, q2 1 cc1 v1, q2 15 cc1 v1, q2 16 cI (v1.length : Int), q2 17 cI ((k52 + 1 : Nat) : Int)] <|
  xn <| hn67 () h))))

def rs_spec_sCount (r : Int) : List D := [cI.enc r]
def m59 : MC := .seq (.reg [q1 2 (.asg (.c (.int .i64 0)))] [0])
 (.seq (.reg [q1 3 (.asg (.c (.int .i64 1)))] [0, 3])
 (.seq (.kp [3] (.seq (.reg [q1 6 (.mv (.t 0)),q1 7 (.len false (.t 6)),q1 8 (.mv (.c (.int .i64 0)))] [0, 3, 6, 7, 8])
 (.blk 0 (.loop (.seq (.reg [q1 9 (.bin .lss (.t 8) (.t 7))] [0, 3, 6, 7, 8, 9])
 (.seq (.kp [0, 3, 6, 7, 8] (.cond (.t 9) (.skip) (.exit 0)))
 (.seq (.kp [0, 3, 6, 7, 8] (.blk 1 (.seq (.reg [q1 10 (.ia 6 (.t 8) 2),q1 11 (.ld 10 2 true),q1 5 (.alloc (.agg [.str [], .int .i64 0])),q0 (.st 5 (.t 11) 2)] [0, 3, 5, 6, 7, 8])
 (.reg [q1 12 (.mv (.t 3)),q1 13 (.fa 5 1 1),q1 14 (.ld 13 1 false),q1 15 (.bin .mul (.t 12) (.t 14)),q1 3 (.asg (.t 15))] [0, 3, 6, 7, 8]))))
 (.reg [q1 16 (.bin .add (.t 8) (.c (.int .i64 1))),q1 8 (.mv (.t 16))] [0, 3, 6, 7, 8]))))))))
 (.seq (.reg [q1 17 (.mv (.t 3)),q1 2 (.asg (.t 17))] [2])
 (.ret))))
theorem con_spec_sCount {v0 : (List XVariable)} {r : Int} (h : sh_spec_sCount v0 = some r) : Con Try.prog 59 [cc4.enc v0] [] (rs_spec_sCount r) := by
 delta sh_spec_sCount at h
 refine top (out := none) (f := Try.f59) (m := m59) (rs := [.t 2]) (by kernel_rfl) rfl (by kernel_rfl) (by kernel_rfl) (by kernel_rfl) (by kernel_rfl) (by kernel_rfl) ?_
 exact
  ini [q2 0 cc4 v0] rfl <| wpC_seq <| reg_s <| x_asg (sc cI (0 : Int) rfl) <| sq [q2 0 cc4 v0] <|
  xn <| wpC_seq <| reg_s <| x_asg (sc cI (1 : Int) rfl) <| sq [q2 0 cc4 v0, q2 3 cI (1 : Int)] <|
  xn <| wpC_seq <| wpC_kp <| wpC_seq <| reg_s <| st rfl <| mvd rfl rfl <| stw rfl <| lens rfl fun l18 => st rfl <| mvc cI (0 : Int) rfl <| sq [q2 0 cc4 v0, q2 3 cI (1 : Int), q2 6 cc4 v0, q2 7 cI (v0.length : Int), q2 8 cI (0 : Int)] <|
  xn <| wpC_blk <| lpR (fun (k20 : Nat) (s19 : Int) => [q2 0 cc4 v0, q2 3 cI s19, q2 6 cc4 v0, q2 7 cI (v0.length : Int), q2 8 cI (k20 : Int)]) (1 : Int) rfl h
  (fun G30 s19 h => wpC_seq <| reg_s <| st rfl <| b_lss (k := .i64) rfl rfl <| sq [q2 0 cc4 v0, q2 3 cI s19, q2 6 cc4 v0, q2 7 cI (v0.length : Int), q2 8 cI (v0.length : Int), q2 9 cB (decide ((v0.length : Int) < (v0.length : Int)))] <|
  xn <| wpC_seq <| wpC_kp <| cnd0 rfl (dlf _) <| wpC_exit <| xt <| xt <| xt <| xb <| kpN [q2 3 cI s19] (by kernel_rfl) <| xn <| wpC_seq <| reg_s <| st rfl <| mvd rfl rfl <| x_asg (ss rfl rfl) <| sq [q2 2 cI s19] <|
  xn <| wpC_ret <| re <| fin h (r1 (ss rfl rfl) <| r0) rfl)
  (fun G30 nx28 k20 s19 x21 hk22 hx23 hn29 h => wpC_seq <| reg_s <| st rfl <| b_lss (k := .i64) rfl rfl <| sq [q2 0 cc4 v0, q2 3 cI s19, q2 6 cc4 v0, q2 7 cI (v0.length : Int), q2 8 cI (k20 : Int), q2 9 cB (decide ((k20 : Int) < (v0.length : Int)))] <|
  xn <| wpC_seq <| wpC_kp <| cnd1 rfl (dlt hk22) <| wpC_skip <| kpN [q2 0 cc4 v0, q2 3 cI s19, q2 6 cc4 v0, q2 7 cI (v0.length : Int), q2 8 cI (k20 : Int)] (by kernel_rfl) <| xn <| wpC_seq <| wpC_kp <| wpC_blk <| wpC_seq <| reg_s <| st rfl <| ias rfl rfl (Int.natCast_nonneg _) hx23 rfl <| st rfl <| ldi rfl rfl rfl rfl <| x_all cc9 (⟨([] : List UInt8), (0 : Int)⟩ : XVariable) rfl <| x_stb (ss rfl rfl) rfl (Cd.h_sz _ _) rfl <| sq [q2 0 cc4 v0, q2 3 cI s19, q3 5 cc9 x21, q2 6 cc4 v0, q2 7 cI (v0.length : Int), q2 8 cI (k20 : Int)] <|
  xn <| reg_s <| st rfl <| mvd rfl rfl <| st rfl <| fab rfl rfl rfl rfl <| st rfl <| lda rfl rfl rfl rfl rfl rfl <| ckI_k h fun i32 h => st rfl <| b_mul (k := .i64) rfl rfl i32 <| x_asg (ss rfl rfl) <| sq [q2 0 cc4 v0, q2 3 cI (s19 * x21.Levels), q2 6 cc4 v0, q2 7 cI (v0.length : Int), q2 8 cI (k20 : Int)] <|
  xbb <| kpN [q2 0 cc4 v0, q2 3 cI (s19 * x21.Levels), q2 6 cc4 v0, q2 7 cI (v0.length : Int), q2 8 cI (k20 : Int)] (by kernel_rfl) <| xn <| reg_s <| st rfl <| b_inc rfl rfl l18 hk22 <| st rfl <| mvd rfl rfl <| sq [q2 0 cc4 v0, q2 3 cI (s19 * x21.Levels), q2 6 cc4 v0, q2 7 cI (v0.length : Int), q2 8 cI ((k20 + 1 : Nat) : Int)] <|
  xn <| hn29 (s19 * x21.Levels) h)

def rs_spec_sAt (r : (List Int)) : List D := [cc12.enc r]
def m125 : MC := .seq (.reg [q1 4 (.asg (.c (.slice true [])))] [0, 1])
 (.seq (.reg [q1 7 (.mv (.t 0)),q1 8 (.len false (.t 7)),q1 9 (.mk (.int .i64 0) (.t 8)),q1 5 (.asg (.t 9))] [0, 1, 5])
 (.seq (.kp [5] (.seq (.reg [q1 10 (.mv (.t 0)),q1 11 (.len false (.t 10)),q1 12 (.bin .sub (.t 11) (.c (.int .i64 1))),q1 6 (.asg (.t 12))] [0, 1, 5, 6])
 (.blk 0 (.loop (.seq (.kp [0, 1, 5, 6] (.seq (.reg [q1 13 (.mv (.t 6)),q1 14 (.bin .geq (.t 13) (.c (.int .i64 0)))] [0, 1, 5, 6, 14])
 (.cond (.t 14) (.skip) (.exit 0))))
 (.seq (.kp [0, 1, 5, 6] (.blk 1 (.seq (.reg [q1 17 (.mv (.t 5)),q1 18 (.mv (.t 6)),q1 19 (.mv (.t 1)),q1 20 (.mv (.t 0)),q1 21 (.mv (.t 6)),q1 22 (.ia 20 (.t 21) 2),q1 23 (.fa 22 1 1),q1 24 (.ld 23 1 false),q1 25 (.bin .rem (.t 19) (.t 24)),q1 26 (.ia 17 (.t 18) 1),q0 (.st 26 (.t 25) 1)] [0, 1, 5, 6])
 (.reg [q1 27 (.mv (.t 1)),q1 28 (.mv (.t 0)),q1 29 (.mv (.t 6)),q1 30 (.ia 28 (.t 29) 2),q1 31 (.fa 30 1 1),q1 32 (.ld 31 1 false),q1 33 (.bin .quo (.t 27) (.t 32)),q1 1 (.asg (.t 33))] [0, 1, 5, 6]))))
 (.reg [q1 15 (.mv (.t 6)),q1 16 (.bin .sub (.t 15) (.c (.int .i64 1))),q1 6 (.asg (.t 16))] [0, 1, 5, 6])))))))
 (.seq (.reg [q1 34 (.mv (.t 5)),q1 4 (.asg (.t 34))] [4])
 (.ret))))
theorem con_spec_sAt {v0 : (List XVariable)} {v1 : Int} {r : (List Int)} (h : sh_spec_sAt v0 v1 = some r) : Con Try.prog 125 [cc4.enc v0, cI.enc v1] [] (rs_spec_sAt r) := by
 delta sh_spec_sAt at h
 refine top (out := none) (f := Try.f125) (m := m125) (rs := [.t 4]) (by kernel_rfl) rfl (by kernel_rfl) (by kernel_rfl) (by kernel_rfl) (by kernel_rfl) (by kernel_rfl) ?_
 exact
  ini [q2 0 cc4 v0, q2 1 cI v1] rfl <| wpC_seq <| reg_s <| x_asg (sc cc12 ([] : List Int) rfl) <| sq [q2 0 cc4 v0, q2 1 cI v1] <|
  xn <| wpC_seq <| reg_s <| st rfl <| mvd rfl rfl <| stw rfl <| lens rfl fun l4 => mkO_k h fun i5 l6 h => st rfl <| o_mk (c := cI) (a0 := (0 : Int)) rfl (k := .i64) rfl i5 l6 <| x_asg (so rfl rfl) <| sq [q2 0 cc4 v0, q2 1 cI v1, q2 5 cc12 (List.replicate ((v0.length : Int)).toNat (0 : Int))] <|
  xn <| wpC_seq <| wpC_kp <| wpC_seq <| reg_s <| st rfl <| mvd rfl rfl <| stw rfl <| lens rfl fun l126 => ckI_k h fun i127 h => st rfl <| b_sub (k := .i64) rfl rfl i127 <| x_asg (ss rfl rfl) <| sq [q2 0 cc4 v0, q2 1 cI v1, q2 5 cc12 (List.replicate ((v0.length : Int)).toNat (0 : Int)), q2 6 cI ((v0.length : Int) - (1 : Int))] <|
  xn <| wpC_blk <| lpF (fun (s128 : (Int × (List Int) × Int)) => [q2 0 cc4 v0, q2 1 cI s128.1, q2 5 cc12 s128.2.1, q2 6 cI s128.2.2]) (v1, (List.replicate ((v0.length : Int)).toNat (0 : Int)), ((v0.length : Int) - (1 : Int))) rfl h
  fun G205 nx203 s128 hn204 h => wpC_seq <| wpC_kp <| wpC_seq <| reg_s <| st rfl <| mvd rfl rfl <| st rfl <| b_geq (k := .i64) rfl rfl <| sq [q2 0 cc4 v0, q2 1 cI s128.1, q2 5 cc12 s128.2.1, q2 6 cI s128.2.2, q2 14 cB (decide ((0 : Int) ≤ s128.2.2))] <|
  xn <| cnd rfl h (fun b207 h => wpC_skip <| kpN [q2 0 cc4 v0, q2 1 cI s128.1, q2 5 cc12 s128.2.1, q2 6 cI s128.2.2] (by kernel_rfl) <| xn <| wpC_seq <| wpC_kp <| wpC_blk <| wpC_seq <| reg_s <| st rfl <| mvo rfl rfl <| st rfl <| mvd rfl rfl <| st rfl <| mvd rfl rfl <| st rfl <| mvd rfl rfl <| st rfl <| mvd rfl rfl <| getO_k h fun x231 i232 g233 h => st rfl <| ias rfl rfl i232 g233 rfl <| st rfl <| fai rfl rfl rfl rfl <| st rfl <| ldi rfl rfl rfl rfl <| ck_k h fun i234 h => st rfl <| b_rem (k := .i64) rfl rfl i234 <| getO_k h fun x235 i236 g237 h => st rfl <| iar rfl rfl rfl rfl i236 g237 rfl <| x_sta (cc12.enc (s128.2.1.set (s128.2.2).toNat (s128.1.tmod x231.Levels))) (ss rfl rfl) rfl rfl (Ln.idx g237 Ln.nil) (Cd.h_sz cI _) rfl <| sq [q2 0 cc4 v0, q2 1 cI s128.1, q2 5 cc12 (s128.2.1.set (s128.2.2).toNat (s128.1.tmod x231.Levels)), q2 6 cI s128.2.2] <|
  xn <| reg_s <| st rfl <| mvd rfl rfl <| st rfl <| mvd rfl rfl <| st rfl <| mvd rfl rfl <| st rfl <| ias rfl rfl i232 g233 rfl <| st rfl <| fai rfl rfl rfl rfl <| st rfl <| ldi rfl rfl rfl rfl <| ck_k h fun i238 h => ckI_k h fun i239 h => st rfl <| b_quo (k := .i64) rfl rfl i238 i239 <| x_asg (ss rfl rfl) <| sq [q2 0 cc4 v0, q2 1 cI (s128.1.tdiv x231.Levels), q2 5 cc12 (s128.2.1.set (s128.2.2).toNat (s128.1.tmod x231.Levels)), q2 6 cI s128.2.2] <|
  xbb <| kpN [q2 0 cc4 v0, q2 1 cI (s128.1.tdiv x231.Levels), q2 5 cc12 (s128.2.1.set (s128.2.2).toNat (s128.1.tmod x231.Levels)), q2 6 cI s128.2.2] (by kernel_rfl) <| xn <| reg_s <| st rfl <| mvd rfl rfl <| ckI_k h fun i240 h => st rfl <| b_sub (k := .i64) rfl rfl i240 <| x_asg (ss rfl rfl) <| sq [q2 0 cc4 v0, q2 1 cI (s128.1.tdiv x231.Levels), q2 5 cc12 (s128.2.1.set (s128.2.2).toNat (s128.1.tmod x231.Levels)), q2 6 cI (s128.2.2 - (1 : Int))] <|
  xn <| hn204 ((s128.1.tdiv x231.Levels), (s128.2.1.set (s128.2.2).toNat (s128.1.tmod x231.Levels)), (s128.2.2 - (1 : Int))) h)
  (fun b207 h => wpC_exit <| xt <| xt <| xt <| xb <| kpN [q2 5 cc12 s128.2.1] (by kernel_rfl) <| xn <| wpC_seq <| reg_s <| st rfl <| mvo rfl rfl <| x_asg (sr rfl rfl) <| sq [q2 4 cc12 s128.2.1] <|
  xn <| wpC_ret <| re <| fin h (r1 (so rfl rfl) <| r0) rfl)

def rs_spec_eFails (r : Bool) : List D := [cB.enc r]
def m141 : MC := .seq (.reg [q1 2 (.box (.t 0)),q1 4 (.asg (.c (.bool false)))] [1, 2])
 (.seq (.kp [] (.seq (.reg [q1 7 (.mv (.t 1)),q1 8 (.len false (.t 7)),q1 9 (.mv (.c (.int .i64 0)))] [1, 2, 7, 8, 9])
 (.blk 0 (.loop (.seq (.reg [q1 10 (.bin .lss (.t 9) (.t 8))] [1, 2, 7, 8, 9, 10])
 (.seq (.kp [1, 2, 7, 8, 9] (.cond (.t 10) (.skip) (.exit 0)))
 (.seq (.kp [1, 2, 7, 8, 9] (.blk 1 (.seq (.reg [q1 11 (.mv (.t 9)),q1 12 (.ia 7 (.t 9) 1),q1 13 (.ld 12 1 false),q1 5 (.asg (.t 11)),q1 6 (.asg (.t 13))] [1, 2, 5, 6, 7, 8, 9])
 (.seq (.reg [q1 14 (.fa 2 0 0),q1 15 (.ld 14 1 false),q1 16 (.mv (.t 5)),q1 17 (.ia 15 (.t 16) 1),q1 18 (.ld 17 1 false),q1 19 (.mv (.t 6)),q1 20 (.cvi .u64 (.t 19)),q1 21 (.bin .shr (.t 18) (.t 20)),q1 22 (.bin .and (.t 21) (.c (.int .i64 1))),q1 23 (.bin .eql (.t 22) (.c (.int .i64 0)))] [1, 2, 7, 8, 9, 23])
 (.cond (.t 23) (.seq (.reg [q1 4 (.asg (.c (.bool false)))] [4])
 (.ret)) (.skip))))))
 (.reg [q1 24 (.bin .add (.t 9) (.c (.int .i64 1))),q1 9 (.mv (.t 24))] [1, 2, 7, 8, 9]))))))))
 (.seq (.reg [q1 4 (.asg (.c (.bool true)))] [4])
 (.ret)))
theorem con_spec_eFails {v0 : XEdit} {v1 : (List Int)} {r : Bool} (h : sh_spec_eFails v0 v1 = some r) : Con Try.prog 141 [cc8.enc v0, cc11.enc v1] [] (rs_spec_eFails r) := by
 delta sh_spec_eFails at h
 refine top (out := none) (f := Try.f141) (m := m141) (rs := [.t 4]) (by kernel_rfl) rfl (by kernel_rfl) (by kernel_rfl) (by kernel_rfl) (by kernel_rfl) (by kernel_rfl) ?_
 exact
  ini [q2 0 cc8 v0, q2 1 cc11 v1] rfl <| wpC_seq <| reg_s <| x_box (ss rfl rfl) <| x_asg (sc cB false rfl) <| sq [q2 1 cc11 v1, q3 2 cc8 v0] <|
  xn <| wpC_seq <| wpC_kp <| wpC_seq <| reg_s <| st rfl <| mvd rfl rfl <| stw rfl <| lens rfl fun l88 => st rfl <| mvc cI (0 : Int) rfl <| sq [q2 1 cc11 v1, q3 2 cc8 v0, q2 7 cc11 v1, q2 8 cI (v1.length : Int), q2 9 cI (0 : Int)] <|
  xn <| wpC_blk <| lpR (fun (k90 : Nat) (s89 : Unit) => [q2 1 cc11 v1, q3 2 cc8 v0, q2 7 cc11 v1, q2 8 cI (v1.length : Int), q2 9 cI (k90 : Int)]) () rfl h
  (fun G134 s89 h => wpC_seq <| reg_s <| st rfl <| b_lss (k := .i64) rfl rfl <| sq [q2 1 cc11 v1, q3 2 cc8 v0, q2 7 cc11 v1, q2 8 cI (v1.length : Int), q2 9 cI (v1.length : Int), q2 10 cB (decide ((v1.length : Int) < (v1.length : Int)))] <|
  xn <| wpC_seq <| wpC_kp <| cnd0 rfl (dlf _) <| wpC_exit <| xt <| xt <| xt <| xb <| kpN [] (by kernel_rfl) <| xn <| wpC_seq <| reg_s <| x_asg (sc cB true rfl) <| sq [q2 4 cB true] <|
  xn <| wpC_ret <| re <| fin h (r1 (ss rfl rfl) <| r0) rfl)
  (fun G134 nx132 k90 s89 x91 hk92 hx93 hn133 h => wpC_seq <| reg_s <| st rfl <| b_lss (k := .i64) rfl rfl <| sq [q2 1 cc11 v1, q3 2 cc8 v0, q2 7 cc11 v1, q2 8 cI (v1.length : Int), q2 9 cI (k90 : Int), q2 10 cB (decide ((k90 : Int) < (v1.length : Int)))] <|
  xn <| wpC_seq <| wpC_kp <| cnd1 rfl (dlt hk92) <| wpC_skip <| kpN [q2 1 cc11 v1, q3 2 cc8 v0, q2 7 cc11 v1, q2 8 cI (v1.length : Int), q2 9 cI (k90 : Int)] (by kernel_rfl) <| xn <| wpC_seq <| wpC_kp <| wpC_blk <| wpC_seq <| reg_s <| st rfl <| mvd rfl rfl <| st rfl <| ias rfl rfl (Int.natCast_nonneg _) hx93 rfl <| st rfl <| ldi rfl rfl rfl rfl <| x_asg (ss rfl rfl) <| x_asg (ss rfl rfl) <| sq [q2 1 cc11 v1, q3 2 cc8 v0, q2 5 cI (k90 : Int), q2 6 cI x91, q2 7 cc11 v1, q2 8 cI (v1.length : Int), q2 9 cI (k90 : Int)] <|
  xn <| wpC_seq <| reg_s <| st rfl <| fab rfl rfl rfl rfl <| st rfl <| lda rfl rfl rfl rfl rfl rfl <| st rfl <| mvd rfl rfl <| getO_k h fun x163 i164 g165 h => st rfl <| ias rfl rfl i164 g165 rfl <| st rfl <| ldi rfl rfl rfl rfl <| st rfl <| mvd rfl rfl <| ckK_k h fun i166 h => st rfl <| o_cvi (k := .i64) (k' := .u64) rfl i166 <| ck_k h fun i167 h => st rfl <| b_shr (k := .i64) (k' := .u64) rfl rfl i167 rfl <| ck_k h fun i168 h => ckK_k h fun i169 h => ck_k h fun i170 h => ckK_k h fun i171 h => st rfl <| b_and (k := .i64) rfl rfl ⟨i168, i169⟩ ⟨i170, i171⟩ <| st rfl <| b_eql (k := .i64) rfl rfl <| sq [q2 1 cc11 v1, q3 2 cc8 v0, q2 7 cc11 v1, q2 8 cI (v1.length : Int), q2 9 cI (k90 : Int), q2 23 cB (decide ((((x163 / 2 ^ (x91).toNat).toNat &&& (1 : Int).toNat : Nat) : Int) = (0 : Int)))] <|
  xn <| cnd rfl h (fun b172 h => wpC_seq <| reg_s <| x_asg (sc cB false rfl) <| sq [q2 4 cB false] <|
  xn <| wpC_ret <| rb <| rt <| rt <| rt <| rb <| rt <| rt <| re <| fin h (r1 (ss rfl rfl) <| r0) rfl)
  (fun b172 h => wpC_skip <| xbb <| kpN [q2 1 cc11 v1, q3 2 cc8 v0, q2 7 cc11 v1, q2 8 cI (v1.length : Int), q2 9 cI (k90 : Int)] (by kernel_rfl) <| xn <| reg_s <| st rfl <| b_inc rfl rfl l88 hk92 <| st rfl <| mvd rfl rfl <| sq [q2 1 cc11 v1, q3 2 cc8 v0, q2 7 cc11 v1, q2 8 cI (v1.length : Int), q2 9 cI ((k90 + 1 : Nat) : Int)] <|
  xn <| hn133 () h))

def rs_spec_eFailed (r : (List Int)) : List D := [cc12.enc r]
def m91 : MC := .seq (.reg [q1 4 (.asg (.c (.slice true [])))] [0, 1])
 (.seq (.reg [q1 5 (.asg (.c (.slice true [])))] [0, 1, 5])
 (.seq (.kp [5] (.seq (.reg [q1 8 (.mv (.t 0)),q1 9 (.len false (.t 8)),q1 10 (.mv (.c (.int .i64 0)))] [0, 1, 5, 8, 9, 10])
 (.blk 0 (.loop (.seq (.reg [q1 11 (.bin .lss (.t 10) (.t 9))] [0, 1, 5, 8, 9, 10, 11])
 (.seq (.kp [0, 1, 5, 8, 9, 10] (.cond (.t 11) (.skip) (.exit 0)))
 (.seq (.kp [0, 1, 5, 8, 9, 10] (.blk 1 (.seq (.reg [q1 12 (.mv (.t 10)),q1 13 (.ia 8 (.t 10) 1),q1 14 (.ld 13 1 true),q1 7 (.alloc (.agg [.slice true []])),q1 6 (.asg (.t 12)),q0 (.st 7 (.t 14) 1)] [0, 1, 5, 6, 7, 8, 9, 10])
 (.seq (.reg [q1 15 (.ld 7 1 true),q1 16 (.mv (.t 1)),q1 17 (.call 141 [(.t 15), (.t 16)])] [0, 1, 5, 6, 8, 9, 10, 17])
 (.cond (.t 17) (.reg [q1 18 (.mv (.t 5)),q1 19 (.mv (.t 6)),q1 20 (.bsl [(.t 19)] 1),q1 21 (.app (.t 18) (.t 20) 1),q1 5 (.asg (.t 21))] [0, 1, 5, 8, 9, 10]) (.skip))))))
 (.reg [q1 22 (.bin .add (.t 10) (.c (.int .i64 1))),q1 10 (.mv (.t 22))] [0, 1, 5, 8, 9, 10]))))))))
 (.seq (.reg [q1 23 (.mv (.t 5)),q1 4 (.asg (.t 23))] [4])
 (.ret))))
theorem con_spec_eFailed {v0 : (List XEdit)} {v1 : (List Int)} {r : (List Int)} (h : sh_spec_eFailed v0 v1 = some r) : Con Try.prog 91 [cc1.enc v0, cc11.enc v1] [] (rs_spec_eFailed r) := by
 delta sh_spec_eFailed at h
 refine top (out := none) (f := Try.f91) (m := m91) (rs := [.t 4]) (by kernel_rfl) rfl (by kernel_rfl) (by kernel_rfl) (by kernel_rfl) (by kernel_rfl) (by kernel_rfl) ?_
 exact
  ini [q2 0 cc1 v0, q2 1 cc11 v1] rfl <| wpC_seq <| reg_s <| x_asg (sc cc12 ([] : List Int) rfl) <| sq [q2 0 cc1 v0, q2 1 cc11 v1] <|
  xn <| wpC_seq <| reg_s <| x_asg (sc cc12 ([] : List Int) rfl) <| sq [q2 0 cc1 v0, q2 1 cc11 v1, q2 5 cc12 ([] : List Int)] <|
  xn <| wpC_seq <| wpC_kp <| wpC_seq <| reg_s <| st rfl <| mvd rfl rfl <| stw rfl <| lens rfl fun l48 => st rfl <| mvc cI (0 : Int) rfl <| sq [q2 0 cc1 v0, q2 1 cc11 v1, q2 5 cc12 ([] : List Int), q2 8 cc1 v0, q2 9 cI (v0.length : Int), q2 10 cI (0 : Int)] <|
  xn <| wpC_blk <| lpR (fun (k50 : Nat) (s49 : (List Int)) => [q2 0 cc1 v0, q2 1 cc11 v1, q2 5 cc12 s49, q2 8 cc1 v0, q2 9 cI (v0.length : Int), q2 10 cI (k50 : Int)]) ([] : List Int) rfl h
  (fun G80 s49 h => wpC_seq <| reg_s <| st rfl <| b_lss (k := .i64) rfl rfl <| sq [q2 0 cc1 v0, q2 1 cc11 v1, q2 5 cc12 s49, q2 8 cc1 v0, q2 9 cI (v0.length : Int), q2 10 cI (v0.length : Int), q2 11 cB (decide ((v0.length : Int) < (v0.length : Int)))] <|
  xn <| wpC_seq <| wpC_kp <| cnd0 rfl (dlf _) <| wpC_exit <| xt <| xt <| xt <| xb <| kpN [q2 5 cc12 s49] (by kernel_rfl) <| xn <| wpC_seq <| reg_s <| st rfl <| mvo rfl rfl <| x_asg (sr rfl rfl) <| sq [q2 4 cc12 s49] <|
  xn <| wpC_ret <| re <| fin h (r1 (so rfl rfl) <| r0) rfl)
  (fun G80 nx78 k50 s49 x51 hk52 hx53 hn79 h => wpC_seq <| reg_s <| st rfl <| b_lss (k := .i64) rfl rfl <| sq [q2 0 cc1 v0, q2 1 cc11 v1, q2 5 cc12 s49, q2 8 cc1 v0, q2 9 cI (v0.length : Int), q2 10 cI (k50 : Int), q2 11 cB (decide ((k50 : Int) < (v0.length : Int)))] <|
  xn <| wpC_seq <| wpC_kp <| cnd1 rfl (dlt hk52) <| wpC_skip <| kpN [q2 0 cc1 v0, q2 1 cc11 v1, q2 5 cc12 s49, q2 8 cc1 v0, q2 9 cI (v0.length : Int), q2 10 cI (k50 : Int)] (by kernel_rfl) <| xn <| wpC_seq <| wpC_kp <| wpC_blk <| wpC_seq <| reg_s <| st rfl <| mvd rfl rfl <| st rfl <| ias rfl rfl (Int.natCast_nonneg _) hx53 rfl <| st rfl <| ldi rfl rfl rfl rfl <| x_all cc10 (⟨([] : List Int)⟩ : XEdit) rfl <| x_asg (ss rfl rfl) <| x_stb (ss rfl rfl) rfl (Cd.h_sz _ _) rfl <| sq [q2 0 cc1 v0, q2 1 cc11 v1, q2 5 cc12 s49, q2 6 cI (k50 : Int), q3 7 cc8 x51, q2 8 cc1 v0, q2 9 cI (v0.length : Int), q2 10 cI (k50 : Int)] <|
  xn <| wpC_seq <| reg_s <| st rfl <| ldb rfl rfl rfl rfl <| st rfl <| mvd rfl rfl <| bnd h fun x89 e90 h => st rfl <| o_call (a1 (c := cc8) (tXEdit (tLs tK)) rfl (a1 (c := cc11) (tLs tK) rfl a0)) (con_spec_eFails e90) (.inl (so1 sB so0)) <| sq [q2 0 cc1 v0, q2 1 cc11 v1, q2 5 cc12 s49, q2 6 cI (k50 : Int), q2 8 cc1 v0, q2 9 cI (v0.length : Int), q2 10 cI (k50 : Int), q2 17 cB x89] <|
  xn <| cnd rfl h (fun b91 h => reg_s <| st rfl <| mvo rfl rfl <| st rfl <| mvd rfl rfl <| x_bsl cI [(k50 : Int)] (t1 (ss rfl rfl) rfl t0) rfl rfl <| lnO_k h fun l92 h => x_app (sr rfl rfl) (to rfl rfl) l92 rfl <| x_asg (so rfl rfl) <| sq [q2 0 cc1 v0, q2 1 cc11 v1, q2 5 cc12 (s49 ++ [(k50 : Int)]), q2 8 cc1 v0, q2 9 cI (v0.length : Int), q2 10 cI (k50 : Int)] <|
  xbb <| kpN [q2 0 cc1 v0, q2 1 cc11 v1, q2 5 cc12 (s49 ++ [(k50 : Int)]), q2 8 cc1 v0, q2 9 cI (v0.length : Int), q2 10 cI (k50 : Int)] (by kernel_rfl) <| xn <| reg_s <| st rfl <| b_inc rfl rfl l48 hk52 <| st rfl <| mvd rfl rfl <| sq [q2 0 cc1 v0, q2 1 cc11 v1, q2 5 cc12 (s49 ++ [(k50 : Int)]), q2 8 cc1 v0, q2 9 cI (v0.length : Int), q2 10 cI ((k50 + 1 : Nat) : Int)] <|
  xn <| hn79 (s49 ++ [(k50 : Int)]) h)
  (fun b91 h => wpC_skip <| xbb <| kpN [q2 0 cc1 v0, q2 1 cc11 v1, q2 5 cc12 s49, q2 8 cc1 v0, q2 9 cI (v0.length : Int), q2 10 cI (k50 : Int)] (by kernel_rfl) <| xn <| reg_s <| st rfl <| b_inc rfl rfl l48 hk52 <| st rfl <| mvd rfl rfl <| sq [q2 0 cc1 v0, q2 1 cc11 v1, q2 5 cc12 s49, q2 8 cc1 v0, q2 9 cI (v0.length : Int), q2 10 cI ((k50 + 1 : Nat) : Int)] <|
  xn <| hn79 s49 h))

def rs_impl_isWord (r : Bool) : List D := [cB.enc r]
def m126 : MC := .seq (.reg [q1 2 (.asg (.c (.bool false)))] [0])
 (.seq (.kp [0] (.seq (.reg [q1 4 (.mv (.t 0)),q1 5 (.len true (.t 4)),q1 6 (.bin .lss (.t 5) (.c (.int .i64 1))),q1 7 (.mv (.t 6)),
  ⟨some 8, .mv (.t 0), some (7, false)⟩,
  ⟨some 9, .len true (.t 8), some (7, false)⟩,
  ⟨some 10, .bin .gtr (.t 9) (.c (.int .i64 8)), some (7, false)⟩,q1 11 (.pick (.t 7) (.c (.bool true)) (.t 10))] [0, 11])
 (.cond (.t 11) (.seq (.reg [q1 2 (.asg (.c (.bool false)))] [2])
 (.ret)) (.skip))))
 (.seq (.kp [] (.seq (.reg [q1 12 (.mv (.t 0)),q1 13 (.len true (.t 12)),q1 14 (.mv (.c (.int .i64 0)))] [0, 13, 14])
 (.blk 0 (.loop (.seq (.reg [q1 15 (.bin .lss (.t 14) (.t 13))] [0, 13, 14, 15])
 (.seq (.kp [0, 13, 14] (.cond (.t 15) (.skip) (.exit 0)))
 (.seq (.kp [0, 13, 14] (.blk 1 (.seq (.reg [q1 16 (.mv (.t 14)),q1 3 (.asg (.t 16))] [0, 3, 13, 14])
 (.seq (.reg [q1 17 (.mv (.t 0)),q1 18 (.mv (.t 3)),q1 19 (.ix (.t 17) (.t 18)),q1 20 (.bin .lss (.t 19) (.c (.int .u8 97))),q1 21 (.mv (.t 20)),
  ⟨some 22, .mv (.t 0), some (21, false)⟩,
  ⟨some 23, .mv (.t 3), some (21, false)⟩,
  ⟨some 24, .ix (.t 22) (.t 23), some (21, false)⟩,
  ⟨some 25, .bin .gtr (.t 24) (.c (.int .u8 122)), some (21, false)⟩,q1 26 (.pick (.t 21) (.c (.bool true)) (.t 25))] [0, 13, 14, 26])
 (.cond (.t 26) (.seq (.reg [q1 2 (.asg (.c (.bool false)))] [2])
 (.ret)) (.skip))))))
 (.reg [q1 27 (.bin .add (.t 14) (.c (.int .i64 1))),q1 14 (.mv (.t 27))] [0, 13, 14]))))))))
 (.seq (.reg [q1 2 (.asg (.c (.bool true)))] [2])
 (.ret))))
theorem con_impl_isWord {v0 : (List UInt8)} {r : Bool} (h : sh_impl_isWord v0 = some r) : Con Try.prog 126 [cS.enc v0] [] (rs_impl_isWord r) := by
 delta sh_impl_isWord at h
 refine top (out := none) (f := Try.f126) (m := m126) (rs := [.t 2]) (by kernel_rfl) rfl (by kernel_rfl) (by kernel_rfl) (by kernel_rfl) (by kernel_rfl) (by kernel_rfl) ?_
 exact
  ini [q2 0 cS v0] rfl <| wpC_seq <| reg_s <| x_asg (sc cB false rfl) <| sq [q2 0 cS v0] <|
  xn <| wpC_seq <| wpC_kp <| wpC_seq <| reg_s <| st rfl <| mvd rfl rfl <| stw rfl <| lent rfl fun l11 => st rfl <| b_lss (k := .i64) rfl rfl <| st rfl <| mvd rfl rfl <| ite_k h (fun b12 h => gf rfl b12 <| gf rfl b12 <| gf rfl b12 <| st rfl <| pick1 rfl b12 (cd := cB) (v := true) rfl rfl <| sq [q2 0 cS v0, q2 11 cB true] <|
  xn <| cnd1 rfl rfl <| wpC_seq <| reg_s <| x_asg (sc cB false rfl) <| sq [q2 2 cB false] <|
  xn <| wpC_ret <| rt <| rt <| re <| fin h (r1 (ss rfl rfl) <| r0) rfl)
  (fun b12 h => gt' rfl b12 <| st rfl <| mvd rfl rfl <| gt' rfl b12 <| stw rfl <| lent rfl fun l13 => gt' rfl b12 <| st rfl <| b_gtr (k := .i64) rfl rfl <| st rfl <| pick0 rfl b12 (cd := cB) (v := (decide ((8 : Int) < (v0.length : Int)))) rfl rfl <| sq [q2 0 cS v0, q2 11 cB (decide ((8 : Int) < (v0.length : Int)))] <|
  xn <| cnd rfl h (fun b14 h => wpC_seq <| reg_s <| x_asg (sc cB false rfl) <| sq [q2 2 cB false] <|
  xn <| wpC_ret <| rt <| rt <| re <| fin h (r1 (ss rfl rfl) <| r0) rfl)
  (fun b14 h => wpC_skip <| kpN [q2 0 cS v0] (by kernel_rfl) <| xn <| wpC_seq <| wpC_kp <| wpC_seq <| reg_s <| st rfl <| mvd rfl rfl <| stw rfl <| lent rfl fun l38 => st rfl <| mvc cI (0 : Int) rfl <| sq [q2 0 cS v0, q2 13 cI (v0.length : Int), q2 14 cI (0 : Int)] <|
  xn <| wpC_blk <| lpR (fun (k40 : Nat) (s39 : Unit) => [q2 0 cS v0, q2 13 cI (v0.length : Int), q2 14 cI (k40 : Int)]) () rfl h
  (fun G52 s39 h => wpC_seq <| reg_s <| st rfl <| b_lss (k := .i64) rfl rfl <| sq [q2 0 cS v0, q2 13 cI (v0.length : Int), q2 14 cI (v0.length : Int), q2 15 cB (decide ((v0.length : Int) < (v0.length : Int)))] <|
  xn <| wpC_seq <| wpC_kp <| cnd0 rfl (dlf _) <| wpC_exit <| xt <| xt <| xt <| xb <| kpN [] (by kernel_rfl) <| xn <| wpC_seq <| reg_s <| x_asg (sc cB true rfl) <| sq [q2 2 cB true] <|
  xn <| wpC_ret <| re <| fin h (r1 (ss rfl rfl) <| r0) rfl)
  (fun G52 nx50 k40 s39 x41 hk42 hx43 hn51 h => wpC_seq <| reg_s <| st rfl <| b_lss (k := .i64) rfl rfl <| sq [q2 0 cS v0, q2 13 cI (v0.length : Int), q2 14 cI (k40 : Int), q2 15 cB (decide ((k40 : Int) < (v0.length : Int)))] <|
  xn <| wpC_seq <| wpC_kp <| cnd1 rfl (dlt hk42) <| wpC_skip <| kpN [q2 0 cS v0, q2 13 cI (v0.length : Int), q2 14 cI (k40 : Int)] (by kernel_rfl) <| xn <| wpC_seq <| wpC_kp <| wpC_blk <| wpC_seq <| reg_s <| st rfl <| mvd rfl rfl <| x_asg (ss rfl rfl) <| sq [q2 0 cS v0, q2 3 cI (k40 : Int), q2 13 cI (v0.length : Int), q2 14 cI (k40 : Int)] <|
  xn <| wpC_seq <| reg_s <| st rfl <| mvd rfl rfl <| st rfl <| mvd rfl rfl <| st rfl <| o_ix (k := .i64) rfl rfl (Int.natCast_nonneg _) hx43 <| st rfl <| b_lss (k := .u8) rfl rfl <| st rfl <| mvd rfl rfl <| ite_k h (fun b57 h => gf rfl b57 <| gf rfl b57 <| gf rfl b57 <| gf rfl b57 <| st rfl <| pick1 rfl b57 (cd := cB) (v := true) rfl rfl <| sq [q2 0 cS v0, q2 13 cI (v0.length : Int), q2 14 cI (k40 : Int), q2 26 cB true] <|
  xn <| cnd1 rfl rfl <| wpC_seq <| reg_s <| x_asg (sc cB false rfl) <| sq [q2 2 cB false] <|
  xn <| wpC_ret <| rb <| rt <| rt <| rt <| rb <| rt <| rt <| re <| fin h (r1 (ss rfl rfl) <| r0) rfl)
  (fun b57 h => gt' rfl b57 <| st rfl <| mvd rfl rfl <| gt' rfl b57 <| st rfl <| mvd rfl rfl <| gt' rfl b57 <| st rfl <| o_ix (k := .i64) rfl rfl (Int.natCast_nonneg _) hx43 <| gt' rfl b57 <| st rfl <| b_gtr (k := .u8) rfl rfl <| st rfl <| pick0 rfl b57 (cd := cB) (v := (decide ((122 : Int) < (x41.toNat : Int)))) rfl rfl <| sq [q2 0 cS v0, q2 13 cI (v0.length : Int), q2 14 cI (k40 : Int), q2 26 cB (decide ((122 : Int) < (x41.toNat : Int)))] <|
  xn <| cnd rfl h (fun b58 h => wpC_seq <| reg_s <| x_asg (sc cB false rfl) <| sq [q2 2 cB false] <|
  xn <| wpC_ret <| rb <| rt <| rt <| rt <| rb <| rt <| rt <| re <| fin h (r1 (ss rfl rfl) <| r0) rfl)
  (fun b58 h => wpC_skip <| xbb <| kpN [q2 0 cS v0, q2 13 cI (v0.length : Int), q2 14 cI (k40 : Int)] (by kernel_rfl) <| xn <| reg_s <| st rfl <| b_inc rfl rfl l38 hk42 <| st rfl <| mvd rfl rfl <| sq [q2 0 cS v0, q2 13 cI (v0.length : Int), q2 14 cI ((k40 + 1 : Nat) : Int)] <|
  xn <| hn51 () h)))))

def rs_impl_IsSchema (r : Bool) : List D := [cB.enc r]
def m63 : MC := .seq (.reg [q1 2 (.asg (.c (.bool false)))] [0])
 (.seq (.kp [0] (.seq (.reg [q1 7 (.mv (.t 0)),q1 8 (.len false (.t 7)),q1 9 (.bin .lss (.t 8) (.c (.int .i64 1))),q1 10 (.mv (.t 9)),
  ⟨some 11, .mv (.t 0), some (10, false)⟩,
  ⟨some 12, .len false (.t 11), some (10, false)⟩,
  ⟨some 13, .bin .gtr (.t 12) (.c (.int .i64 6)), some (10, false)⟩,q1 14 (.pick (.t 10) (.c (.bool true)) (.t 13))] [0, 14])
 (.cond (.t 14) (.seq (.reg [q1 2 (.asg (.c (.bool false)))] [2])
 (.ret)) (.skip))))
 (.seq (.kp [] (.seq (.reg [q1 15 (.mv (.t 0)),q1 16 (.len false (.t 15)),q1 17 (.mv (.c (.int .i64 0)))] [0, 15, 16, 17])
 (.blk 0 (.loop (.seq (.reg [q1 18 (.bin .lss (.t 17) (.t 16))] [0, 15, 16, 17, 18])
 (.seq (.kp [0, 15, 16, 17] (.cond (.t 18) (.skip) (.exit 0)))
 (.seq (.kp [0, 15, 16, 17] (.blk 1 (.seq (.reg [q1 19 (.mv (.t 17)),q1 20 (.ia 15 (.t 17) 2),q1 21 (.ld 20 2 true),q1 4 (.alloc (.agg [.str [], .int .i64 0])),q1 3 (.asg (.t 19)),q0 (.st 4 (.t 21) 2)] [0, 3, 4, 15, 16, 17])
 (.seq (.kp [0, 3, 4, 15, 16, 17] (.seq (.reg [q1 22 (.fa 4 0 0),q1 23 (.ld 22 1 false),q1 24 (.call 126 [(.t 23)]),q1 25 (.nt (.t 24)),q1 26 (.mv (.t 25)),
  ⟨some 27, .fa 4 1 1, some (26, false)⟩,
  ⟨some 28, .ld 27 1 false, some (26, false)⟩,
  ⟨some 29, .bin .lss (.t 28) (.c (.int .i64 2)), some (26, false)⟩,q1 30 (.pick (.t 26) (.c (.bool true)) (.t 29)),q1 31 (.mv (.t 30)),
  ⟨some 32, .fa 4 1 1, some (31, false)⟩,
  ⟨some 33, .ld 32 1 false, some (31, false)⟩,
  ⟨some 34, .bin .gtr (.t 33) (.c (.int .i64 8)), some (31, false)⟩,q1 35 (.pick (.t 31) (.c (.bool true)) (.t 34))] [0, 3, 4, 15, 16, 17, 35])
 (.cond (.t 35) (.seq (.reg [q1 2 (.asg (.c (.bool false)))] [2])
 (.ret)) (.skip))))
 (.seq (.reg [q1 36 (.mv (.t 0)),q1 37 (.mv (.t 3)),q1 38 (.sl (.t 36) none (some (.t 37)) 2),q1 39 (.len false (.t 38)),q1 40 (.mv (.c (.int .i64 0)))] [0, 4, 15, 16, 17, 38, 39, 40])
 (.blk 2 (.loop (.seq (.reg [q1 41 (.bin .lss (.t 40) (.t 39))] [0, 4, 15, 16, 17, 38, 39, 40, 41])
 (.seq (.kp [0, 4, 15, 16, 17, 38, 39, 40] (.cond (.t 41) (.skip) (.exit 2)))
 (.seq (.kp [0, 4, 15, 16, 17, 38, 39, 40] (.blk 3 (.seq (.reg [q1 42 (.ia 38 (.t 40) 2),q1 43 (.ld 42 2 true),q1 6 (.alloc (.agg [.str [], .int .i64 0])),q0 (.st 6 (.t 43) 2)] [0, 4, 6, 15, 16, 17, 38, 39, 40])
 (.seq (.reg [q1 44 (.fa 6 0 0),q1 45 (.ld 44 1 false),q1 46 (.fa 4 0 0),q1 47 (.ld 46 1 false),q1 48 (.bin .eql (.t 45) (.t 47))] [0, 4, 15, 16, 17, 38, 39, 40, 48])
 (.cond (.t 48) (.seq (.reg [q1 2 (.asg (.c (.bool false)))] [2])
 (.ret)) (.skip))))))
 (.reg [q1 49 (.bin .add (.t 40) (.c (.int .i64 1))),q1 40 (.mv (.t 49))] [0, 4, 15, 16, 17, 38, 39, 40])))))))))))
 (.reg [q1 50 (.bin .add (.t 17) (.c (.int .i64 1))),q1 17 (.mv (.t 50))] [0, 15, 16, 17]))))))))
 (.seq (.reg [q1 2 (.asg (.c (.bool true)))] [2])
 (.ret))))
theorem con_impl_IsSchema {v0 : (List XVariable)} {r : Bool} (h : sh_impl_IsSchema v0 = some r) : Con Try.prog 63 [cc4.enc v0] [] (rs_impl_IsSchema r) := by
 delta sh_impl_IsSchema at h
 refine top (out := none) (f := Try.f63) (m := m63) (rs := [.t 2]) (by kernel_rfl) rfl (by kernel_rfl) (by kernel_rfl) (by kernel_rfl) (by kernel_rfl) (by kernel_rfl) ?_
 exact
  ini [q2 0 cc4 v0] rfl <| wpC_seq <| reg_s <| x_asg (sc cB false rfl) <| sq [q2 0 cc4 v0] <|
  xn <| wpC_seq <| wpC_kp <| wpC_seq <| reg_s <| st rfl <| mvd rfl rfl <| stw rfl <| lens rfl fun l11 => st rfl <| b_lss (k := .i64) rfl rfl <| st rfl <| mvd rfl rfl <| ite_k h (fun b12 h => gf rfl b12 <| gf rfl b12 <| gf rfl b12 <| st rfl <| pick1 rfl b12 (cd := cB) (v := true) rfl rfl <| sq [q2 0 cc4 v0, q2 14 cB true] <|
  xn <| cnd1 rfl rfl <| wpC_seq <| reg_s <| x_asg (sc cB false rfl) <| sq [q2 2 cB false] <|
  xn <| wpC_ret <| rt <| rt <| re <| fin h (r1 (ss rfl rfl) <| r0) rfl)
  (fun b12 h => gt' rfl b12 <| st rfl <| mvd rfl rfl <| gt' rfl b12 <| stw rfl <| lens rfl fun l13 => gt' rfl b12 <| st rfl <| b_gtr (k := .i64) rfl rfl <| st rfl <| pick0 rfl b12 (cd := cB) (v := (decide ((6 : Int) < (v0.length : Int)))) rfl rfl <| sq [q2 0 cc4 v0, q2 14 cB (decide ((6 : Int) < (v0.length : Int)))] <|
  xn <| cnd rfl h (fun b14 h => wpC_seq <| reg_s <| x_asg (sc cB false rfl) <| sq [q2 2 cB false] <|
  xn <| wpC_ret <| rt <| rt <| re <| fin h (r1 (ss rfl rfl) <| r0) rfl)
  (fun b14 h => wpC_skip <| kpN [q2 0 cc4 v0] (by kernel_rfl) <| xn <| wpC_seq <| wpC_kp <| wpC_seq <| reg_s <| st rfl <| mvd rfl rfl <| stw rfl <| lens rfl fun l162 => st rfl <| mvc cI (0 : Int) rfl <| sq [q2 0 cc4 v0, q2 15 cc4 v0, q2 16 cI (v0.length : Int), q2 17 cI (0 : Int)] <|
  xn <| wpC_blk <| lpR (fun (k164 : Nat) (s163 : Unit) => [q2 0 cc4 v0, q2 15 cc4 v0, q2 16 cI (v0.length : Int), q2 17 cI (k164 : Int)]) () rfl h
  (fun G238 s163 h => wpC_seq <| reg_s <| st rfl <| b_lss (k := .i64) rfl rfl <| sq [q2 0 cc4 v0, q2 15 cc4 v0, q2 16 cI (v0.length : Int), q2 17 cI (v0.length : Int), q2 18 cB (decide ((v0.length : Int) < (v0.length : Int)))] <|
  xn <| wpC_seq <| wpC_kp <| cnd0 rfl (dlf _) <| wpC_exit <| xt <| xt <| xt <| xb <| kpN [] (by kernel_rfl) <| xn <| wpC_seq <| reg_s <| x_asg (sc cB true rfl) <| sq [q2 2 cB true] <|
  xn <| wpC_ret <| re <| fin h (r1 (ss rfl rfl) <| r0) rfl)
  (fun G238 nx236 k164 s163 x165 hk166 hx167 hn237 h => wpC_seq <| reg_s <| st rfl <| b_lss (k := .i64) rfl rfl <| sq [q2 0 cc4 v0, q2 15 cc4 v0, q2 16 cI (v0.length : Int), q2 17 cI (k164 : Int), q2 18 cB (decide ((k164 : Int) < (v0.length : Int)))] <|
  xn <| wpC_seq <| wpC_kp <| cnd1 rfl (dlt hk166) <| wpC_skip <| kpN [q2 0 cc4 v0, q2 15 cc4 v0, q2 16 cI (v0.length : Int), q2 17 cI (k164 : Int)] (by kernel_rfl) <| xn <| wpC_seq <| wpC_kp <| wpC_blk <| wpC_seq <| reg_s <| st rfl <| mvd rfl rfl <| st rfl <| ias rfl rfl (Int.natCast_nonneg _) hx167 rfl <| st rfl <| ldi rfl rfl rfl rfl <| x_all cc9 (⟨([] : List UInt8), (0 : Int)⟩ : XVariable) rfl <| x_asg (ss rfl rfl) <| x_stb (ss rfl rfl) rfl (Cd.h_sz _ _) rfl <| sq [q2 0 cc4 v0, q2 3 cI (k164 : Int), q3 4 cc9 x165, q2 15 cc4 v0, q2 16 cI (v0.length : Int), q2 17 cI (k164 : Int)] <|
  xn <| wpC_seq <| wpC_kp <| wpC_seq <| reg_s <| st rfl <| fab rfl rfl rfl rfl <| st rfl <| lda rfl rfl rfl rfl rfl rfl <| bnd h fun x286 e287 h => st rfl <| o_call (a1 (c := cS) tS rfl a0) (con_impl_isWord e287) (.inl (so1 sB so0)) <| st rfl <| o_nt rfl <| st rfl <| mvd rfl rfl <| ite_k h (fun b288 h => gf rfl b288 <| gf rfl b288 <| gf rfl b288 <| st rfl <| pick1 rfl b288 (cd := cB) (v := true) rfl rfl <| st rfl <| mvd rfl rfl <| gf rfl rfl <| gf rfl rfl <| gf rfl rfl <| st rfl <| pick1 rfl rfl (cd := cB) (v := true) rfl rfl <| sq [q2 0 cc4 v0, q2 3 cI (k164 : Int), q3 4 cc9 x165, q2 15 cc4 v0, q2 16 cI (v0.length : Int), q2 17 cI (k164 : Int), q2 35 cB true] <|
  xn <| cnd1 rfl rfl <| wpC_seq <| reg_s <| x_asg (sc cB false rfl) <| sq [q2 2 cB false] <|
  xn <| wpC_ret <| rt <| rt <| rb <| rt <| rt <| rt <| rb <| rt <| rt <| re <| fin h (r1 (ss rfl rfl) <| r0) rfl)
  (fun b288 h => gt' rfl b288 <| st rfl <| fab rfl rfl rfl rfl <| gt' rfl b288 <| st rfl <| lda rfl rfl rfl rfl rfl rfl <| gt' rfl b288 <| st rfl <| b_lss (k := .i64) rfl rfl <| st rfl <| pick0 rfl b288 (cd := cB) (v := (decide (x165.Levels < (2 : Int)))) rfl rfl <| st rfl <| mvd rfl rfl <| ite_k h (fun b289 h => gf rfl b289 <| gf rfl b289 <| gf rfl b289 <| st rfl <| pick1 rfl b289 (cd := cB) (v := true) rfl rfl <| sq [q2 0 cc4 v0, q2 3 cI (k164 : Int), q3 4 cc9 x165, q2 15 cc4 v0, q2 16 cI (v0.length : Int), q2 17 cI (k164 : Int), q2 35 cB true] <|
  xn <| cnd1 rfl rfl <| wpC_seq <| reg_s <| x_asg (sc cB false rfl) <| sq [q2 2 cB false] <|
  xn <| wpC_ret <| rt <| rt <| rb <| rt <| rt <| rt <| rb <| rt <| rt <| re <| fin h (r1 (ss rfl rfl) <| r0) rfl)
  (fun b289 h => gt' rfl b289 <| st rfl <| fab rfl rfl rfl rfl <| gt' rfl b289 <| st rfl <| lda rfl rfl rfl rfl rfl rfl <| gt' rfl b289 <| st rfl <| b_gtr (k := .i64) rfl rfl <| st rfl <| pick0 rfl b289 (cd := cB) (v := (decide ((8 : Int) < x165.Levels))) rfl rfl <| sq [q2 0 cc4 v0, q2 3 cI (k164 : Int), q3 4 cc9 x165, q2 15 cc4 v0, q2 16 cI (v0.length : Int), q2 17 cI (k164 : Int), q2 35 cB (decide ((8 : Int) < x165.Levels))] <|
  xn <| cnd rfl h (fun b290 h => wpC_seq <| reg_s <| x_asg (sc cB false rfl) <| sq [q2 2 cB false] <|
  xn <| wpC_ret <| rt <| rt <| rb <| rt <| rt <| rt <| rb <| rt <| rt <| re <| fin h (r1 (ss rfl rfl) <| r0) rfl)
  (fun b290 h => wpC_skip <| kpN [q2 0 cc4 v0, q2 3 cI (k164 : Int), q3 4 cc9 x165, q2 15 cc4 v0, q2 16 cI (v0.length : Int), q2 17 cI (k164 : Int)] (by kernel_rfl) <| xn <| wpC_seq <| reg_s <| st rfl <| mvd rfl rfl <| st rfl <| mvd rfl rfl <| ck_k h fun i293 h => st rfl <| o_sl rfl rfl lo0 (hi1 (k := .i64) rfl i293.1) i293.2 <| stw rfl <| lens rfl fun l294 => st rfl <| mvc cI (0 : Int) rfl <| sq [q2 0 cc4 v0, q3 4 cc9 x165, q2 15 cc4 v0, q2 16 cI (v0.length : Int), q2 17 cI (k164 : Int), q2 38 cc4 ((v0.take ((k164 : Int)).toNat).drop 0), q2 39 cI (((v0.take ((k164 : Int)).toNat).drop 0).length : Int), q2 40 cI (0 : Int)] <|
  xn <| wpC_blk <| lpR (fun (k296 : Nat) (s295 : Unit) => [q2 0 cc4 v0, q3 4 cc9 x165, q2 15 cc4 v0, q2 16 cI (v0.length : Int), q2 17 cI (k164 : Int), q2 38 cc4 ((v0.take ((k164 : Int)).toNat).drop 0), q2 39 cI (((v0.take ((k164 : Int)).toNat).drop 0).length : Int), q2 40 cI (k296 : Int)]) () rfl h
  (fun G304 s295 h => wpC_seq <| reg_s <| st rfl <| b_lss (k := .i64) rfl rfl <| sq [q2 0 cc4 v0, q3 4 cc9 x165, q2 15 cc4 v0, q2 16 cI (v0.length : Int), q2 17 cI (k164 : Int), q2 38 cc4 ((v0.take ((k164 : Int)).toNat).drop 0), q2 39 cI (((v0.take ((k164 : Int)).toNat).drop 0).length : Int), q2 40 cI (((v0.take ((k164 : Int)).toNat).drop 0).length : Int), q2 41 cB (decide ((((v0.take ((k164 : Int)).toNat).drop 0).length : Int) < (((v0.take ((k164 : Int)).toNat).drop 0).length : Int)))] <|
  xn <| wpC_seq <| wpC_kp <| cnd0 rfl (dlf _) <| wpC_exit <| xt <| xt <| xt <| xb <| xbb <| kpN [q2 0 cc4 v0, q2 15 cc4 v0, q2 16 cI (v0.length : Int), q2 17 cI (k164 : Int)] (by kernel_rfl) <| xn <| reg_s <| st rfl <| b_inc rfl rfl l162 hk166 <| st rfl <| mvd rfl rfl <| sq [q2 0 cc4 v0, q2 15 cc4 v0, q2 16 cI (v0.length : Int), q2 17 cI ((k164 + 1 : Nat) : Int)] <|
  xn <| hn237 () h)
  (fun G304 nx302 k296 s295 x297 hk298 hx299 hn303 h => wpC_seq <| reg_s <| st rfl <| b_lss (k := .i64) rfl rfl <| sq [q2 0 cc4 v0, q3 4 cc9 x165, q2 15 cc4 v0, q2 16 cI (v0.length : Int), q2 17 cI (k164 : Int), q2 38 cc4 ((v0.take ((k164 : Int)).toNat).drop 0), q2 39 cI (((v0.take ((k164 : Int)).toNat).drop 0).length : Int), q2 40 cI (k296 : Int), q2 41 cB (decide ((k296 : Int) < (((v0.take ((k164 : Int)).toNat).drop 0).length : Int)))] <|
  xn <| wpC_seq <| wpC_kp <| cnd1 rfl (dlt hk298) <| wpC_skip <| kpN [q2 0 cc4 v0, q3 4 cc9 x165, q2 15 cc4 v0, q2 16 cI (v0.length : Int), q2 17 cI (k164 : Int), q2 38 cc4 ((v0.take ((k164 : Int)).toNat).drop 0), q2 39 cI (((v0.take ((k164 : Int)).toNat).drop 0).length : Int), q2 40 cI (k296 : Int)] (by kernel_rfl) <| xn <| wpC_seq <| wpC_kp <| wpC_blk <| wpC_seq <| reg_s <| st rfl <| ias rfl rfl (Int.natCast_nonneg _) hx299 rfl <| st rfl <| ldi rfl rfl rfl rfl <| x_all cc9 (⟨([] : List UInt8), (0 : Int)⟩ : XVariable) rfl <| x_stb (ss rfl rfl) rfl (Cd.h_sz _ _) rfl <| sq [q2 0 cc4 v0, q3 4 cc9 x165, q3 6 cc9 x297, q2 15 cc4 v0, q2 16 cI (v0.length : Int), q2 17 cI (k164 : Int), q2 38 cc4 ((v0.take ((k164 : Int)).toNat).drop 0), q2 39 cI (((v0.take ((k164 : Int)).toNat).drop 0).length : Int), q2 40 cI (k296 : Int)] <|
  xn <| wpC_seq <| reg_s <| st rfl <| fab rfl rfl rfl rfl <| st rfl <| lda rfl rfl rfl rfl rfl rfl <| st rfl <| fab rfl rfl rfl rfl <| st rfl <| lda rfl rfl rfl rfl rfl rfl <| st rfl <| b_seq rfl rfl <| sq [q2 0 cc4 v0, q3 4 cc9 x165, q2 15 cc4 v0, q2 16 cI (v0.length : Int), q2 17 cI (k164 : Int), q2 38 cc4 ((v0.take ((k164 : Int)).toNat).drop 0), q2 39 cI (((v0.take ((k164 : Int)).toNat).drop 0).length : Int), q2 40 cI (k296 : Int), q2 48 cB (decide (x297.Name = x165.Name))] <|
  xn <| cnd rfl h (fun b306 h => wpC_seq <| reg_s <| x_asg (sc cB false rfl) <| sq [q2 2 cB false] <|
  xn <| wpC_ret <| rb <| rt <| rt <| rt <| rb <| rb <| rt <| rt <| rt <| rb <| rt <| rt <| re <| fin h (r1 (ss rfl rfl) <| r0) rfl)
  (fun b306 h => wpC_skip <| xbb <| kpN [q2 0 cc4 v0, q3 4 cc9 x165, q2 15 cc4 v0, q2 16 cI (v0.length : Int), q2 17 cI (k164 : Int), q2 38 cc4 ((v0.take ((k164 : Int)).toNat).drop 0), q2 39 cI (((v0.take ((k164 : Int)).toNat).drop 0).length : Int), q2 40 cI (k296 : Int)] (by kernel_rfl) <| xn <| reg_s <| st rfl <| b_inc rfl rfl l294 hk298 <| st rfl <| mvd rfl rfl <| sq [q2 0 cc4 v0, q3 4 cc9 x165, q2 15 cc4 v0, q2 16 cI (v0.length : Int), q2 17 cI (k164 : Int), q2 38 cc4 ((v0.take ((k164 : Int)).toNat).drop 0), q2 39 cI (((v0.take ((k164 : Int)).toNat).drop 0).length : Int), q2 40 cI ((k296 + 1 : Nat) : Int)] <|
  xn <| hn303 () h))))))))

end AS.W
