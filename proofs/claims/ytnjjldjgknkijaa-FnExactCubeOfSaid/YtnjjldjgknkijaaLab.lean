/- The program computes the plain functions. No condition. -/
import Derived.Test.YtnjjldjgknkijaaSab
import Derived.Test.YtnjjldjgknkijaaProg
import Derived.Test.YtnjjldjgknkijaaLaa
set_option maxRecDepth 100000
set_option linter.unusedVariables false
set_option linter.unusedSimpArgs false
namespace AS.W
open Go Go.Proofs
def rs_laws_eqIntSS (r : Bool) : List D := [cB.enc r]
def m23 : MC := .seq (.reg [⟨some 4, .asg (.c (.bool false)), none⟩] [0, 1])
  (.seq (.kp [0, 1] (.seq (.reg [⟨some 6, .mv (.t 0), none⟩,
    ⟨some 7, .len false (.t 6), none⟩,
    ⟨some 8, .mv (.t 1), none⟩,
    ⟨some 9, .len false (.t 8), none⟩,
    ⟨some 10, .bin .neq (.t 7) (.t 9), none⟩] [0, 1, 10])
  (.cond (.t 10) (.seq (.reg [⟨some 4, .asg (.c (.bool false)), none⟩] [4])
  (.ret)) (.skip))))
  (.seq (.kp [] (.seq (.reg [⟨some 5, .asg (.c (.int .i64 0)), none⟩] [0, 1, 5])
  (.blk 0 (.loop (.seq (.kp [0, 1, 5] (.seq (.reg [⟨some 11, .mv (.t 5), none⟩,
    ⟨some 12, .mv (.t 0), none⟩,
    ⟨some 13, .len false (.t 12), none⟩,
    ⟨some 14, .bin .lss (.t 11) (.t 13), none⟩] [0, 1, 5, 14])
  (.cond (.t 14) (.skip) (.exit 0))))
  (.seq (.kp [0, 1, 5] (.blk 1 (.seq (.drw [⟨0, ⟨some 17, .mv (.t 0), none⟩, [18, 19, 20, 21, 22, 23, 24, 25, 26]⟩,
    ⟨1, ⟨some 18, .mv (.t 5), none⟩, [17, 19, 20, 21, 22, 23, 24, 25, 26]⟩,
    ⟨2, ⟨some 19, .ia 17 (.t 18) 1, none⟩, [20, 21, 22, 23, 24, 25, 26]⟩,
    ⟨3, ⟨some 20, .ld 19 1 false, none⟩, [21, 22, 23, 24, 25, 26]⟩,
    ⟨4, ⟨some 21, .mv (.t 1), none⟩, [17, 18, 19, 20, 22, 23, 24, 25, 26]⟩,
    ⟨5, ⟨some 22, .mv (.t 5), none⟩, [17, 18, 19, 20, 21, 23, 24, 25, 26]⟩,
    ⟨6, ⟨some 23, .ia 21 (.t 22) 1, none⟩, [17, 18, 19, 20, 24, 25, 26]⟩,
    ⟨7, ⟨some 24, .ld 23 1 false, none⟩, [17, 18, 19, 20, 25, 26]⟩,
    ⟨8, ⟨some 25, .call 18 [(.t 20), (.t 24)], none⟩, [26]⟩,
    ⟨9, ⟨some 26, .nt (.t 25), none⟩, []⟩]
    [] [0, 1, 5, 26])
  (.cond (.t 26) (.seq (.reg [⟨some 4, .asg (.c (.bool false)), none⟩] [4])
  (.ret)) (.skip)))))
  (.reg [⟨some 15, .mv (.t 5), none⟩,
    ⟨some 16, .bin .add (.t 15) (.c (.int .i64 1)), none⟩,
    ⟨some 5, .asg (.t 16), none⟩] [0, 1, 5])))))))
  (.seq (.reg [⟨some 4, .asg (.c (.bool true)), none⟩] [4])
  (.ret))))
theorem con_laws_eqIntSS {v0 : (List (List Int))} {v1 : (List (List Int))} {r : Bool} (h : sh_laws_eqIntSS v0 v1 = some r) : Con Try.prog 23 [(cLs (cLs cI rfl) rfl).enc v0, (cLs (cLs cI rfl) rfl).enc v1] [] (rs_laws_eqIntSS r) := by
  delta sh_laws_eqIntSS at h
  refine top (out := none) (f := Try.f23) (m := m23) (rs := [.t 4]) (by kernel_rfl) rfl (by kernel_rfl) (by kernel_rfl) (by kernel_rfl) (by kernel_rfl) (by kernel_rfl) ?_
  exact
   ini [(0, .d ((cLs (cLs cI rfl) rfl).enc v0)), (1, .d ((cLs (cLs cI rfl) rfl).enc v1))] rfl <| wpC_seq <| reg_s <| x_asg (sc cB false rfl) <| seqN [(0, .d ((cLs (cLs cI rfl) rfl).enc v0)), (1, .d ((cLs (cLs cI rfl) rfl).enc v1))] (by kernel_rfl) <|
    xn <| wpC_seq <| wpC_kp <| wpC_seq <| reg_s <| st rfl <| mvd rfl rfl <| stw rfl <| lens rfl fun l8 => st rfl <| mvd rfl rfl <| stw rfl <| lens rfl fun l9 => st rfl <| b_neq (k := .i64) rfl rfl <| seqN [(0, .d ((cLs (cLs cI rfl) rfl).enc v0)), (1, .d ((cLs (cLs cI rfl) rfl).enc v1)), (10, .d (cB.enc (decide ((v0.length : Int) ≠ (v1.length : Int)))))] (by kernel_rfl) <|
    xn <| cnd rfl h (fun b10 h => wpC_seq <| reg_s <| x_asg (sc cB false rfl) <| seqN [(4, .d (cB.enc false))] (by kernel_rfl) <|
    xn <| wpC_ret <| rt <| rt <| re <| fin h (r1 (ss rfl rfl) <| r0) rfl)
    (fun b10 h => wpC_skip <| kpN [(0, .d ((cLs (cLs cI rfl) rfl).enc v0)), (1, .d ((cLs (cLs cI rfl) rfl).enc v1))] (by kernel_rfl) <| xn <| wpC_seq <| wpC_kp <| wpC_seq <| reg_s <| x_asg (sc cI (0 : Int) rfl) <| seqN [(0, .d ((cLs (cLs cI rfl) rfl).enc v0)), (1, .d ((cLs (cLs cI rfl) rfl).enc v1)), (5, .d (cI.enc (0 : Int)))] (by kernel_rfl) <|
    xn <| wpC_blk <| lpF (fun (s142 : Int) => [(0, .d ((cLs (cLs cI rfl) rfl).enc v0)), (1, .d ((cLs (cLs cI rfl) rfl).enc v1)), (5, .d (cI.enc s142))]) (0 : Int) rfl h
    fun G231 nx229 s142 hn230 h => wpC_seq <| wpC_kp <| wpC_seq <| reg_s <| st rfl <| mvd rfl rfl <| st rfl <| mvd rfl rfl <| stw rfl <| lens rfl fun l236 => st rfl <| b_lss (k := .i64) rfl rfl <| seqN [(0, .d ((cLs (cLs cI rfl) rfl).enc v0)), (1, .d ((cLs (cLs cI rfl) rfl).enc v1)), (5, .d (cI.enc s142)), (14, .d (cB.enc (decide (s142 < (v0.length : Int)))))] (by kernel_rfl) <|
    xn <| cnd rfl h (fun b237 h => wpC_skip <| kpN [(0, .d ((cLs (cLs cI rfl) rfl).enc v0)), (1, .d ((cLs (cLs cI rfl) rfl).enc v1)), (5, .d (cI.enc s142))] (by kernel_rfl) <| xn <| wpC_seq <| wpC_kp <| wpC_blk <| wpC_seq <| drw_s <| pst rfl <| mvd rfl rfl ⟨rfl, pst rfl <| mvd rfl rfl ⟨rfl, getO_kp h fun x263 i264 g265 h => pst rfl <| ias rfl rfl i264 g265 rfl ⟨rfl, pst rfl <| ldi rfl rfl rfl rfl ⟨rfl, pst rfl <| mvd rfl rfl ⟨rfl, pst rfl <| mvd rfl rfl ⟨rfl, getO_kp h fun x266 i267 g268 h => pst rfl <| ias rfl rfl i267 g268 rfl ⟨rfl, pst rfl <| ldi rfl rfl rfl rfl ⟨rfl, bndp h fun x269 e270 h => pst rfl <| o_call (a1 (c := (cLs cI rfl)) (tLs tK) rfl (a1 (c := (cLs cI rfl)) (tLs tK) rfl a0)) (con_laws_eqIntS e270) (.inl (so1 sB so0)) ⟨rfl, pst rfl <| o_nt rfl ⟨rfl, preN <| seqN [(0, .d ((cLs (cLs cI rfl) rfl).enc v0)), (1, .d ((cLs (cLs cI rfl) rfl).enc v1)), (5, .d (cI.enc s142)), (26, .d (cB.enc (!x269)))] (by kernel_rfl) <|
    xn <| cnd rfl h (fun b271 h => wpC_seq <| reg_s <| x_asg (sc cB false rfl) <| seqN [(4, .d (cB.enc false))] (by kernel_rfl) <|
    xn <| wpC_ret <| rb <| rt <| rt <| rt <| rb <| rt <| rt <| re <| fin h (r1 (ss rfl rfl) <| r0) rfl)
    (fun b271 h => wpC_skip <| xbb <| kpN [(0, .d ((cLs (cLs cI rfl) rfl).enc v0)), (1, .d ((cLs (cLs cI rfl) rfl).enc v1)), (5, .d (cI.enc s142))] (by kernel_rfl) <| xn <| reg_s <| st rfl <| mvd rfl rfl <| ckI_k h fun i272 h => st rfl <| b_add (k := .i64) rfl rfl i272 <| x_asg (ss rfl rfl) <| seqN [(0, .d ((cLs (cLs cI rfl) rfl).enc v0)), (1, .d ((cLs (cLs cI rfl) rfl).enc v1)), (5, .d (cI.enc (s142 + (1 : Int))))] (by kernel_rfl) <|
    xn <| hn230 (s142 + (1 : Int)) h)⟩⟩⟩⟩⟩⟩⟩⟩⟩⟩)
    (fun b237 h => wpC_exit <| xt <| xt <| xt <| xb <| kpN [] (by kernel_rfl) <| xn <| wpC_seq <| reg_s <| x_asg (sc cB true rfl) <| seqN [(4, .d (cB.enc true))] (by kernel_rfl) <|
    xn <| wpC_ret <| re <| fin h (r1 (ss rfl rfl) <| r0) rfl))

def os_laws_markIntSS (r : ((List (List Int)) × Int)) : D := (cLo (cLo cI)).enc r.1
def rs_laws_markIntSS (r : ((List (List Int)) × Int)) : List D := [cI.enc r.2]
def m24 : MC := .seq (.reg [⟨some 4, .asg (.c (.int .i64 0)), none⟩] [0, 1])
  (.seq (.kp [0, 1] (.seq (.reg [⟨some 5, .asg (.c (.int .i64 0)), none⟩] [0, 1, 5])
  (.blk 0 (.loop (.seq (.kp [0, 1, 5] (.seq (.reg [⟨some 6, .mv (.t 5), none⟩,
    ⟨some 7, .mv (.t 0), none⟩,
    ⟨some 8, .len false (.t 7), none⟩,
    ⟨some 9, .bin .lss (.t 6) (.t 8), none⟩] [0, 1, 5, 9])
  (.cond (.t 9) (.skip) (.exit 0))))
  (.seq (.kp [0, 1, 5] (.blk 1 (.reg [⟨some 12, .mv (.t 0), none⟩,
    ⟨some 13, .mv (.t 5), none⟩,
    ⟨some 14, .ia 12 (.t 13) 1, none⟩,
    ⟨some 15, .ld 14 1 false, none⟩,
    ⟨some 16, .mv (.t 1), none⟩,
    ⟨some 17, .callO 19 [(.t 15), (.t 16)], none⟩,
    ⟨some 1, .asg (.t 17), none⟩] [0, 1, 5])))
  (.reg [⟨some 10, .mv (.t 5), none⟩,
    ⟨some 11, .bin .add (.t 10) (.c (.int .i64 1)), none⟩,
    ⟨some 5, .asg (.t 11), none⟩] [0, 1, 5])))))))
  (.seq (.reg [⟨some 18, .mv (.t 1), none⟩,
    ⟨some 4, .asg (.t 18), none⟩] [0, 4])
  (.ret)))
theorem con_laws_markIntSS {v0 : (List (List Int))} {v1 : Int} {r : ((List (List Int)) × Int)} (h : sh_laws_markIntSS v0 v1 = some r) : Con Try.prog 24 [(cLo (cLo cI)).enc v0, cI.enc v1] (outsOf (some (os_laws_markIntSS r))) (rs_laws_markIntSS r) := by
  delta sh_laws_markIntSS at h
  refine top (out := some (os_laws_markIntSS r)) (f := Try.f24) (m := m24) (rs := [.t 4]) (by kernel_rfl) rfl (by kernel_rfl) (by kernel_rfl) (by kernel_rfl) (by kernel_rfl) (by kernel_rfl) ?_
  exact
   ini [(0, .d ((cLo (cLo cI)).enc v0)), (1, .d (cI.enc v1))] rfl <| wpC_seq <| reg_s <| x_asg (sc cI (0 : Int) rfl) <| seqN [(0, .d ((cLo (cLo cI)).enc v0)), (1, .d (cI.enc v1))] (by kernel_rfl) <|
    xn <| wpC_seq <| wpC_kp <| wpC_seq <| reg_s <| x_asg (sc cI (0 : Int) rfl) <| seqN [(0, .d ((cLo (cLo cI)).enc v0)), (1, .d (cI.enc v1)), (5, .d (cI.enc (0 : Int)))] (by kernel_rfl) <|
    xn <| wpC_blk <| lpF (fun (s60 : ((List (List Int)) × Int × Int)) => [(0, .d ((cLo (cLo cI)).enc s60.1)), (1, .d (cI.enc s60.2.1)), (5, .d (cI.enc s60.2.2))]) (v0, v1, (0 : Int)) rfl h
    fun G101 nx99 s60 hn100 h => wpC_seq <| wpC_kp <| wpC_seq <| reg_s <| st rfl <| mvd rfl rfl <| st rfl <| mvo rfl rfl <| stw rfl <| leno rfl fun l106 => st rfl <| b_lss (k := .i64) rfl rfl <| seqN [(0, .d ((cLo (cLo cI)).enc s60.1)), (1, .d (cI.enc s60.2.1)), (5, .d (cI.enc s60.2.2)), (9, .d (cB.enc (decide (s60.2.2 < (s60.1.length : Int)))))] (by kernel_rfl) <|
    xn <| cnd rfl h (fun b107 h => wpC_skip <| kpN [(0, .d ((cLo (cLo cI)).enc s60.1)), (1, .d (cI.enc s60.2.1)), (5, .d (cI.enc s60.2.2))] (by kernel_rfl) <| xn <| wpC_seq <| wpC_kp <| wpC_blk <| reg_s <| st rfl <| mvo rfl rfl <| st rfl <| mvd rfl rfl <| getO_k h fun x113 i114 g115 h => st rfl <| iar rfl rfl rfl rfl i114 g115 rfl <| st rfl <| ldao rfl rfl (Gt.idx g115 Gt.nil) rfl rfl rfl <| st rfl <| mvd rfl rfl <| bnd h fun x116 e117 h => x_clr (c := (cLo cI)) (c' := (cLo cI)) ((cLo (cLo cI)).enc (s60.1.set (s60.2.2).toNat x116.1)) (sLo sK) rfl (a1 (c := cI) tK rfl a0) rfl (Ln.idx g115 Ln.nil) (con_laws_markIntS e117) rfl rfl (so1 sK so0) <| x_asg (ss rfl rfl) <| seqN [(0, .d ((cLo (cLo cI)).enc (s60.1.set (s60.2.2).toNat x116.1))), (1, .d (cI.enc x116.2)), (5, .d (cI.enc s60.2.2))] (by kernel_rfl) <|
    xbb <| kpN [(0, .d ((cLo (cLo cI)).enc (s60.1.set (s60.2.2).toNat x116.1))), (1, .d (cI.enc x116.2)), (5, .d (cI.enc s60.2.2))] (by kernel_rfl) <| xn <| reg_s <| st rfl <| mvd rfl rfl <| ckI_k h fun i118 h => st rfl <| b_add (k := .i64) rfl rfl i118 <| x_asg (ss rfl rfl) <| seqN [(0, .d ((cLo (cLo cI)).enc (s60.1.set (s60.2.2).toNat x116.1))), (1, .d (cI.enc x116.2)), (5, .d (cI.enc (s60.2.2 + (1 : Int))))] (by kernel_rfl) <|
    xn <| hn100 ((s60.1.set (s60.2.2).toNat x116.1), x116.2, (s60.2.2 + (1 : Int))) h)
    (fun b107 h => wpC_exit <| xt <| xt <| xt <| xb <| kpN [(0, .d ((cLo (cLo cI)).enc s60.1)), (1, .d (cI.enc s60.2.1))] (by kernel_rfl) <| xn <| wpC_seq <| reg_s <| st rfl <| mvd rfl rfl <| x_asg (ss rfl rfl) <| seqN [(0, .d ((cLo (cLo cI)).enc s60.1)), (4, .d (cI.enc s60.2.1))] (by kernel_rfl) <|
    xn <| wpC_ret <| re <| finO h (r1 (ss rfl rfl) <| r0) rfl rfl)

def rs_laws_heldIntSS (r : Int) : List D := [cI.enc r]
def m25 : MC := .seq (.reg [⟨some 4, .asg (.c (.int .i64 0)), none⟩] [0, 1])
  (.seq (.kp [1] (.seq (.reg [⟨some 5, .asg (.c (.int .i64 0)), none⟩] [0, 1, 5])
  (.blk 0 (.loop (.seq (.kp [0, 1, 5] (.seq (.reg [⟨some 6, .mv (.t 5), none⟩,
    ⟨some 7, .mv (.t 0), none⟩,
    ⟨some 8, .len false (.t 7), none⟩,
    ⟨some 9, .bin .lss (.t 6) (.t 8), none⟩] [0, 1, 5, 9])
  (.cond (.t 9) (.skip) (.exit 0))))
  (.seq (.kp [0, 1, 5] (.blk 1 (.seq (.reg [⟨some 12, .mv (.t 0), none⟩,
    ⟨some 13, .mv (.t 5), none⟩,
    ⟨some 14, .ia 12 (.t 13) 1, none⟩,
    ⟨some 15, .ld 14 1 false, none⟩,
    ⟨some 16, .mv (.t 1), none⟩,
    ⟨some 17, .call 20 [(.t 15), (.t 16)], none⟩,
    ⟨some 1, .asg (.t 17), none⟩] [0, 1, 5])
  (.seq (.reg [⟨some 18, .mv (.t 1), none⟩,
    ⟨some 19, .bin .lss (.t 18) (.c (.int .i64 0)), none⟩] [0, 1, 5, 19])
  (.cond (.t 19) (.seq (.reg [⟨some 4, .asg (.c (.int .i64 (-1))), none⟩] [4])
  (.ret)) (.skip))))))
  (.reg [⟨some 10, .mv (.t 5), none⟩,
    ⟨some 11, .bin .add (.t 10) (.c (.int .i64 1)), none⟩,
    ⟨some 5, .asg (.t 11), none⟩] [0, 1, 5])))))))
  (.seq (.reg [⟨some 20, .mv (.t 1), none⟩,
    ⟨some 4, .asg (.t 20), none⟩] [4])
  (.ret)))
theorem con_laws_heldIntSS {v0 : (List (List Int))} {v1 : Int} {r : Int} (h : sh_laws_heldIntSS v0 v1 = some r) : Con Try.prog 25 [(cLs (cLs cI rfl) rfl).enc v0, cI.enc v1] [] (rs_laws_heldIntSS r) := by
  delta sh_laws_heldIntSS at h
  refine top (out := none) (f := Try.f25) (m := m25) (rs := [.t 4]) (by kernel_rfl) rfl (by kernel_rfl) (by kernel_rfl) (by kernel_rfl) (by kernel_rfl) (by kernel_rfl) ?_
  exact
   ini [(0, .d ((cLs (cLs cI rfl) rfl).enc v0)), (1, .d (cI.enc v1))] rfl <| wpC_seq <| reg_s <| x_asg (sc cI (0 : Int) rfl) <| seqN [(0, .d ((cLs (cLs cI rfl) rfl).enc v0)), (1, .d (cI.enc v1))] (by kernel_rfl) <|
    xn <| wpC_seq <| wpC_kp <| wpC_seq <| reg_s <| x_asg (sc cI (0 : Int) rfl) <| seqN [(0, .d ((cLs (cLs cI rfl) rfl).enc v0)), (1, .d (cI.enc v1)), (5, .d (cI.enc (0 : Int)))] (by kernel_rfl) <|
    xn <| wpC_blk <| lpF (fun (s96 : (Int × Int)) => [(0, .d ((cLs (cLs cI rfl) rfl).enc v0)), (1, .d (cI.enc s96.1)), (5, .d (cI.enc s96.2))]) (v1, (0 : Int)) rfl h
    fun G161 nx159 s96 hn160 h => wpC_seq <| wpC_kp <| wpC_seq <| reg_s <| st rfl <| mvd rfl rfl <| st rfl <| mvd rfl rfl <| stw rfl <| lens rfl fun l166 => st rfl <| b_lss (k := .i64) rfl rfl <| seqN [(0, .d ((cLs (cLs cI rfl) rfl).enc v0)), (1, .d (cI.enc s96.1)), (5, .d (cI.enc s96.2)), (9, .d (cB.enc (decide (s96.2 < (v0.length : Int)))))] (by kernel_rfl) <|
    xn <| cnd rfl h (fun b167 h => wpC_skip <| kpN [(0, .d ((cLs (cLs cI rfl) rfl).enc v0)), (1, .d (cI.enc s96.1)), (5, .d (cI.enc s96.2))] (by kernel_rfl) <| xn <| wpC_seq <| wpC_kp <| wpC_blk <| wpC_seq <| reg_s <| st rfl <| mvd rfl rfl <| st rfl <| mvd rfl rfl <| getO_k h fun x184 i185 g186 h => st rfl <| ias rfl rfl i185 g186 rfl <| st rfl <| ldi rfl rfl rfl rfl <| st rfl <| mvd rfl rfl <| bnd h fun x187 e188 h => st rfl <| o_call (a1 (c := (cLs cI rfl)) (tLs tK) rfl (a1 (c := cI) tK rfl a0)) (con_laws_heldIntS e188) (.inl (so1 sK so0)) <| x_asg (ss rfl rfl) <| seqN [(0, .d ((cLs (cLs cI rfl) rfl).enc v0)), (1, .d (cI.enc x187)), (5, .d (cI.enc s96.2))] (by kernel_rfl) <|
    xn <| wpC_seq <| reg_s <| st rfl <| mvd rfl rfl <| st rfl <| b_lss (k := .i64) rfl rfl <| seqN [(0, .d ((cLs (cLs cI rfl) rfl).enc v0)), (1, .d (cI.enc x187)), (5, .d (cI.enc s96.2)), (19, .d (cB.enc (decide (x187 < (0 : Int)))))] (by kernel_rfl) <|
    xn <| cnd rfl h (fun b189 h => wpC_seq <| reg_s <| x_asg (sc cI (-1 : Int) rfl) <| seqN [(4, .d (cI.enc (-1 : Int)))] (by kernel_rfl) <|
    xn <| wpC_ret <| rb <| rt <| rt <| rt <| rb <| rt <| rt <| re <| fin h (r1 (ss rfl rfl) <| r0) rfl)
    (fun b189 h => wpC_skip <| xbb <| kpN [(0, .d ((cLs (cLs cI rfl) rfl).enc v0)), (1, .d (cI.enc x187)), (5, .d (cI.enc s96.2))] (by kernel_rfl) <| xn <| reg_s <| st rfl <| mvd rfl rfl <| ckI_k h fun i190 h => st rfl <| b_add (k := .i64) rfl rfl i190 <| x_asg (ss rfl rfl) <| seqN [(0, .d ((cLs (cLs cI rfl) rfl).enc v0)), (1, .d (cI.enc x187)), (5, .d (cI.enc (s96.2 + (1 : Int))))] (by kernel_rfl) <|
    xn <| hn160 (x187, (s96.2 + (1 : Int))) h))
    (fun b167 h => wpC_exit <| xt <| xt <| xt <| xb <| kpN [(1, .d (cI.enc s96.1))] (by kernel_rfl) <| xn <| wpC_seq <| reg_s <| st rfl <| mvd rfl rfl <| x_asg (ss rfl rfl) <| seqN [(4, .d (cI.enc s96.1))] (by kernel_rfl) <|
    xn <| wpC_ret <| re <| fin h (r1 (ss rfl rfl) <| r0) rfl)

def rs_spec_cbCount (r : Int) : List D := [cI.enc r]
def m59 : MC := .seq (.reg [⟨some 2, .asg (.c (.int .i64 0)), none⟩] [0])
  (.seq (.kp [0] (.seq (.reg [⟨some 6, .mv (.t 0), none⟩,
    ⟨some 7, .len false (.t 6), none⟩,
    ⟨some 8, .bin .gtr (.t 7) (.c (.int .i64 4)), none⟩,
    ⟨some 9, .mv (.t 8), none⟩,
    ⟨some 10, .mv (.t 0), some (9, false)⟩,
    ⟨some 11, .call 54 [(.t 10), (.c (.int .i64 1)), (.c (.int .i64 30))], some (9, false)⟩,
    ⟨some 12, .nt (.t 11), some (9, false)⟩,
    ⟨some 13, .pick (.t 9) (.c (.bool true)) (.t 12), none⟩] [0, 13])
  (.cond (.t 13) (.seq (.reg [⟨some 2, .asg (.c (.int .i64 0)), none⟩] [2])
  (.ret)) (.skip))))
  (.seq (.reg [⟨some 3, .asg (.c (.int .i64 1)), none⟩] [0, 3])
  (.seq (.kp [3] (.seq (.reg [⟨some 14, .mv (.t 0), none⟩,
    ⟨some 15, .len false (.t 14), none⟩,
    ⟨some 16, .mv (.c (.int .i64 0)), none⟩] [0, 3, 14, 15, 16])
  (.blk 0 (.loop (.seq (.reg [⟨some 17, .bin .lss (.t 16) (.t 15), none⟩] [0, 3, 14, 15, 16, 17])
  (.seq (.kp [0, 3, 14, 15, 16] (.cond (.t 17) (.skip) (.exit 0)))
  (.seq (.kp [0, 3, 14, 15, 16] (.blk 1 (.seq (.reg [⟨some 18, .ia 14 (.t 16) 1, none⟩,
    ⟨some 19, .ld 18 1 false, none⟩,
    ⟨some 5, .asg (.t 19), none⟩] [0, 3, 5, 14, 15, 16])
  (.reg [⟨some 20, .mv (.t 3), none⟩,
    ⟨some 21, .mv (.t 5), none⟩,
    ⟨some 22, .bin .add (.t 21) (.c (.int .i64 1)), none⟩,
    ⟨some 23, .bin .mul (.t 20) (.t 22), none⟩,
    ⟨some 3, .asg (.t 23), none⟩] [0, 3, 14, 15, 16]))))
  (.reg [⟨some 24, .bin .add (.t 16) (.c (.int .i64 1)), none⟩,
    ⟨some 16, .mv (.t 24), none⟩] [0, 3, 14, 15, 16]))))))))
  (.seq (.kp [3] (.seq (.reg [⟨some 25, .mv (.t 3), none⟩,
    ⟨some 26, .bin .gtr (.t 25) (.c (.int .i64 2000)), none⟩] [3, 26])
  (.cond (.t 26) (.seq (.reg [⟨some 2, .asg (.c (.int .i64 0)), none⟩] [2])
  (.ret)) (.skip))))
  (.seq (.reg [⟨some 27, .mv (.t 3), none⟩,
    ⟨some 2, .asg (.t 27), none⟩] [2])
  (.ret))))))
theorem con_spec_cbCount {v0 : (List Int)} {r : Int} (h : sh_spec_cbCount v0 = some r) : Con Try.prog 59 [(cLs cI rfl).enc v0] [] (rs_spec_cbCount r) := by
  delta sh_spec_cbCount at h
  refine top (out := none) (f := Try.f59) (m := m59) (rs := [.t 2]) (by kernel_rfl) rfl (by kernel_rfl) (by kernel_rfl) (by kernel_rfl) (by kernel_rfl) (by kernel_rfl) ?_
  exact
   ini [(0, .d ((cLs cI rfl).enc v0))] rfl <| wpC_seq <| reg_s <| x_asg (sc cI (0 : Int) rfl) <| seqN [(0, .d ((cLs cI rfl).enc v0))] (by kernel_rfl) <|
    xn <| wpC_seq <| wpC_kp <| wpC_seq <| reg_s <| st rfl <| mvd rfl rfl <| stw rfl <| lens rfl fun l14 => st rfl <| b_gtr (k := .i64) rfl rfl <| st rfl <| mvd rfl rfl <| ite_k h (fun b15 h => gf rfl b15 <| gf rfl b15 <| gf rfl b15 <| st rfl <| pick1 rfl b15 (cd := cB) (v := true) rfl rfl <| seqN [(0, .d ((cLs cI rfl).enc v0)), (13, .d (cB.enc true))] (by kernel_rfl) <|
    xn <| cnd1 rfl rfl <| wpC_seq <| reg_s <| x_asg (sc cI (0 : Int) rfl) <| seqN [(2, .d (cI.enc (0 : Int)))] (by kernel_rfl) <|
    xn <| wpC_ret <| rt <| rt <| re <| fin h (r1 (ss rfl rfl) <| r0) rfl)
    (fun b15 h => gt' rfl b15 <| st rfl <| mvd rfl rfl <| gt' rfl b15 <| bnd h fun x16 e17 h => st rfl <| o_call (a1 (c := (cLs cI rfl)) (tLs tK) rfl (a1 (c := cI) tK rfl (a1 (c := cI) tK rfl a0))) (con_spec_l1All e17) (.inl (so1 sB so0)) <| gt' rfl b15 <| st rfl <| o_nt rfl <| st rfl <| pick0 rfl b15 (cd := cB) (v := (!x16)) rfl rfl <| seqN [(0, .d ((cLs cI rfl).enc v0)), (13, .d (cB.enc (!x16)))] (by kernel_rfl) <|
    xn <| cnd rfl h (fun b18 h => wpC_seq <| reg_s <| x_asg (sc cI (0 : Int) rfl) <| seqN [(2, .d (cI.enc (0 : Int)))] (by kernel_rfl) <|
    xn <| wpC_ret <| rt <| rt <| re <| fin h (r1 (ss rfl rfl) <| r0) rfl)
    (fun b18 h => wpC_skip <| kpN [(0, .d ((cLs cI rfl).enc v0))] (by kernel_rfl) <| xn <| wpC_seq <| reg_s <| x_asg (sc cI (1 : Int) rfl) <| seqN [(0, .d ((cLs cI rfl).enc v0)), (3, .d (cI.enc (1 : Int)))] (by kernel_rfl) <|
    xn <| wpC_seq <| wpC_kp <| wpC_seq <| reg_s <| st rfl <| mvd rfl rfl <| stw rfl <| lens rfl fun l42 => st rfl <| mvc cI (0 : Int) rfl <| seqN [(0, .d ((cLs cI rfl).enc v0)), (3, .d (cI.enc (1 : Int))), (14, .d ((cLs cI rfl).enc v0)), (15, .d (cI.enc (v0.length : Int))), (16, .d (cI.enc (0 : Int)))] (by kernel_rfl) <|
    xn <| wpC_blk <| lpR (fun (k44 : Nat) (s43 : Int) => [(0, .d ((cLs cI rfl).enc v0)), (3, .d (cI.enc s43)), (14, .d ((cLs cI rfl).enc v0)), (15, .d (cI.enc (v0.length : Int))), (16, .d (cI.enc (k44 : Int)))]) (1 : Int) rfl h
    (fun G58 s43 h => wpC_seq <| reg_s <| st rfl <| b_lss (k := .i64) rfl rfl <| seqN [(0, .d ((cLs cI rfl).enc v0)), (3, .d (cI.enc s43)), (14, .d ((cLs cI rfl).enc v0)), (15, .d (cI.enc (v0.length : Int))), (16, .d (cI.enc (v0.length : Int))), (17, .d (cB.enc (decide ((v0.length : Int) < (v0.length : Int)))))] (by kernel_rfl) <|
    xn <| wpC_seq <| wpC_kp <| cnd0 rfl (dlf _) <| wpC_exit <| xt <| xt <| xt <| xb <| kpN [(3, .d (cI.enc s43))] (by kernel_rfl) <| xn <| wpC_seq <| wpC_kp <| wpC_seq <| reg_s <| st rfl <| mvd rfl rfl <| st rfl <| b_gtr (k := .i64) rfl rfl <| seqN [(3, .d (cI.enc s43)), (26, .d (cB.enc (decide ((2000 : Int) < s43))))] (by kernel_rfl) <|
    xn <| cnd rfl h (fun b60 h => wpC_seq <| reg_s <| x_asg (sc cI (0 : Int) rfl) <| seqN [(2, .d (cI.enc (0 : Int)))] (by kernel_rfl) <|
    xn <| wpC_ret <| rt <| rt <| re <| fin h (r1 (ss rfl rfl) <| r0) rfl)
    (fun b60 h => wpC_skip <| kpN [(3, .d (cI.enc s43))] (by kernel_rfl) <| xn <| wpC_seq <| reg_s <| st rfl <| mvd rfl rfl <| x_asg (ss rfl rfl) <| seqN [(2, .d (cI.enc s43))] (by kernel_rfl) <|
    xn <| wpC_ret <| re <| fin h (r1 (ss rfl rfl) <| r0) rfl))
    (fun G58 nx56 k44 s43 x45 hk46 hx47 hn57 h => wpC_seq <| reg_s <| st rfl <| b_lss (k := .i64) rfl rfl <| seqN [(0, .d ((cLs cI rfl).enc v0)), (3, .d (cI.enc s43)), (14, .d ((cLs cI rfl).enc v0)), (15, .d (cI.enc (v0.length : Int))), (16, .d (cI.enc (k44 : Int))), (17, .d (cB.enc (decide ((k44 : Int) < (v0.length : Int)))))] (by kernel_rfl) <|
    xn <| wpC_seq <| wpC_kp <| cnd1 rfl (dlt hk46) <| wpC_skip <| kpN [(0, .d ((cLs cI rfl).enc v0)), (3, .d (cI.enc s43)), (14, .d ((cLs cI rfl).enc v0)), (15, .d (cI.enc (v0.length : Int))), (16, .d (cI.enc (k44 : Int)))] (by kernel_rfl) <| xn <| wpC_seq <| wpC_kp <| wpC_blk <| wpC_seq <| reg_s <| st rfl <| ias rfl rfl (Int.natCast_nonneg _) hx47 rfl <| st rfl <| ldi rfl rfl rfl rfl <| x_asg (ss rfl rfl) <| seqN [(0, .d ((cLs cI rfl).enc v0)), (3, .d (cI.enc s43)), (5, .d (cI.enc x45)), (14, .d ((cLs cI rfl).enc v0)), (15, .d (cI.enc (v0.length : Int))), (16, .d (cI.enc (k44 : Int)))] (by kernel_rfl) <|
    xn <| reg_s <| st rfl <| mvd rfl rfl <| st rfl <| mvd rfl rfl <| ckI_k h fun i63 h => st rfl <| b_add (k := .i64) rfl rfl i63 <| ckI_k h fun i64 h => st rfl <| b_mul (k := .i64) rfl rfl i64 <| x_asg (ss rfl rfl) <| seqN [(0, .d ((cLs cI rfl).enc v0)), (3, .d (cI.enc (s43 * (x45 + (1 : Int))))), (14, .d ((cLs cI rfl).enc v0)), (15, .d (cI.enc (v0.length : Int))), (16, .d (cI.enc (k44 : Int)))] (by kernel_rfl) <|
    xbb <| kpN [(0, .d ((cLs cI rfl).enc v0)), (3, .d (cI.enc (s43 * (x45 + (1 : Int))))), (14, .d ((cLs cI rfl).enc v0)), (15, .d (cI.enc (v0.length : Int))), (16, .d (cI.enc (k44 : Int)))] (by kernel_rfl) <| xn <| reg_s <| st rfl <| b_inc rfl rfl l42 hk46 <| st rfl <| mvd rfl rfl <| seqN [(0, .d ((cLs cI rfl).enc v0)), (3, .d (cI.enc (s43 * (x45 + (1 : Int))))), (14, .d ((cLs cI rfl).enc v0)), (15, .d (cI.enc (v0.length : Int))), (16, .d (cI.enc ((k44 + 1 : Nat) : Int)))] (by kernel_rfl) <|
    xn <| hn57 (s43 * (x45 + (1 : Int))) h)))

def rs_spec_cbIndices (r : (List Int)) : List D := [(cLo cI).enc r]
def m60 : MC := .seq (.reg [⟨some 4, .asg (.c (.slice true [])), none⟩] [0, 1])
  (.seq (.reg [⟨some 7, .mv (.t 0), none⟩,
    ⟨some 8, .len false (.t 7), none⟩,
    ⟨some 9, .mk (.int .i64 0) (.t 8), none⟩,
    ⟨some 5, .asg (.t 9), none⟩] [0, 1, 5])
  (.seq (.kp [5] (.seq (.reg [⟨some 10, .mv (.t 0), none⟩,
    ⟨some 11, .len false (.t 10), none⟩,
    ⟨some 12, .bin .sub (.t 11) (.c (.int .i64 1)), none⟩,
    ⟨some 6, .asg (.t 12), none⟩] [0, 1, 5, 6])
  (.blk 0 (.loop (.seq (.kp [0, 1, 5, 6] (.seq (.reg [⟨some 13, .mv (.t 6), none⟩,
    ⟨some 14, .bin .geq (.t 13) (.c (.int .i64 0)), none⟩] [0, 1, 5, 6, 14])
  (.cond (.t 14) (.skip) (.exit 0))))
  (.seq (.kp [0, 1, 5, 6] (.blk 1 (.seq (.reg [⟨some 17, .mv (.t 5), none⟩,
    ⟨some 18, .mv (.t 6), none⟩,
    ⟨some 19, .mv (.t 1), none⟩,
    ⟨some 20, .mv (.t 0), none⟩,
    ⟨some 21, .mv (.t 6), none⟩,
    ⟨some 22, .ia 20 (.t 21) 1, none⟩,
    ⟨some 23, .ld 22 1 false, none⟩,
    ⟨some 24, .bin .add (.t 23) (.c (.int .i64 1)), none⟩,
    ⟨some 25, .bin .rem (.t 19) (.t 24), none⟩,
    ⟨some 26, .ia 17 (.t 18) 1, none⟩,
    ⟨none, .st 26 (.t 25) 1, none⟩] [0, 1, 5, 6])
  (.reg [⟨some 27, .mv (.t 1), none⟩,
    ⟨some 28, .mv (.t 0), none⟩,
    ⟨some 29, .mv (.t 6), none⟩,
    ⟨some 30, .ia 28 (.t 29) 1, none⟩,
    ⟨some 31, .ld 30 1 false, none⟩,
    ⟨some 32, .bin .add (.t 31) (.c (.int .i64 1)), none⟩,
    ⟨some 33, .bin .quo (.t 27) (.t 32), none⟩,
    ⟨some 1, .asg (.t 33), none⟩] [0, 1, 5, 6]))))
  (.reg [⟨some 15, .mv (.t 6), none⟩,
    ⟨some 16, .bin .sub (.t 15) (.c (.int .i64 1)), none⟩,
    ⟨some 6, .asg (.t 16), none⟩] [0, 1, 5, 6])))))))
  (.seq (.reg [⟨some 34, .mv (.t 5), none⟩,
    ⟨some 4, .asg (.t 34), none⟩] [4])
  (.ret))))
theorem con_spec_cbIndices {v0 : (List Int)} {v1 : Int} {r : (List Int)} (h : sh_spec_cbIndices v0 v1 = some r) : Con Try.prog 60 [(cLs cI rfl).enc v0, cI.enc v1] [] (rs_spec_cbIndices r) := by
  delta sh_spec_cbIndices at h
  refine top (out := none) (f := Try.f60) (m := m60) (rs := [.t 4]) (by kernel_rfl) rfl (by kernel_rfl) (by kernel_rfl) (by kernel_rfl) (by kernel_rfl) (by kernel_rfl) ?_
  exact
   ini [(0, .d ((cLs cI rfl).enc v0)), (1, .d (cI.enc v1))] rfl <| wpC_seq <| reg_s <| x_asg (sc (cLo cI) ([] : List Int) rfl) <| seqN [(0, .d ((cLs cI rfl).enc v0)), (1, .d (cI.enc v1))] (by kernel_rfl) <|
    xn <| wpC_seq <| reg_s <| st rfl <| mvd rfl rfl <| stw rfl <| lens rfl fun l4 => mkO_k h fun i5 l6 h => st rfl <| o_mk (c := cI) (a0 := (0 : Int)) rfl (k := .i64) rfl i5 l6 <| x_asg (so rfl rfl) <| seqN [(0, .d ((cLs cI rfl).enc v0)), (1, .d (cI.enc v1)), (5, .d ((cLo cI).enc (List.replicate ((v0.length : Int)).toNat (0 : Int))))] (by kernel_rfl) <|
    xn <| wpC_seq <| wpC_kp <| wpC_seq <| reg_s <| st rfl <| mvd rfl rfl <| stw rfl <| lens rfl fun l144 => ckI_k h fun i145 h => st rfl <| b_sub (k := .i64) rfl rfl i145 <| x_asg (ss rfl rfl) <| seqN [(0, .d ((cLs cI rfl).enc v0)), (1, .d (cI.enc v1)), (5, .d ((cLo cI).enc (List.replicate ((v0.length : Int)).toNat (0 : Int)))), (6, .d (cI.enc ((v0.length : Int) - (1 : Int))))] (by kernel_rfl) <|
    xn <| wpC_blk <| lpF (fun (s146 : (Int × (List Int) × Int)) => [(0, .d ((cLs cI rfl).enc v0)), (1, .d (cI.enc s146.1)), (5, .d ((cLo cI).enc s146.2.1)), (6, .d (cI.enc s146.2.2))]) (v1, (List.replicate ((v0.length : Int)).toNat (0 : Int)), ((v0.length : Int) - (1 : Int))) rfl h
    fun G235 nx233 s146 hn234 h => wpC_seq <| wpC_kp <| wpC_seq <| reg_s <| st rfl <| mvd rfl rfl <| st rfl <| b_geq (k := .i64) rfl rfl <| seqN [(0, .d ((cLs cI rfl).enc v0)), (1, .d (cI.enc s146.1)), (5, .d ((cLo cI).enc s146.2.1)), (6, .d (cI.enc s146.2.2)), (14, .d (cB.enc (decide ((0 : Int) ≤ s146.2.2))))] (by kernel_rfl) <|
    xn <| cnd rfl h (fun b237 h => wpC_skip <| kpN [(0, .d ((cLs cI rfl).enc v0)), (1, .d (cI.enc s146.1)), (5, .d ((cLo cI).enc s146.2.1)), (6, .d (cI.enc s146.2.2))] (by kernel_rfl) <| xn <| wpC_seq <| wpC_kp <| wpC_blk <| wpC_seq <| reg_s <| st rfl <| mvo rfl rfl <| st rfl <| mvd rfl rfl <| st rfl <| mvd rfl rfl <| st rfl <| mvd rfl rfl <| st rfl <| mvd rfl rfl <| getO_k h fun x265 i266 g267 h => st rfl <| ias rfl rfl i266 g267 rfl <| st rfl <| ldi rfl rfl rfl rfl <| ckI_k h fun i268 h => st rfl <| b_add (k := .i64) rfl rfl i268 <| ck_k h fun i269 h => st rfl <| b_rem (k := .i64) rfl rfl i269 <| getO_k h fun x270 i271 g272 h => st rfl <| iar rfl rfl rfl rfl i271 g272 rfl <| x_sta ((cLo cI).enc (s146.2.1.set (s146.2.2).toNat (s146.1.tmod (x265 + (1 : Int))))) (ss rfl rfl) rfl rfl (Ln.idx g272 Ln.nil) (Cd.h_sz cI _) rfl <| seqN [(0, .d ((cLs cI rfl).enc v0)), (1, .d (cI.enc s146.1)), (5, .d ((cLo cI).enc (s146.2.1.set (s146.2.2).toNat (s146.1.tmod (x265 + (1 : Int)))))), (6, .d (cI.enc s146.2.2))] (by kernel_rfl) <|
    xn <| reg_s <| st rfl <| mvd rfl rfl <| st rfl <| mvd rfl rfl <| st rfl <| mvd rfl rfl <| st rfl <| ias rfl rfl i266 g267 rfl <| st rfl <| ldi rfl rfl rfl rfl <| ckI_k h fun i273 h => st rfl <| b_add (k := .i64) rfl rfl i273 <| ck_k h fun i274 h => ckI_k h fun i275 h => st rfl <| b_quo (k := .i64) rfl rfl i274 i275 <| x_asg (ss rfl rfl) <| seqN [(0, .d ((cLs cI rfl).enc v0)), (1, .d (cI.enc (s146.1.tdiv (x265 + (1 : Int))))), (5, .d ((cLo cI).enc (s146.2.1.set (s146.2.2).toNat (s146.1.tmod (x265 + (1 : Int)))))), (6, .d (cI.enc s146.2.2))] (by kernel_rfl) <|
    xbb <| kpN [(0, .d ((cLs cI rfl).enc v0)), (1, .d (cI.enc (s146.1.tdiv (x265 + (1 : Int))))), (5, .d ((cLo cI).enc (s146.2.1.set (s146.2.2).toNat (s146.1.tmod (x265 + (1 : Int)))))), (6, .d (cI.enc s146.2.2))] (by kernel_rfl) <| xn <| reg_s <| st rfl <| mvd rfl rfl <| ckI_k h fun i276 h => st rfl <| b_sub (k := .i64) rfl rfl i276 <| x_asg (ss rfl rfl) <| seqN [(0, .d ((cLs cI rfl).enc v0)), (1, .d (cI.enc (s146.1.tdiv (x265 + (1 : Int))))), (5, .d ((cLo cI).enc (s146.2.1.set (s146.2.2).toNat (s146.1.tmod (x265 + (1 : Int)))))), (6, .d (cI.enc (s146.2.2 - (1 : Int))))] (by kernel_rfl) <|
    xn <| hn234 ((s146.1.tdiv (x265 + (1 : Int))), (s146.2.1.set (s146.2.2).toNat (s146.1.tmod (x265 + (1 : Int)))), (s146.2.2 - (1 : Int))) h)
    (fun b237 h => wpC_exit <| xt <| xt <| xt <| xb <| kpN [(5, .d ((cLo cI).enc s146.2.1))] (by kernel_rfl) <| xn <| wpC_seq <| reg_s <| st rfl <| mvo rfl rfl <| x_asg (sr rfl rfl) <| seqN [(4, .d ((cLo cI).enc s146.2.1))] (by kernel_rfl) <|
    xn <| wpC_ret <| re <| fin h (r1 (so rfl rfl) <| r0) rfl)

def rs_spec_cbAt (r : Int) : List D := [cI.enc r]
def m82 : MC := .seq (.reg [⟨some 4, .asg (.c (.int .i64 0)), none⟩] [0, 1])
  (.seq (.reg [⟨some 5, .asg (.c (.int .i64 0)), none⟩] [0, 1, 5])
  (.seq (.kp [5] (.seq (.reg [⟨some 8, .mv (.t 0), none⟩,
    ⟨some 9, .len false (.t 8), none⟩,
    ⟨some 10, .mv (.c (.int .i64 0)), none⟩] [0, 1, 5, 8, 9, 10])
  (.blk 0 (.loop (.seq (.reg [⟨some 11, .bin .lss (.t 10) (.t 9), none⟩] [0, 1, 5, 8, 9, 10, 11])
  (.seq (.kp [0, 1, 5, 8, 9, 10] (.cond (.t 11) (.skip) (.exit 0)))
  (.seq (.kp [0, 1, 5, 8, 9, 10] (.blk 1 (.seq (.reg [⟨some 12, .mv (.t 10), none⟩,
    ⟨some 13, .ia 8 (.t 10) 1, none⟩,
    ⟨some 14, .ld 13 1 false, none⟩,
    ⟨some 6, .asg (.t 12), none⟩,
    ⟨some 7, .asg (.t 14), none⟩] [0, 1, 5, 6, 7, 8, 9, 10])
  (.reg [⟨some 15, .mv (.t 5), none⟩,
    ⟨some 16, .mv (.t 7), none⟩,
    ⟨some 17, .bin .add (.t 16) (.c (.int .i64 1)), none⟩,
    ⟨some 18, .bin .mul (.t 15) (.t 17), none⟩,
    ⟨some 19, .mv (.t 1), none⟩,
    ⟨some 20, .mv (.t 6), none⟩,
    ⟨some 21, .ia 19 (.t 20) 1, none⟩,
    ⟨some 22, .ld 21 1 false, none⟩,
    ⟨some 23, .bin .add (.t 18) (.t 22), none⟩,
    ⟨some 5, .asg (.t 23), none⟩] [0, 1, 5, 8, 9, 10]))))
  (.reg [⟨some 24, .bin .add (.t 10) (.c (.int .i64 1)), none⟩,
    ⟨some 10, .mv (.t 24), none⟩] [0, 1, 5, 8, 9, 10]))))))))
  (.seq (.reg [⟨some 25, .mv (.t 5), none⟩,
    ⟨some 4, .asg (.t 25), none⟩] [4])
  (.ret))))
theorem con_spec_cbAt {v0 : (List Int)} {v1 : (List Int)} {r : Int} (h : sh_spec_cbAt v0 v1 = some r) : Con Try.prog 82 [(cLs cI rfl).enc v0, (cLs cI rfl).enc v1] [] (rs_spec_cbAt r) := by
  delta sh_spec_cbAt at h
  refine top (out := none) (f := Try.f82) (m := m82) (rs := [.t 4]) (by kernel_rfl) rfl (by kernel_rfl) (by kernel_rfl) (by kernel_rfl) (by kernel_rfl) (by kernel_rfl) ?_
  exact
   ini [(0, .d ((cLs cI rfl).enc v0)), (1, .d ((cLs cI rfl).enc v1))] rfl <| wpC_seq <| reg_s <| x_asg (sc cI (0 : Int) rfl) <| seqN [(0, .d ((cLs cI rfl).enc v0)), (1, .d ((cLs cI rfl).enc v1))] (by kernel_rfl) <|
    xn <| wpC_seq <| reg_s <| x_asg (sc cI (0 : Int) rfl) <| seqN [(0, .d ((cLs cI rfl).enc v0)), (1, .d ((cLs cI rfl).enc v1)), (5, .d (cI.enc (0 : Int)))] (by kernel_rfl) <|
    xn <| wpC_seq <| wpC_kp <| wpC_seq <| reg_s <| st rfl <| mvd rfl rfl <| stw rfl <| lens rfl fun l48 => st rfl <| mvc cI (0 : Int) rfl <| seqN [(0, .d ((cLs cI rfl).enc v0)), (1, .d ((cLs cI rfl).enc v1)), (5, .d (cI.enc (0 : Int))), (8, .d ((cLs cI rfl).enc v0)), (9, .d (cI.enc (v0.length : Int))), (10, .d (cI.enc (0 : Int)))] (by kernel_rfl) <|
    xn <| wpC_blk <| lpR (fun (k50 : Nat) (s49 : Int) => [(0, .d ((cLs cI rfl).enc v0)), (1, .d ((cLs cI rfl).enc v1)), (5, .d (cI.enc s49)), (8, .d ((cLs cI rfl).enc v0)), (9, .d (cI.enc (v0.length : Int))), (10, .d (cI.enc (k50 : Int)))]) (0 : Int) rfl h
    (fun G80 s49 h => wpC_seq <| reg_s <| st rfl <| b_lss (k := .i64) rfl rfl <| seqN [(0, .d ((cLs cI rfl).enc v0)), (1, .d ((cLs cI rfl).enc v1)), (5, .d (cI.enc s49)), (8, .d ((cLs cI rfl).enc v0)), (9, .d (cI.enc (v0.length : Int))), (10, .d (cI.enc (v0.length : Int))), (11, .d (cB.enc (decide ((v0.length : Int) < (v0.length : Int)))))] (by kernel_rfl) <|
    xn <| wpC_seq <| wpC_kp <| cnd0 rfl (dlf _) <| wpC_exit <| xt <| xt <| xt <| xb <| kpN [(5, .d (cI.enc s49))] (by kernel_rfl) <| xn <| wpC_seq <| reg_s <| st rfl <| mvd rfl rfl <| x_asg (ss rfl rfl) <| seqN [(4, .d (cI.enc s49))] (by kernel_rfl) <|
    xn <| wpC_ret <| re <| fin h (r1 (ss rfl rfl) <| r0) rfl)
    (fun G80 nx78 k50 s49 x51 hk52 hx53 hn79 h => wpC_seq <| reg_s <| st rfl <| b_lss (k := .i64) rfl rfl <| seqN [(0, .d ((cLs cI rfl).enc v0)), (1, .d ((cLs cI rfl).enc v1)), (5, .d (cI.enc s49)), (8, .d ((cLs cI rfl).enc v0)), (9, .d (cI.enc (v0.length : Int))), (10, .d (cI.enc (k50 : Int))), (11, .d (cB.enc (decide ((k50 : Int) < (v0.length : Int)))))] (by kernel_rfl) <|
    xn <| wpC_seq <| wpC_kp <| cnd1 rfl (dlt hk52) <| wpC_skip <| kpN [(0, .d ((cLs cI rfl).enc v0)), (1, .d ((cLs cI rfl).enc v1)), (5, .d (cI.enc s49)), (8, .d ((cLs cI rfl).enc v0)), (9, .d (cI.enc (v0.length : Int))), (10, .d (cI.enc (k50 : Int)))] (by kernel_rfl) <| xn <| wpC_seq <| wpC_kp <| wpC_blk <| wpC_seq <| reg_s <| st rfl <| mvd rfl rfl <| st rfl <| ias rfl rfl (Int.natCast_nonneg _) hx53 rfl <| st rfl <| ldi rfl rfl rfl rfl <| x_asg (ss rfl rfl) <| x_asg (ss rfl rfl) <| seqN [(0, .d ((cLs cI rfl).enc v0)), (1, .d ((cLs cI rfl).enc v1)), (5, .d (cI.enc s49)), (6, .d (cI.enc (k50 : Int))), (7, .d (cI.enc x51)), (8, .d ((cLs cI rfl).enc v0)), (9, .d (cI.enc (v0.length : Int))), (10, .d (cI.enc (k50 : Int)))] (by kernel_rfl) <|
    xn <| reg_s <| st rfl <| mvd rfl rfl <| st rfl <| mvd rfl rfl <| ckI_k h fun i87 h => st rfl <| b_add (k := .i64) rfl rfl i87 <| ckI_k h fun i88 h => st rfl <| b_mul (k := .i64) rfl rfl i88 <| st rfl <| mvd rfl rfl <| st rfl <| mvd rfl rfl <| getO_k h fun x89 i90 g91 h => st rfl <| ias rfl rfl i90 g91 rfl <| st rfl <| ldi rfl rfl rfl rfl <| ckI_k h fun i92 h => st rfl <| b_add (k := .i64) rfl rfl i92 <| x_asg (ss rfl rfl) <| seqN [(0, .d ((cLs cI rfl).enc v0)), (1, .d ((cLs cI rfl).enc v1)), (5, .d (cI.enc ((s49 * (x51 + (1 : Int))) + x89))), (8, .d ((cLs cI rfl).enc v0)), (9, .d (cI.enc (v0.length : Int))), (10, .d (cI.enc (k50 : Int)))] (by kernel_rfl) <|
    xbb <| kpN [(0, .d ((cLs cI rfl).enc v0)), (1, .d ((cLs cI rfl).enc v1)), (5, .d (cI.enc ((s49 * (x51 + (1 : Int))) + x89))), (8, .d ((cLs cI rfl).enc v0)), (9, .d (cI.enc (v0.length : Int))), (10, .d (cI.enc (k50 : Int)))] (by kernel_rfl) <| xn <| reg_s <| st rfl <| b_inc rfl rfl l48 hk52 <| st rfl <| mvd rfl rfl <| seqN [(0, .d ((cLs cI rfl).enc v0)), (1, .d ((cLs cI rfl).enc v1)), (5, .d (cI.enc ((s49 * (x51 + (1 : Int))) + x89))), (8, .d ((cLs cI rfl).enc v0)), (9, .d (cI.enc (v0.length : Int))), (10, .d (cI.enc ((k50 + 1 : Nat) : Int)))] (by kernel_rfl) <|
    xn <| hn79 ((s49 * (x51 + (1 : Int))) + x89) h)

def rs_impl_cubeCells (r : Int) : List D := [cI.enc r]
def m62 : MC := .seq (.reg [⟨some 2, .asg (.c (.int .i64 0)), none⟩] [0])
  (.seq (.kp [0] (.seq (.reg [⟨some 6, .mv (.t 0), none⟩,
    ⟨some 7, .len false (.t 6), none⟩,
    ⟨some 8, .bin .gtr (.t 7) (.c (.int .i64 4)), none⟩] [0, 8])
  (.cond (.t 8) (.seq (.reg [⟨some 2, .asg (.c (.int .i64 0)), none⟩] [2])
  (.ret)) (.skip))))
  (.seq (.reg [⟨some 3, .asg (.c (.int .i64 1)), none⟩] [0, 3])
  (.seq (.kp [3] (.seq (.reg [⟨some 9, .mv (.t 0), none⟩,
    ⟨some 10, .len false (.t 9), none⟩,
    ⟨some 11, .mv (.c (.int .i64 0)), none⟩] [0, 3, 9, 10, 11])
  (.blk 0 (.loop (.seq (.reg [⟨some 12, .bin .lss (.t 11) (.t 10), none⟩] [0, 3, 9, 10, 11, 12])
  (.seq (.kp [0, 3, 9, 10, 11] (.cond (.t 12) (.skip) (.exit 0)))
  (.seq (.kp [0, 3, 9, 10, 11] (.blk 1 (.seq (.reg [⟨some 13, .ia 9 (.t 11) 1, none⟩,
    ⟨some 14, .ld 13 1 false, none⟩,
    ⟨some 5, .asg (.t 14), none⟩] [0, 3, 5, 9, 10, 11])
  (.seq (.kp [0, 3, 5, 9, 10, 11] (.seq (.reg [⟨some 15, .mv (.t 5), none⟩,
    ⟨some 16, .bin .lss (.t 15) (.c (.int .i64 1)), none⟩,
    ⟨some 17, .mv (.t 16), none⟩,
    ⟨some 18, .mv (.t 5), some (17, false)⟩,
    ⟨some 19, .bin .gtr (.t 18) (.c (.int .i64 30)), some (17, false)⟩,
    ⟨some 20, .pick (.t 17) (.c (.bool true)) (.t 19), none⟩] [0, 3, 5, 9, 10, 11, 20])
  (.cond (.t 20) (.seq (.reg [⟨some 2, .asg (.c (.int .i64 0)), none⟩] [2])
  (.ret)) (.skip))))
  (.reg [⟨some 21, .mv (.t 3), none⟩,
    ⟨some 22, .mv (.t 5), none⟩,
    ⟨some 23, .bin .add (.t 22) (.c (.int .i64 1)), none⟩,
    ⟨some 24, .bin .mul (.t 21) (.t 23), none⟩,
    ⟨some 3, .asg (.t 24), none⟩] [0, 3, 9, 10, 11])))))
  (.reg [⟨some 25, .bin .add (.t 11) (.c (.int .i64 1)), none⟩,
    ⟨some 11, .mv (.t 25), none⟩] [0, 3, 9, 10, 11]))))))))
  (.seq (.kp [3] (.seq (.reg [⟨some 26, .mv (.t 3), none⟩,
    ⟨some 27, .bin .gtr (.t 26) (.c (.int .i64 2000)), none⟩] [3, 27])
  (.cond (.t 27) (.seq (.reg [⟨some 2, .asg (.c (.int .i64 0)), none⟩] [2])
  (.ret)) (.skip))))
  (.seq (.reg [⟨some 28, .mv (.t 3), none⟩,
    ⟨some 2, .asg (.t 28), none⟩] [2])
  (.ret))))))
theorem con_impl_cubeCells {v0 : (List Int)} {r : Int} (h : sh_impl_cubeCells v0 = some r) : Con Try.prog 62 [(cLs cI rfl).enc v0] [] (rs_impl_cubeCells r) := by
  delta sh_impl_cubeCells at h
  refine top (out := none) (f := Try.f62) (m := m62) (rs := [.t 2]) (by kernel_rfl) rfl (by kernel_rfl) (by kernel_rfl) (by kernel_rfl) (by kernel_rfl) (by kernel_rfl) ?_
  exact
   ini [(0, .d ((cLs cI rfl).enc v0))] rfl <| wpC_seq <| reg_s <| x_asg (sc cI (0 : Int) rfl) <| seqN [(0, .d ((cLs cI rfl).enc v0))] (by kernel_rfl) <|
    xn <| wpC_seq <| wpC_kp <| wpC_seq <| reg_s <| st rfl <| mvd rfl rfl <| stw rfl <| lens rfl fun l5 => st rfl <| b_gtr (k := .i64) rfl rfl <| seqN [(0, .d ((cLs cI rfl).enc v0)), (8, .d (cB.enc (decide ((4 : Int) < (v0.length : Int)))))] (by kernel_rfl) <|
    xn <| cnd rfl h (fun b6 h => wpC_seq <| reg_s <| x_asg (sc cI (0 : Int) rfl) <| seqN [(2, .d (cI.enc (0 : Int)))] (by kernel_rfl) <|
    xn <| wpC_ret <| rt <| rt <| re <| fin h (r1 (ss rfl rfl) <| r0) rfl)
    (fun b6 h => wpC_skip <| kpN [(0, .d ((cLs cI rfl).enc v0))] (by kernel_rfl) <| xn <| wpC_seq <| reg_s <| x_asg (sc cI (1 : Int) rfl) <| seqN [(0, .d ((cLs cI rfl).enc v0)), (3, .d (cI.enc (1 : Int)))] (by kernel_rfl) <|
    xn <| wpC_seq <| wpC_kp <| wpC_seq <| reg_s <| st rfl <| mvd rfl rfl <| stw rfl <| lens rfl fun l66 => st rfl <| mvc cI (0 : Int) rfl <| seqN [(0, .d ((cLs cI rfl).enc v0)), (3, .d (cI.enc (1 : Int))), (9, .d ((cLs cI rfl).enc v0)), (10, .d (cI.enc (v0.length : Int))), (11, .d (cI.enc (0 : Int)))] (by kernel_rfl) <|
    xn <| wpC_blk <| lpR (fun (k68 : Nat) (s67 : Int) => [(0, .d ((cLs cI rfl).enc v0)), (3, .d (cI.enc s67)), (9, .d ((cLs cI rfl).enc v0)), (10, .d (cI.enc (v0.length : Int))), (11, .d (cI.enc (k68 : Int)))]) (1 : Int) rfl h
    (fun G106 s67 h => wpC_seq <| reg_s <| st rfl <| b_lss (k := .i64) rfl rfl <| seqN [(0, .d ((cLs cI rfl).enc v0)), (3, .d (cI.enc s67)), (9, .d ((cLs cI rfl).enc v0)), (10, .d (cI.enc (v0.length : Int))), (11, .d (cI.enc (v0.length : Int))), (12, .d (cB.enc (decide ((v0.length : Int) < (v0.length : Int)))))] (by kernel_rfl) <|
    xn <| wpC_seq <| wpC_kp <| cnd0 rfl (dlf _) <| wpC_exit <| xt <| xt <| xt <| xb <| kpN [(3, .d (cI.enc s67))] (by kernel_rfl) <| xn <| wpC_seq <| wpC_kp <| wpC_seq <| reg_s <| st rfl <| mvd rfl rfl <| st rfl <| b_gtr (k := .i64) rfl rfl <| seqN [(3, .d (cI.enc s67)), (27, .d (cB.enc (decide ((2000 : Int) < s67))))] (by kernel_rfl) <|
    xn <| cnd rfl h (fun b108 h => wpC_seq <| reg_s <| x_asg (sc cI (0 : Int) rfl) <| seqN [(2, .d (cI.enc (0 : Int)))] (by kernel_rfl) <|
    xn <| wpC_ret <| rt <| rt <| re <| fin h (r1 (ss rfl rfl) <| r0) rfl)
    (fun b108 h => wpC_skip <| kpN [(3, .d (cI.enc s67))] (by kernel_rfl) <| xn <| wpC_seq <| reg_s <| st rfl <| mvd rfl rfl <| x_asg (ss rfl rfl) <| seqN [(2, .d (cI.enc s67))] (by kernel_rfl) <|
    xn <| wpC_ret <| re <| fin h (r1 (ss rfl rfl) <| r0) rfl))
    (fun G106 nx104 k68 s67 x69 hk70 hx71 hn105 h => wpC_seq <| reg_s <| st rfl <| b_lss (k := .i64) rfl rfl <| seqN [(0, .d ((cLs cI rfl).enc v0)), (3, .d (cI.enc s67)), (9, .d ((cLs cI rfl).enc v0)), (10, .d (cI.enc (v0.length : Int))), (11, .d (cI.enc (k68 : Int))), (12, .d (cB.enc (decide ((k68 : Int) < (v0.length : Int)))))] (by kernel_rfl) <|
    xn <| wpC_seq <| wpC_kp <| cnd1 rfl (dlt hk70) <| wpC_skip <| kpN [(0, .d ((cLs cI rfl).enc v0)), (3, .d (cI.enc s67)), (9, .d ((cLs cI rfl).enc v0)), (10, .d (cI.enc (v0.length : Int))), (11, .d (cI.enc (k68 : Int)))] (by kernel_rfl) <| xn <| wpC_seq <| wpC_kp <| wpC_blk <| wpC_seq <| reg_s <| st rfl <| ias rfl rfl (Int.natCast_nonneg _) hx71 rfl <| st rfl <| ldi rfl rfl rfl rfl <| x_asg (ss rfl rfl) <| seqN [(0, .d ((cLs cI rfl).enc v0)), (3, .d (cI.enc s67)), (5, .d (cI.enc x69)), (9, .d ((cLs cI rfl).enc v0)), (10, .d (cI.enc (v0.length : Int))), (11, .d (cI.enc (k68 : Int)))] (by kernel_rfl) <|
    xn <| wpC_seq <| wpC_kp <| wpC_seq <| reg_s <| st rfl <| mvd rfl rfl <| st rfl <| b_lss (k := .i64) rfl rfl <| st rfl <| mvd rfl rfl <| ite_k h (fun b121 h => gf rfl b121 <| gf rfl b121 <| st rfl <| pick1 rfl b121 (cd := cB) (v := true) rfl rfl <| seqN [(0, .d ((cLs cI rfl).enc v0)), (3, .d (cI.enc s67)), (5, .d (cI.enc x69)), (9, .d ((cLs cI rfl).enc v0)), (10, .d (cI.enc (v0.length : Int))), (11, .d (cI.enc (k68 : Int))), (20, .d (cB.enc true))] (by kernel_rfl) <|
    xn <| cnd1 rfl rfl <| wpC_seq <| reg_s <| x_asg (sc cI (0 : Int) rfl) <| seqN [(2, .d (cI.enc (0 : Int)))] (by kernel_rfl) <|
    xn <| wpC_ret <| rt <| rt <| rb <| rt <| rt <| rt <| rb <| rt <| rt <| re <| fin h (r1 (ss rfl rfl) <| r0) rfl)
    (fun b121 h => gt' rfl b121 <| st rfl <| mvd rfl rfl <| gt' rfl b121 <| st rfl <| b_gtr (k := .i64) rfl rfl <| st rfl <| pick0 rfl b121 (cd := cB) (v := (decide ((30 : Int) < x69))) rfl rfl <| seqN [(0, .d ((cLs cI rfl).enc v0)), (3, .d (cI.enc s67)), (5, .d (cI.enc x69)), (9, .d ((cLs cI rfl).enc v0)), (10, .d (cI.enc (v0.length : Int))), (11, .d (cI.enc (k68 : Int))), (20, .d (cB.enc (decide ((30 : Int) < x69))))] (by kernel_rfl) <|
    xn <| cnd rfl h (fun b122 h => wpC_seq <| reg_s <| x_asg (sc cI (0 : Int) rfl) <| seqN [(2, .d (cI.enc (0 : Int)))] (by kernel_rfl) <|
    xn <| wpC_ret <| rt <| rt <| rb <| rt <| rt <| rt <| rb <| rt <| rt <| re <| fin h (r1 (ss rfl rfl) <| r0) rfl)
    (fun b122 h => wpC_skip <| kpN [(0, .d ((cLs cI rfl).enc v0)), (3, .d (cI.enc s67)), (5, .d (cI.enc x69)), (9, .d ((cLs cI rfl).enc v0)), (10, .d (cI.enc (v0.length : Int))), (11, .d (cI.enc (k68 : Int)))] (by kernel_rfl) <| xn <| reg_s <| st rfl <| mvd rfl rfl <| st rfl <| mvd rfl rfl <| ckI_k h fun i123 h => st rfl <| b_add (k := .i64) rfl rfl i123 <| ckI_k h fun i124 h => st rfl <| b_mul (k := .i64) rfl rfl i124 <| x_asg (ss rfl rfl) <| seqN [(0, .d ((cLs cI rfl).enc v0)), (3, .d (cI.enc (s67 * (x69 + (1 : Int))))), (9, .d ((cLs cI rfl).enc v0)), (10, .d (cI.enc (v0.length : Int))), (11, .d (cI.enc (k68 : Int)))] (by kernel_rfl) <|
    xbb <| kpN [(0, .d ((cLs cI rfl).enc v0)), (3, .d (cI.enc (s67 * (x69 + (1 : Int))))), (9, .d ((cLs cI rfl).enc v0)), (10, .d (cI.enc (v0.length : Int))), (11, .d (cI.enc (k68 : Int)))] (by kernel_rfl) <| xn <| reg_s <| st rfl <| b_inc rfl rfl l66 hk70 <| st rfl <| mvd rfl rfl <| seqN [(0, .d ((cLs cI rfl).enc v0)), (3, .d (cI.enc (s67 * (x69 + (1 : Int))))), (9, .d ((cLs cI rfl).enc v0)), (10, .d (cI.enc (v0.length : Int))), (11, .d (cI.enc ((k68 + 1 : Nat) : Int)))] (by kernel_rfl) <|
    xn <| hn105 (s67 * (x69 + (1 : Int))) h))))

def rs_impl_strides (r : (List Int)) : List D := [(cLo cI).enc r]
def m63 : MC := .seq (.reg [⟨some 2, .asg (.c (.slice true [])), none⟩] [0])
  (.seq (.reg [⟨some 6, .mv (.t 0), none⟩,
    ⟨some 7, .len false (.t 6), none⟩,
    ⟨some 8, .mk (.int .i64 0) (.t 7), none⟩,
    ⟨some 3, .asg (.t 8), none⟩] [0, 3])
  (.seq (.reg [⟨some 4, .asg (.c (.int .i64 1)), none⟩] [0, 3, 4])
  (.seq (.kp [3] (.seq (.reg [⟨some 9, .mv (.t 0), none⟩,
    ⟨some 10, .len false (.t 9), none⟩,
    ⟨some 11, .bin .sub (.t 10) (.c (.int .i64 1)), none⟩,
    ⟨some 5, .asg (.t 11), none⟩] [0, 3, 4, 5])
  (.blk 0 (.loop (.seq (.kp [0, 3, 4, 5] (.seq (.reg [⟨some 12, .mv (.t 5), none⟩,
    ⟨some 13, .bin .geq (.t 12) (.c (.int .i64 0)), none⟩] [0, 3, 4, 5, 13])
  (.cond (.t 13) (.skip) (.exit 0))))
  (.seq (.kp [0, 3, 4, 5] (.blk 1 (.seq (.reg [⟨some 16, .mv (.t 3), none⟩,
    ⟨some 17, .mv (.t 5), none⟩,
    ⟨some 18, .mv (.t 4), none⟩,
    ⟨some 19, .ia 16 (.t 17) 1, none⟩,
    ⟨none, .st 19 (.t 18) 1, none⟩] [0, 3, 4, 5])
  (.reg [⟨some 20, .mv (.t 4), none⟩,
    ⟨some 21, .mv (.t 0), none⟩,
    ⟨some 22, .mv (.t 5), none⟩,
    ⟨some 23, .ia 21 (.t 22) 1, none⟩,
    ⟨some 24, .ld 23 1 false, none⟩,
    ⟨some 25, .bin .add (.t 24) (.c (.int .i64 1)), none⟩,
    ⟨some 26, .bin .mul (.t 20) (.t 25), none⟩,
    ⟨some 4, .asg (.t 26), none⟩] [0, 3, 4, 5]))))
  (.reg [⟨some 14, .mv (.t 5), none⟩,
    ⟨some 15, .bin .sub (.t 14) (.c (.int .i64 1)), none⟩,
    ⟨some 5, .asg (.t 15), none⟩] [0, 3, 4, 5])))))))
  (.seq (.reg [⟨some 27, .mv (.t 3), none⟩,
    ⟨some 2, .asg (.t 27), none⟩] [2])
  (.ret)))))
theorem con_impl_strides {v0 : (List Int)} {r : (List Int)} (h : sh_impl_strides v0 = some r) : Con Try.prog 63 [(cLs cI rfl).enc v0] [] (rs_impl_strides r) := by
  delta sh_impl_strides at h
  refine top (out := none) (f := Try.f63) (m := m63) (rs := [.t 2]) (by kernel_rfl) rfl (by kernel_rfl) (by kernel_rfl) (by kernel_rfl) (by kernel_rfl) (by kernel_rfl) ?_
  exact
   ini [(0, .d ((cLs cI rfl).enc v0))] rfl <| wpC_seq <| reg_s <| x_asg (sc (cLo cI) ([] : List Int) rfl) <| seqN [(0, .d ((cLs cI rfl).enc v0))] (by kernel_rfl) <|
    xn <| wpC_seq <| reg_s <| st rfl <| mvd rfl rfl <| stw rfl <| lens rfl fun l4 => mkO_k h fun i5 l6 h => st rfl <| o_mk (c := cI) (a0 := (0 : Int)) rfl (k := .i64) rfl i5 l6 <| x_asg (so rfl rfl) <| seqN [(0, .d ((cLs cI rfl).enc v0)), (3, .d ((cLo cI).enc (List.replicate ((v0.length : Int)).toNat (0 : Int))))] (by kernel_rfl) <|
    xn <| wpC_seq <| reg_s <| x_asg (sc cI (1 : Int) rfl) <| seqN [(0, .d ((cLs cI rfl).enc v0)), (3, .d ((cLo cI).enc (List.replicate ((v0.length : Int)).toNat (0 : Int)))), (4, .d (cI.enc (1 : Int)))] (by kernel_rfl) <|
    xn <| wpC_seq <| wpC_kp <| wpC_seq <| reg_s <| st rfl <| mvd rfl rfl <| stw rfl <| lens rfl fun l96 => ckI_k h fun i97 h => st rfl <| b_sub (k := .i64) rfl rfl i97 <| x_asg (ss rfl rfl) <| seqN [(0, .d ((cLs cI rfl).enc v0)), (3, .d ((cLo cI).enc (List.replicate ((v0.length : Int)).toNat (0 : Int)))), (4, .d (cI.enc (1 : Int))), (5, .d (cI.enc ((v0.length : Int) - (1 : Int))))] (by kernel_rfl) <|
    xn <| wpC_blk <| lpF (fun (s98 : ((List Int) × Int × Int)) => [(0, .d ((cLs cI rfl).enc v0)), (3, .d ((cLo cI).enc s98.1)), (4, .d (cI.enc s98.2.1)), (5, .d (cI.enc s98.2.2))]) ((List.replicate ((v0.length : Int)).toNat (0 : Int)), (1 : Int), ((v0.length : Int) - (1 : Int))) rfl h
    fun G155 nx153 s98 hn154 h => wpC_seq <| wpC_kp <| wpC_seq <| reg_s <| st rfl <| mvd rfl rfl <| st rfl <| b_geq (k := .i64) rfl rfl <| seqN [(0, .d ((cLs cI rfl).enc v0)), (3, .d ((cLo cI).enc s98.1)), (4, .d (cI.enc s98.2.1)), (5, .d (cI.enc s98.2.2)), (13, .d (cB.enc (decide ((0 : Int) ≤ s98.2.2))))] (by kernel_rfl) <|
    xn <| cnd rfl h (fun b157 h => wpC_skip <| kpN [(0, .d ((cLs cI rfl).enc v0)), (3, .d ((cLo cI).enc s98.1)), (4, .d (cI.enc s98.2.1)), (5, .d (cI.enc s98.2.2))] (by kernel_rfl) <| xn <| wpC_seq <| wpC_kp <| wpC_blk <| wpC_seq <| reg_s <| st rfl <| mvo rfl rfl <| st rfl <| mvd rfl rfl <| st rfl <| mvd rfl rfl <| getO_k h fun x172 i173 g174 h => st rfl <| iar rfl rfl rfl rfl i173 g174 rfl <| x_sta ((cLo cI).enc (s98.1.set (s98.2.2).toNat s98.2.1)) (ss rfl rfl) rfl rfl (Ln.idx g174 Ln.nil) (Cd.h_sz cI _) rfl <| seqN [(0, .d ((cLs cI rfl).enc v0)), (3, .d ((cLo cI).enc (s98.1.set (s98.2.2).toNat s98.2.1))), (4, .d (cI.enc s98.2.1)), (5, .d (cI.enc s98.2.2))] (by kernel_rfl) <|
    xn <| reg_s <| st rfl <| mvd rfl rfl <| st rfl <| mvd rfl rfl <| st rfl <| mvd rfl rfl <| getO_k h fun x175 i176 g177 h => st rfl <| ias rfl rfl i176 g177 rfl <| st rfl <| ldi rfl rfl rfl rfl <| ckI_k h fun i178 h => st rfl <| b_add (k := .i64) rfl rfl i178 <| ckI_k h fun i179 h => st rfl <| b_mul (k := .i64) rfl rfl i179 <| x_asg (ss rfl rfl) <| seqN [(0, .d ((cLs cI rfl).enc v0)), (3, .d ((cLo cI).enc (s98.1.set (s98.2.2).toNat s98.2.1))), (4, .d (cI.enc (s98.2.1 * (x175 + (1 : Int))))), (5, .d (cI.enc s98.2.2))] (by kernel_rfl) <|
    xbb <| kpN [(0, .d ((cLs cI rfl).enc v0)), (3, .d ((cLo cI).enc (s98.1.set (s98.2.2).toNat s98.2.1))), (4, .d (cI.enc (s98.2.1 * (x175 + (1 : Int))))), (5, .d (cI.enc s98.2.2))] (by kernel_rfl) <| xn <| reg_s <| st rfl <| mvd rfl rfl <| ckI_k h fun i180 h => st rfl <| b_sub (k := .i64) rfl rfl i180 <| x_asg (ss rfl rfl) <| seqN [(0, .d ((cLs cI rfl).enc v0)), (3, .d ((cLo cI).enc (s98.1.set (s98.2.2).toNat s98.2.1))), (4, .d (cI.enc (s98.2.1 * (x175 + (1 : Int))))), (5, .d (cI.enc (s98.2.2 - (1 : Int))))] (by kernel_rfl) <|
    xn <| hn154 ((s98.1.set (s98.2.2).toNat s98.2.1), (s98.2.1 * (x175 + (1 : Int))), (s98.2.2 - (1 : Int))) h)
    (fun b157 h => wpC_exit <| xt <| xt <| xt <| xb <| kpN [(3, .d ((cLo cI).enc s98.1))] (by kernel_rfl) <| xn <| wpC_seq <| reg_s <| st rfl <| mvo rfl rfl <| x_asg (sr rfl rfl) <| seqN [(2, .d ((cLo cI).enc s98.1))] (by kernel_rfl) <|
    xn <| wpC_ret <| re <| fin h (r1 (so rfl rfl) <| r0) rfl)

def rs_impl_indexOf (r : (List Int)) : List D := [(cLo cI).enc r]
def m64 : MC := .seq (.reg [⟨some 4, .asg (.c (.slice true [])), none⟩] [0, 1])
  (.seq (.reg [⟨some 8, .mv (.t 0), none⟩,
    ⟨some 9, .len false (.t 8), none⟩,
    ⟨some 10, .mk (.int .i64 0) (.t 9), none⟩,
    ⟨some 5, .asg (.t 10), none⟩] [0, 1, 5])
  (.seq (.kp [5] (.seq (.reg [⟨some 11, .mv (.t 0), none⟩,
    ⟨some 12, .call 63 [(.t 11)], none⟩,
    ⟨some 13, .len false (.t 12), none⟩,
    ⟨some 14, .mv (.c (.int .i64 0)), none⟩] [1, 5, 12, 13, 14])
  (.blk 0 (.loop (.seq (.reg [⟨some 15, .bin .lss (.t 14) (.t 13), none⟩] [1, 5, 12, 13, 14, 15])
  (.seq (.kp [1, 5, 12, 13, 14] (.cond (.t 15) (.skip) (.exit 0)))
  (.seq (.kp [1, 5, 12, 13, 14] (.blk 1 (.seq (.reg [⟨some 16, .mv (.t 14), none⟩,
    ⟨some 17, .ia 12 (.t 14) 1, none⟩,
    ⟨some 18, .ld 17 1 false, none⟩,
    ⟨some 6, .asg (.t 16), none⟩,
    ⟨some 7, .asg (.t 18), none⟩] [1, 5, 6, 7, 12, 13, 14])
  (.seq (.reg [⟨some 19, .mv (.t 5), none⟩,
    ⟨some 20, .mv (.t 6), none⟩,
    ⟨some 21, .mv (.t 1), none⟩,
    ⟨some 22, .mv (.t 7), none⟩,
    ⟨some 23, .bin .quo (.t 21) (.t 22), none⟩,
    ⟨some 24, .ia 19 (.t 20) 1, none⟩,
    ⟨none, .st 24 (.t 23) 1, none⟩] [1, 5, 7, 12, 13, 14])
  (.reg [⟨some 25, .mv (.t 1), none⟩,
    ⟨some 26, .mv (.t 7), none⟩,
    ⟨some 27, .bin .rem (.t 25) (.t 26), none⟩,
    ⟨some 1, .asg (.t 27), none⟩] [1, 5, 12, 13, 14])))))
  (.reg [⟨some 28, .bin .add (.t 14) (.c (.int .i64 1)), none⟩,
    ⟨some 14, .mv (.t 28), none⟩] [1, 5, 12, 13, 14]))))))))
  (.seq (.reg [⟨some 29, .mv (.t 5), none⟩,
    ⟨some 4, .asg (.t 29), none⟩] [4])
  (.ret))))
theorem con_impl_indexOf {v0 : (List Int)} {v1 : Int} {r : (List Int)} (h : sh_impl_indexOf v0 v1 = some r) : Con Try.prog 64 [(cLs cI rfl).enc v0, cI.enc v1] [] (rs_impl_indexOf r) := by
  delta sh_impl_indexOf at h
  refine top (out := none) (f := Try.f64) (m := m64) (rs := [.t 4]) (by kernel_rfl) rfl (by kernel_rfl) (by kernel_rfl) (by kernel_rfl) (by kernel_rfl) (by kernel_rfl) ?_
  exact
   ini [(0, .d ((cLs cI rfl).enc v0)), (1, .d (cI.enc v1))] rfl <| wpC_seq <| reg_s <| x_asg (sc (cLo cI) ([] : List Int) rfl) <| seqN [(0, .d ((cLs cI rfl).enc v0)), (1, .d (cI.enc v1))] (by kernel_rfl) <|
    xn <| wpC_seq <| reg_s <| st rfl <| mvd rfl rfl <| stw rfl <| lens rfl fun l4 => mkO_k h fun i5 l6 h => st rfl <| o_mk (c := cI) (a0 := (0 : Int)) rfl (k := .i64) rfl i5 l6 <| x_asg (so rfl rfl) <| seqN [(0, .d ((cLs cI rfl).enc v0)), (1, .d (cI.enc v1)), (5, .d ((cLo cI).enc (List.replicate ((v0.length : Int)).toNat (0 : Int))))] (by kernel_rfl) <|
    xn <| wpC_seq <| wpC_kp <| wpC_seq <| reg_s <| st rfl <| mvd rfl rfl <| bnd h fun x90 e91 h => st rfl <| o_call (a1 (c := (cLs cI rfl)) (tLs tK) rfl a0) (con_impl_strides e91) (.inl (so1 (sLo sK) so0)) <| stw rfl <| leno rfl fun l92 => st rfl <| mvc cI (0 : Int) rfl <| seqN [(1, .d (cI.enc v1)), (5, .d ((cLo cI).enc (List.replicate ((v0.length : Int)).toNat (0 : Int)))), (12, .d ((cLo cI).enc x90)), (13, .d (cI.enc (x90.length : Int))), (14, .d (cI.enc (0 : Int)))] (by kernel_rfl) <|
    xn <| wpC_blk <| lpR (fun (k94 : Nat) (s93 : (Int × (List Int))) => [(1, .d (cI.enc s93.1)), (5, .d ((cLo cI).enc s93.2)), (12, .d ((cLo cI).enc x90)), (13, .d (cI.enc (x90.length : Int))), (14, .d (cI.enc (k94 : Int)))]) (v1, (List.replicate ((v0.length : Int)).toNat (0 : Int))) rfl h
    (fun G144 s93 h => wpC_seq <| reg_s <| st rfl <| b_lss (k := .i64) rfl rfl <| seqN [(1, .d (cI.enc s93.1)), (5, .d ((cLo cI).enc s93.2)), (12, .d ((cLo cI).enc x90)), (13, .d (cI.enc (x90.length : Int))), (14, .d (cI.enc (x90.length : Int))), (15, .d (cB.enc (decide ((x90.length : Int) < (x90.length : Int)))))] (by kernel_rfl) <|
    xn <| wpC_seq <| wpC_kp <| cnd0 rfl (dlf _) <| wpC_exit <| xt <| xt <| xt <| xb <| kpN [(5, .d ((cLo cI).enc s93.2))] (by kernel_rfl) <| xn <| wpC_seq <| reg_s <| st rfl <| mvo rfl rfl <| x_asg (sr rfl rfl) <| seqN [(4, .d ((cLo cI).enc s93.2))] (by kernel_rfl) <|
    xn <| wpC_ret <| re <| fin h (r1 (so rfl rfl) <| r0) rfl)
    (fun G144 nx142 k94 s93 x95 hk96 hx97 hn143 h => wpC_seq <| reg_s <| st rfl <| b_lss (k := .i64) rfl rfl <| seqN [(1, .d (cI.enc s93.1)), (5, .d ((cLo cI).enc s93.2)), (12, .d ((cLo cI).enc x90)), (13, .d (cI.enc (x90.length : Int))), (14, .d (cI.enc (k94 : Int))), (15, .d (cB.enc (decide ((k94 : Int) < (x90.length : Int)))))] (by kernel_rfl) <|
    xn <| wpC_seq <| wpC_kp <| cnd1 rfl (dlt hk96) <| wpC_skip <| kpN [(1, .d (cI.enc s93.1)), (5, .d ((cLo cI).enc s93.2)), (12, .d ((cLo cI).enc x90)), (13, .d (cI.enc (x90.length : Int))), (14, .d (cI.enc (k94 : Int)))] (by kernel_rfl) <| xn <| wpC_seq <| wpC_kp <| wpC_blk <| wpC_seq <| reg_s <| st rfl <| mvd rfl rfl <| st rfl <| iao rfl rfl (Int.natCast_nonneg _) hx97 rfl <| st rfl <| lda rfl rfl (Gt.idx hx97 Gt.nil) rfl rfl rfl <| x_asg (ss rfl rfl) <| x_asg (ss rfl rfl) <| seqN [(1, .d (cI.enc s93.1)), (5, .d ((cLo cI).enc s93.2)), (6, .d (cI.enc (k94 : Int))), (7, .d (cI.enc x95)), (12, .d ((cLo cI).enc x90)), (13, .d (cI.enc (x90.length : Int))), (14, .d (cI.enc (k94 : Int)))] (by kernel_rfl) <|
    xn <| wpC_seq <| reg_s <| st rfl <| mvo rfl rfl <| st rfl <| mvd rfl rfl <| st rfl <| mvd rfl rfl <| st rfl <| mvd rfl rfl <| ck_k h fun i161 h => ckI_k h fun i162 h => st rfl <| b_quo (k := .i64) rfl rfl i161 i162 <| getO_k h fun x163 i164 g165 h => st rfl <| iar rfl rfl rfl rfl i164 g165 rfl <| x_sta ((cLo cI).enc (s93.2.set ((k94 : Int)).toNat (s93.1.tdiv x95))) (ss rfl rfl) rfl rfl (Ln.idx g165 Ln.nil) (Cd.h_sz cI _) rfl <| seqN [(1, .d (cI.enc s93.1)), (5, .d ((cLo cI).enc (s93.2.set ((k94 : Int)).toNat (s93.1.tdiv x95)))), (7, .d (cI.enc x95)), (12, .d ((cLo cI).enc x90)), (13, .d (cI.enc (x90.length : Int))), (14, .d (cI.enc (k94 : Int)))] (by kernel_rfl) <|
    xn <| reg_s <| st rfl <| mvd rfl rfl <| st rfl <| mvd rfl rfl <| ck_k h fun i166 h => st rfl <| b_rem (k := .i64) rfl rfl i166 <| x_asg (ss rfl rfl) <| seqN [(1, .d (cI.enc (s93.1.tmod x95))), (5, .d ((cLo cI).enc (s93.2.set ((k94 : Int)).toNat (s93.1.tdiv x95)))), (12, .d ((cLo cI).enc x90)), (13, .d (cI.enc (x90.length : Int))), (14, .d (cI.enc (k94 : Int)))] (by kernel_rfl) <|
    xbb <| kpN [(1, .d (cI.enc (s93.1.tmod x95))), (5, .d ((cLo cI).enc (s93.2.set ((k94 : Int)).toNat (s93.1.tdiv x95)))), (12, .d ((cLo cI).enc x90)), (13, .d (cI.enc (x90.length : Int))), (14, .d (cI.enc (k94 : Int)))] (by kernel_rfl) <| xn <| reg_s <| st rfl <| b_inc rfl rfl l92 hk96 <| st rfl <| mvd rfl rfl <| seqN [(1, .d (cI.enc (s93.1.tmod x95))), (5, .d ((cLo cI).enc (s93.2.set ((k94 : Int)).toNat (s93.1.tdiv x95)))), (12, .d ((cLo cI).enc x90)), (13, .d (cI.enc (x90.length : Int))), (14, .d (cI.enc ((k94 + 1 : Nat) : Int)))] (by kernel_rfl) <|
    xn <| hn143 ((s93.1.tmod x95), (s93.2.set ((k94 : Int)).toNat (s93.1.tdiv x95))) h)

def rs_impl_cellOf (r : Int) : List D := [cI.enc r]
def m83 : MC := .seq (.reg [⟨some 4, .asg (.c (.int .i64 0)), none⟩] [0, 1])
  (.seq (.reg [⟨some 5, .asg (.c (.int .i64 0)), none⟩] [0, 1, 5])
  (.seq (.kp [5] (.seq (.reg [⟨some 8, .mv (.t 0), none⟩,
    ⟨some 9, .call 63 [(.t 8)], none⟩,
    ⟨some 10, .len false (.t 9), none⟩,
    ⟨some 11, .mv (.c (.int .i64 0)), none⟩] [1, 5, 9, 10, 11])
  (.blk 0 (.loop (.seq (.reg [⟨some 12, .bin .lss (.t 11) (.t 10), none⟩] [1, 5, 9, 10, 11, 12])
  (.seq (.kp [1, 5, 9, 10, 11] (.cond (.t 12) (.skip) (.exit 0)))
  (.seq (.kp [1, 5, 9, 10, 11] (.blk 1 (.seq (.reg [⟨some 13, .mv (.t 11), none⟩,
    ⟨some 14, .ia 9 (.t 11) 1, none⟩,
    ⟨some 15, .ld 14 1 false, none⟩,
    ⟨some 6, .asg (.t 13), none⟩,
    ⟨some 7, .asg (.t 15), none⟩] [1, 5, 6, 7, 9, 10, 11])
  (.reg [⟨some 16, .mv (.t 5), none⟩,
    ⟨some 17, .mv (.t 1), none⟩,
    ⟨some 18, .mv (.t 6), none⟩,
    ⟨some 19, .ia 17 (.t 18) 1, none⟩,
    ⟨some 20, .ld 19 1 false, none⟩,
    ⟨some 21, .mv (.t 7), none⟩,
    ⟨some 22, .bin .mul (.t 20) (.t 21), none⟩,
    ⟨some 23, .bin .add (.t 16) (.t 22), none⟩,
    ⟨some 5, .asg (.t 23), none⟩] [1, 5, 9, 10, 11]))))
  (.reg [⟨some 24, .bin .add (.t 11) (.c (.int .i64 1)), none⟩,
    ⟨some 11, .mv (.t 24), none⟩] [1, 5, 9, 10, 11]))))))))
  (.seq (.reg [⟨some 25, .mv (.t 5), none⟩,
    ⟨some 4, .asg (.t 25), none⟩] [4])
  (.ret))))
theorem con_impl_cellOf {v0 : (List Int)} {v1 : (List Int)} {r : Int} (h : sh_impl_cellOf v0 v1 = some r) : Con Try.prog 83 [(cLs cI rfl).enc v0, (cLs cI rfl).enc v1] [] (rs_impl_cellOf r) := by
  delta sh_impl_cellOf at h
  refine top (out := none) (f := Try.f83) (m := m83) (rs := [.t 4]) (by kernel_rfl) rfl (by kernel_rfl) (by kernel_rfl) (by kernel_rfl) (by kernel_rfl) (by kernel_rfl) ?_
  exact
   ini [(0, .d ((cLs cI rfl).enc v0)), (1, .d ((cLs cI rfl).enc v1))] rfl <| wpC_seq <| reg_s <| x_asg (sc cI (0 : Int) rfl) <| seqN [(0, .d ((cLs cI rfl).enc v0)), (1, .d ((cLs cI rfl).enc v1))] (by kernel_rfl) <|
    xn <| wpC_seq <| reg_s <| x_asg (sc cI (0 : Int) rfl) <| seqN [(0, .d ((cLs cI rfl).enc v0)), (1, .d ((cLs cI rfl).enc v1)), (5, .d (cI.enc (0 : Int)))] (by kernel_rfl) <|
    xn <| wpC_seq <| wpC_kp <| wpC_seq <| reg_s <| st rfl <| mvd rfl rfl <| bnd h fun x48 e49 h => st rfl <| o_call (a1 (c := (cLs cI rfl)) (tLs tK) rfl a0) (con_impl_strides e49) (.inl (so1 (sLo sK) so0)) <| stw rfl <| leno rfl fun l50 => st rfl <| mvc cI (0 : Int) rfl <| seqN [(1, .d ((cLs cI rfl).enc v1)), (5, .d (cI.enc (0 : Int))), (9, .d ((cLo cI).enc x48)), (10, .d (cI.enc (x48.length : Int))), (11, .d (cI.enc (0 : Int)))] (by kernel_rfl) <|
    xn <| wpC_blk <| lpR (fun (k52 : Nat) (s51 : Int) => [(1, .d ((cLs cI rfl).enc v1)), (5, .d (cI.enc s51)), (9, .d ((cLo cI).enc x48)), (10, .d (cI.enc (x48.length : Int))), (11, .d (cI.enc (k52 : Int)))]) (0 : Int) rfl h
    (fun G78 s51 h => wpC_seq <| reg_s <| st rfl <| b_lss (k := .i64) rfl rfl <| seqN [(1, .d ((cLs cI rfl).enc v1)), (5, .d (cI.enc s51)), (9, .d ((cLo cI).enc x48)), (10, .d (cI.enc (x48.length : Int))), (11, .d (cI.enc (x48.length : Int))), (12, .d (cB.enc (decide ((x48.length : Int) < (x48.length : Int)))))] (by kernel_rfl) <|
    xn <| wpC_seq <| wpC_kp <| cnd0 rfl (dlf _) <| wpC_exit <| xt <| xt <| xt <| xb <| kpN [(5, .d (cI.enc s51))] (by kernel_rfl) <| xn <| wpC_seq <| reg_s <| st rfl <| mvd rfl rfl <| x_asg (ss rfl rfl) <| seqN [(4, .d (cI.enc s51))] (by kernel_rfl) <|
    xn <| wpC_ret <| re <| fin h (r1 (ss rfl rfl) <| r0) rfl)
    (fun G78 nx76 k52 s51 x53 hk54 hx55 hn77 h => wpC_seq <| reg_s <| st rfl <| b_lss (k := .i64) rfl rfl <| seqN [(1, .d ((cLs cI rfl).enc v1)), (5, .d (cI.enc s51)), (9, .d ((cLo cI).enc x48)), (10, .d (cI.enc (x48.length : Int))), (11, .d (cI.enc (k52 : Int))), (12, .d (cB.enc (decide ((k52 : Int) < (x48.length : Int)))))] (by kernel_rfl) <|
    xn <| wpC_seq <| wpC_kp <| cnd1 rfl (dlt hk54) <| wpC_skip <| kpN [(1, .d ((cLs cI rfl).enc v1)), (5, .d (cI.enc s51)), (9, .d ((cLo cI).enc x48)), (10, .d (cI.enc (x48.length : Int))), (11, .d (cI.enc (k52 : Int)))] (by kernel_rfl) <| xn <| wpC_seq <| wpC_kp <| wpC_blk <| wpC_seq <| reg_s <| st rfl <| mvd rfl rfl <| st rfl <| iao rfl rfl (Int.natCast_nonneg _) hx55 rfl <| st rfl <| lda rfl rfl (Gt.idx hx55 Gt.nil) rfl rfl rfl <| x_asg (ss rfl rfl) <| x_asg (ss rfl rfl) <| seqN [(1, .d ((cLs cI rfl).enc v1)), (5, .d (cI.enc s51)), (6, .d (cI.enc (k52 : Int))), (7, .d (cI.enc x53)), (9, .d ((cLo cI).enc x48)), (10, .d (cI.enc (x48.length : Int))), (11, .d (cI.enc (k52 : Int)))] (by kernel_rfl) <|
    xn <| reg_s <| st rfl <| mvd rfl rfl <| st rfl <| mvd rfl rfl <| st rfl <| mvd rfl rfl <| getO_k h fun x84 i85 g86 h => st rfl <| ias rfl rfl i85 g86 rfl <| st rfl <| ldi rfl rfl rfl rfl <| st rfl <| mvd rfl rfl <| ckI_k h fun i87 h => st rfl <| b_mul (k := .i64) rfl rfl i87 <| ckI_k h fun i88 h => st rfl <| b_add (k := .i64) rfl rfl i88 <| x_asg (ss rfl rfl) <| seqN [(1, .d ((cLs cI rfl).enc v1)), (5, .d (cI.enc (s51 + (x84 * x53)))), (9, .d ((cLo cI).enc x48)), (10, .d (cI.enc (x48.length : Int))), (11, .d (cI.enc (k52 : Int)))] (by kernel_rfl) <|
    xbb <| kpN [(1, .d ((cLs cI rfl).enc v1)), (5, .d (cI.enc (s51 + (x84 * x53)))), (9, .d ((cLo cI).enc x48)), (10, .d (cI.enc (x48.length : Int))), (11, .d (cI.enc (k52 : Int)))] (by kernel_rfl) <| xn <| reg_s <| st rfl <| b_inc rfl rfl l50 hk54 <| st rfl <| mvd rfl rfl <| seqN [(1, .d ((cLs cI rfl).enc v1)), (5, .d (cI.enc (s51 + (x84 * x53)))), (9, .d ((cLo cI).enc x48)), (10, .d (cI.enc (x48.length : Int))), (11, .d (cI.enc ((k52 + 1 : Nat) : Int)))] (by kernel_rfl) <|
    xn <| hn77 (s51 + (x84 * x53)) h)
end AS.W
