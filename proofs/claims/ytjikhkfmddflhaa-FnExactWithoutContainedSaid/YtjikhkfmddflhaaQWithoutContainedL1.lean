/- The program computes the plain functions. No condition. -/
import Derived.Test.YtjikhkfmddflhaaQWithoutContainedS
import Derived.Test.YtjikhkfmddflhaaProg
import Derived.Test.YtjikhkfmddflhaaQWithoutContainedX
import Derived.Test.YtjikhkfmddflhaaQWithoutContainedL0
set_option maxRecDepth 100000
set_option linter.unusedVariables false
set_option linter.unusedSimpArgs false
namespace AS.W
open Go Go.Proofs
def rs_laws_eqVariable (r : Bool) : List D := [cB.enc r]
def m68 : MC := .seq (.reg [⟨some 2, .box (.t 0), none⟩,
    ⟨some 3, .box (.t 1), none⟩,
    ⟨some 4, .asg (.c (.bool false)), none⟩] [2, 3])
  (.seq (.kp [2, 3] (.seq (.reg [⟨some 5, .fa 2 0 0, none⟩,
    ⟨some 6, .ld 5 1 false, none⟩,
    ⟨some 7, .fa 3 0 0, none⟩,
    ⟨some 8, .ld 7 1 false, none⟩,
    ⟨some 9, .bin .neq (.t 6) (.t 8), none⟩] [2, 3, 9])
  (.cond (.t 9) (.seq (.reg [⟨some 4, .asg (.c (.bool false)), none⟩] [4])
  (.ret)) (.skip))))
  (.seq (.kp [] (.seq (.reg [⟨some 10, .fa 2 1 1, none⟩,
    ⟨some 11, .ld 10 1 false, none⟩,
    ⟨some 12, .fa 3 1 1, none⟩,
    ⟨some 13, .ld 12 1 false, none⟩,
    ⟨some 14, .bin .neq (.t 11) (.t 13), none⟩] [14])
  (.cond (.t 14) (.seq (.reg [⟨some 4, .asg (.c (.bool false)), none⟩] [4])
  (.ret)) (.skip))))
  (.seq (.reg [⟨some 4, .asg (.c (.bool true)), none⟩] [4])
  (.ret))))
theorem con_laws_eqVariable {v0 : XVariable} {v1 : XVariable} {r : Bool} (h : sh_laws_eqVariable v0 v1 = some r) : Con Try.prog 68 [(cXVariable cS cI).enc v0, (cXVariable cS cI).enc v1] [] (rs_laws_eqVariable r) := by
  delta sh_laws_eqVariable at h
  refine top (out := none) (f := Try.f68) (m := m68) (rs := [.t 4]) (by kernel_rfl) rfl (by kernel_rfl) (by kernel_rfl) (by kernel_rfl) (by kernel_rfl) (by kernel_rfl) ?_
  exact
   ini [(0, .d ((cXVariable cS cI).enc v0)), (1, .d ((cXVariable cS cI).enc v1))] rfl <| wpC_seq <| reg_s <| x_box (ss rfl rfl) <| x_box (ss rfl rfl) <| x_asg (sc cB false rfl) <| seqN [(2, .box ((cXVariable cS cI).enc v0)), (3, .box ((cXVariable cS cI).enc v1))] (by kernel_rfl) <|
    xn <| wpC_seq <| wpC_kp <| wpC_seq <| reg_s <| st rfl <| fab rfl rfl rfl rfl <| st rfl <| lda rfl rfl rfl rfl rfl rfl <| st rfl <| fab rfl rfl rfl rfl <| st rfl <| lda rfl rfl rfl rfl rfl rfl <| st rfl <| b_sne rfl rfl <| seqN [(2, .box ((cXVariable cS cI).enc v0)), (3, .box ((cXVariable cS cI).enc v1)), (9, .d (cB.enc (decide (v0.Name ≠ v1.Name))))] (by kernel_rfl) <|
    xn <| cnd rfl h (fun b2 h => wpC_seq <| reg_s <| x_asg (sc cB false rfl) <| seqN [(4, .d (cB.enc false))] (by kernel_rfl) <|
    xn <| wpC_ret <| rt <| rt <| re <| fin h (r1 (ss rfl rfl) <| r0) rfl)
    (fun b2 h => wpC_skip <| kpN [(2, .box ((cXVariable cS cI).enc v0)), (3, .box ((cXVariable cS cI).enc v1))] (by kernel_rfl) <| xn <| wpC_seq <| wpC_kp <| wpC_seq <| reg_s <| st rfl <| fab rfl rfl rfl rfl <| st rfl <| lda rfl rfl rfl rfl rfl rfl <| st rfl <| fab rfl rfl rfl rfl <| st rfl <| lda rfl rfl rfl rfl rfl rfl <| st rfl <| b_neq (k := .i64) rfl rfl <| seqN [(14, .d (cB.enc (decide (v0.Levels ≠ v1.Levels))))] (by kernel_rfl) <|
    xn <| cnd rfl h (fun b4 h => wpC_seq <| reg_s <| x_asg (sc cB false rfl) <| seqN [(4, .d (cB.enc false))] (by kernel_rfl) <|
    xn <| wpC_ret <| rt <| rt <| re <| fin h (r1 (ss rfl rfl) <| r0) rfl)
    (fun b4 h => wpC_skip <| kpN [] (by kernel_rfl) <| xn <| wpC_seq <| reg_s <| x_asg (sc cB true rfl) <| seqN [(4, .d (cB.enc true))] (by kernel_rfl) <|
    xn <| wpC_ret <| re <| fin h (r1 (ss rfl rfl) <| r0) rfl))

def rs_laws_eqVariableS (r : Bool) : List D := [cB.enc r]
def m20 : MC := .seq (.reg [⟨some 4, .asg (.c (.bool false)), none⟩] [0, 1])
  (.seq (.kp [0, 1] (.seq (.reg [⟨some 6, .mv (.t 0), none⟩,
    ⟨some 7, .len false (.t 6), none⟩,
    ⟨some 8, .mv (.t 1), none⟩,
    ⟨some 9, .len false (.t 8), none⟩,
    ⟨some 10, .bin .neq (.t 7) (.t 9), none⟩] [0, 1, 10])
  (.cond (.t 10) (.seq (.reg [⟨some 4, .asg (.c (.bool false)), none⟩] [4])
  (.ret)) (.skip))))
  (.seq (.kp [] (.seq (.reg [⟨some 5, .asg (.c (.int .i64 0)), none⟩] [0, 1, 5])
  (.blk 0 (.loop (.seq (.kp [0, 1, 5] (.seq (.reg [⟨some 11, .mv (.t 5), none⟩,
    ⟨some 12, .mv (.t 0), none⟩,
    ⟨some 13, .len false (.t 12), none⟩,
    ⟨some 14, .bin .lss (.t 11) (.t 13), none⟩] [0, 1, 5, 14])
  (.cond (.t 14) (.skip) (.exit 0))))
  (.seq (.kp [0, 1, 5] (.blk 1 (.seq (.drw [⟨0, ⟨some 17, .mv (.t 0), none⟩, [18, 19, 20, 21, 22, 23, 24, 25, 26]⟩,
    ⟨1, ⟨some 18, .mv (.t 5), none⟩, [17, 19, 20, 21, 22, 23, 24, 25, 26]⟩,
    ⟨2, ⟨some 19, .ia 17 (.t 18) 2, none⟩, [20, 21, 22, 23, 24, 25, 26]⟩,
    ⟨3, ⟨some 20, .ld 19 2 true, none⟩, [21, 22, 23, 24, 25, 26]⟩,
    ⟨4, ⟨some 21, .mv (.t 1), none⟩, [17, 18, 19, 20, 22, 23, 24, 25, 26]⟩,
    ⟨5, ⟨some 22, .mv (.t 5), none⟩, [17, 18, 19, 20, 21, 23, 24, 25, 26]⟩,
    ⟨6, ⟨some 23, .ia 21 (.t 22) 2, none⟩, [17, 18, 19, 20, 24, 25, 26]⟩,
    ⟨7, ⟨some 24, .ld 23 2 true, none⟩, [17, 18, 19, 20, 25, 26]⟩,
    ⟨8, ⟨some 25, .call 68 [(.t 20), (.t 24)], none⟩, [26]⟩,
    ⟨9, ⟨some 26, .nt (.t 25), none⟩, []⟩]
    [] [0, 1, 5, 26])
  (.cond (.t 26) (.seq (.reg [⟨some 4, .asg (.c (.bool false)), none⟩] [4])
  (.ret)) (.skip)))))
  (.reg [⟨some 15, .mv (.t 5), none⟩,
    ⟨some 16, .bin .add (.t 15) (.c (.int .i64 1)), none⟩,
    ⟨some 5, .asg (.t 16), none⟩] [0, 1, 5])))))))
  (.seq (.reg [⟨some 4, .asg (.c (.bool true)), none⟩] [4])
  (.ret))))
theorem con_laws_eqVariableS {v0 : (List XVariable)} {v1 : (List XVariable)} {r : Bool} (h : sh_laws_eqVariableS v0 v1 = some r) : Con Try.prog 20 [(cLs (cXVariable cS cI) rfl).enc v0, (cLs (cXVariable cS cI) rfl).enc v1] [] (rs_laws_eqVariableS r) := by
  delta sh_laws_eqVariableS at h
  refine top (out := none) (f := Try.f20) (m := m20) (rs := [.t 4]) (by kernel_rfl) rfl (by kernel_rfl) (by kernel_rfl) (by kernel_rfl) (by kernel_rfl) (by kernel_rfl) ?_
  exact
   ini [(0, .d ((cLs (cXVariable cS cI) rfl).enc v0)), (1, .d ((cLs (cXVariable cS cI) rfl).enc v1))] rfl <| wpC_seq <| reg_s <| x_asg (sc cB false rfl) <| seqN [(0, .d ((cLs (cXVariable cS cI) rfl).enc v0)), (1, .d ((cLs (cXVariable cS cI) rfl).enc v1))] (by kernel_rfl) <|
    xn <| wpC_seq <| wpC_kp <| wpC_seq <| reg_s <| st rfl <| mvd rfl rfl <| stw rfl <| lens rfl fun l8 => st rfl <| mvd rfl rfl <| stw rfl <| lens rfl fun l9 => st rfl <| b_neq (k := .i64) rfl rfl <| seqN [(0, .d ((cLs (cXVariable cS cI) rfl).enc v0)), (1, .d ((cLs (cXVariable cS cI) rfl).enc v1)), (10, .d (cB.enc (decide ((v0.length : Int) ≠ (v1.length : Int)))))] (by kernel_rfl) <|
    xn <| cnd rfl h (fun b10 h => wpC_seq <| reg_s <| x_asg (sc cB false rfl) <| seqN [(4, .d (cB.enc false))] (by kernel_rfl) <|
    xn <| wpC_ret <| rt <| rt <| re <| fin h (r1 (ss rfl rfl) <| r0) rfl)
    (fun b10 h => wpC_skip <| kpN [(0, .d ((cLs (cXVariable cS cI) rfl).enc v0)), (1, .d ((cLs (cXVariable cS cI) rfl).enc v1))] (by kernel_rfl) <| xn <| wpC_seq <| wpC_kp <| wpC_seq <| reg_s <| x_asg (sc cI (0 : Int) rfl) <| seqN [(0, .d ((cLs (cXVariable cS cI) rfl).enc v0)), (1, .d ((cLs (cXVariable cS cI) rfl).enc v1)), (5, .d (cI.enc (0 : Int)))] (by kernel_rfl) <|
    xn <| wpC_blk <| lpF (fun (s142 : Int) => [(0, .d ((cLs (cXVariable cS cI) rfl).enc v0)), (1, .d ((cLs (cXVariable cS cI) rfl).enc v1)), (5, .d (cI.enc s142))]) (0 : Int) rfl h
    fun G231 nx229 s142 hn230 h => wpC_seq <| wpC_kp <| wpC_seq <| reg_s <| st rfl <| mvd rfl rfl <| st rfl <| mvd rfl rfl <| stw rfl <| lens rfl fun l236 => st rfl <| b_lss (k := .i64) rfl rfl <| seqN [(0, .d ((cLs (cXVariable cS cI) rfl).enc v0)), (1, .d ((cLs (cXVariable cS cI) rfl).enc v1)), (5, .d (cI.enc s142)), (14, .d (cB.enc (decide (s142 < (v0.length : Int)))))] (by kernel_rfl) <|
    xn <| cnd rfl h (fun b237 h => wpC_skip <| kpN [(0, .d ((cLs (cXVariable cS cI) rfl).enc v0)), (1, .d ((cLs (cXVariable cS cI) rfl).enc v1)), (5, .d (cI.enc s142))] (by kernel_rfl) <| xn <| wpC_seq <| wpC_kp <| wpC_blk <| wpC_seq <| drw_s <| pst rfl <| mvd rfl rfl ⟨rfl, pst rfl <| mvd rfl rfl ⟨rfl, getO_kp h fun x263 i264 g265 h => pst rfl <| ias rfl rfl i264 g265 rfl ⟨rfl, pst rfl <| ldi rfl rfl rfl rfl ⟨rfl, pst rfl <| mvd rfl rfl ⟨rfl, pst rfl <| mvd rfl rfl ⟨rfl, getO_kp h fun x266 i267 g268 h => pst rfl <| ias rfl rfl i267 g268 rfl ⟨rfl, pst rfl <| ldi rfl rfl rfl rfl ⟨rfl, bndp h fun x269 e270 h => pst rfl <| o_call (a1 (c := (cXVariable cS cI)) (tXVariable tS tK) rfl (a1 (c := (cXVariable cS cI)) (tXVariable tS tK) rfl a0)) (con_laws_eqVariable e270) (.inl (so1 sB so0)) ⟨rfl, pst rfl <| o_nt rfl ⟨rfl, preN <| seqN [(0, .d ((cLs (cXVariable cS cI) rfl).enc v0)), (1, .d ((cLs (cXVariable cS cI) rfl).enc v1)), (5, .d (cI.enc s142)), (26, .d (cB.enc (!x269)))] (by kernel_rfl) <|
    xn <| cnd rfl h (fun b271 h => wpC_seq <| reg_s <| x_asg (sc cB false rfl) <| seqN [(4, .d (cB.enc false))] (by kernel_rfl) <|
    xn <| wpC_ret <| rb <| rt <| rt <| rt <| rb <| rt <| rt <| re <| fin h (r1 (ss rfl rfl) <| r0) rfl)
    (fun b271 h => wpC_skip <| xbb <| kpN [(0, .d ((cLs (cXVariable cS cI) rfl).enc v0)), (1, .d ((cLs (cXVariable cS cI) rfl).enc v1)), (5, .d (cI.enc s142))] (by kernel_rfl) <| xn <| reg_s <| st rfl <| mvd rfl rfl <| ckI_k h fun i272 h => st rfl <| b_add (k := .i64) rfl rfl i272 <| x_asg (ss rfl rfl) <| seqN [(0, .d ((cLs (cXVariable cS cI) rfl).enc v0)), (1, .d ((cLs (cXVariable cS cI) rfl).enc v1)), (5, .d (cI.enc (s142 + (1 : Int))))] (by kernel_rfl) <|
    xn <| hn230 (s142 + (1 : Int)) h)⟩⟩⟩⟩⟩⟩⟩⟩⟩⟩)
    (fun b237 h => wpC_exit <| xt <| xt <| xt <| xb <| kpN [] (by kernel_rfl) <| xn <| wpC_seq <| reg_s <| x_asg (sc cB true rfl) <| seqN [(4, .d (cB.enc true))] (by kernel_rfl) <|
    xn <| wpC_ret <| re <| fin h (r1 (ss rfl rfl) <| r0) rfl))

def rs_laws_eqEdit (r : Bool) : List D := [cB.enc r]
def m69 : MC := .seq (.reg [⟨some 2, .box (.t 0), none⟩,
    ⟨some 3, .box (.t 1), none⟩,
    ⟨some 4, .asg (.c (.bool false)), none⟩] [2, 3])
  (.seq (.kp [] (.seq (.reg [⟨some 5, .fa 2 0 0, none⟩,
    ⟨some 6, .ld 5 1 false, none⟩,
    ⟨some 7, .fa 3 0 0, none⟩,
    ⟨some 8, .ld 7 1 false, none⟩,
    ⟨some 9, .call 19 [(.t 6), (.t 8)], none⟩,
    ⟨some 10, .nt (.t 9), none⟩] [10])
  (.cond (.t 10) (.seq (.reg [⟨some 4, .asg (.c (.bool false)), none⟩] [4])
  (.ret)) (.skip))))
  (.seq (.reg [⟨some 4, .asg (.c (.bool true)), none⟩] [4])
  (.ret)))
theorem con_laws_eqEdit {v0 : XEdit} {v1 : XEdit} {r : Bool} (h : sh_laws_eqEdit v0 v1 = some r) : Con Try.prog 69 [(cXEdit (cLs cI rfl)).enc v0, (cXEdit (cLs cI rfl)).enc v1] [] (rs_laws_eqEdit r) := by
  delta sh_laws_eqEdit at h
  refine top (out := none) (f := Try.f69) (m := m69) (rs := [.t 4]) (by kernel_rfl) rfl (by kernel_rfl) (by kernel_rfl) (by kernel_rfl) (by kernel_rfl) (by kernel_rfl) ?_
  exact
   ini [(0, .d ((cXEdit (cLs cI rfl)).enc v0)), (1, .d ((cXEdit (cLs cI rfl)).enc v1))] rfl <| wpC_seq <| reg_s <| x_box (ss rfl rfl) <| x_box (ss rfl rfl) <| x_asg (sc cB false rfl) <| seqN [(2, .box ((cXEdit (cLs cI rfl)).enc v0)), (3, .box ((cXEdit (cLs cI rfl)).enc v1))] (by kernel_rfl) <|
    xn <| wpC_seq <| wpC_kp <| wpC_seq <| reg_s <| st rfl <| fab rfl rfl rfl rfl <| st rfl <| lda rfl rfl rfl rfl rfl rfl <| st rfl <| fab rfl rfl rfl rfl <| st rfl <| lda rfl rfl rfl rfl rfl rfl <| bnd h fun x8 e9 h => st rfl <| o_call (a1 (c := (cLs cI rfl)) (tLs tK) rfl (a1 (c := (cLs cI rfl)) (tLs tK) rfl a0)) (con_laws_eqIntS e9) (.inl (so1 sB so0)) <| st rfl <| o_nt rfl <| seqN [(10, .d (cB.enc (!x8)))] (by kernel_rfl) <|
    xn <| cnd rfl h (fun b10 h => wpC_seq <| reg_s <| x_asg (sc cB false rfl) <| seqN [(4, .d (cB.enc false))] (by kernel_rfl) <|
    xn <| wpC_ret <| rt <| rt <| re <| fin h (r1 (ss rfl rfl) <| r0) rfl)
    (fun b10 h => wpC_skip <| kpN [] (by kernel_rfl) <| xn <| wpC_seq <| reg_s <| x_asg (sc cB true rfl) <| seqN [(4, .d (cB.enc true))] (by kernel_rfl) <|
    xn <| wpC_ret <| re <| fin h (r1 (ss rfl rfl) <| r0) rfl)

def rs_laws_eqEditS (r : Bool) : List D := [cB.enc r]
def m21 : MC := .seq (.reg [⟨some 4, .asg (.c (.bool false)), none⟩] [0, 1])
  (.seq (.kp [0, 1] (.seq (.reg [⟨some 6, .mv (.t 0), none⟩,
    ⟨some 7, .len false (.t 6), none⟩,
    ⟨some 8, .mv (.t 1), none⟩,
    ⟨some 9, .len false (.t 8), none⟩,
    ⟨some 10, .bin .neq (.t 7) (.t 9), none⟩] [0, 1, 10])
  (.cond (.t 10) (.seq (.reg [⟨some 4, .asg (.c (.bool false)), none⟩] [4])
  (.ret)) (.skip))))
  (.seq (.kp [] (.seq (.reg [⟨some 5, .asg (.c (.int .i64 0)), none⟩] [0, 1, 5])
  (.blk 0 (.loop (.seq (.kp [0, 1, 5] (.seq (.reg [⟨some 11, .mv (.t 5), none⟩,
    ⟨some 12, .mv (.t 0), none⟩,
    ⟨some 13, .len false (.t 12), none⟩,
    ⟨some 14, .bin .lss (.t 11) (.t 13), none⟩] [0, 1, 5, 14])
  (.cond (.t 14) (.skip) (.exit 0))))
  (.seq (.kp [0, 1, 5] (.blk 1 (.seq (.drw [⟨0, ⟨some 17, .mv (.t 0), none⟩, [18, 19, 20, 21, 22, 23, 24, 25, 26]⟩,
    ⟨1, ⟨some 18, .mv (.t 5), none⟩, [17, 19, 20, 21, 22, 23, 24, 25, 26]⟩,
    ⟨2, ⟨some 19, .ia 17 (.t 18) 1, none⟩, [20, 21, 22, 23, 24, 25, 26]⟩,
    ⟨3, ⟨some 20, .ld 19 1 true, none⟩, [21, 22, 23, 24, 25, 26]⟩,
    ⟨4, ⟨some 21, .mv (.t 1), none⟩, [17, 18, 19, 20, 22, 23, 24, 25, 26]⟩,
    ⟨5, ⟨some 22, .mv (.t 5), none⟩, [17, 18, 19, 20, 21, 23, 24, 25, 26]⟩,
    ⟨6, ⟨some 23, .ia 21 (.t 22) 1, none⟩, [17, 18, 19, 20, 24, 25, 26]⟩,
    ⟨7, ⟨some 24, .ld 23 1 true, none⟩, [17, 18, 19, 20, 25, 26]⟩,
    ⟨8, ⟨some 25, .call 69 [(.t 20), (.t 24)], none⟩, [26]⟩,
    ⟨9, ⟨some 26, .nt (.t 25), none⟩, []⟩]
    [] [0, 1, 5, 26])
  (.cond (.t 26) (.seq (.reg [⟨some 4, .asg (.c (.bool false)), none⟩] [4])
  (.ret)) (.skip)))))
  (.reg [⟨some 15, .mv (.t 5), none⟩,
    ⟨some 16, .bin .add (.t 15) (.c (.int .i64 1)), none⟩,
    ⟨some 5, .asg (.t 16), none⟩] [0, 1, 5])))))))
  (.seq (.reg [⟨some 4, .asg (.c (.bool true)), none⟩] [4])
  (.ret))))
theorem con_laws_eqEditS {v0 : (List XEdit)} {v1 : (List XEdit)} {r : Bool} (h : sh_laws_eqEditS v0 v1 = some r) : Con Try.prog 21 [(cLs (cXEdit (cLs cI rfl)) rfl).enc v0, (cLs (cXEdit (cLs cI rfl)) rfl).enc v1] [] (rs_laws_eqEditS r) := by
  delta sh_laws_eqEditS at h
  refine top (out := none) (f := Try.f21) (m := m21) (rs := [.t 4]) (by kernel_rfl) rfl (by kernel_rfl) (by kernel_rfl) (by kernel_rfl) (by kernel_rfl) (by kernel_rfl) ?_
  exact
   ini [(0, .d ((cLs (cXEdit (cLs cI rfl)) rfl).enc v0)), (1, .d ((cLs (cXEdit (cLs cI rfl)) rfl).enc v1))] rfl <| wpC_seq <| reg_s <| x_asg (sc cB false rfl) <| seqN [(0, .d ((cLs (cXEdit (cLs cI rfl)) rfl).enc v0)), (1, .d ((cLs (cXEdit (cLs cI rfl)) rfl).enc v1))] (by kernel_rfl) <|
    xn <| wpC_seq <| wpC_kp <| wpC_seq <| reg_s <| st rfl <| mvd rfl rfl <| stw rfl <| lens rfl fun l8 => st rfl <| mvd rfl rfl <| stw rfl <| lens rfl fun l9 => st rfl <| b_neq (k := .i64) rfl rfl <| seqN [(0, .d ((cLs (cXEdit (cLs cI rfl)) rfl).enc v0)), (1, .d ((cLs (cXEdit (cLs cI rfl)) rfl).enc v1)), (10, .d (cB.enc (decide ((v0.length : Int) ≠ (v1.length : Int)))))] (by kernel_rfl) <|
    xn <| cnd rfl h (fun b10 h => wpC_seq <| reg_s <| x_asg (sc cB false rfl) <| seqN [(4, .d (cB.enc false))] (by kernel_rfl) <|
    xn <| wpC_ret <| rt <| rt <| re <| fin h (r1 (ss rfl rfl) <| r0) rfl)
    (fun b10 h => wpC_skip <| kpN [(0, .d ((cLs (cXEdit (cLs cI rfl)) rfl).enc v0)), (1, .d ((cLs (cXEdit (cLs cI rfl)) rfl).enc v1))] (by kernel_rfl) <| xn <| wpC_seq <| wpC_kp <| wpC_seq <| reg_s <| x_asg (sc cI (0 : Int) rfl) <| seqN [(0, .d ((cLs (cXEdit (cLs cI rfl)) rfl).enc v0)), (1, .d ((cLs (cXEdit (cLs cI rfl)) rfl).enc v1)), (5, .d (cI.enc (0 : Int)))] (by kernel_rfl) <|
    xn <| wpC_blk <| lpF (fun (s142 : Int) => [(0, .d ((cLs (cXEdit (cLs cI rfl)) rfl).enc v0)), (1, .d ((cLs (cXEdit (cLs cI rfl)) rfl).enc v1)), (5, .d (cI.enc s142))]) (0 : Int) rfl h
    fun G231 nx229 s142 hn230 h => wpC_seq <| wpC_kp <| wpC_seq <| reg_s <| st rfl <| mvd rfl rfl <| st rfl <| mvd rfl rfl <| stw rfl <| lens rfl fun l236 => st rfl <| b_lss (k := .i64) rfl rfl <| seqN [(0, .d ((cLs (cXEdit (cLs cI rfl)) rfl).enc v0)), (1, .d ((cLs (cXEdit (cLs cI rfl)) rfl).enc v1)), (5, .d (cI.enc s142)), (14, .d (cB.enc (decide (s142 < (v0.length : Int)))))] (by kernel_rfl) <|
    xn <| cnd rfl h (fun b237 h => wpC_skip <| kpN [(0, .d ((cLs (cXEdit (cLs cI rfl)) rfl).enc v0)), (1, .d ((cLs (cXEdit (cLs cI rfl)) rfl).enc v1)), (5, .d (cI.enc s142))] (by kernel_rfl) <| xn <| wpC_seq <| wpC_kp <| wpC_blk <| wpC_seq <| drw_s <| pst rfl <| mvd rfl rfl ⟨rfl, pst rfl <| mvd rfl rfl ⟨rfl, getO_kp h fun x263 i264 g265 h => pst rfl <| ias rfl rfl i264 g265 rfl ⟨rfl, pst rfl <| ldi rfl rfl rfl rfl ⟨rfl, pst rfl <| mvd rfl rfl ⟨rfl, pst rfl <| mvd rfl rfl ⟨rfl, getO_kp h fun x266 i267 g268 h => pst rfl <| ias rfl rfl i267 g268 rfl ⟨rfl, pst rfl <| ldi rfl rfl rfl rfl ⟨rfl, bndp h fun x269 e270 h => pst rfl <| o_call (a1 (c := (cXEdit (cLs cI rfl))) (tXEdit (tLs tK)) rfl (a1 (c := (cXEdit (cLs cI rfl))) (tXEdit (tLs tK)) rfl a0)) (con_laws_eqEdit e270) (.inl (so1 sB so0)) ⟨rfl, pst rfl <| o_nt rfl ⟨rfl, preN <| seqN [(0, .d ((cLs (cXEdit (cLs cI rfl)) rfl).enc v0)), (1, .d ((cLs (cXEdit (cLs cI rfl)) rfl).enc v1)), (5, .d (cI.enc s142)), (26, .d (cB.enc (!x269)))] (by kernel_rfl) <|
    xn <| cnd rfl h (fun b271 h => wpC_seq <| reg_s <| x_asg (sc cB false rfl) <| seqN [(4, .d (cB.enc false))] (by kernel_rfl) <|
    xn <| wpC_ret <| rb <| rt <| rt <| rt <| rb <| rt <| rt <| re <| fin h (r1 (ss rfl rfl) <| r0) rfl)
    (fun b271 h => wpC_skip <| xbb <| kpN [(0, .d ((cLs (cXEdit (cLs cI rfl)) rfl).enc v0)), (1, .d ((cLs (cXEdit (cLs cI rfl)) rfl).enc v1)), (5, .d (cI.enc s142))] (by kernel_rfl) <| xn <| reg_s <| st rfl <| mvd rfl rfl <| ckI_k h fun i272 h => st rfl <| b_add (k := .i64) rfl rfl i272 <| x_asg (ss rfl rfl) <| seqN [(0, .d ((cLs (cXEdit (cLs cI rfl)) rfl).enc v0)), (1, .d ((cLs (cXEdit (cLs cI rfl)) rfl).enc v1)), (5, .d (cI.enc (s142 + (1 : Int))))] (by kernel_rfl) <|
    xn <| hn230 (s142 + (1 : Int)) h)⟩⟩⟩⟩⟩⟩⟩⟩⟩⟩)
    (fun b237 h => wpC_exit <| xt <| xt <| xt <| xb <| kpN [] (by kernel_rfl) <| xn <| wpC_seq <| reg_s <| x_asg (sc cB true rfl) <| seqN [(4, .d (cB.enc true))] (by kernel_rfl) <|
    xn <| wpC_ret <| re <| fin h (r1 (ss rfl rfl) <| r0) rfl))

def rs_laws_markText (r : (List UInt8)) : List D := [cS.enc r]
def m70 : MC := .seq (.reg [⟨some 2, .asg (.c (.str [])), none⟩] [0])
  (.seq (.kp [0] (.seq (.reg [⟨some 4, .mv (.t 0), none⟩,
    ⟨some 5, .bin .leq (.t 4) (.c (.int .i64 0)), none⟩] [0, 5])
  (.cond (.t 5) (.seq (.reg [⟨some 2, .asg (.c (.str [109, 48])), none⟩] [2])
  (.ret)) (.skip))))
  (.seq (.reg [⟨some 3, .asg (.c (.str [])), none⟩] [0, 3])
  (.seq (.kp [3] (.blk 0 (.loop (.kp [0, 3] (.seq (.kp [0, 3] (.seq (.reg [⟨some 6, .mv (.t 0), none⟩,
    ⟨some 7, .bin .gtr (.t 6) (.c (.int .i64 0)), none⟩] [0, 3, 7])
  (.cond (.t 7) (.skip) (.exit 0))))
  (.blk 1 (.seq (.reg [⟨some 8, .mv (.t 0), none⟩,
    ⟨some 9, .bin .rem (.t 8) (.c (.int .i64 10)), none⟩,
    ⟨some 10, .bin .add (.c (.int .i64 48)) (.t 9), none⟩,
    ⟨some 11, .cvi .u8 (.t 10), none⟩,
    ⟨some 12, .bsl [(.t 11)] 1, none⟩,
    ⟨some 13, .b2s (.t 12), none⟩,
    ⟨some 14, .mv (.t 3), none⟩,
    ⟨some 15, .bin .add (.t 13) (.t 14), none⟩,
    ⟨some 3, .asg (.t 15), none⟩] [0, 3])
  (.reg [⟨some 16, .mv (.t 0), none⟩,
    ⟨some 17, .bin .quo (.t 16) (.c (.int .i64 10)), none⟩,
    ⟨some 0, .asg (.t 17), none⟩] [0, 3]))))))))
  (.seq (.reg [⟨some 18, .mv (.t 3), none⟩,
    ⟨some 19, .bin .add (.c (.str [109])) (.t 18), none⟩,
    ⟨some 2, .asg (.t 19), none⟩] [2])
  (.ret)))))
theorem con_laws_markText {v0 : Int} {r : (List UInt8)} (h : sh_laws_markText v0 = some r) : Con Try.prog 70 [cI.enc v0] [] (rs_laws_markText r) := by
  delta sh_laws_markText at h
  refine top (out := none) (f := Try.f70) (m := m70) (rs := [.t 2]) (by kernel_rfl) rfl (by kernel_rfl) (by kernel_rfl) (by kernel_rfl) (by kernel_rfl) (by kernel_rfl) ?_
  exact
   ini [(0, .d (cI.enc v0))] rfl <| wpC_seq <| reg_s <| x_asg (sc cS ([] : List UInt8) rfl) <| seqN [(0, .d (cI.enc v0))] (by kernel_rfl) <|
    xn <| wpC_seq <| wpC_kp <| wpC_seq <| reg_s <| st rfl <| mvd rfl rfl <| st rfl <| b_leq (k := .i64) rfl rfl <| seqN [(0, .d (cI.enc v0)), (5, .d (cB.enc (decide (v0 ≤ (0 : Int)))))] (by kernel_rfl) <|
    xn <| cnd rfl h (fun b2 h => wpC_seq <| reg_s <| x_asg (sc cS ([109, 48] : List UInt8) rfl) <| seqN [(2, .d (cS.enc ([109, 48] : List UInt8)))] (by kernel_rfl) <|
    xn <| wpC_ret <| rt <| rt <| re <| fin h (r1 (ss rfl rfl) <| r0) rfl)
    (fun b2 h => wpC_skip <| kpN [(0, .d (cI.enc v0))] (by kernel_rfl) <| xn <| wpC_seq <| reg_s <| x_asg (sc cS ([] : List UInt8) rfl) <| seqN [(0, .d (cI.enc v0)), (3, .d (cS.enc ([] : List UInt8)))] (by kernel_rfl) <|
    xn <| wpC_seq <| wpC_kp <| wpC_blk <| lpF (fun (s59 : (Int × (List UInt8))) => [(0, .d (cI.enc s59.1)), (3, .d (cS.enc s59.2))]) (v0, ([] : List UInt8)) rfl h
    fun G98 nx96 s59 hn97 h => wpC_kp <| wpC_seq <| wpC_kp <| wpC_seq <| reg_s <| st rfl <| mvd rfl rfl <| st rfl <| b_gtr (k := .i64) rfl rfl <| seqN [(0, .d (cI.enc s59.1)), (3, .d (cS.enc s59.2)), (7, .d (cB.enc (decide ((0 : Int) < s59.1))))] (by kernel_rfl) <|
    xn <| cnd rfl h (fun b100 h => wpC_skip <| kpN [(0, .d (cI.enc s59.1)), (3, .d (cS.enc s59.2))] (by kernel_rfl) <| xn <| wpC_blk <| wpC_seq <| reg_s <| st rfl <| mvd rfl rfl <| ck_k h fun i107 h => st rfl <| b_rem (k := .i64) rfl rfl i107 <| ckI_k h fun i108 h => st rfl <| b_add (k := .i64) rfl rfl i108 <| ckU_k h fun i109 h => st rfl <| o_cvi (k := .i64) (k' := .u8) rfl i109 <| x_bsl cU [((48 : Int) + (s59.1.tmod (10 : Int)))] (t1 (ss rfl rfl) rfl t0) rfl rfl <| ck_k h fun i110 h => st rfl <| o_b2s rfl rfl i110 <| st rfl <| mvd rfl rfl <| lnO_k h fun l112 h => st rfl <| b_cat rfl rfl l112 <| x_asg (ss rfl rfl) <| seqN [(0, .d (cI.enc s59.1)), (3, .d (cS.enc ((bytesOf [((48 : Int) + (s59.1.tmod (10 : Int)))]) ++ s59.2)))] (by kernel_rfl) <|
    xn <| reg_s <| st rfl <| mvd rfl rfl <| ck_k h fun i113 h => ckI_k h fun i114 h => st rfl <| b_quo (k := .i64) rfl rfl i113 i114 <| x_asg (ss rfl rfl) <| seqN [(0, .d (cI.enc (s59.1.tdiv (10 : Int)))), (3, .d (cS.enc ((bytesOf [((48 : Int) + (s59.1.tmod (10 : Int)))]) ++ s59.2)))] (by kernel_rfl) <|
    xbb <| kpN [(0, .d (cI.enc (s59.1.tdiv (10 : Int)))), (3, .d (cS.enc ((bytesOf [((48 : Int) + (s59.1.tmod (10 : Int)))]) ++ s59.2)))] (by kernel_rfl) <| xn <| hn97 ((s59.1.tdiv (10 : Int)), ((bytesOf [((48 : Int) + (s59.1.tmod (10 : Int)))]) ++ s59.2)) h)
    (fun b100 h => wpC_exit <| xt <| xt <| xt <| xt <| xb <| kpN [(3, .d (cS.enc s59.2))] (by kernel_rfl) <| xn <| wpC_seq <| reg_s <| st rfl <| mvd rfl rfl <| lnO_k h fun l116 h => st rfl <| b_cat rfl rfl l116 <| x_asg (ss rfl rfl) <| seqN [(2, .d (cS.enc (([109] : List UInt8) ++ s59.2)))] (by kernel_rfl) <|
    xn <| wpC_ret <| re <| fin h (r1 (ss rfl rfl) <| r0) rfl))

def os_laws_markVariableS (r : ((List XVariable) × Int)) : D := (cLo (cXVariable cS cI)).enc r.1
def rs_laws_markVariableS (r : ((List XVariable) × Int)) : List D := [cI.enc r.2]
def m22 : MC := .seq (.reg [⟨some 4, .asg (.c (.int .i64 0)), none⟩] [0, 1])
  (.seq (.kp [0, 1] (.seq (.reg [⟨some 5, .asg (.c (.int .i64 0)), none⟩] [0, 1, 5])
  (.blk 0 (.loop (.seq (.kp [0, 1, 5] (.seq (.reg [⟨some 6, .mv (.t 5), none⟩,
    ⟨some 7, .mv (.t 0), none⟩,
    ⟨some 8, .len false (.t 7), none⟩,
    ⟨some 9, .bin .lss (.t 6) (.t 8), none⟩] [0, 1, 5, 9])
  (.cond (.t 9) (.skip) (.exit 0))))
  (.seq (.kp [0, 1, 5] (.blk 1 (.seq (.reg [⟨some 12, .mv (.t 0), none⟩,
    ⟨some 13, .mv (.t 5), none⟩,
    ⟨some 14, .mv (.t 1), none⟩,
    ⟨some 15, .call 70 [(.t 14)], none⟩,
    ⟨some 16, .ia 12 (.t 13) 2, none⟩,
    ⟨some 17, .fa 16 0 0, none⟩,
    ⟨none, .st 17 (.t 15) 1, none⟩] [0, 1, 5])
  (.seq (.reg [⟨some 18, .mv (.t 1), none⟩,
    ⟨some 19, .bin .add (.t 18) (.c (.int .i64 1)), none⟩,
    ⟨some 1, .asg (.t 19), none⟩] [0, 1, 5])
  (.seq (.reg [⟨some 20, .mv (.t 0), none⟩,
    ⟨some 21, .mv (.t 5), none⟩,
    ⟨some 22, .mv (.t 1), none⟩,
    ⟨some 23, .ia 20 (.t 21) 2, none⟩,
    ⟨some 24, .fa 23 1 1, none⟩,
    ⟨none, .st 24 (.t 22) 1, none⟩] [0, 1, 5])
  (.reg [⟨some 25, .mv (.t 1), none⟩,
    ⟨some 26, .bin .add (.t 25) (.c (.int .i64 1)), none⟩,
    ⟨some 1, .asg (.t 26), none⟩] [0, 1, 5]))))))
  (.reg [⟨some 10, .mv (.t 5), none⟩,
    ⟨some 11, .bin .add (.t 10) (.c (.int .i64 1)), none⟩,
    ⟨some 5, .asg (.t 11), none⟩] [0, 1, 5])))))))
  (.seq (.reg [⟨some 27, .mv (.t 1), none⟩,
    ⟨some 4, .asg (.t 27), none⟩] [0, 4])
  (.ret)))
theorem con_laws_markVariableS {v0 : (List XVariable)} {v1 : Int} {r : ((List XVariable) × Int)} (h : sh_laws_markVariableS v0 v1 = some r) : Con Try.prog 22 [(cLo (cXVariable cS cI)).enc v0, cI.enc v1] (outsOf (some (0, os_laws_markVariableS r))) (rs_laws_markVariableS r) := by
  delta sh_laws_markVariableS at h
  refine top (out := some (0, os_laws_markVariableS r)) (f := Try.f22) (m := m22) (rs := [.t 4]) (by kernel_rfl) rfl (by kernel_rfl) (by kernel_rfl) (by kernel_rfl) (by kernel_rfl) (by kernel_rfl) ?_
  exact
   ini [(0, .d ((cLo (cXVariable cS cI)).enc v0)), (1, .d (cI.enc v1))] rfl <| wpC_seq <| reg_s <| x_asg (sc cI (0 : Int) rfl) <| seqN [(0, .d ((cLo (cXVariable cS cI)).enc v0)), (1, .d (cI.enc v1))] (by kernel_rfl) <|
    xn <| wpC_seq <| wpC_kp <| wpC_seq <| reg_s <| x_asg (sc cI (0 : Int) rfl) <| seqN [(0, .d ((cLo (cXVariable cS cI)).enc v0)), (1, .d (cI.enc v1)), (5, .d (cI.enc (0 : Int)))] (by kernel_rfl) <|
    xn <| wpC_blk <| lpF (fun (s144 : ((List XVariable) × Int × Int)) => [(0, .d ((cLo (cXVariable cS cI)).enc s144.1)), (1, .d (cI.enc s144.2.1)), (5, .d (cI.enc s144.2.2))]) (v0, v1, (0 : Int)) rfl h
    fun G241 nx239 s144 hn240 h => wpC_seq <| wpC_kp <| wpC_seq <| reg_s <| st rfl <| mvd rfl rfl <| st rfl <| mvo rfl rfl <| stw rfl <| leno rfl fun l246 => st rfl <| b_lss (k := .i64) rfl rfl <| seqN [(0, .d ((cLo (cXVariable cS cI)).enc s144.1)), (1, .d (cI.enc s144.2.1)), (5, .d (cI.enc s144.2.2)), (9, .d (cB.enc (decide (s144.2.2 < (s144.1.length : Int)))))] (by kernel_rfl) <|
    xn <| cnd rfl h (fun b247 h => wpC_skip <| kpN [(0, .d ((cLo (cXVariable cS cI)).enc s144.1)), (1, .d (cI.enc s144.2.1)), (5, .d (cI.enc s144.2.2))] (by kernel_rfl) <| xn <| wpC_seq <| wpC_kp <| wpC_blk <| wpC_seq <| reg_s <| st rfl <| mvo rfl rfl <| st rfl <| mvd rfl rfl <| st rfl <| mvd rfl rfl <| bnd h fun x272 e273 h => st rfl <| o_call (a1 (c := cI) tK rfl a0) (con_laws_markText e273) (.inl (so1 sS so0)) <| getO_k h fun x274 i275 g276 h => st rfl <| iar rfl rfl rfl rfl i275 g276 rfl <| st rfl <| faa rfl rfl (Gt.idx g276 Gt.nil) rfl rfl rfl <| x_sta ((cLo (cXVariable cS cI)).enc (s144.1.set (s144.2.2).toNat (⟨x272, x274.Levels⟩ : XVariable))) (ss rfl rfl) rfl rfl (Ln.idx g276 (Ln.fld rfl rfl Ln.nil rfl)) (Cd.h_sz cS _) rfl <| seqN [(0, .d ((cLo (cXVariable cS cI)).enc (s144.1.set (s144.2.2).toNat (⟨x272, x274.Levels⟩ : XVariable)))), (1, .d (cI.enc s144.2.1)), (5, .d (cI.enc s144.2.2))] (by kernel_rfl) <|
    xn <| wpC_seq <| reg_s <| st rfl <| mvd rfl rfl <| ckI_k h fun i278 h => st rfl <| b_add (k := .i64) rfl rfl i278 <| x_asg (ss rfl rfl) <| seqN [(0, .d ((cLo (cXVariable cS cI)).enc (s144.1.set (s144.2.2).toNat (⟨x272, x274.Levels⟩ : XVariable)))), (1, .d (cI.enc (s144.2.1 + (1 : Int)))), (5, .d (cI.enc s144.2.2))] (by kernel_rfl) <|
    xn <| wpC_seq <| reg_s <| st rfl <| mvo rfl rfl <| st rfl <| mvd rfl rfl <| st rfl <| mvd rfl rfl <| getO_k h fun x282 i283 g284 h => st rfl <| iar rfl rfl rfl rfl i283 g284 rfl <| st rfl <| faa rfl rfl (Gt.idx g284 Gt.nil) rfl rfl rfl <| x_sta ((cLo (cXVariable cS cI)).enc ((s144.1.set (s144.2.2).toNat (⟨x272, x274.Levels⟩ : XVariable)).set (s144.2.2).toNat (⟨x282.Name, (s144.2.1 + (1 : Int))⟩ : XVariable))) (ss rfl rfl) rfl rfl (Ln.idx g284 (Ln.fld rfl rfl Ln.nil rfl)) (Cd.h_sz cI _) rfl <| seqN [(0, .d ((cLo (cXVariable cS cI)).enc ((s144.1.set (s144.2.2).toNat (⟨x272, x274.Levels⟩ : XVariable)).set (s144.2.2).toNat (⟨x282.Name, (s144.2.1 + (1 : Int))⟩ : XVariable)))), (1, .d (cI.enc (s144.2.1 + (1 : Int)))), (5, .d (cI.enc s144.2.2))] (by kernel_rfl) <|
    xn <| reg_s <| st rfl <| mvd rfl rfl <| ckI_k h fun i285 h => st rfl <| b_add (k := .i64) rfl rfl i285 <| x_asg (ss rfl rfl) <| seqN [(0, .d ((cLo (cXVariable cS cI)).enc ((s144.1.set (s144.2.2).toNat (⟨x272, x274.Levels⟩ : XVariable)).set (s144.2.2).toNat (⟨x282.Name, (s144.2.1 + (1 : Int))⟩ : XVariable)))), (1, .d (cI.enc ((s144.2.1 + (1 : Int)) + (1 : Int)))), (5, .d (cI.enc s144.2.2))] (by kernel_rfl) <|
    xbb <| kpN [(0, .d ((cLo (cXVariable cS cI)).enc ((s144.1.set (s144.2.2).toNat (⟨x272, x274.Levels⟩ : XVariable)).set (s144.2.2).toNat (⟨x282.Name, (s144.2.1 + (1 : Int))⟩ : XVariable)))), (1, .d (cI.enc ((s144.2.1 + (1 : Int)) + (1 : Int)))), (5, .d (cI.enc s144.2.2))] (by kernel_rfl) <| xn <| reg_s <| st rfl <| mvd rfl rfl <| ckI_k h fun i286 h => st rfl <| b_add (k := .i64) rfl rfl i286 <| x_asg (ss rfl rfl) <| seqN [(0, .d ((cLo (cXVariable cS cI)).enc ((s144.1.set (s144.2.2).toNat (⟨x272, x274.Levels⟩ : XVariable)).set (s144.2.2).toNat (⟨x282.Name, (s144.2.1 + (1 : Int))⟩ : XVariable)))), (1, .d (cI.enc ((s144.2.1 + (1 : Int)) + (1 : Int)))), (5, .d (cI.enc (s144.2.2 + (1 : Int))))] (by kernel_rfl) <|
    xn <| hn240 (((s144.1.set (s144.2.2).toNat (⟨x272, x274.Levels⟩ : XVariable)).set (s144.2.2).toNat (⟨x282.Name, (s144.2.1 + (1 : Int))⟩ : XVariable)), ((s144.2.1 + (1 : Int)) + (1 : Int)), (s144.2.2 + (1 : Int))) h)
    (fun b247 h => wpC_exit <| xt <| xt <| xt <| xb <| kpN [(0, .d ((cLo (cXVariable cS cI)).enc s144.1)), (1, .d (cI.enc s144.2.1))] (by kernel_rfl) <| xn <| wpC_seq <| reg_s <| st rfl <| mvd rfl rfl <| x_asg (ss rfl rfl) <| seqN [(0, .d ((cLo (cXVariable cS cI)).enc s144.1)), (4, .d (cI.enc s144.2.1))] (by kernel_rfl) <|
    xn <| wpC_ret <| re <| finO h (r1 (ss rfl rfl) <| r0) rfl rfl)

def os_laws_markEditS (r : ((List XEdit) × Int)) : D := (cLo (cXEdit (cLo cI))).enc r.1
def rs_laws_markEditS (r : ((List XEdit) × Int)) : List D := [cI.enc r.2]
def m23 : MC := .seq (.reg [⟨some 4, .asg (.c (.int .i64 0)), none⟩] [0, 1])
  (.seq (.kp [0, 1] (.seq (.reg [⟨some 5, .asg (.c (.int .i64 0)), none⟩] [0, 1, 5])
  (.blk 0 (.loop (.seq (.kp [0, 1, 5] (.seq (.reg [⟨some 6, .mv (.t 5), none⟩,
    ⟨some 7, .mv (.t 0), none⟩,
    ⟨some 8, .len false (.t 7), none⟩,
    ⟨some 9, .bin .lss (.t 6) (.t 8), none⟩] [0, 1, 5, 9])
  (.cond (.t 9) (.skip) (.exit 0))))
  (.seq (.kp [0, 1, 5] (.blk 1 (.reg [⟨some 12, .mv (.t 0), none⟩,
    ⟨some 13, .mv (.t 5), none⟩,
    ⟨some 14, .ia 12 (.t 13) 1, none⟩,
    ⟨some 15, .fa 14 0 0, none⟩,
    ⟨some 16, .ld 15 1 false, none⟩,
    ⟨some 17, .mv (.t 1), none⟩,
    ⟨some 18, .callO 24 [(.t 16), (.t 17)], none⟩,
    ⟨some 1, .asg (.t 18), none⟩] [0, 1, 5])))
  (.reg [⟨some 10, .mv (.t 5), none⟩,
    ⟨some 11, .bin .add (.t 10) (.c (.int .i64 1)), none⟩,
    ⟨some 5, .asg (.t 11), none⟩] [0, 1, 5])))))))
  (.seq (.reg [⟨some 19, .mv (.t 1), none⟩,
    ⟨some 4, .asg (.t 19), none⟩] [0, 4])
  (.ret)))
theorem con_laws_markEditS {v0 : (List XEdit)} {v1 : Int} {r : ((List XEdit) × Int)} (h : sh_laws_markEditS v0 v1 = some r) : Con Try.prog 23 [(cLo (cXEdit (cLo cI))).enc v0, cI.enc v1] (outsOf (some (0, os_laws_markEditS r))) (rs_laws_markEditS r) := by
  delta sh_laws_markEditS at h
  refine top (out := some (0, os_laws_markEditS r)) (f := Try.f23) (m := m23) (rs := [.t 4]) (by kernel_rfl) rfl (by kernel_rfl) (by kernel_rfl) (by kernel_rfl) (by kernel_rfl) (by kernel_rfl) ?_
  exact
   ini [(0, .d ((cLo (cXEdit (cLo cI))).enc v0)), (1, .d (cI.enc v1))] rfl <| wpC_seq <| reg_s <| x_asg (sc cI (0 : Int) rfl) <| seqN [(0, .d ((cLo (cXEdit (cLo cI))).enc v0)), (1, .d (cI.enc v1))] (by kernel_rfl) <|
    xn <| wpC_seq <| wpC_kp <| wpC_seq <| reg_s <| x_asg (sc cI (0 : Int) rfl) <| seqN [(0, .d ((cLo (cXEdit (cLo cI))).enc v0)), (1, .d (cI.enc v1)), (5, .d (cI.enc (0 : Int)))] (by kernel_rfl) <|
    xn <| wpC_blk <| lpF (fun (s60 : ((List XEdit) × Int × Int)) => [(0, .d ((cLo (cXEdit (cLo cI))).enc s60.1)), (1, .d (cI.enc s60.2.1)), (5, .d (cI.enc s60.2.2))]) (v0, v1, (0 : Int)) rfl h
    fun G101 nx99 s60 hn100 h => wpC_seq <| wpC_kp <| wpC_seq <| reg_s <| st rfl <| mvd rfl rfl <| st rfl <| mvo rfl rfl <| stw rfl <| leno rfl fun l106 => st rfl <| b_lss (k := .i64) rfl rfl <| seqN [(0, .d ((cLo (cXEdit (cLo cI))).enc s60.1)), (1, .d (cI.enc s60.2.1)), (5, .d (cI.enc s60.2.2)), (9, .d (cB.enc (decide (s60.2.2 < (s60.1.length : Int)))))] (by kernel_rfl) <|
    xn <| cnd rfl h (fun b107 h => wpC_skip <| kpN [(0, .d ((cLo (cXEdit (cLo cI))).enc s60.1)), (1, .d (cI.enc s60.2.1)), (5, .d (cI.enc s60.2.2))] (by kernel_rfl) <| xn <| wpC_seq <| wpC_kp <| wpC_blk <| reg_s <| st rfl <| mvo rfl rfl <| st rfl <| mvd rfl rfl <| getO_k h fun x113 i114 g115 h => st rfl <| iar rfl rfl rfl rfl i114 g115 rfl <| st rfl <| faa rfl rfl (Gt.idx g115 Gt.nil) rfl rfl rfl <| st rfl <| ldao rfl rfl (Gt.idx g115 (Gt.fld rfl rfl Gt.nil)) rfl rfl rfl <| st rfl <| mvd rfl rfl <| bnd h fun x116 e117 h => x_clr (c := (cLo cI)) (c' := (cLo cI)) ((cLo (cXEdit (cLo cI))).enc (s60.1.set (s60.2.2).toNat (⟨x116.1⟩ : XEdit))) (sLo sK) rfl (a1 (c := cI) tK rfl a0) rfl (Ln.idx g115 (Ln.fld rfl rfl Ln.nil rfl)) (con_laws_markIntS e117) rfl rfl (so1 sK so0) <| x_asg (ss rfl rfl) <| seqN [(0, .d ((cLo (cXEdit (cLo cI))).enc (s60.1.set (s60.2.2).toNat (⟨x116.1⟩ : XEdit)))), (1, .d (cI.enc x116.2)), (5, .d (cI.enc s60.2.2))] (by kernel_rfl) <|
    xbb <| kpN [(0, .d ((cLo (cXEdit (cLo cI))).enc (s60.1.set (s60.2.2).toNat (⟨x116.1⟩ : XEdit)))), (1, .d (cI.enc x116.2)), (5, .d (cI.enc s60.2.2))] (by kernel_rfl) <| xn <| reg_s <| st rfl <| mvd rfl rfl <| ckI_k h fun i118 h => st rfl <| b_add (k := .i64) rfl rfl i118 <| x_asg (ss rfl rfl) <| seqN [(0, .d ((cLo (cXEdit (cLo cI))).enc (s60.1.set (s60.2.2).toNat (⟨x116.1⟩ : XEdit)))), (1, .d (cI.enc x116.2)), (5, .d (cI.enc (s60.2.2 + (1 : Int))))] (by kernel_rfl) <|
    xn <| hn100 ((s60.1.set (s60.2.2).toNat (⟨x116.1⟩ : XEdit)), x116.2, (s60.2.2 + (1 : Int))) h)
    (fun b107 h => wpC_exit <| xt <| xt <| xt <| xb <| kpN [(0, .d ((cLo (cXEdit (cLo cI))).enc s60.1)), (1, .d (cI.enc s60.2.1))] (by kernel_rfl) <| xn <| wpC_seq <| reg_s <| st rfl <| mvd rfl rfl <| x_asg (ss rfl rfl) <| seqN [(0, .d ((cLo (cXEdit (cLo cI))).enc s60.1)), (4, .d (cI.enc s60.2.1))] (by kernel_rfl) <|
    xn <| wpC_ret <| re <| finO h (r1 (ss rfl rfl) <| r0) rfl rfl)

def rs_spec_eSmall (r : Bool) : List D := [cB.enc r]
def m96 : MC := .seq (.reg [⟨some 4, .asg (.c (.bool false)), none⟩] [0, 1])
  (.seq (.reg [⟨some 5, .mv (.t 0), none⟩,
    ⟨some 6, .mv (.t 1), none⟩,
    ⟨some 7, .call 58 [(.t 5), (.t 6)], none⟩,
    ⟨some 8, .mv (.t 7), none⟩,
    ⟨some 9, .mv (.t 0), some (8, true)⟩,
    ⟨some 10, .call 59 [(.t 9)], some (8, true)⟩,
    ⟨some 11, .bin .leq (.t 10) (.c (.int .i64 100)), some (8, true)⟩,
    ⟨some 12, .pick (.t 8) (.t 11) (.c (.bool false)), none⟩,
    ⟨some 4, .asg (.t 12), none⟩] [4])
  (.ret))
theorem con_spec_eSmall {v0 : (List XVariable)} {v1 : (List XEdit)} {r : Bool} (h : sh_spec_eSmall v0 v1 = some r) : Con Try.prog 96 [(cLs (cXVariable cS cI) rfl).enc v0, (cLs (cXEdit (cLs cI rfl)) rfl).enc v1] [] (rs_spec_eSmall r) := by
  delta sh_spec_eSmall at h
  refine top (out := none) (f := Try.f96) (m := m96) (rs := [.t 4]) (by kernel_rfl) rfl (by kernel_rfl) (by kernel_rfl) (by kernel_rfl) (by kernel_rfl) (by kernel_rfl) ?_
  exact
   ini [(0, .d ((cLs (cXVariable cS cI) rfl).enc v0)), (1, .d ((cLs (cXEdit (cLs cI rfl)) rfl).enc v1))] rfl <| wpC_seq <| reg_s <| x_asg (sc cB false rfl) <| seqN [(0, .d ((cLs (cXVariable cS cI) rfl).enc v0)), (1, .d ((cLs (cXEdit (cLs cI rfl)) rfl).enc v1))] (by kernel_rfl) <|
    xn <| wpC_seq <| reg_s <| st rfl <| mvd rfl rfl <| st rfl <| mvd rfl rfl <| bnd h fun x6 e7 h => st rfl <| o_call (a1 (c := (cLs (cXVariable cS cI) rfl)) (tLs (tXVariable tS tK)) rfl (a1 (c := (cLs (cXEdit (cLs cI rfl)) rfl)) (tLs (tXEdit (tLs tK))) rfl a0)) (con_spec_eList e7) (.inl (so1 sB so0)) <| st rfl <| mvd rfl rfl <| ite_k h (fun b8 h => gt' rfl b8 <| st rfl <| mvd rfl rfl <| gt' rfl b8 <| bnd h fun x9 e10 h => st rfl <| o_call (a1 (c := (cLs (cXVariable cS cI) rfl)) (tLs (tXVariable tS tK)) rfl a0) (con_spec_sCount e10) (.inl (so1 sK so0)) <| gt' rfl b8 <| st rfl <| b_leq (k := .i64) rfl rfl <| st rfl <| pick1 rfl b8 (cd := cB) (v := (decide (x9 ≤ (100 : Int)))) rfl rfl <| x_asg (ss rfl rfl) <| seqN [(4, .d (cB.enc (decide (x9 ≤ (100 : Int)))))] (by kernel_rfl) <|
    xn <| wpC_ret <| re <| fin h (r1 (ss rfl rfl) <| r0) rfl)
    (fun b8 h => gf rfl b8 <| gf rfl b8 <| gf rfl b8 <| st rfl <| pick0 rfl b8 (cd := cB) (v := false) rfl rfl <| x_asg (ss rfl rfl) <| seqN [(4, .d (cB.enc false))] (by kernel_rfl) <|
    xn <| wpC_ret <| re <| fin h (r1 (ss rfl rfl) <| r0) rfl)

def rs_impl_isSmall (r : Bool) : List D := [cB.enc r]
def m73 : MC := .seq (.reg [⟨some 2, .asg (.c (.bool false)), none⟩] [0])
  (.seq (.reg [⟨some 3, .mv (.t 0), none⟩,
    ⟨some 4, .call 63 [(.t 3)], none⟩,
    ⟨some 5, .mv (.t 4), none⟩,
    ⟨some 6, .mv (.t 0), some (5, true)⟩,
    ⟨some 7, .call 65 [(.t 6)], some (5, true)⟩,
    ⟨some 8, .bin .leq (.t 7) (.c (.int .i64 100)), some (5, true)⟩,
    ⟨some 9, .pick (.t 5) (.t 8) (.c (.bool false)), none⟩,
    ⟨some 2, .asg (.t 9), none⟩] [2])
  (.ret))
theorem con_impl_isSmall {v0 : (List XVariable)} {r : Bool} (h : sh_impl_isSmall v0 = some r) : Con Try.prog 73 [(cLs (cXVariable cS cI) rfl).enc v0] [] (rs_impl_isSmall r) := by
  delta sh_impl_isSmall at h
  refine top (out := none) (f := Try.f73) (m := m73) (rs := [.t 2]) (by kernel_rfl) rfl (by kernel_rfl) (by kernel_rfl) (by kernel_rfl) (by kernel_rfl) (by kernel_rfl) ?_
  exact
   ini [(0, .d ((cLs (cXVariable cS cI) rfl).enc v0))] rfl <| wpC_seq <| reg_s <| x_asg (sc cB false rfl) <| seqN [(0, .d ((cLs (cXVariable cS cI) rfl).enc v0))] (by kernel_rfl) <|
    xn <| wpC_seq <| reg_s <| st rfl <| mvd rfl rfl <| bnd h fun x6 e7 h => st rfl <| o_call (a1 (c := (cLs (cXVariable cS cI) rfl)) (tLs (tXVariable tS tK)) rfl a0) (con_impl_IsSchema e7) (.inl (so1 sB so0)) <| st rfl <| mvd rfl rfl <| ite_k h (fun b8 h => gt' rfl b8 <| st rfl <| mvd rfl rfl <| gt' rfl b8 <| bnd h fun x9 e10 h => st rfl <| o_call (a1 (c := (cLs (cXVariable cS cI) rfl)) (tLs (tXVariable tS tK)) rfl a0) (con_impl_combinations e10) (.inl (so1 sK so0)) <| gt' rfl b8 <| st rfl <| b_leq (k := .i64) rfl rfl <| st rfl <| pick1 rfl b8 (cd := cB) (v := (decide (x9 ≤ (100 : Int)))) rfl rfl <| x_asg (ss rfl rfl) <| seqN [(2, .d (cB.enc (decide (x9 ≤ (100 : Int)))))] (by kernel_rfl) <|
    xn <| wpC_ret <| re <| fin h (r1 (ss rfl rfl) <| r0) rfl)
    (fun b8 h => gf rfl b8 <| gf rfl b8 <| gf rfl b8 <| st rfl <| pick0 rfl b8 (cd := cB) (v := false) rfl rfl <| x_asg (ss rfl rfl) <| seqN [(2, .d (cB.enc false))] (by kernel_rfl) <|
    xn <| wpC_ret <| re <| fin h (r1 (ss rfl rfl) <| r0) rfl)

def rs_spec_l1Sign (r : Int) : List D := [cI.enc r]
def m131 : MC := .seq (.reg [⟨some 2, .asg (.c (.int .i64 0)), none⟩] [0])
  (.seq (.kp [] (.blk 0 (.seq (.reg [⟨some 4, .mv (.t 0), none⟩,
    ⟨some 5, .bin .lss (.t 4) (.c (.int .i64 0)), none⟩,
    ⟨some 3, .asg (.t 5), none⟩] [0, 3])
  (.cond (.t 3) (.seq (.reg [⟨some 2, .asg (.c (.int .i64 (-1))), none⟩] [2])
  (.ret)) (.seq (.reg [⟨some 7, .mv (.t 0), none⟩,
    ⟨some 8, .bin .gtr (.t 7) (.c (.int .i64 0)), none⟩,
    ⟨some 6, .asg (.t 8), none⟩] [6])
  (.cond (.t 6) (.seq (.reg [⟨some 2, .asg (.c (.int .i64 1)), none⟩] [2])
  (.ret)) (.skip)))))))
  (.seq (.reg [⟨some 2, .asg (.c (.int .i64 0)), none⟩] [2])
  (.ret)))
theorem con_spec_l1Sign {v0 : Int} {r : Int} (h : sh_spec_l1Sign v0 = some r) : Con Try.prog 131 [cI.enc v0] [] (rs_spec_l1Sign r) := by
  delta sh_spec_l1Sign at h
  refine top (out := none) (f := Try.f131) (m := m131) (rs := [.t 2]) (by kernel_rfl) rfl (by kernel_rfl) (by kernel_rfl) (by kernel_rfl) (by kernel_rfl) (by kernel_rfl) ?_
  exact
   ini [(0, .d (cI.enc v0))] rfl <| wpC_seq <| reg_s <| x_asg (sc cI (0 : Int) rfl) <| seqN [(0, .d (cI.enc v0))] (by kernel_rfl) <|
    xn <| wpC_seq <| wpC_kp <| wpC_blk <| wpC_seq <| reg_s <| st rfl <| mvd rfl rfl <| st rfl <| b_lss (k := .i64) rfl rfl <| x_asg (ss rfl rfl) <| seqN [(0, .d (cI.enc v0)), (3, .d (cB.enc (decide (v0 < (0 : Int)))))] (by kernel_rfl) <|
    xn <| cnd rfl h (fun b3 h => wpC_seq <| reg_s <| x_asg (sc cI (-1 : Int) rfl) <| seqN [(2, .d (cI.enc (-1 : Int)))] (by kernel_rfl) <|
    xn <| wpC_ret <| rb <| rt <| rt <| re <| fin h (r1 (ss rfl rfl) <| r0) rfl)
    (fun b3 h => wpC_seq <| reg_s <| st rfl <| mvd rfl rfl <| st rfl <| b_gtr (k := .i64) rfl rfl <| x_asg (ss rfl rfl) <| seqN [(6, .d (cB.enc (decide ((0 : Int) < v0))))] (by kernel_rfl) <|
    xn <| cnd rfl h (fun b4 h => wpC_seq <| reg_s <| x_asg (sc cI (1 : Int) rfl) <| seqN [(2, .d (cI.enc (1 : Int)))] (by kernel_rfl) <|
    xn <| wpC_ret <| rb <| rt <| rt <| re <| fin h (r1 (ss rfl rfl) <| r0) rfl)
    (fun b4 h => wpC_skip <| xbb <| kpN [] (by kernel_rfl) <| xn <| wpC_seq <| reg_s <| x_asg (sc cI (0 : Int) rfl) <| seqN [(2, .d (cI.enc (0 : Int)))] (by kernel_rfl) <|
    xn <| wpC_ret <| re <| fin h (r1 (ss rfl rfl) <| r0) rfl))

def rs_spec_l1Less (r : Int) : List D := [cI.enc r]
def m79 : MC := .seq (.reg [⟨some 4, .asg (.c (.int .i64 0)), none⟩] [0, 1])
  (.seq (.kp [0, 1] (.seq (.reg [⟨some 5, .asg (.c (.int .i64 0)), none⟩] [0, 1, 5])
  (.blk 0 (.loop (.seq (.kp [0, 1, 5] (.seq (.reg [⟨some 6, .mv (.t 5), none⟩,
    ⟨some 7, .mv (.t 0), none⟩,
    ⟨some 8, .len false (.t 7), none⟩,
    ⟨some 9, .bin .lss (.t 6) (.t 8), none⟩,
    ⟨some 10, .mv (.t 9), none⟩,
    ⟨some 11, .mv (.t 5), some (10, true)⟩,
    ⟨some 12, .mv (.t 1), some (10, true)⟩,
    ⟨some 13, .len false (.t 12), some (10, true)⟩,
    ⟨some 14, .bin .lss (.t 11) (.t 13), some (10, true)⟩,
    ⟨some 15, .pick (.t 10) (.t 14) (.c (.bool false)), none⟩] [0, 1, 5, 15])
  (.cond (.t 15) (.skip) (.exit 0))))
  (.seq (.kp [0, 1, 5] (.blk 1 (.seq (.drw [⟨0, ⟨some 18, .mv (.t 0), none⟩, [19, 20, 21, 22, 23, 24, 25, 26]⟩,
    ⟨1, ⟨some 19, .mv (.t 5), none⟩, [18, 20, 21, 22, 23, 24, 25, 26]⟩,
    ⟨2, ⟨some 20, .ia 18 (.t 19) 1, none⟩, [21, 22, 23, 24, 25, 26]⟩,
    ⟨3, ⟨some 21, .ld 20 1 false, none⟩, [22, 23, 24, 25, 26]⟩,
    ⟨4, ⟨some 22, .mv (.t 1), none⟩, [18, 19, 20, 21, 23, 24, 25, 26]⟩,
    ⟨5, ⟨some 23, .mv (.t 5), none⟩, [18, 19, 20, 21, 22, 24, 25, 26]⟩,
    ⟨6, ⟨some 24, .ia 22 (.t 23) 1, none⟩, [18, 19, 20, 21, 25, 26]⟩,
    ⟨7, ⟨some 25, .ld 24 1 false, none⟩, [18, 19, 20, 21, 26]⟩,
    ⟨8, ⟨some 26, .bin .neq (.t 21) (.t 25), none⟩, []⟩]
    [] [0, 1, 5, 26])
  (.cond (.t 26) (.seq (.kp [] (.seq (.drw [⟨0, ⟨some 27, .mv (.t 0), none⟩, [28, 29, 30, 31, 32, 33, 34, 35]⟩,
    ⟨1, ⟨some 28, .mv (.t 5), none⟩, [27, 29, 30, 31, 32, 33, 34, 35]⟩,
    ⟨2, ⟨some 29, .ia 27 (.t 28) 1, none⟩, [30, 31, 32, 33, 34, 35]⟩,
    ⟨3, ⟨some 30, .ld 29 1 false, none⟩, [31, 32, 33, 34, 35]⟩,
    ⟨4, ⟨some 31, .mv (.t 1), none⟩, [27, 28, 29, 30, 32, 33, 34, 35]⟩,
    ⟨5, ⟨some 32, .mv (.t 5), none⟩, [27, 28, 29, 30, 31, 33, 34, 35]⟩,
    ⟨6, ⟨some 33, .ia 31 (.t 32) 1, none⟩, [27, 28, 29, 30, 34, 35]⟩,
    ⟨7, ⟨some 34, .ld 33 1 false, none⟩, [27, 28, 29, 30, 35]⟩,
    ⟨8, ⟨some 35, .bin .lss (.t 30) (.t 34), none⟩, []⟩]
    [] [35])
  (.cond (.t 35) (.seq (.reg [⟨some 4, .asg (.c (.int .i64 (-1))), none⟩] [4])
  (.ret)) (.skip))))
  (.seq (.reg [⟨some 4, .asg (.c (.int .i64 1)), none⟩] [4])
  (.ret))) (.skip)))))
  (.reg [⟨some 16, .mv (.t 5), none⟩,
    ⟨some 17, .bin .add (.t 16) (.c (.int .i64 1)), none⟩,
    ⟨some 5, .asg (.t 17), none⟩] [0, 1, 5])))))))
  (.seq (.reg [⟨some 36, .mv (.t 0), none⟩,
    ⟨some 37, .len false (.t 36), none⟩,
    ⟨some 38, .mv (.t 1), none⟩,
    ⟨some 39, .len false (.t 38), none⟩,
    ⟨some 40, .bin .sub (.t 37) (.t 39), none⟩,
    ⟨some 41, .call 131 [(.t 40)], none⟩,
    ⟨some 4, .asg (.t 41), none⟩] [4])
  (.ret)))
theorem con_spec_l1Less {v0 : (List Int)} {v1 : (List Int)} {r : Int} (h : sh_spec_l1Less v0 v1 = some r) : Con Try.prog 79 [(cLs cI rfl).enc v0, (cLs cI rfl).enc v1] [] (rs_spec_l1Less r) := by
  delta sh_spec_l1Less at h
  refine top (out := none) (f := Try.f79) (m := m79) (rs := [.t 4]) (by kernel_rfl) rfl (by kernel_rfl) (by kernel_rfl) (by kernel_rfl) (by kernel_rfl) (by kernel_rfl) ?_
  exact
   ini [(0, .d ((cLs cI rfl).enc v0)), (1, .d ((cLs cI rfl).enc v1))] rfl <| wpC_seq <| reg_s <| x_asg (sc cI (0 : Int) rfl) <| seqN [(0, .d ((cLs cI rfl).enc v0)), (1, .d ((cLs cI rfl).enc v1))] (by kernel_rfl) <|
    xn <| sqj (fun (s144 : Unit) => [(0, .d ((cLs cI rfl).enc v0)), (1, .d ((cLs cI rfl).enc v1))]) h (fun s144 h => wpC_seq <| reg_s <| st rfl <| mvd rfl rfl <| stw rfl <| lens rfl fun l152 => st rfl <| mvd rfl rfl <| stw rfl <| lens rfl fun l153 => ckI_k h fun i154 h => st rfl <| b_sub (k := .i64) rfl rfl i154 <| bnd h fun x155 e156 h => st rfl <| o_call (a1 (c := cI) tK rfl a0) (con_spec_l1Sign e156) (.inl (so1 sK so0)) <| x_asg (ss rfl rfl) <| seqN [(4, .d (cI.enc x155))] (by kernel_rfl) <|
    xn <| wpC_ret <| re <| fin h (r1 (ss rfl rfl) <| r0) rfl)
    fun m146 h => wpC_kp <| wpC_seq <| reg_s <| x_asg (sc cI (0 : Int) rfl) <| seqN [(0, .d ((cLs cI rfl).enc v0)), (1, .d ((cLs cI rfl).enc v1)), (5, .d (cI.enc (0 : Int)))] (by kernel_rfl) <|
    xn <| wpC_blk <| lpF (fun (s157 : Int) => [(0, .d ((cLs cI rfl).enc v0)), (1, .d ((cLs cI rfl).enc v1)), (5, .d (cI.enc s157))]) (0 : Int) rfl h
    fun G254 nx252 s157 hn253 h => wpC_seq <| wpC_kp <| wpC_seq <| reg_s <| st rfl <| mvd rfl rfl <| st rfl <| mvd rfl rfl <| stw rfl <| lens rfl fun l265 => st rfl <| b_lss (k := .i64) rfl rfl <| st rfl <| mvd rfl rfl <| ite_k h (fun b266 h => gt' rfl b266 <| st rfl <| mvd rfl rfl <| gt' rfl b266 <| st rfl <| mvd rfl rfl <| gt' rfl b266 <| stw rfl <| lens rfl fun l267 => gt' rfl b266 <| st rfl <| b_lss (k := .i64) rfl rfl <| st rfl <| pick1 rfl b266 (cd := cB) (v := (decide (s157 < (v1.length : Int)))) rfl rfl <| seqN [(0, .d ((cLs cI rfl).enc v0)), (1, .d ((cLs cI rfl).enc v1)), (5, .d (cI.enc s157)), (15, .d (cB.enc (decide (s157 < (v1.length : Int)))))] (by kernel_rfl) <|
    xn <| cnd rfl h (fun b268 h => wpC_skip <| kpN [(0, .d ((cLs cI rfl).enc v0)), (1, .d ((cLs cI rfl).enc v1)), (5, .d (cI.enc s157))] (by kernel_rfl) <| xn <| wpC_seq <| wpC_kp <| wpC_blk <| wpC_seq <| drw_s <| pst rfl <| mvd rfl rfl ⟨rfl, pst rfl <| mvd rfl rfl ⟨rfl, getO_kp h fun x290 i291 g292 h => pst rfl <| ias rfl rfl i291 g292 rfl ⟨rfl, pst rfl <| ldi rfl rfl rfl rfl ⟨rfl, pst rfl <| mvd rfl rfl ⟨rfl, pst rfl <| mvd rfl rfl ⟨rfl, getO_kp h fun x293 i294 g295 h => pst rfl <| ias rfl rfl i294 g295 rfl ⟨rfl, pst rfl <| ldi rfl rfl rfl rfl ⟨rfl, pst rfl <| b_neq (k := .i64) rfl rfl ⟨rfl, preN <| seqN [(0, .d ((cLs cI rfl).enc v0)), (1, .d ((cLs cI rfl).enc v1)), (5, .d (cI.enc s157)), (26, .d (cB.enc (decide (x290 ≠ x293))))] (by kernel_rfl) <|
    xn <| cnd rfl h (fun b296 h => wpC_seq <| wpC_kp <| wpC_seq <| drw_s <| pst rfl <| mvd rfl rfl ⟨rfl, pst rfl <| mvd rfl rfl ⟨rfl, pst rfl <| ias rfl rfl i291 g292 rfl ⟨rfl, pst rfl <| ldi rfl rfl rfl rfl ⟨rfl, pst rfl <| mvd rfl rfl ⟨rfl, pst rfl <| mvd rfl rfl ⟨rfl, pst rfl <| ias rfl rfl i294 g295 rfl ⟨rfl, pst rfl <| ldi rfl rfl rfl rfl ⟨rfl, pst rfl <| b_lss (k := .i64) rfl rfl ⟨rfl, preN <| seqN [(35, .d (cB.enc (decide (x290 < x293))))] (by kernel_rfl) <|
    xn <| cnd rfl h (fun b298 h => wpC_seq <| reg_s <| x_asg (sc cI (-1 : Int) rfl) <| seqN [(4, .d (cI.enc (-1 : Int)))] (by kernel_rfl) <|
    xn <| wpC_ret <| rt <| rt <| rb <| rt <| rt <| rt <| rb <| rt <| rt <| re <| fin h (r1 (ss rfl rfl) <| r0) rfl)
    (fun b298 h => wpC_skip <| kpN [] (by kernel_rfl) <| xn <| wpC_seq <| reg_s <| x_asg (sc cI (1 : Int) rfl) <| seqN [(4, .d (cI.enc (1 : Int)))] (by kernel_rfl) <|
    xn <| wpC_ret <| rb <| rt <| rt <| rt <| rb <| rt <| rt <| re <| fin h (r1 (ss rfl rfl) <| r0) rfl)⟩⟩⟩⟩⟩⟩⟩⟩⟩)
    (fun b296 h => wpC_skip <| xbb <| kpN [(0, .d ((cLs cI rfl).enc v0)), (1, .d ((cLs cI rfl).enc v1)), (5, .d (cI.enc s157))] (by kernel_rfl) <| xn <| reg_s <| st rfl <| mvd rfl rfl <| ckI_k h fun i299 h => st rfl <| b_add (k := .i64) rfl rfl i299 <| x_asg (ss rfl rfl) <| seqN [(0, .d ((cLs cI rfl).enc v0)), (1, .d ((cLs cI rfl).enc v1)), (5, .d (cI.enc (s157 + (1 : Int))))] (by kernel_rfl) <|
    xn <| hn253 (s157 + (1 : Int)) h)⟩⟩⟩⟩⟩⟩⟩⟩⟩)
    (fun b268 h => wpC_exit <| xt <| xt <| xt <| xb <| kpN [(0, .d ((cLs cI rfl).enc v0)), (1, .d ((cLs cI rfl).enc v1))] (by kernel_rfl) <| m146 () h))
    (fun b266 h => gf rfl b266 <| gf rfl b266 <| gf rfl b266 <| gf rfl b266 <| st rfl <| pick0 rfl b266 (cd := cB) (v := false) rfl rfl <| seqN [(0, .d ((cLs cI rfl).enc v0)), (1, .d ((cLs cI rfl).enc v1)), (5, .d (cI.enc s157)), (15, .d (cB.enc false))] (by kernel_rfl) <|
    xn <| cnd0 rfl rfl <| wpC_exit <| xt <| xt <| xt <| xb <| kpN [(0, .d ((cLs cI rfl).enc v0)), (1, .d ((cLs cI rfl).enc v1))] (by kernel_rfl) <| m146 () h)

def rs_cmp_isNaN_int (r : Bool) : List D := [cB.enc r]
def m163 : MC := .seq (.reg [⟨some 2, .asg (.c (.bool false)), none⟩] [0])
  (.seq (.reg [⟨some 3, .mv (.t 0), none⟩,
    ⟨some 4, .mv (.t 0), none⟩,
    ⟨some 5, .bin .neq (.t 3) (.t 4), none⟩,
    ⟨some 2, .asg (.t 5), none⟩] [2])
  (.ret))
theorem con_cmp_isNaN_int {v0 : Int} {r : Bool} (h : sh_cmp_isNaN_int v0 = some r) : Con Try.prog 163 [cI.enc v0] [] (rs_cmp_isNaN_int r) := by
  delta sh_cmp_isNaN_int at h
  refine top (out := none) (f := Try.f163) (m := m163) (rs := [.t 2]) (by kernel_rfl) rfl (by kernel_rfl) (by kernel_rfl) (by kernel_rfl) (by kernel_rfl) (by kernel_rfl) ?_
  exact
   ini [(0, .d (cI.enc v0))] rfl <| wpC_seq <| reg_s <| x_asg (sc cB false rfl) <| seqN [(0, .d (cI.enc v0))] (by kernel_rfl) <|
    xn <| wpC_seq <| reg_s <| st rfl <| mvd rfl rfl <| st rfl <| mvd rfl rfl <| st rfl <| b_neq (k := .i64) rfl rfl <| x_asg (ss rfl rfl) <| seqN [(2, .d (cB.enc (decide (v0 ≠ v0))))] (by kernel_rfl) <|
    xn <| wpC_ret <| re <| fin h (r1 (ss rfl rfl) <| r0) rfl

def rs_cmp_Compare_int (r : Int) : List D := [cI.enc r]
def m134 : MC := .seq (.reg [⟨some 4, .asg (.c (.int .i64 0)), none⟩] [0, 1])
  (.seq (.reg [⟨some 7, .mv (.t 0), none⟩,
    ⟨some 8, .call 163 [(.t 7)], none⟩,
    ⟨some 5, .asg (.t 8), none⟩] [0, 1, 5])
  (.seq (.reg [⟨some 9, .mv (.t 1), none⟩,
    ⟨some 10, .call 163 [(.t 9)], none⟩,
    ⟨some 6, .asg (.t 10), none⟩] [0, 1, 5, 6])
  (.seq (.kp [0, 1, 6] (.seq (.reg [⟨some 11, .mv (.t 5), none⟩] [0, 1, 6, 11])
  (.cond (.t 11) (.seq (.kp [] (.seq (.reg [⟨some 12, .mv (.t 6), none⟩] [12])
  (.cond (.t 12) (.seq (.reg [⟨some 4, .asg (.c (.int .i64 0)), none⟩] [4])
  (.ret)) (.skip))))
  (.seq (.reg [⟨some 4, .asg (.c (.int .i64 (-1))), none⟩] [4])
  (.ret))) (.skip))))
  (.seq (.kp [0, 1] (.seq (.reg [⟨some 13, .mv (.t 6), none⟩] [0, 1, 13])
  (.cond (.t 13) (.seq (.reg [⟨some 4, .asg (.c (.int .i64 1)), none⟩] [4])
  (.ret)) (.skip))))
  (.seq (.kp [0, 1] (.seq (.reg [⟨some 14, .mv (.t 0), none⟩,
    ⟨some 15, .mv (.t 1), none⟩,
    ⟨some 16, .bin .lss (.t 14) (.t 15), none⟩] [0, 1, 16])
  (.cond (.t 16) (.seq (.reg [⟨some 4, .asg (.c (.int .i64 (-1))), none⟩] [4])
  (.ret)) (.skip))))
  (.seq (.kp [] (.seq (.reg [⟨some 17, .mv (.t 0), none⟩,
    ⟨some 18, .mv (.t 1), none⟩,
    ⟨some 19, .bin .gtr (.t 17) (.t 18), none⟩] [19])
  (.cond (.t 19) (.seq (.reg [⟨some 4, .asg (.c (.int .i64 1)), none⟩] [4])
  (.ret)) (.skip))))
  (.seq (.reg [⟨some 4, .asg (.c (.int .i64 0)), none⟩] [4])
  (.ret))))))))
theorem con_cmp_Compare_int {v0 : Int} {v1 : Int} {r : Int} (h : sh_cmp_Compare_int v0 v1 = some r) : Con Try.prog 134 [cI.enc v0, cI.enc v1] [] (rs_cmp_Compare_int r) := by
  delta sh_cmp_Compare_int at h
  refine top (out := none) (f := Try.f134) (m := m134) (rs := [.t 4]) (by kernel_rfl) rfl (by kernel_rfl) (by kernel_rfl) (by kernel_rfl) (by kernel_rfl) (by kernel_rfl) ?_
  exact
   ini [(0, .d (cI.enc v0)), (1, .d (cI.enc v1))] rfl <| wpC_seq <| reg_s <| x_asg (sc cI (0 : Int) rfl) <| seqN [(0, .d (cI.enc v0)), (1, .d (cI.enc v1))] (by kernel_rfl) <|
    xn <| wpC_seq <| reg_s <| st rfl <| mvd rfl rfl <| bnd h fun x3 e4 h => st rfl <| o_call (a1 (c := cI) tK rfl a0) (con_cmp_isNaN_int e4) (.inl (so1 sB so0)) <| x_asg (ss rfl rfl) <| seqN [(0, .d (cI.enc v0)), (1, .d (cI.enc v1)), (5, .d (cB.enc x3))] (by kernel_rfl) <|
    xn <| wpC_seq <| reg_s <| st rfl <| mvd rfl rfl <| bnd h fun x7 e8 h => st rfl <| o_call (a1 (c := cI) tK rfl a0) (con_cmp_isNaN_int e8) (.inl (so1 sB so0)) <| x_asg (ss rfl rfl) <| seqN [(0, .d (cI.enc v0)), (1, .d (cI.enc v1)), (5, .d (cB.enc x3)), (6, .d (cB.enc x7))] (by kernel_rfl) <|
    xn <| wpC_seq <| wpC_kp <| wpC_seq <| reg_s <| st rfl <| mvd rfl rfl <| seqN [(0, .d (cI.enc v0)), (1, .d (cI.enc v1)), (6, .d (cB.enc x7)), (11, .d (cB.enc x3))] (by kernel_rfl) <|
    xn <| cnd rfl h (fun b12 h => wpC_seq <| wpC_kp <| wpC_seq <| reg_s <| st rfl <| mvd rfl rfl <| seqN [(12, .d (cB.enc x7))] (by kernel_rfl) <|
    xn <| cnd rfl h (fun b14 h => wpC_seq <| reg_s <| x_asg (sc cI (0 : Int) rfl) <| seqN [(4, .d (cI.enc (0 : Int)))] (by kernel_rfl) <|
    xn <| wpC_ret <| rt <| rt <| rt <| rt <| re <| fin h (r1 (ss rfl rfl) <| r0) rfl)
    (fun b14 h => wpC_skip <| kpN [] (by kernel_rfl) <| xn <| wpC_seq <| reg_s <| x_asg (sc cI (-1 : Int) rfl) <| seqN [(4, .d (cI.enc (-1 : Int)))] (by kernel_rfl) <|
    xn <| wpC_ret <| rt <| rt <| re <| fin h (r1 (ss rfl rfl) <| r0) rfl))
    (fun b12 h => wpC_skip <| kpN [(0, .d (cI.enc v0)), (1, .d (cI.enc v1)), (6, .d (cB.enc x7))] (by kernel_rfl) <| xn <| wpC_seq <| wpC_kp <| wpC_seq <| reg_s <| st rfl <| mvd rfl rfl <| seqN [(0, .d (cI.enc v0)), (1, .d (cI.enc v1)), (13, .d (cB.enc x7))] (by kernel_rfl) <|
    xn <| cnd rfl h (fun b16 h => wpC_seq <| reg_s <| x_asg (sc cI (1 : Int) rfl) <| seqN [(4, .d (cI.enc (1 : Int)))] (by kernel_rfl) <|
    xn <| wpC_ret <| rt <| rt <| re <| fin h (r1 (ss rfl rfl) <| r0) rfl)
    (fun b16 h => wpC_skip <| kpN [(0, .d (cI.enc v0)), (1, .d (cI.enc v1))] (by kernel_rfl) <| xn <| wpC_seq <| wpC_kp <| wpC_seq <| reg_s <| st rfl <| mvd rfl rfl <| st rfl <| mvd rfl rfl <| st rfl <| b_lss (k := .i64) rfl rfl <| seqN [(0, .d (cI.enc v0)), (1, .d (cI.enc v1)), (16, .d (cB.enc (decide (v0 < v1))))] (by kernel_rfl) <|
    xn <| cnd rfl h (fun b18 h => wpC_seq <| reg_s <| x_asg (sc cI (-1 : Int) rfl) <| seqN [(4, .d (cI.enc (-1 : Int)))] (by kernel_rfl) <|
    xn <| wpC_ret <| rt <| rt <| re <| fin h (r1 (ss rfl rfl) <| r0) rfl)
    (fun b18 h => wpC_skip <| kpN [(0, .d (cI.enc v0)), (1, .d (cI.enc v1))] (by kernel_rfl) <| xn <| wpC_seq <| wpC_kp <| wpC_seq <| reg_s <| st rfl <| mvd rfl rfl <| st rfl <| mvd rfl rfl <| st rfl <| b_gtr (k := .i64) rfl rfl <| seqN [(19, .d (cB.enc (decide (v1 < v0))))] (by kernel_rfl) <|
    xn <| cnd rfl h (fun b20 h => wpC_seq <| reg_s <| x_asg (sc cI (1 : Int) rfl) <| seqN [(4, .d (cI.enc (1 : Int)))] (by kernel_rfl) <|
    xn <| wpC_ret <| rt <| rt <| re <| fin h (r1 (ss rfl rfl) <| r0) rfl)
    (fun b20 h => wpC_skip <| kpN [] (by kernel_rfl) <| xn <| wpC_seq <| reg_s <| x_asg (sc cI (0 : Int) rfl) <| seqN [(4, .d (cI.enc (0 : Int)))] (by kernel_rfl) <|
    xn <| wpC_ret <| re <| fin h (r1 (ss rfl rfl) <| r0) rfl))))

def rs_slices_Compare_int (r : Int) : List D := [cI.enc r]
def m135 : MC := .seq (.reg [⟨some 4, .asg (.c (.int .i64 0)), none⟩] [0, 1])
  (.seq (.kp [0, 1] (.seq (.reg [⟨some 9, .mv (.t 0), none⟩,
    ⟨some 10, .len false (.t 9), none⟩,
    ⟨some 11, .mv (.c (.int .i64 0)), none⟩] [0, 1, 9, 10, 11])
  (.blk 0 (.loop (.seq (.reg [⟨some 12, .bin .lss (.t 11) (.t 10), none⟩] [0, 1, 9, 10, 11, 12])
  (.seq (.kp [0, 1, 9, 10, 11] (.cond (.t 12) (.skip) (.exit 0)))
  (.seq (.kp [0, 1, 9, 10, 11] (.blk 1 (.seq (.reg [⟨some 13, .mv (.t 11), none⟩,
    ⟨some 14, .ia 9 (.t 11) 1, none⟩,
    ⟨some 15, .ld 14 1 false, none⟩,
    ⟨some 5, .asg (.t 13), none⟩,
    ⟨some 6, .asg (.t 15), none⟩] [0, 1, 5, 6, 9, 10, 11])
  (.seq (.kp [0, 1, 5, 6, 9, 10, 11] (.seq (.reg [⟨some 16, .mv (.t 5), none⟩,
    ⟨some 17, .mv (.t 1), none⟩,
    ⟨some 18, .len false (.t 17), none⟩,
    ⟨some 19, .bin .geq (.t 16) (.t 18), none⟩] [0, 1, 5, 6, 9, 10, 11, 19])
  (.cond (.t 19) (.seq (.reg [⟨some 4, .asg (.c (.int .i64 1)), none⟩] [4])
  (.ret)) (.skip))))
  (.seq (.reg [⟨some 20, .mv (.t 1), none⟩,
    ⟨some 21, .mv (.t 5), none⟩,
    ⟨some 22, .ia 20 (.t 21) 1, none⟩,
    ⟨some 23, .ld 22 1 false, none⟩,
    ⟨some 7, .asg (.t 23), none⟩] [0, 1, 6, 7, 9, 10, 11])
  (.seq (.reg [⟨some 24, .mv (.t 6), none⟩,
    ⟨some 25, .mv (.t 7), none⟩,
    ⟨some 26, .call 134 [(.t 24), (.t 25)], none⟩,
    ⟨some 8, .asg (.t 26), none⟩] [0, 1, 8, 9, 10, 11])
  (.seq (.reg [⟨some 27, .mv (.t 8), none⟩,
    ⟨some 28, .bin .neq (.t 27) (.c (.int .i64 0)), none⟩] [0, 1, 8, 9, 10, 11, 28])
  (.cond (.t 28) (.seq (.reg [⟨some 29, .mv (.t 8), none⟩,
    ⟨some 4, .asg (.t 29), none⟩] [4])
  (.ret)) (.skip)))))))))
  (.reg [⟨some 30, .bin .add (.t 11) (.c (.int .i64 1)), none⟩,
    ⟨some 11, .mv (.t 30), none⟩] [0, 1, 9, 10, 11]))))))))
  (.seq (.kp [] (.seq (.reg [⟨some 31, .mv (.t 0), none⟩,
    ⟨some 32, .len false (.t 31), none⟩,
    ⟨some 33, .mv (.t 1), none⟩,
    ⟨some 34, .len false (.t 33), none⟩,
    ⟨some 35, .bin .lss (.t 32) (.t 34), none⟩] [35])
  (.cond (.t 35) (.seq (.reg [⟨some 4, .asg (.c (.int .i64 (-1))), none⟩] [4])
  (.ret)) (.skip))))
  (.seq (.reg [⟨some 4, .asg (.c (.int .i64 0)), none⟩] [4])
  (.ret))))
theorem con_slices_Compare_int {v0 : (List Int)} {v1 : (List Int)} {r : Int} (h : sh_slices_Compare_int v0 v1 = some r) : Con Try.prog 135 [(cLs cI rfl).enc v0, (cLs cI rfl).enc v1] [] (rs_slices_Compare_int r) := by
  delta sh_slices_Compare_int at h
  refine top (out := none) (f := Try.f135) (m := m135) (rs := [.t 4]) (by kernel_rfl) rfl (by kernel_rfl) (by kernel_rfl) (by kernel_rfl) (by kernel_rfl) (by kernel_rfl) ?_
  exact
   ini [(0, .d ((cLs cI rfl).enc v0)), (1, .d ((cLs cI rfl).enc v1))] rfl <| wpC_seq <| reg_s <| x_asg (sc cI (0 : Int) rfl) <| seqN [(0, .d ((cLs cI rfl).enc v0)), (1, .d ((cLs cI rfl).enc v1))] (by kernel_rfl) <|
    xn <| wpC_seq <| wpC_kp <| wpC_seq <| reg_s <| st rfl <| mvd rfl rfl <| stw rfl <| lens rfl fun l80 => st rfl <| mvc cI (0 : Int) rfl <| seqN [(0, .d ((cLs cI rfl).enc v0)), (1, .d ((cLs cI rfl).enc v1)), (9, .d ((cLs cI rfl).enc v0)), (10, .d (cI.enc (v0.length : Int))), (11, .d (cI.enc (0 : Int)))] (by kernel_rfl) <|
    xn <| wpC_blk <| lpR (fun (k82 : Nat) (s81 : Unit) => [(0, .d ((cLs cI rfl).enc v0)), (1, .d ((cLs cI rfl).enc v1)), (9, .d ((cLs cI rfl).enc v0)), (10, .d (cI.enc (v0.length : Int))), (11, .d (cI.enc (k82 : Int)))]) () rfl h
    (fun G122 s81 h => wpC_seq <| reg_s <| st rfl <| b_lss (k := .i64) rfl rfl <| seqN [(0, .d ((cLs cI rfl).enc v0)), (1, .d ((cLs cI rfl).enc v1)), (9, .d ((cLs cI rfl).enc v0)), (10, .d (cI.enc (v0.length : Int))), (11, .d (cI.enc (v0.length : Int))), (12, .d (cB.enc (decide ((v0.length : Int) < (v0.length : Int)))))] (by kernel_rfl) <|
    xn <| wpC_seq <| wpC_kp <| cnd0 rfl (dlf _) <| wpC_exit <| xt <| xt <| xt <| xb <| kpN [(0, .d ((cLs cI rfl).enc v0)), (1, .d ((cLs cI rfl).enc v1))] (by kernel_rfl) <| xn <| wpC_seq <| wpC_kp <| wpC_seq <| reg_s <| st rfl <| mvd rfl rfl <| stw rfl <| lens rfl fun l130 => st rfl <| mvd rfl rfl <| stw rfl <| lens rfl fun l131 => st rfl <| b_lss (k := .i64) rfl rfl <| seqN [(35, .d (cB.enc (decide ((v0.length : Int) < (v1.length : Int)))))] (by kernel_rfl) <|
    xn <| cnd rfl h (fun b132 h => wpC_seq <| reg_s <| x_asg (sc cI (-1 : Int) rfl) <| seqN [(4, .d (cI.enc (-1 : Int)))] (by kernel_rfl) <|
    xn <| wpC_ret <| rt <| rt <| re <| fin h (r1 (ss rfl rfl) <| r0) rfl)
    (fun b132 h => wpC_skip <| kpN [] (by kernel_rfl) <| xn <| wpC_seq <| reg_s <| x_asg (sc cI (0 : Int) rfl) <| seqN [(4, .d (cI.enc (0 : Int)))] (by kernel_rfl) <|
    xn <| wpC_ret <| re <| fin h (r1 (ss rfl rfl) <| r0) rfl))
    (fun G122 nx120 k82 s81 x83 hk84 hx85 hn121 h => wpC_seq <| reg_s <| st rfl <| b_lss (k := .i64) rfl rfl <| seqN [(0, .d ((cLs cI rfl).enc v0)), (1, .d ((cLs cI rfl).enc v1)), (9, .d ((cLs cI rfl).enc v0)), (10, .d (cI.enc (v0.length : Int))), (11, .d (cI.enc (k82 : Int))), (12, .d (cB.enc (decide ((k82 : Int) < (v0.length : Int)))))] (by kernel_rfl) <|
    xn <| wpC_seq <| wpC_kp <| cnd1 rfl (dlt hk84) <| wpC_skip <| kpN [(0, .d ((cLs cI rfl).enc v0)), (1, .d ((cLs cI rfl).enc v1)), (9, .d ((cLs cI rfl).enc v0)), (10, .d (cI.enc (v0.length : Int))), (11, .d (cI.enc (k82 : Int)))] (by kernel_rfl) <| xn <| wpC_seq <| wpC_kp <| wpC_blk <| wpC_seq <| reg_s <| st rfl <| mvd rfl rfl <| st rfl <| ias rfl rfl (Int.natCast_nonneg _) hx85 rfl <| st rfl <| ldi rfl rfl rfl rfl <| x_asg (ss rfl rfl) <| x_asg (ss rfl rfl) <| seqN [(0, .d ((cLs cI rfl).enc v0)), (1, .d ((cLs cI rfl).enc v1)), (5, .d (cI.enc (k82 : Int))), (6, .d (cI.enc x83)), (9, .d ((cLs cI rfl).enc v0)), (10, .d (cI.enc (v0.length : Int))), (11, .d (cI.enc (k82 : Int)))] (by kernel_rfl) <|
    xn <| wpC_seq <| wpC_kp <| wpC_seq <| reg_s <| st rfl <| mvd rfl rfl <| st rfl <| mvd rfl rfl <| stw rfl <| lens rfl fun l154 => st rfl <| b_geq (k := .i64) rfl rfl <| seqN [(0, .d ((cLs cI rfl).enc v0)), (1, .d ((cLs cI rfl).enc v1)), (5, .d (cI.enc (k82 : Int))), (6, .d (cI.enc x83)), (9, .d ((cLs cI rfl).enc v0)), (10, .d (cI.enc (v0.length : Int))), (11, .d (cI.enc (k82 : Int))), (19, .d (cB.enc (decide ((v1.length : Int) ≤ (k82 : Int)))))] (by kernel_rfl) <|
    xn <| cnd rfl h (fun b155 h => wpC_seq <| reg_s <| x_asg (sc cI (1 : Int) rfl) <| seqN [(4, .d (cI.enc (1 : Int)))] (by kernel_rfl) <|
    xn <| wpC_ret <| rt <| rt <| rb <| rt <| rt <| rt <| rb <| rt <| rt <| re <| fin h (r1 (ss rfl rfl) <| r0) rfl)
    (fun b155 h => wpC_skip <| kpN [(0, .d ((cLs cI rfl).enc v0)), (1, .d ((cLs cI rfl).enc v1)), (5, .d (cI.enc (k82 : Int))), (6, .d (cI.enc x83)), (9, .d ((cLs cI rfl).enc v0)), (10, .d (cI.enc (v0.length : Int))), (11, .d (cI.enc (k82 : Int)))] (by kernel_rfl) <| xn <| wpC_seq <| reg_s <| st rfl <| mvd rfl rfl <| st rfl <| mvd rfl rfl <| getO_k h fun x159 i160 g161 h => st rfl <| ias rfl rfl i160 g161 rfl <| st rfl <| ldi rfl rfl rfl rfl <| x_asg (ss rfl rfl) <| seqN [(0, .d ((cLs cI rfl).enc v0)), (1, .d ((cLs cI rfl).enc v1)), (6, .d (cI.enc x83)), (7, .d (cI.enc x159)), (9, .d ((cLs cI rfl).enc v0)), (10, .d (cI.enc (v0.length : Int))), (11, .d (cI.enc (k82 : Int)))] (by kernel_rfl) <|
    xn <| wpC_seq <| reg_s <| st rfl <| mvd rfl rfl <| st rfl <| mvd rfl rfl <| bnd h fun x164 e165 h => st rfl <| o_call (a1 (c := cI) tK rfl (a1 (c := cI) tK rfl a0)) (con_cmp_Compare_int e165) (.inl (so1 sK so0)) <| x_asg (ss rfl rfl) <| seqN [(0, .d ((cLs cI rfl).enc v0)), (1, .d ((cLs cI rfl).enc v1)), (8, .d (cI.enc x164)), (9, .d ((cLs cI rfl).enc v0)), (10, .d (cI.enc (v0.length : Int))), (11, .d (cI.enc (k82 : Int)))] (by kernel_rfl) <|
    xn <| wpC_seq <| reg_s <| st rfl <| mvd rfl rfl <| st rfl <| b_neq (k := .i64) rfl rfl <| seqN [(0, .d ((cLs cI rfl).enc v0)), (1, .d ((cLs cI rfl).enc v1)), (8, .d (cI.enc x164)), (9, .d ((cLs cI rfl).enc v0)), (10, .d (cI.enc (v0.length : Int))), (11, .d (cI.enc (k82 : Int))), (28, .d (cB.enc (decide (x164 ≠ (0 : Int)))))] (by kernel_rfl) <|
    xn <| cnd rfl h (fun b166 h => wpC_seq <| reg_s <| st rfl <| mvd rfl rfl <| x_asg (ss rfl rfl) <| seqN [(4, .d (cI.enc x164))] (by kernel_rfl) <|
    xn <| wpC_ret <| rb <| rt <| rt <| rt <| rb <| rt <| rt <| re <| fin h (r1 (ss rfl rfl) <| r0) rfl)
    (fun b166 h => wpC_skip <| xbb <| kpN [(0, .d ((cLs cI rfl).enc v0)), (1, .d ((cLs cI rfl).enc v1)), (9, .d ((cLs cI rfl).enc v0)), (10, .d (cI.enc (v0.length : Int))), (11, .d (cI.enc (k82 : Int)))] (by kernel_rfl) <| xn <| reg_s <| st rfl <| b_inc rfl rfl l80 hk84 <| st rfl <| mvd rfl rfl <| seqN [(0, .d ((cLs cI rfl).enc v0)), (1, .d ((cLs cI rfl).enc v1)), (9, .d ((cLs cI rfl).enc v0)), (10, .d (cI.enc (v0.length : Int))), (11, .d (cI.enc ((k82 + 1 : Nat) : Int)))] (by kernel_rfl) <|
    xn <| hn121 () h)))

def rs_spec_l1Same (r : Bool) : List D := [cB.enc r]
def m148 : MC := .seq (.reg [⟨some 4, .asg (.c (.bool false)), none⟩] [0, 1])
  (.seq (.kp [0, 1] (.seq (.reg [⟨some 6, .mv (.t 0), none⟩,
    ⟨some 7, .len false (.t 6), none⟩,
    ⟨some 8, .mv (.t 1), none⟩,
    ⟨some 9, .len false (.t 8), none⟩,
    ⟨some 10, .bin .neq (.t 7) (.t 9), none⟩] [0, 1, 10])
  (.cond (.t 10) (.seq (.reg [⟨some 4, .asg (.c (.bool false)), none⟩] [4])
  (.ret)) (.skip))))
  (.seq (.kp [] (.seq (.reg [⟨some 11, .mv (.t 0), none⟩,
    ⟨some 12, .len false (.t 11), none⟩,
    ⟨some 13, .mv (.c (.int .i64 0)), none⟩] [0, 1, 12, 13])
  (.blk 0 (.loop (.seq (.reg [⟨some 14, .bin .lss (.t 13) (.t 12), none⟩] [0, 1, 12, 13, 14])
  (.seq (.kp [0, 1, 12, 13] (.cond (.t 14) (.skip) (.exit 0)))
  (.seq (.kp [0, 1, 12, 13] (.blk 1 (.seq (.reg [⟨some 15, .mv (.t 13), none⟩,
    ⟨some 5, .asg (.t 15), none⟩] [0, 1, 5, 12, 13])
  (.seq (.drw [⟨0, ⟨some 16, .mv (.t 0), none⟩, [17, 18, 19, 20, 21, 22, 23, 24]⟩,
    ⟨1, ⟨some 17, .mv (.t 5), none⟩, [16, 18, 19, 20, 21, 22, 23, 24]⟩,
    ⟨2, ⟨some 18, .ia 16 (.t 17) 1, none⟩, [19, 20, 21, 22, 23, 24]⟩,
    ⟨3, ⟨some 19, .ld 18 1 false, none⟩, [20, 21, 22, 23, 24]⟩,
    ⟨4, ⟨some 20, .mv (.t 1), none⟩, [16, 17, 18, 19, 21, 22, 23, 24]⟩,
    ⟨5, ⟨some 21, .mv (.t 5), none⟩, [16, 17, 18, 19, 20, 22, 23, 24]⟩,
    ⟨6, ⟨some 22, .ia 20 (.t 21) 1, none⟩, [16, 17, 18, 19, 23, 24]⟩,
    ⟨7, ⟨some 23, .ld 22 1 false, none⟩, [16, 17, 18, 19, 24]⟩,
    ⟨8, ⟨some 24, .bin .neq (.t 19) (.t 23), none⟩, []⟩]
    [] [0, 1, 12, 13, 24])
  (.cond (.t 24) (.seq (.reg [⟨some 4, .asg (.c (.bool false)), none⟩] [4])
  (.ret)) (.skip))))))
  (.reg [⟨some 25, .bin .add (.t 13) (.c (.int .i64 1)), none⟩,
    ⟨some 13, .mv (.t 25), none⟩] [0, 1, 12, 13]))))))))
  (.seq (.reg [⟨some 4, .asg (.c (.bool true)), none⟩] [4])
  (.ret))))
theorem con_spec_l1Same {v0 : (List Int)} {v1 : (List Int)} {r : Bool} (h : sh_spec_l1Same v0 v1 = some r) : Con Try.prog 148 [(cLs cI rfl).enc v0, (cLs cI rfl).enc v1] [] (rs_spec_l1Same r) := by
  delta sh_spec_l1Same at h
  refine top (out := none) (f := Try.f148) (m := m148) (rs := [.t 4]) (by kernel_rfl) rfl (by kernel_rfl) (by kernel_rfl) (by kernel_rfl) (by kernel_rfl) (by kernel_rfl) ?_
  exact
   ini [(0, .d ((cLs cI rfl).enc v0)), (1, .d ((cLs cI rfl).enc v1))] rfl <| wpC_seq <| reg_s <| x_asg (sc cB false rfl) <| seqN [(0, .d ((cLs cI rfl).enc v0)), (1, .d ((cLs cI rfl).enc v1))] (by kernel_rfl) <|
    xn <| wpC_seq <| wpC_kp <| wpC_seq <| reg_s <| st rfl <| mvd rfl rfl <| stw rfl <| lens rfl fun l8 => st rfl <| mvd rfl rfl <| stw rfl <| lens rfl fun l9 => st rfl <| b_neq (k := .i64) rfl rfl <| seqN [(0, .d ((cLs cI rfl).enc v0)), (1, .d ((cLs cI rfl).enc v1)), (10, .d (cB.enc (decide ((v0.length : Int) ≠ (v1.length : Int)))))] (by kernel_rfl) <|
    xn <| cnd rfl h (fun b10 h => wpC_seq <| reg_s <| x_asg (sc cB false rfl) <| seqN [(4, .d (cB.enc false))] (by kernel_rfl) <|
    xn <| wpC_ret <| rt <| rt <| re <| fin h (r1 (ss rfl rfl) <| r0) rfl)
    (fun b10 h => wpC_skip <| kpN [(0, .d ((cLs cI rfl).enc v0)), (1, .d ((cLs cI rfl).enc v1))] (by kernel_rfl) <| xn <| wpC_seq <| wpC_kp <| wpC_seq <| reg_s <| st rfl <| mvd rfl rfl <| stw rfl <| lens rfl fun l50 => st rfl <| mvc cI (0 : Int) rfl <| seqN [(0, .d ((cLs cI rfl).enc v0)), (1, .d ((cLs cI rfl).enc v1)), (12, .d (cI.enc (v0.length : Int))), (13, .d (cI.enc (0 : Int)))] (by kernel_rfl) <|
    xn <| wpC_blk <| lpR (fun (k52 : Nat) (s51 : Unit) => [(0, .d ((cLs cI rfl).enc v0)), (1, .d ((cLs cI rfl).enc v1)), (12, .d (cI.enc (v0.length : Int))), (13, .d (cI.enc (k52 : Int)))]) () rfl h
    (fun G72 s51 h => wpC_seq <| reg_s <| st rfl <| b_lss (k := .i64) rfl rfl <| seqN [(0, .d ((cLs cI rfl).enc v0)), (1, .d ((cLs cI rfl).enc v1)), (12, .d (cI.enc (v0.length : Int))), (13, .d (cI.enc (v0.length : Int))), (14, .d (cB.enc (decide ((v0.length : Int) < (v0.length : Int)))))] (by kernel_rfl) <|
    xn <| wpC_seq <| wpC_kp <| cnd0 rfl (dlf _) <| wpC_exit <| xt <| xt <| xt <| xb <| kpN [] (by kernel_rfl) <| xn <| wpC_seq <| reg_s <| x_asg (sc cB true rfl) <| seqN [(4, .d (cB.enc true))] (by kernel_rfl) <|
    xn <| wpC_ret <| re <| fin h (r1 (ss rfl rfl) <| r0) rfl)
    (fun G72 nx70 k52 s51 x53 hk54 hx55 hn71 h => wpC_seq <| reg_s <| st rfl <| b_lss (k := .i64) rfl rfl <| seqN [(0, .d ((cLs cI rfl).enc v0)), (1, .d ((cLs cI rfl).enc v1)), (12, .d (cI.enc (v0.length : Int))), (13, .d (cI.enc (k52 : Int))), (14, .d (cB.enc (decide ((k52 : Int) < (v0.length : Int)))))] (by kernel_rfl) <|
    xn <| wpC_seq <| wpC_kp <| cnd1 rfl (dlt hk54) <| wpC_skip <| kpN [(0, .d ((cLs cI rfl).enc v0)), (1, .d ((cLs cI rfl).enc v1)), (12, .d (cI.enc (v0.length : Int))), (13, .d (cI.enc (k52 : Int)))] (by kernel_rfl) <| xn <| wpC_seq <| wpC_kp <| wpC_blk <| wpC_seq <| reg_s <| st rfl <| mvd rfl rfl <| x_asg (ss rfl rfl) <| seqN [(0, .d ((cLs cI rfl).enc v0)), (1, .d ((cLs cI rfl).enc v1)), (5, .d (cI.enc (k52 : Int))), (12, .d (cI.enc (v0.length : Int))), (13, .d (cI.enc (k52 : Int)))] (by kernel_rfl) <|
    xn <| wpC_seq <| drw_s <| pst rfl <| mvd rfl rfl ⟨rfl, pst rfl <| mvd rfl rfl ⟨rfl, pst rfl <| ias rfl rfl (Int.natCast_nonneg _) hx55 rfl ⟨rfl, pst rfl <| ldi rfl rfl rfl rfl ⟨rfl, pst rfl <| mvd rfl rfl ⟨rfl, pst rfl <| mvd rfl rfl ⟨rfl, getO_kp h fun x83 i84 g85 h => pst rfl <| ias rfl rfl i84 g85 rfl ⟨rfl, pst rfl <| ldi rfl rfl rfl rfl ⟨rfl, pst rfl <| b_neq (k := .i64) rfl rfl ⟨rfl, preN <| seqN [(0, .d ((cLs cI rfl).enc v0)), (1, .d ((cLs cI rfl).enc v1)), (12, .d (cI.enc (v0.length : Int))), (13, .d (cI.enc (k52 : Int))), (24, .d (cB.enc (decide (x53 ≠ x83))))] (by kernel_rfl) <|
    xn <| cnd rfl h (fun b86 h => wpC_seq <| reg_s <| x_asg (sc cB false rfl) <| seqN [(4, .d (cB.enc false))] (by kernel_rfl) <|
    xn <| wpC_ret <| rb <| rt <| rt <| rt <| rb <| rt <| rt <| re <| fin h (r1 (ss rfl rfl) <| r0) rfl)
    (fun b86 h => wpC_skip <| xbb <| kpN [(0, .d ((cLs cI rfl).enc v0)), (1, .d ((cLs cI rfl).enc v1)), (12, .d (cI.enc (v0.length : Int))), (13, .d (cI.enc (k52 : Int)))] (by kernel_rfl) <| xn <| reg_s <| st rfl <| b_inc rfl rfl l50 hk54 <| st rfl <| mvd rfl rfl <| seqN [(0, .d ((cLs cI rfl).enc v0)), (1, .d ((cLs cI rfl).enc v1)), (12, .d (cI.enc (v0.length : Int))), (13, .d (cI.enc ((k52 + 1 : Nat) : Int)))] (by kernel_rfl) <|
    xn <| hn71 () h)⟩⟩⟩⟩⟩⟩⟩⟩⟩))

def rs_spec_eContains (r : Bool) : List D := [cB.enc r]
def m149 : MC := .seq (.reg [⟨some 2, .box (.t 0), none⟩,
    ⟨some 3, .box (.t 1), none⟩,
    ⟨some 4, .asg (.c (.bool false)), none⟩] [2, 3])
  (.seq (.kp [] (.seq (.reg [⟨some 7, .fa 3 0 0, none⟩,
    ⟨some 8, .ld 7 1 false, none⟩,
    ⟨some 9, .len false (.t 8), none⟩,
    ⟨some 10, .mv (.c (.int .i64 0)), none⟩] [2, 3, 7, 8, 9, 10])
  (.blk 0 (.loop (.seq (.reg [⟨some 11, .bin .lss (.t 10) (.t 9), none⟩] [2, 3, 7, 8, 9, 10, 11])
  (.seq (.kp [2, 3, 7, 8, 9, 10] (.cond (.t 11) (.skip) (.exit 0)))
  (.seq (.kp [2, 3, 7, 8, 9, 10] (.blk 1 (.seq (.reg [⟨some 12, .mv (.t 10), none⟩,
    ⟨some 13, .ia 8 (.t 10) 1, none⟩,
    ⟨some 14, .ld 13 1 false, none⟩,
    ⟨some 5, .asg (.t 12), none⟩,
    ⟨some 6, .asg (.t 14), none⟩] [2, 3, 5, 6, 7, 8, 9, 10])
  (.seq (.reg [⟨some 15, .mv (.t 6), none⟩,
    ⟨some 16, .fa 2 0 0, none⟩,
    ⟨some 17, .ld 16 1 false, none⟩,
    ⟨some 18, .mv (.t 5), none⟩,
    ⟨some 19, .ia 17 (.t 18) 1, none⟩,
    ⟨some 20, .ld 19 1 false, none⟩,
    ⟨some 21, .bin .and (.t 15) (.t 20), none⟩,
    ⟨some 22, .mv (.t 6), none⟩,
    ⟨some 23, .bin .neq (.t 21) (.t 22), none⟩] [2, 3, 7, 8, 9, 10, 23])
  (.cond (.t 23) (.seq (.reg [⟨some 4, .asg (.c (.bool false)), none⟩] [4])
  (.ret)) (.skip))))))
  (.reg [⟨some 24, .bin .add (.t 10) (.c (.int .i64 1)), none⟩,
    ⟨some 10, .mv (.t 24), none⟩] [2, 3, 7, 8, 9, 10]))))))))
  (.seq (.reg [⟨some 4, .asg (.c (.bool true)), none⟩] [4])
  (.ret)))
theorem con_spec_eContains {v0 : XEdit} {v1 : XEdit} {r : Bool} (h : sh_spec_eContains v0 v1 = some r) : Con Try.prog 149 [(cXEdit (cLs cI rfl)).enc v0, (cXEdit (cLs cI rfl)).enc v1] [] (rs_spec_eContains r) := by
  delta sh_spec_eContains at h
  refine top (out := none) (f := Try.f149) (m := m149) (rs := [.t 4]) (by kernel_rfl) rfl (by kernel_rfl) (by kernel_rfl) (by kernel_rfl) (by kernel_rfl) (by kernel_rfl) ?_
  exact
   ini [(0, .d ((cXEdit (cLs cI rfl)).enc v0)), (1, .d ((cXEdit (cLs cI rfl)).enc v1))] rfl <| wpC_seq <| reg_s <| x_box (ss rfl rfl) <| x_box (ss rfl rfl) <| x_asg (sc cB false rfl) <| seqN [(2, .box ((cXEdit (cLs cI rfl)).enc v0)), (3, .box ((cXEdit (cLs cI rfl)).enc v1))] (by kernel_rfl) <|
    xn <| wpC_seq <| wpC_kp <| wpC_seq <| reg_s <| st rfl <| fab rfl rfl rfl rfl <| st rfl <| lda rfl rfl rfl rfl rfl rfl <| stw rfl <| lens rfl fun l72 => st rfl <| mvc cI (0 : Int) rfl <| seqN [(2, .box ((cXEdit (cLs cI rfl)).enc v0)), (3, .box ((cXEdit (cLs cI rfl)).enc v1)), (7, .adr 3 [.fld 0]), (8, .d ((cLs cI rfl).enc v1.Sets)), (9, .d (cI.enc (v1.Sets.length : Int))), (10, .d (cI.enc (0 : Int)))] (by kernel_rfl) <|
    xn <| wpC_blk <| lpR (fun (k74 : Nat) (s73 : Unit) => [(2, .box ((cXEdit (cLs cI rfl)).enc v0)), (3, .box ((cXEdit (cLs cI rfl)).enc v1)), (7, .adr 3 [.fld 0]), (8, .d ((cLs cI rfl).enc v1.Sets)), (9, .d (cI.enc (v1.Sets.length : Int))), (10, .d (cI.enc (k74 : Int)))]) () rfl h
    (fun G110 s73 h => wpC_seq <| reg_s <| st rfl <| b_lss (k := .i64) rfl rfl <| seqN [(2, .box ((cXEdit (cLs cI rfl)).enc v0)), (3, .box ((cXEdit (cLs cI rfl)).enc v1)), (7, .adr 3 [.fld 0]), (8, .d ((cLs cI rfl).enc v1.Sets)), (9, .d (cI.enc (v1.Sets.length : Int))), (10, .d (cI.enc (v1.Sets.length : Int))), (11, .d (cB.enc (decide ((v1.Sets.length : Int) < (v1.Sets.length : Int)))))] (by kernel_rfl) <|
    xn <| wpC_seq <| wpC_kp <| cnd0 rfl (dlf _) <| wpC_exit <| xt <| xt <| xt <| xb <| kpN [] (by kernel_rfl) <| xn <| wpC_seq <| reg_s <| x_asg (sc cB true rfl) <| seqN [(4, .d (cB.enc true))] (by kernel_rfl) <|
    xn <| wpC_ret <| re <| fin h (r1 (ss rfl rfl) <| r0) rfl)
    (fun G110 nx108 k74 s73 x75 hk76 hx77 hn109 h => wpC_seq <| reg_s <| st rfl <| b_lss (k := .i64) rfl rfl <| seqN [(2, .box ((cXEdit (cLs cI rfl)).enc v0)), (3, .box ((cXEdit (cLs cI rfl)).enc v1)), (7, .adr 3 [.fld 0]), (8, .d ((cLs cI rfl).enc v1.Sets)), (9, .d (cI.enc (v1.Sets.length : Int))), (10, .d (cI.enc (k74 : Int))), (11, .d (cB.enc (decide ((k74 : Int) < (v1.Sets.length : Int)))))] (by kernel_rfl) <|
    xn <| wpC_seq <| wpC_kp <| cnd1 rfl (dlt hk76) <| wpC_skip <| kpN [(2, .box ((cXEdit (cLs cI rfl)).enc v0)), (3, .box ((cXEdit (cLs cI rfl)).enc v1)), (7, .adr 3 [.fld 0]), (8, .d ((cLs cI rfl).enc v1.Sets)), (9, .d (cI.enc (v1.Sets.length : Int))), (10, .d (cI.enc (k74 : Int)))] (by kernel_rfl) <| xn <| wpC_seq <| wpC_kp <| wpC_blk <| wpC_seq <| reg_s <| st rfl <| mvd rfl rfl <| st rfl <| ias rfl rfl (Int.natCast_nonneg _) hx77 rfl <| st rfl <| ldi rfl rfl rfl rfl <| x_asg (ss rfl rfl) <| x_asg (ss rfl rfl) <| seqN [(2, .box ((cXEdit (cLs cI rfl)).enc v0)), (3, .box ((cXEdit (cLs cI rfl)).enc v1)), (5, .d (cI.enc (k74 : Int))), (6, .d (cI.enc x75)), (7, .adr 3 [.fld 0]), (8, .d ((cLs cI rfl).enc v1.Sets)), (9, .d (cI.enc (v1.Sets.length : Int))), (10, .d (cI.enc (k74 : Int)))] (by kernel_rfl) <|
    xn <| wpC_seq <| reg_s <| st rfl <| mvd rfl rfl <| st rfl <| fab rfl rfl rfl rfl <| st rfl <| lda rfl rfl rfl rfl rfl rfl <| st rfl <| mvd rfl rfl <| getO_k h fun x133 i134 g135 h => st rfl <| ias rfl rfl i134 g135 rfl <| st rfl <| ldi rfl rfl rfl rfl <| ck_k h fun i136 h => ckK_k h fun i137 h => ck_k h fun i138 h => ckK_k h fun i139 h => st rfl <| b_and (k := .i64) rfl rfl ⟨i136, i137⟩ ⟨i138, i139⟩ <| st rfl <| mvd rfl rfl <| st rfl <| b_neq (k := .i64) rfl rfl <| seqN [(2, .box ((cXEdit (cLs cI rfl)).enc v0)), (3, .box ((cXEdit (cLs cI rfl)).enc v1)), (7, .adr 3 [.fld 0]), (8, .d ((cLs cI rfl).enc v1.Sets)), (9, .d (cI.enc (v1.Sets.length : Int))), (10, .d (cI.enc (k74 : Int))), (23, .d (cB.enc (decide (((x75.toNat &&& x133.toNat : Nat) : Int) ≠ x75))))] (by kernel_rfl) <|
    xn <| cnd rfl h (fun b140 h => wpC_seq <| reg_s <| x_asg (sc cB false rfl) <| seqN [(4, .d (cB.enc false))] (by kernel_rfl) <|
    xn <| wpC_ret <| rb <| rt <| rt <| rt <| rb <| rt <| rt <| re <| fin h (r1 (ss rfl rfl) <| r0) rfl)
    (fun b140 h => wpC_skip <| xbb <| kpN [(2, .box ((cXEdit (cLs cI rfl)).enc v0)), (3, .box ((cXEdit (cLs cI rfl)).enc v1)), (7, .adr 3 [.fld 0]), (8, .d ((cLs cI rfl).enc v1.Sets)), (9, .d (cI.enc (v1.Sets.length : Int))), (10, .d (cI.enc (k74 : Int)))] (by kernel_rfl) <| xn <| reg_s <| st rfl <| b_inc rfl rfl l72 hk76 <| st rfl <| mvd rfl rfl <| seqN [(2, .box ((cXEdit (cLs cI rfl)).enc v0)), (3, .box ((cXEdit (cLs cI rfl)).enc v1)), (7, .adr 3 [.fld 0]), (8, .d ((cLs cI rfl).enc v1.Sets)), (9, .d (cI.enc (v1.Sets.length : Int))), (10, .d (cI.enc ((k74 + 1 : Nat) : Int)))] (by kernel_rfl) <|
    xn <| hn109 () h))

def rs_spec_eAdd (r : (List XEdit)) : List D := [(cLs (cXEdit (cLs cI rfl)) rfl).enc r]
def m150 : MC := .seq (.reg [⟨some 3, .box (.t 1), none⟩,
    ⟨some 4, .asg (.c (.slice false [])), none⟩] [0, 3])
  (.seq (.reg [⟨some 5, .asg (.c (.int .i64 0)), none⟩] [0, 3, 5])
  (.seq (.kp [0, 3, 5] (.blk 0 (.loop (.kp [0, 3, 5] (.seq (.kp [0, 3, 5] (.seq (.drw [⟨0, ⟨some 7, .mv (.t 5), none⟩, [8, 9, 10, 11, 12, 13, 14, 15, 16, 17, 18, 19, 20, 21]⟩,
    ⟨1, ⟨some 8, .mv (.t 0), none⟩, [7, 9, 10, 11, 12, 13, 14, 15, 16, 17, 18, 19, 20, 21]⟩,
    ⟨2, ⟨some 9, .len false (.t 8), none⟩, [7, 10, 11, 12, 13, 14, 15, 16, 17, 18, 19, 20, 21]⟩,
    ⟨3, ⟨some 10, .bin .lss (.t 7) (.t 9), none⟩, [11, 12, 13, 14, 15, 16, 17, 18, 19, 20, 21]⟩,
    ⟨4, ⟨some 11, .mv (.t 10), none⟩, [12, 13, 14, 15, 16, 17, 18, 19, 20, 21]⟩,
    ⟨5, ⟨some 12, .mv (.t 0), some (11, true)⟩, [13, 14, 15, 16, 17, 18, 19, 20, 21]⟩,
    ⟨6, ⟨some 13, .mv (.t 5), some (11, true)⟩, [12, 14, 15, 16, 17, 18, 19, 20, 21]⟩,
    ⟨7, ⟨some 14, .ia 12 (.t 13) 1, some (11, true)⟩, [15, 16, 17, 18, 19, 20, 21]⟩,
    ⟨8, ⟨some 15, .fa 14 0 0, some (11, true)⟩, [16, 17, 18, 19, 20, 21]⟩,
    ⟨9, ⟨some 16, .ld 15 1 false, some (11, true)⟩, [17, 18, 19, 20, 21]⟩,
    ⟨10, ⟨some 17, .fa 3 0 0, some (11, true)⟩, [12, 13, 14, 15, 16, 18, 19, 20, 21]⟩,
    ⟨11, ⟨some 18, .ld 17 1 false, some (11, true)⟩, [12, 13, 14, 15, 16, 19, 20, 21]⟩,
    ⟨12, ⟨some 19, .call 79 [(.t 16), (.t 18)], some (11, true)⟩, [20, 21]⟩,
    ⟨13, ⟨some 20, .bin .lss (.t 19) (.c (.int .i64 0)), some (11, true)⟩, [21]⟩,
    ⟨14, ⟨some 21, .pick (.t 11) (.t 20) (.c (.bool false)), none⟩, []⟩]
    [] [0, 3, 5, 21])
  (.cond (.t 21) (.skip) (.exit 0))))
  (.blk 1 (.reg [⟨some 22, .mv (.t 5), none⟩,
    ⟨some 23, .bin .add (.t 22) (.c (.int .i64 1)), none⟩,
    ⟨some 5, .asg (.t 23), none⟩] [0, 3, 5])))))))
  (.seq (.kp [0, 3, 5] (.seq (.drw [⟨0, ⟨some 24, .mv (.t 5), none⟩, [25, 26, 27, 28, 29, 30, 31, 32, 33, 34, 35, 36, 37]⟩,
    ⟨1, ⟨some 25, .mv (.t 0), none⟩, [24, 26, 27, 28, 29, 30, 31, 32, 33, 34, 35, 36, 37]⟩,
    ⟨2, ⟨some 26, .len false (.t 25), none⟩, [24, 27, 28, 29, 30, 31, 32, 33, 34, 35, 36, 37]⟩,
    ⟨3, ⟨some 27, .bin .lss (.t 24) (.t 26), none⟩, [28, 29, 30, 31, 32, 33, 34, 35, 36, 37]⟩,
    ⟨4, ⟨some 28, .mv (.t 27), none⟩, [29, 30, 31, 32, 33, 34, 35, 36, 37]⟩,
    ⟨5, ⟨some 29, .mv (.t 0), some (28, true)⟩, [30, 31, 32, 33, 34, 35, 36, 37]⟩,
    ⟨6, ⟨some 30, .mv (.t 5), some (28, true)⟩, [29, 31, 32, 33, 34, 35, 36, 37]⟩,
    ⟨7, ⟨some 31, .ia 29 (.t 30) 1, some (28, true)⟩, [32, 33, 34, 35, 36, 37]⟩,
    ⟨8, ⟨some 32, .fa 31 0 0, some (28, true)⟩, [33, 34, 35, 36, 37]⟩,
    ⟨9, ⟨some 33, .ld 32 1 false, some (28, true)⟩, [34, 35, 36, 37]⟩,
    ⟨10, ⟨some 34, .fa 3 0 0, some (28, true)⟩, [29, 30, 31, 32, 33, 35, 36, 37]⟩,
    ⟨11, ⟨some 35, .ld 34 1 false, some (28, true)⟩, [29, 30, 31, 32, 33, 36, 37]⟩,
    ⟨12, ⟨some 36, .call 148 [(.t 33), (.t 35)], some (28, true)⟩, [37]⟩,
    ⟨13, ⟨some 37, .pick (.t 28) (.t 36) (.c (.bool false)), none⟩, []⟩]
    [] [0, 3, 5, 37])
  (.cond (.t 37) (.seq (.reg [⟨some 38, .mv (.t 0), none⟩,
    ⟨some 4, .asg (.t 38), none⟩] [4])
  (.fz 4 (.ret))) (.skip))))
  (.seq (.reg [⟨some 39, .bsl [] 1, none⟩,
    ⟨some 40, .mv (.t 0), none⟩,
    ⟨some 41, .mv (.t 5), none⟩,
    ⟨some 42, .sl (.t 40) none (some (.t 41)) 1, none⟩,
    ⟨some 43, .app (.t 39) (.t 42) 1, none⟩,
    ⟨some 6, .asg (.t 43), none⟩] [0, 3, 5, 6])
  (.seq (.reg [⟨some 44, .mv (.t 6), none⟩,
    ⟨some 45, .fa 3 0 0, none⟩,
    ⟨some 46, .ld 45 1 false, none⟩,
    ⟨some 47, .call 90 [(.t 46)], none⟩,
    ⟨some 48, .bld [.slice true []] [(0, (.t 47))], none⟩,
    ⟨some 49, .bsl [(.t 48)] 1, none⟩,
    ⟨some 50, .app (.t 44) (.t 49) 1, none⟩,
    ⟨some 6, .asg (.t 50), none⟩] [0, 5, 6])
  (.seq (.reg [⟨some 51, .mv (.t 6), none⟩,
    ⟨some 52, .mv (.t 0), none⟩,
    ⟨some 53, .mv (.t 5), none⟩,
    ⟨some 54, .sl (.t 52) (some (.t 53)) none 1, none⟩,
    ⟨some 55, .app (.t 51) (.t 54) 1, none⟩,
    ⟨some 4, .asg (.t 55), none⟩] [4])
  (.fz 4 (.ret))))))))
theorem con_spec_eAdd {v0 : (List XEdit)} {v1 : XEdit} {r : (List XEdit)} (h : sh_spec_eAdd v0 v1 = some r) : Con Try.prog 150 [(cLs (cXEdit (cLs cI rfl)) rfl).enc v0, (cXEdit (cLs cI rfl)).enc v1] [] (rs_spec_eAdd r) := by
  delta sh_spec_eAdd at h
  refine top (out := none) (f := Try.f150) (m := m150) (rs := [.t 4]) (by kernel_rfl) rfl (by kernel_rfl) (by kernel_rfl) (by kernel_rfl) (by kernel_rfl) (by kernel_rfl) ?_
  exact
   ini [(0, .d ((cLs (cXEdit (cLs cI rfl)) rfl).enc v0)), (1, .d ((cXEdit (cLs cI rfl)).enc v1))] rfl <| wpC_seq <| reg_s <| x_box (ss rfl rfl) <| x_asg (sc (cLs (cXEdit (cLs cI rfl)) rfl) ([] : List XEdit) rfl) <| seqN [(0, .d ((cLs (cXEdit (cLs cI rfl)) rfl).enc v0)), (3, .box ((cXEdit (cLs cI rfl)).enc v1))] (by kernel_rfl) <|
    xn <| wpC_seq <| reg_s <| x_asg (sc cI (0 : Int) rfl) <| seqN [(0, .d ((cLs (cXEdit (cLs cI rfl)) rfl).enc v0)), (3, .box ((cXEdit (cLs cI rfl)).enc v1)), (5, .d (cI.enc (0 : Int)))] (by kernel_rfl) <|
    xn <| wpC_seq <| jw (fun (s102 : Int) => [(0, .d ((cLs (cXEdit (cLs cI rfl)) rfl).enc v0)), (3, .box ((cXEdit (cLs cI rfl)).enc v1)), (5, .d (cI.enc s102))]) h (fun s102 h => xn <| sqj (fun (s119 : Unit) => [(0, .d ((cLs (cXEdit (cLs cI rfl)) rfl).enc v0)), (3, .box ((cXEdit (cLs cI rfl)).enc v1)), (5, .d (cI.enc s102))]) h (fun s119 h => wpC_seq <| reg_s <| x_bsl (cXEdit (cLs cI rfl)) ([] : List XEdit) t0 rfl rfl <| st rfl <| mvd rfl rfl <| st rfl <| mvd rfl rfl <| ck_k h fun i124 h => st rfl <| o_sl rfl rfl lo0 (hi1 (k := .i64) rfl i124.1) i124.2 <| lnO_k h fun l125 h => x_app (so rfl rfl) (ts rfl) l125 rfl <| x_asg (so rfl rfl) <| seqN [(0, .d ((cLs (cXEdit (cLs cI rfl)) rfl).enc v0)), (3, .box ((cXEdit (cLs cI rfl)).enc v1)), (5, .d (cI.enc s102)), (6, .d ((cLo (cXEdit (cLs cI rfl))).enc (([] : List XEdit) ++ ((v0.take (s102).toNat).drop 0))))] (by kernel_rfl) <|
    xn <| wpC_seq <| reg_s <| st rfl <| mvo rfl rfl <| st rfl <| fab rfl rfl rfl rfl <| st rfl <| lda rfl rfl rfl rfl rfl rfl <| bnd h fun x129 e130 h => st rfl <| o_call (a1 (c := (cLs cI rfl)) (tLs tK) rfl a0) (con_spec_l1Own_fz e130) (.inr (hr1 rfl rfl hr0)) <| x_bld ((cXEdit (cLs cI rfl)).enc (⟨x129⟩ : XEdit)) (t1 (ss rfl rfl) rfl t0) rfl rfl <| x_bsl (cXEdit (cLs cI rfl)) [(⟨x129⟩ : XEdit)] (t1 (ss rfl rfl) rfl t0) rfl rfl <| lnO_k h fun l131 h => x_app (sr rfl rfl) (to rfl rfl) l131 rfl <| x_asg (so rfl rfl) <| seqN [(0, .d ((cLs (cXEdit (cLs cI rfl)) rfl).enc v0)), (5, .d (cI.enc s102)), (6, .d ((cLo (cXEdit (cLs cI rfl))).enc ((([] : List XEdit) ++ ((v0.take (s102).toNat).drop 0)) ++ [(⟨x129⟩ : XEdit)])))] (by kernel_rfl) <|
    xn <| wpC_seq <| reg_s <| st rfl <| mvo rfl rfl <| st rfl <| mvd rfl rfl <| st rfl <| mvd rfl rfl <| ck_k h fun i134 h => st rfl <| o_sl rfl rfl (lo1 (k := .i64) rfl i134.1) hi0 i134.2 <| lnO_k h fun l135 h => x_app (sr rfl rfl) (ts rfl) l135 rfl <| x_asg (so rfl rfl) <| seqN [(4, .d ((cLo (cXEdit (cLs cI rfl))).enc (((([] : List XEdit) ++ ((v0.take (s102).toNat).drop 0)) ++ [(⟨x129⟩ : XEdit)]) ++ ((v0.take v0.length).drop (s102).toNat))))] (by kernel_rfl) <|
    xn <| fz_s (tLo (tXEdit (tLs tK))) rfl <| wpC_ret <| re <| fin h (r1 (ss rfl rfl) <| r0) rfl)
    fun m121 h => wpC_kp <| wpC_seq <| drw_s <| pst rfl <| mvd rfl rfl ⟨rfl, pst rfl <| mvd rfl rfl ⟨rfl, lmO_kp h fun l143 h => pst rfl <| plns rfl l143 ⟨rfl, pst rfl <| b_lss (k := .i64) rfl rfl ⟨rfl, pst rfl <| mvd rfl rfl ⟨rfl, ite_kp h (fun b144 h => pgt rfl b144 <| pst rfl <| mvd rfl rfl ⟨rfl, pgt rfl b144 <| pst rfl <| mvd rfl rfl ⟨rfl, pgt rfl b144 <| getO_kp h fun x145 i146 g147 h => pst rfl <| ias rfl rfl i146 g147 rfl ⟨rfl, pgt rfl b144 <| pst rfl <| fai rfl rfl rfl rfl ⟨rfl, pgt rfl b144 <| pst rfl <| ldi rfl rfl rfl rfl ⟨rfl, pgt rfl b144 <| pst rfl <| fab rfl rfl rfl rfl ⟨rfl, pgt rfl b144 <| pst rfl <| lda rfl rfl rfl rfl rfl rfl ⟨rfl, pgt rfl b144 <| bndp h fun x148 e149 h => pst rfl <| o_call (a1 (c := (cLs cI rfl)) (tLs tK) rfl (a1 (c := (cLs cI rfl)) (tLs tK) rfl a0)) (con_spec_l1Same e149) (.inl (so1 sB so0)) ⟨rfl, pst rfl <| pick1 rfl b144 (cd := cB) (v := x148) rfl rfl ⟨rfl, preN <| seqN [(0, .d ((cLs (cXEdit (cLs cI rfl)) rfl).enc v0)), (3, .box ((cXEdit (cLs cI rfl)).enc v1)), (5, .d (cI.enc s102)), (37, .d (cB.enc x148))] (by kernel_rfl) <|
    xn <| cnd rfl h (fun b150 h => wpC_seq <| reg_s <| st rfl <| mvd rfl rfl <| x_asg (ss rfl rfl) <| seqN [(4, .d ((cLs (cXEdit (cLs cI rfl)) rfl).enc v0))] (by kernel_rfl) <|
    xn <| fz_s (tLs (tXEdit (tLs tK))) rfl <| wpC_ret <| rt <| rt <| re <| fin h (r1 (ss rfl rfl) <| r0) rfl)
    (fun b150 h => wpC_skip <| kpN [(0, .d ((cLs (cXEdit (cLs cI rfl)) rfl).enc v0)), (3, .box ((cXEdit (cLs cI rfl)).enc v1)), (5, .d (cI.enc s102))] (by kernel_rfl) <| m121 () h)⟩⟩⟩⟩⟩⟩⟩⟩⟩)
    (fun b144 h => pgf rfl rfl b144 <| pgf rfl rfl b144 <| pgf rfl rfl b144 <| pgf rfl rfl b144 <| pgf rfl rfl b144 <| pgf rfl rfl b144 <| pgf rfl rfl b144 <| pgf rfl rfl b144 <| pst rfl <| pick0 rfl b144 (cd := cB) (v := false) rfl rfl ⟨rfl, preN <| seqN [(0, .d ((cLs (cXEdit (cLs cI rfl)) rfl).enc v0)), (3, .box ((cXEdit (cLs cI rfl)).enc v1)), (5, .d (cI.enc s102)), (37, .d (cB.enc false))] (by kernel_rfl) <|
    xn <| cnd0 rfl rfl <| wpC_skip <| kpN [(0, .d ((cLs (cXEdit (cLs cI rfl)) rfl).enc v0)), (3, .box ((cXEdit (cLs cI rfl)).enc v1)), (5, .d (cI.enc s102))] (by kernel_rfl) <| m121 () h⟩)⟩⟩⟩⟩⟩)
    fun s102' q103 h => wpC_kp <| wpC_blk <| lpF (fun (s151 : Int) => [(0, .d ((cLs (cXEdit (cLs cI rfl)) rfl).enc v0)), (3, .box ((cXEdit (cLs cI rfl)).enc v1)), (5, .d (cI.enc s151))]) (0 : Int) rfl h
    fun G220 nx218 s151 hn219 h => wpC_kp <| wpC_seq <| wpC_kp <| wpC_seq <| drw_s <| pst rfl <| mvd rfl rfl ⟨rfl, pst rfl <| mvd rfl rfl ⟨rfl, lmO_kp h fun l243 h => pst rfl <| plns rfl l243 ⟨rfl, pst rfl <| b_lss (k := .i64) rfl rfl ⟨rfl, pst rfl <| mvd rfl rfl ⟨rfl, ite_kp h (fun b244 h => pgt rfl b244 <| pst rfl <| mvd rfl rfl ⟨rfl, pgt rfl b244 <| pst rfl <| mvd rfl rfl ⟨rfl, pgt rfl b244 <| getO_kp h fun x245 i246 g247 h => pst rfl <| ias rfl rfl i246 g247 rfl ⟨rfl, pgt rfl b244 <| pst rfl <| fai rfl rfl rfl rfl ⟨rfl, pgt rfl b244 <| pst rfl <| ldi rfl rfl rfl rfl ⟨rfl, pgt rfl b244 <| pst rfl <| fab rfl rfl rfl rfl ⟨rfl, pgt rfl b244 <| pst rfl <| lda rfl rfl rfl rfl rfl rfl ⟨rfl, pgt rfl b244 <| bndp h fun x248 e249 h => pst rfl <| o_call (a1 (c := (cLs cI rfl)) (tLs tK) rfl (a1 (c := (cLs cI rfl)) (tLs tK) rfl a0)) (con_spec_l1Less e249) (.inl (so1 sK so0)) ⟨rfl, pgt rfl b244 <| pst rfl <| b_lss (k := .i64) rfl rfl ⟨rfl, pst rfl <| pick1 rfl b244 (cd := cB) (v := (decide (x248 < (0 : Int)))) rfl rfl ⟨rfl, preN <| seqN [(0, .d ((cLs (cXEdit (cLs cI rfl)) rfl).enc v0)), (3, .box ((cXEdit (cLs cI rfl)).enc v1)), (5, .d (cI.enc s151)), (21, .d (cB.enc (decide (x248 < (0 : Int)))))] (by kernel_rfl) <|
    xn <| cnd rfl h (fun b250 h => wpC_skip <| kpN [(0, .d ((cLs (cXEdit (cLs cI rfl)) rfl).enc v0)), (3, .box ((cXEdit (cLs cI rfl)).enc v1)), (5, .d (cI.enc s151))] (by kernel_rfl) <| xn <| wpC_blk <| reg_s <| st rfl <| mvd rfl rfl <| ckI_k h fun i251 h => st rfl <| b_add (k := .i64) rfl rfl i251 <| x_asg (ss rfl rfl) <| seqN [(0, .d ((cLs (cXEdit (cLs cI rfl)) rfl).enc v0)), (3, .box ((cXEdit (cLs cI rfl)).enc v1)), (5, .d (cI.enc (s151 + (1 : Int))))] (by kernel_rfl) <|
    xbb <| kpN [(0, .d ((cLs (cXEdit (cLs cI rfl)) rfl).enc v0)), (3, .box ((cXEdit (cLs cI rfl)).enc v1)), (5, .d (cI.enc (s151 + (1 : Int))))] (by kernel_rfl) <| xn <| hn219 (s151 + (1 : Int)) h)
    (fun b250 h => wpC_exit <| xt <| xt <| xt <| xt <| xb <| kpN [(0, .d ((cLs (cXEdit (cLs cI rfl)) rfl).enc v0)), (3, .box ((cXEdit (cLs cI rfl)).enc v1)), (5, .d (cI.enc s151))] (by kernel_rfl) <| lfn (S := (fun (s102 : Int) => [(0, .d ((cLs (cXEdit (cLs cI rfl)) rfl).enc v0)), (3, .box ((cXEdit (cLs cI rfl)).enc v1)), (5, .d (cI.enc s102))])) h q103 rfl)⟩⟩⟩⟩⟩⟩⟩⟩⟩⟩)
    (fun b244 h => pgf rfl rfl b244 <| pgf rfl rfl b244 <| pgf rfl rfl b244 <| pgf rfl rfl b244 <| pgf rfl rfl b244 <| pgf rfl rfl b244 <| pgf rfl rfl b244 <| pgf rfl rfl b244 <| pgf rfl rfl b244 <| pst rfl <| pick0 rfl b244 (cd := cB) (v := false) rfl rfl ⟨rfl, preN <| seqN [(0, .d ((cLs (cXEdit (cLs cI rfl)) rfl).enc v0)), (3, .box ((cXEdit (cLs cI rfl)).enc v1)), (5, .d (cI.enc s151)), (21, .d (cB.enc false))] (by kernel_rfl) <|
    xn <| cnd0 rfl rfl <| wpC_exit <| xt <| xt <| xt <| xt <| xb <| kpN [(0, .d ((cLs (cXEdit (cLs cI rfl)) rfl).enc v0)), (3, .box ((cXEdit (cLs cI rfl)).enc v1)), (5, .d (cI.enc s151))] (by kernel_rfl) <| lfn (S := (fun (s102 : Int) => [(0, .d ((cLs (cXEdit (cLs cI rfl)) rfl).enc v0)), (3, .box ((cXEdit (cLs cI rfl)).enc v1)), (5, .d (cI.enc s102))])) h q103 rfl⟩)⟩⟩⟩⟩⟩

def rs_spec_eWithout (r : (List XEdit)) : List D := [(cLs (cXEdit (cLs cI rfl)) rfl).enc r]
def m105 : MC := .seq (.reg [⟨some 2, .asg (.c (.slice false [])), none⟩] [0])
  (.seq (.reg [⟨some 3, .asg (.c (.slice false [])), none⟩] [0, 3])
  (.seq (.kp [3] (.seq (.reg [⟨some 9, .mv (.t 0), none⟩,
    ⟨some 10, .len false (.t 9), none⟩,
    ⟨some 11, .mv (.c (.int .i64 0)), none⟩] [0, 3, 9, 10, 11])
  (.blk 0 (.loop (.seq (.reg [⟨some 12, .bin .lss (.t 11) (.t 10), none⟩] [0, 3, 9, 10, 11, 12])
  (.seq (.kp [0, 3, 9, 10, 11] (.cond (.t 12) (.skip) (.exit 0)))
  (.seq (.kp [0, 3, 9, 10, 11] (.blk 1 (.seq (.reg [⟨some 13, .ia 9 (.t 11) 1, none⟩,
    ⟨some 14, .ld 13 1 true, none⟩,
    ⟨some 5, .alloc (.agg [.slice true []]), none⟩,
    ⟨none, .st 5 (.t 14) 1, none⟩] [0, 3, 5, 9, 10, 11])
  (.seq (.reg [⟨some 6, .asg (.c (.bool false)), none⟩] [0, 3, 5, 6, 9, 10, 11])
  (.seq (.kp [0, 3, 5, 6, 9, 10, 11] (.seq (.reg [⟨some 15, .mv (.t 0), none⟩,
    ⟨some 16, .len false (.t 15), none⟩,
    ⟨some 17, .mv (.c (.int .i64 0)), none⟩] [0, 3, 5, 6, 9, 10, 11, 15, 16, 17])
  (.blk 2 (.loop (.seq (.reg [⟨some 18, .bin .lss (.t 17) (.t 16), none⟩] [0, 3, 5, 6, 9, 10, 11, 15, 16, 17, 18])
  (.seq (.kp [0, 3, 5, 6, 9, 10, 11, 15, 16, 17] (.cond (.t 18) (.skip) (.exit 2)))
  (.seq (.kp [0, 3, 5, 6, 9, 10, 11, 15, 16, 17] (.blk 3 (.seq (.reg [⟨some 19, .ia 15 (.t 17) 1, none⟩,
    ⟨some 20, .ld 19 1 true, none⟩,
    ⟨some 8, .alloc (.agg [.slice true []]), none⟩,
    ⟨none, .st 8 (.t 20) 1, none⟩] [0, 3, 5, 6, 8, 9, 10, 11, 15, 16, 17])
  (.reg [⟨some 21, .mv (.t 6), none⟩,
    ⟨some 22, .mv (.t 21), none⟩,
    ⟨some 23, .fa 5 0 0, some (22, false)⟩,
    ⟨some 24, .ld 23 1 false, some (22, false)⟩,
    ⟨some 25, .fa 8 0 0, some (22, false)⟩,
    ⟨some 26, .ld 25 1 false, some (22, false)⟩,
    ⟨some 27, .call 148 [(.t 24), (.t 26)], some (22, false)⟩,
    ⟨some 28, .nt (.t 27), some (22, false)⟩,
    ⟨some 29, .mv (.t 28), some (22, false)⟩,
    ⟨some 30, .ld 8 1 true, some (29, true)⟩,
    ⟨some 31, .ld 5 1 true, some (29, true)⟩,
    ⟨some 32, .call 149 [(.t 30), (.t 31)], some (29, true)⟩,
    ⟨some 33, .pick (.t 29) (.t 32) (.c (.bool false)), some (22, false)⟩,
    ⟨some 34, .pick (.t 22) (.c (.bool true)) (.t 33), none⟩,
    ⟨some 6, .asg (.t 34), none⟩] [0, 3, 5, 6, 9, 10, 11, 15, 16, 17]))))
  (.reg [⟨some 35, .bin .add (.t 17) (.c (.int .i64 1)), none⟩,
    ⟨some 17, .mv (.t 35), none⟩] [0, 3, 5, 6, 9, 10, 11, 15, 16, 17]))))))))
  (.seq (.reg [⟨some 36, .mv (.t 6), none⟩,
    ⟨some 37, .nt (.t 36), none⟩] [0, 3, 5, 9, 10, 11, 37])
  (.cond (.t 37) (.reg [⟨some 38, .mv (.t 3), none⟩,
    ⟨some 39, .ld 5 1 true, none⟩,
    ⟨some 40, .call 150 [(.t 38), (.t 39)], none⟩,
    ⟨some 3, .asg (.t 40), none⟩] [0, 3, 9, 10, 11]) (.skip))))))))
  (.reg [⟨some 41, .bin .add (.t 11) (.c (.int .i64 1)), none⟩,
    ⟨some 11, .mv (.t 41), none⟩] [0, 3, 9, 10, 11]))))))))
  (.seq (.reg [⟨some 42, .mv (.t 3), none⟩,
    ⟨some 2, .asg (.t 42), none⟩] [2])
  (.ret))))
theorem con_spec_eWithout {v0 : (List XEdit)} {r : (List XEdit)} (h : sh_spec_eWithout v0 = some r) : Con Try.prog 105 [(cLs (cXEdit (cLs cI rfl)) rfl).enc v0] [] (rs_spec_eWithout r) := by
  delta sh_spec_eWithout at h
  refine top (out := none) (f := Try.f105) (m := m105) (rs := [.t 2]) (by kernel_rfl) rfl (by kernel_rfl) (by kernel_rfl) (by kernel_rfl) (by kernel_rfl) (by kernel_rfl) ?_
  exact
   ini [(0, .d ((cLs (cXEdit (cLs cI rfl)) rfl).enc v0))] rfl <| wpC_seq <| reg_s <| x_asg (sc (cLs (cXEdit (cLs cI rfl)) rfl) ([] : List XEdit) rfl) <| seqN [(0, .d ((cLs (cXEdit (cLs cI rfl)) rfl).enc v0))] (by kernel_rfl) <|
    xn <| wpC_seq <| reg_s <| x_asg (sc (cLs (cXEdit (cLs cI rfl)) rfl) ([] : List XEdit) rfl) <| seqN [(0, .d ((cLs (cXEdit (cLs cI rfl)) rfl).enc v0)), (3, .d ((cLs (cXEdit (cLs cI rfl)) rfl).enc ([] : List XEdit)))] (by kernel_rfl) <|
    xn <| wpC_seq <| wpC_kp <| wpC_seq <| reg_s <| st rfl <| mvd rfl rfl <| stw rfl <| lens rfl fun l558 => st rfl <| mvc cI (0 : Int) rfl <| seqN [(0, .d ((cLs (cXEdit (cLs cI rfl)) rfl).enc v0)), (3, .d ((cLs (cXEdit (cLs cI rfl)) rfl).enc ([] : List XEdit))), (9, .d ((cLs (cXEdit (cLs cI rfl)) rfl).enc v0)), (10, .d (cI.enc (v0.length : Int))), (11, .d (cI.enc (0 : Int)))] (by kernel_rfl) <|
    xn <| wpC_blk <| lpR (fun (k560 : Nat) (s559 : (List XEdit)) => [(0, .d ((cLs (cXEdit (cLs cI rfl)) rfl).enc v0)), (3, .d ((cLs (cXEdit (cLs cI rfl)) rfl).enc s559)), (9, .d ((cLs (cXEdit (cLs cI rfl)) rfl).enc v0)), (10, .d (cI.enc (v0.length : Int))), (11, .d (cI.enc (k560 : Int)))]) ([] : List XEdit) rfl h
    (fun G930 s559 h => wpC_seq <| reg_s <| st rfl <| b_lss (k := .i64) rfl rfl <| seqN [(0, .d ((cLs (cXEdit (cLs cI rfl)) rfl).enc v0)), (3, .d ((cLs (cXEdit (cLs cI rfl)) rfl).enc s559)), (9, .d ((cLs (cXEdit (cLs cI rfl)) rfl).enc v0)), (10, .d (cI.enc (v0.length : Int))), (11, .d (cI.enc (v0.length : Int))), (12, .d (cB.enc (decide ((v0.length : Int) < (v0.length : Int)))))] (by kernel_rfl) <|
    xn <| wpC_seq <| wpC_kp <| cnd0 rfl (dlf _) <| wpC_exit <| xt <| xt <| xt <| xb <| kpN [(3, .d ((cLs (cXEdit (cLs cI rfl)) rfl).enc s559))] (by kernel_rfl) <| xn <| wpC_seq <| reg_s <| st rfl <| mvd rfl rfl <| x_asg (ss rfl rfl) <| seqN [(2, .d ((cLs (cXEdit (cLs cI rfl)) rfl).enc s559))] (by kernel_rfl) <|
    xn <| wpC_ret <| re <| fin h (r1 (ss rfl rfl) <| r0) rfl)
    (fun G930 nx928 k560 s559 x561 hk562 hx563 hn929 h => wpC_seq <| reg_s <| st rfl <| b_lss (k := .i64) rfl rfl <| seqN [(0, .d ((cLs (cXEdit (cLs cI rfl)) rfl).enc v0)), (3, .d ((cLs (cXEdit (cLs cI rfl)) rfl).enc s559)), (9, .d ((cLs (cXEdit (cLs cI rfl)) rfl).enc v0)), (10, .d (cI.enc (v0.length : Int))), (11, .d (cI.enc (k560 : Int))), (12, .d (cB.enc (decide ((k560 : Int) < (v0.length : Int)))))] (by kernel_rfl) <|
    xn <| wpC_seq <| wpC_kp <| cnd1 rfl (dlt hk562) <| wpC_skip <| kpN [(0, .d ((cLs (cXEdit (cLs cI rfl)) rfl).enc v0)), (3, .d ((cLs (cXEdit (cLs cI rfl)) rfl).enc s559)), (9, .d ((cLs (cXEdit (cLs cI rfl)) rfl).enc v0)), (10, .d (cI.enc (v0.length : Int))), (11, .d (cI.enc (k560 : Int)))] (by kernel_rfl) <| xn <| wpC_seq <| wpC_kp <| wpC_blk <| wpC_seq <| reg_s <| st rfl <| ias rfl rfl (Int.natCast_nonneg _) hx563 rfl <| st rfl <| ldi rfl rfl rfl rfl <| x_all (cXEdit (cLo cI)) (⟨([] : List Int)⟩ : XEdit) rfl <| x_stb (ss rfl rfl) rfl (Cd.h_sz _ _) rfl <| seqN [(0, .d ((cLs (cXEdit (cLs cI rfl)) rfl).enc v0)), (3, .d ((cLs (cXEdit (cLs cI rfl)) rfl).enc s559)), (5, .box ((cXEdit (cLs cI rfl)).enc x561)), (9, .d ((cLs (cXEdit (cLs cI rfl)) rfl).enc v0)), (10, .d (cI.enc (v0.length : Int))), (11, .d (cI.enc (k560 : Int)))] (by kernel_rfl) <|
    xn <| wpC_seq <| reg_s <| x_asg (sc cB false rfl) <| seqN [(0, .d ((cLs (cXEdit (cLs cI rfl)) rfl).enc v0)), (3, .d ((cLs (cXEdit (cLs cI rfl)) rfl).enc s559)), (5, .box ((cXEdit (cLs cI rfl)).enc x561)), (6, .d (cB.enc false)), (9, .d ((cLs (cXEdit (cLs cI rfl)) rfl).enc v0)), (10, .d (cI.enc (v0.length : Int))), (11, .d (cI.enc (k560 : Int)))] (by kernel_rfl) <|
    xn <| wpC_seq <| wpC_kp <| wpC_seq <| reg_s <| st rfl <| mvd rfl rfl <| stw rfl <| lens rfl fun l1067 => st rfl <| mvc cI (0 : Int) rfl <| seqN [(0, .d ((cLs (cXEdit (cLs cI rfl)) rfl).enc v0)), (3, .d ((cLs (cXEdit (cLs cI rfl)) rfl).enc s559)), (5, .box ((cXEdit (cLs cI rfl)).enc x561)), (6, .d (cB.enc false)), (9, .d ((cLs (cXEdit (cLs cI rfl)) rfl).enc v0)), (10, .d (cI.enc (v0.length : Int))), (11, .d (cI.enc (k560 : Int))), (15, .d ((cLs (cXEdit (cLs cI rfl)) rfl).enc v0)), (16, .d (cI.enc (v0.length : Int))), (17, .d (cI.enc (0 : Int)))] (by kernel_rfl) <|
    xn <| wpC_blk <| lpR (fun (k1069 : Nat) (s1068 : Bool) => [(0, .d ((cLs (cXEdit (cLs cI rfl)) rfl).enc v0)), (3, .d ((cLs (cXEdit (cLs cI rfl)) rfl).enc s559)), (5, .box ((cXEdit (cLs cI rfl)).enc x561)), (6, .d (cB.enc s1068)), (9, .d ((cLs (cXEdit (cLs cI rfl)) rfl).enc v0)), (10, .d (cI.enc (v0.length : Int))), (11, .d (cI.enc (k560 : Int))), (15, .d ((cLs (cXEdit (cLs cI rfl)) rfl).enc v0)), (16, .d (cI.enc (v0.length : Int))), (17, .d (cI.enc (k1069 : Int)))]) false rfl h
    (fun G1097 s1068 h => wpC_seq <| reg_s <| st rfl <| b_lss (k := .i64) rfl rfl <| seqN [(0, .d ((cLs (cXEdit (cLs cI rfl)) rfl).enc v0)), (3, .d ((cLs (cXEdit (cLs cI rfl)) rfl).enc s559)), (5, .box ((cXEdit (cLs cI rfl)).enc x561)), (6, .d (cB.enc s1068)), (9, .d ((cLs (cXEdit (cLs cI rfl)) rfl).enc v0)), (10, .d (cI.enc (v0.length : Int))), (11, .d (cI.enc (k560 : Int))), (15, .d ((cLs (cXEdit (cLs cI rfl)) rfl).enc v0)), (16, .d (cI.enc (v0.length : Int))), (17, .d (cI.enc (v0.length : Int))), (18, .d (cB.enc (decide ((v0.length : Int) < (v0.length : Int)))))] (by kernel_rfl) <|
    xn <| wpC_seq <| wpC_kp <| cnd0 rfl (dlf _) <| wpC_exit <| xt <| xt <| xt <| xb <| kpN [(0, .d ((cLs (cXEdit (cLs cI rfl)) rfl).enc v0)), (3, .d ((cLs (cXEdit (cLs cI rfl)) rfl).enc s559)), (5, .box ((cXEdit (cLs cI rfl)).enc x561)), (6, .d (cB.enc s1068)), (9, .d ((cLs (cXEdit (cLs cI rfl)) rfl).enc v0)), (10, .d (cI.enc (v0.length : Int))), (11, .d (cI.enc (k560 : Int)))] (by kernel_rfl) <| xn <| wpC_seq <| reg_s <| st rfl <| mvd rfl rfl <| st rfl <| o_nt rfl <| seqN [(0, .d ((cLs (cXEdit (cLs cI rfl)) rfl).enc v0)), (3, .d ((cLs (cXEdit (cLs cI rfl)) rfl).enc s559)), (5, .box ((cXEdit (cLs cI rfl)).enc x561)), (9, .d ((cLs (cXEdit (cLs cI rfl)) rfl).enc v0)), (10, .d (cI.enc (v0.length : Int))), (11, .d (cI.enc (k560 : Int))), (37, .d (cB.enc (!s1068)))] (by kernel_rfl) <|
    xn <| cnd rfl h (fun b1098 h => reg_s <| st rfl <| mvd rfl rfl <| st rfl <| ldb rfl rfl rfl rfl <| bnd h fun x1099 e1100 h => st rfl <| o_call (a1 (c := (cLs (cXEdit (cLs cI rfl)) rfl)) (tLs (tXEdit (tLs tK))) rfl (a1 (c := (cXEdit (cLs cI rfl))) (tXEdit (tLs tK)) rfl a0)) (con_spec_eAdd e1100) (.inr (hr1 rfl rfl (hr1 rfl rfl hr0))) <| x_asg (ss rfl rfl) <| seqN [(0, .d ((cLs (cXEdit (cLs cI rfl)) rfl).enc v0)), (3, .d ((cLs (cXEdit (cLs cI rfl)) rfl).enc x1099)), (9, .d ((cLs (cXEdit (cLs cI rfl)) rfl).enc v0)), (10, .d (cI.enc (v0.length : Int))), (11, .d (cI.enc (k560 : Int)))] (by kernel_rfl) <|
    xbb <| kpN [(0, .d ((cLs (cXEdit (cLs cI rfl)) rfl).enc v0)), (3, .d ((cLs (cXEdit (cLs cI rfl)) rfl).enc x1099)), (9, .d ((cLs (cXEdit (cLs cI rfl)) rfl).enc v0)), (10, .d (cI.enc (v0.length : Int))), (11, .d (cI.enc (k560 : Int)))] (by kernel_rfl) <| xn <| reg_s <| st rfl <| b_inc rfl rfl l558 hk562 <| st rfl <| mvd rfl rfl <| seqN [(0, .d ((cLs (cXEdit (cLs cI rfl)) rfl).enc v0)), (3, .d ((cLs (cXEdit (cLs cI rfl)) rfl).enc x1099)), (9, .d ((cLs (cXEdit (cLs cI rfl)) rfl).enc v0)), (10, .d (cI.enc (v0.length : Int))), (11, .d (cI.enc ((k560 + 1 : Nat) : Int)))] (by kernel_rfl) <|
    xn <| hn929 x1099 h)
    (fun b1098 h => wpC_skip <| xbb <| kpN [(0, .d ((cLs (cXEdit (cLs cI rfl)) rfl).enc v0)), (3, .d ((cLs (cXEdit (cLs cI rfl)) rfl).enc s559)), (9, .d ((cLs (cXEdit (cLs cI rfl)) rfl).enc v0)), (10, .d (cI.enc (v0.length : Int))), (11, .d (cI.enc (k560 : Int)))] (by kernel_rfl) <| xn <| reg_s <| st rfl <| b_inc rfl rfl l558 hk562 <| st rfl <| mvd rfl rfl <| seqN [(0, .d ((cLs (cXEdit (cLs cI rfl)) rfl).enc v0)), (3, .d ((cLs (cXEdit (cLs cI rfl)) rfl).enc s559)), (9, .d ((cLs (cXEdit (cLs cI rfl)) rfl).enc v0)), (10, .d (cI.enc (v0.length : Int))), (11, .d (cI.enc ((k560 + 1 : Nat) : Int)))] (by kernel_rfl) <|
    xn <| hn929 s559 h))
    (fun G1097 nx1095 k1069 s1068 x1070 hk1071 hx1072 hn1096 h => wpC_seq <| reg_s <| st rfl <| b_lss (k := .i64) rfl rfl <| seqN [(0, .d ((cLs (cXEdit (cLs cI rfl)) rfl).enc v0)), (3, .d ((cLs (cXEdit (cLs cI rfl)) rfl).enc s559)), (5, .box ((cXEdit (cLs cI rfl)).enc x561)), (6, .d (cB.enc s1068)), (9, .d ((cLs (cXEdit (cLs cI rfl)) rfl).enc v0)), (10, .d (cI.enc (v0.length : Int))), (11, .d (cI.enc (k560 : Int))), (15, .d ((cLs (cXEdit (cLs cI rfl)) rfl).enc v0)), (16, .d (cI.enc (v0.length : Int))), (17, .d (cI.enc (k1069 : Int))), (18, .d (cB.enc (decide ((k1069 : Int) < (v0.length : Int)))))] (by kernel_rfl) <|
    xn <| wpC_seq <| wpC_kp <| cnd1 rfl (dlt hk1071) <| wpC_skip <| kpN [(0, .d ((cLs (cXEdit (cLs cI rfl)) rfl).enc v0)), (3, .d ((cLs (cXEdit (cLs cI rfl)) rfl).enc s559)), (5, .box ((cXEdit (cLs cI rfl)).enc x561)), (6, .d (cB.enc s1068)), (9, .d ((cLs (cXEdit (cLs cI rfl)) rfl).enc v0)), (10, .d (cI.enc (v0.length : Int))), (11, .d (cI.enc (k560 : Int))), (15, .d ((cLs (cXEdit (cLs cI rfl)) rfl).enc v0)), (16, .d (cI.enc (v0.length : Int))), (17, .d (cI.enc (k1069 : Int)))] (by kernel_rfl) <| xn <| wpC_seq <| wpC_kp <| wpC_blk <| wpC_seq <| reg_s <| st rfl <| ias rfl rfl (Int.natCast_nonneg _) hx1072 rfl <| st rfl <| ldi rfl rfl rfl rfl <| x_all (cXEdit (cLo cI)) (⟨([] : List Int)⟩ : XEdit) rfl <| x_stb (ss rfl rfl) rfl (Cd.h_sz _ _) rfl <| seqN [(0, .d ((cLs (cXEdit (cLs cI rfl)) rfl).enc v0)), (3, .d ((cLs (cXEdit (cLs cI rfl)) rfl).enc s559)), (5, .box ((cXEdit (cLs cI rfl)).enc x561)), (6, .d (cB.enc s1068)), (8, .box ((cXEdit (cLs cI rfl)).enc x1070)), (9, .d ((cLs (cXEdit (cLs cI rfl)) rfl).enc v0)), (10, .d (cI.enc (v0.length : Int))), (11, .d (cI.enc (k560 : Int))), (15, .d ((cLs (cXEdit (cLs cI rfl)) rfl).enc v0)), (16, .d (cI.enc (v0.length : Int))), (17, .d (cI.enc (k1069 : Int)))] (by kernel_rfl) <|
    xn <| reg_s <| st rfl <| mvd rfl rfl <| st rfl <| mvd rfl rfl <| ite_k h (fun b1107 h => gf rfl b1107 <| gf rfl b1107 <| gf rfl b1107 <| gf rfl b1107 <| gf rfl b1107 <| gf rfl b1107 <| gf rfl b1107 <| gu rfl <| gu rfl <| gu rfl <| gf rfl b1107 <| st rfl <| pick1 rfl b1107 (cd := cB) (v := true) rfl rfl <| x_asg (ss rfl rfl) <| seqN [(0, .d ((cLs (cXEdit (cLs cI rfl)) rfl).enc v0)), (3, .d ((cLs (cXEdit (cLs cI rfl)) rfl).enc s559)), (5, .box ((cXEdit (cLs cI rfl)).enc x561)), (6, .d (cB.enc true)), (9, .d ((cLs (cXEdit (cLs cI rfl)) rfl).enc v0)), (10, .d (cI.enc (v0.length : Int))), (11, .d (cI.enc (k560 : Int))), (15, .d ((cLs (cXEdit (cLs cI rfl)) rfl).enc v0)), (16, .d (cI.enc (v0.length : Int))), (17, .d (cI.enc (k1069 : Int)))] (by kernel_rfl) <|
    xbb <| kpN [(0, .d ((cLs (cXEdit (cLs cI rfl)) rfl).enc v0)), (3, .d ((cLs (cXEdit (cLs cI rfl)) rfl).enc s559)), (5, .box ((cXEdit (cLs cI rfl)).enc x561)), (6, .d (cB.enc true)), (9, .d ((cLs (cXEdit (cLs cI rfl)) rfl).enc v0)), (10, .d (cI.enc (v0.length : Int))), (11, .d (cI.enc (k560 : Int))), (15, .d ((cLs (cXEdit (cLs cI rfl)) rfl).enc v0)), (16, .d (cI.enc (v0.length : Int))), (17, .d (cI.enc (k1069 : Int)))] (by kernel_rfl) <| xn <| reg_s <| st rfl <| b_inc rfl rfl l1067 hk1071 <| st rfl <| mvd rfl rfl <| seqN [(0, .d ((cLs (cXEdit (cLs cI rfl)) rfl).enc v0)), (3, .d ((cLs (cXEdit (cLs cI rfl)) rfl).enc s559)), (5, .box ((cXEdit (cLs cI rfl)).enc x561)), (6, .d (cB.enc true)), (9, .d ((cLs (cXEdit (cLs cI rfl)) rfl).enc v0)), (10, .d (cI.enc (v0.length : Int))), (11, .d (cI.enc (k560 : Int))), (15, .d ((cLs (cXEdit (cLs cI rfl)) rfl).enc v0)), (16, .d (cI.enc (v0.length : Int))), (17, .d (cI.enc ((k1069 + 1 : Nat) : Int)))] (by kernel_rfl) <|
    xn <| hn1096 true h)
    (fun b1107 h => gt' rfl b1107 <| st rfl <| fab rfl rfl rfl rfl <| gt' rfl b1107 <| st rfl <| lda rfl rfl rfl rfl rfl rfl <| gt' rfl b1107 <| st rfl <| fab rfl rfl rfl rfl <| gt' rfl b1107 <| st rfl <| lda rfl rfl rfl rfl rfl rfl <| gt' rfl b1107 <| bnd h fun x1108 e1109 h => st rfl <| o_call (a1 (c := (cLs cI rfl)) (tLs tK) rfl (a1 (c := (cLs cI rfl)) (tLs tK) rfl a0)) (con_spec_l1Same e1109) (.inl (so1 sB so0)) <| gt' rfl b1107 <| st rfl <| o_nt rfl <| gt' rfl b1107 <| st rfl <| mvd rfl rfl <| ite_k h (fun b1110 h => gt' rfl b1110 <| st rfl <| ldb rfl rfl rfl rfl <| gt' rfl b1110 <| st rfl <| ldb rfl rfl rfl rfl <| gt' rfl b1110 <| bnd h fun x1111 e1112 h => st rfl <| o_call (a1 (c := (cXEdit (cLs cI rfl))) (tXEdit (tLs tK)) rfl (a1 (c := (cXEdit (cLs cI rfl))) (tXEdit (tLs tK)) rfl a0)) (con_spec_eContains e1112) (.inl (so1 sB so0)) <| gt' rfl b1107 <| st rfl <| pick1 rfl b1110 (cd := cB) (v := x1111) rfl rfl <| st rfl <| pick0 rfl b1107 (cd := cB) (v := x1111) rfl rfl <| x_asg (ss rfl rfl) <| seqN [(0, .d ((cLs (cXEdit (cLs cI rfl)) rfl).enc v0)), (3, .d ((cLs (cXEdit (cLs cI rfl)) rfl).enc s559)), (5, .box ((cXEdit (cLs cI rfl)).enc x561)), (6, .d (cB.enc x1111)), (9, .d ((cLs (cXEdit (cLs cI rfl)) rfl).enc v0)), (10, .d (cI.enc (v0.length : Int))), (11, .d (cI.enc (k560 : Int))), (15, .d ((cLs (cXEdit (cLs cI rfl)) rfl).enc v0)), (16, .d (cI.enc (v0.length : Int))), (17, .d (cI.enc (k1069 : Int)))] (by kernel_rfl) <|
    xbb <| kpN [(0, .d ((cLs (cXEdit (cLs cI rfl)) rfl).enc v0)), (3, .d ((cLs (cXEdit (cLs cI rfl)) rfl).enc s559)), (5, .box ((cXEdit (cLs cI rfl)).enc x561)), (6, .d (cB.enc x1111)), (9, .d ((cLs (cXEdit (cLs cI rfl)) rfl).enc v0)), (10, .d (cI.enc (v0.length : Int))), (11, .d (cI.enc (k560 : Int))), (15, .d ((cLs (cXEdit (cLs cI rfl)) rfl).enc v0)), (16, .d (cI.enc (v0.length : Int))), (17, .d (cI.enc (k1069 : Int)))] (by kernel_rfl) <| xn <| reg_s <| st rfl <| b_inc rfl rfl l1067 hk1071 <| st rfl <| mvd rfl rfl <| seqN [(0, .d ((cLs (cXEdit (cLs cI rfl)) rfl).enc v0)), (3, .d ((cLs (cXEdit (cLs cI rfl)) rfl).enc s559)), (5, .box ((cXEdit (cLs cI rfl)).enc x561)), (6, .d (cB.enc x1111)), (9, .d ((cLs (cXEdit (cLs cI rfl)) rfl).enc v0)), (10, .d (cI.enc (v0.length : Int))), (11, .d (cI.enc (k560 : Int))), (15, .d ((cLs (cXEdit (cLs cI rfl)) rfl).enc v0)), (16, .d (cI.enc (v0.length : Int))), (17, .d (cI.enc ((k1069 + 1 : Nat) : Int)))] (by kernel_rfl) <|
    xn <| hn1096 x1111 h)
    (fun b1110 h => gf rfl b1110 <| gf rfl b1110 <| gf rfl b1110 <| gt' rfl b1107 <| st rfl <| pick0 rfl b1110 (cd := cB) (v := false) rfl rfl <| st rfl <| pick0 rfl b1107 (cd := cB) (v := false) rfl rfl <| x_asg (ss rfl rfl) <| seqN [(0, .d ((cLs (cXEdit (cLs cI rfl)) rfl).enc v0)), (3, .d ((cLs (cXEdit (cLs cI rfl)) rfl).enc s559)), (5, .box ((cXEdit (cLs cI rfl)).enc x561)), (6, .d (cB.enc false)), (9, .d ((cLs (cXEdit (cLs cI rfl)) rfl).enc v0)), (10, .d (cI.enc (v0.length : Int))), (11, .d (cI.enc (k560 : Int))), (15, .d ((cLs (cXEdit (cLs cI rfl)) rfl).enc v0)), (16, .d (cI.enc (v0.length : Int))), (17, .d (cI.enc (k1069 : Int)))] (by kernel_rfl) <|
    xbb <| kpN [(0, .d ((cLs (cXEdit (cLs cI rfl)) rfl).enc v0)), (3, .d ((cLs (cXEdit (cLs cI rfl)) rfl).enc s559)), (5, .box ((cXEdit (cLs cI rfl)).enc x561)), (6, .d (cB.enc false)), (9, .d ((cLs (cXEdit (cLs cI rfl)) rfl).enc v0)), (10, .d (cI.enc (v0.length : Int))), (11, .d (cI.enc (k560 : Int))), (15, .d ((cLs (cXEdit (cLs cI rfl)) rfl).enc v0)), (16, .d (cI.enc (v0.length : Int))), (17, .d (cI.enc (k1069 : Int)))] (by kernel_rfl) <| xn <| reg_s <| st rfl <| b_inc rfl rfl l1067 hk1071 <| st rfl <| mvd rfl rfl <| seqN [(0, .d ((cLs (cXEdit (cLs cI rfl)) rfl).enc v0)), (3, .d ((cLs (cXEdit (cLs cI rfl)) rfl).enc s559)), (5, .box ((cXEdit (cLs cI rfl)).enc x561)), (6, .d (cB.enc false)), (9, .d ((cLs (cXEdit (cLs cI rfl)) rfl).enc v0)), (10, .d (cI.enc (v0.length : Int))), (11, .d (cI.enc (k560 : Int))), (15, .d ((cLs (cXEdit (cLs cI rfl)) rfl).enc v0)), (16, .d (cI.enc (v0.length : Int))), (17, .d (cI.enc ((k1069 + 1 : Nat) : Int)))] (by kernel_rfl) <|
    xn <| hn1096 false h))))

def rs_spec_WithoutContained (r : ((List XEdit) × Bool)) : List D := [(cLs (cXEdit (cLs cI rfl)) rfl).enc r.1, cB.enc r.2]
def m46 : MC := .seq (.reg [⟨some 4, .asg (.c (.slice false [])), none⟩,
    ⟨some 5, .asg (.c (.bool false)), none⟩] [0, 1])
  (.seq (.kp [1] (.seq (.reg [⟨some 6, .mv (.t 0), none⟩,
    ⟨some 7, .mv (.t 1), none⟩,
    ⟨some 8, .call 96 [(.t 6), (.t 7)], none⟩,
    ⟨some 9, .nt (.t 8), none⟩] [1, 9])
  (.cond (.t 9) (.seq (.reg [⟨some 4, .asg (.c (.slice false [])), none⟩,
    ⟨some 5, .asg (.c (.bool false)), none⟩] [4, 5])
  (.ret)) (.skip))))
  (.seq (.reg [⟨some 10, .mv (.t 1), none⟩,
    ⟨some 11, .call 105 [(.t 10)], none⟩,
    ⟨some 4, .asg (.t 11), none⟩,
    ⟨some 5, .asg (.c (.bool true)), none⟩] [4, 5])
  (.ret)))
theorem con_spec_WithoutContained {v0 : (List XVariable)} {v1 : (List XEdit)} {r : ((List XEdit) × Bool)} (h : sh_spec_WithoutContained v0 v1 = some r) : Con Try.prog 46 [(cLs (cXVariable cS cI) rfl).enc v0, (cLs (cXEdit (cLs cI rfl)) rfl).enc v1] [] (rs_spec_WithoutContained r) := by
  delta sh_spec_WithoutContained at h
  refine top (out := none) (f := Try.f46) (m := m46) (rs := [.t 4, .t 5]) (by kernel_rfl) rfl (by kernel_rfl) (by kernel_rfl) (by kernel_rfl) (by kernel_rfl) (by kernel_rfl) ?_
  exact
   ini [(0, .d ((cLs (cXVariable cS cI) rfl).enc v0)), (1, .d ((cLs (cXEdit (cLs cI rfl)) rfl).enc v1))] rfl <| wpC_seq <| reg_s <| x_asg (sc (cLs (cXEdit (cLs cI rfl)) rfl) ([] : List XEdit) rfl) <| x_asg (sc cB false rfl) <| seqN [(0, .d ((cLs (cXVariable cS cI) rfl).enc v0)), (1, .d ((cLs (cXEdit (cLs cI rfl)) rfl).enc v1))] (by kernel_rfl) <|
    xn <| wpC_seq <| wpC_kp <| wpC_seq <| reg_s <| st rfl <| mvd rfl rfl <| st rfl <| mvd rfl rfl <| bnd h fun x8 e9 h => st rfl <| o_call (a1 (c := (cLs (cXVariable cS cI) rfl)) (tLs (tXVariable tS tK)) rfl (a1 (c := (cLs (cXEdit (cLs cI rfl)) rfl)) (tLs (tXEdit (tLs tK))) rfl a0)) (con_spec_eSmall e9) (.inl (so1 sB so0)) <| st rfl <| o_nt rfl <| seqN [(1, .d ((cLs (cXEdit (cLs cI rfl)) rfl).enc v1)), (9, .d (cB.enc (!x8)))] (by kernel_rfl) <|
    xn <| cnd rfl h (fun b10 h => wpC_seq <| reg_s <| x_asg (sc (cLs (cXEdit (cLs cI rfl)) rfl) ([] : List XEdit) rfl) <| x_asg (sc cB false rfl) <| seqN [(4, .d ((cLs (cXEdit (cLs cI rfl)) rfl).enc ([] : List XEdit))), (5, .d (cB.enc false))] (by kernel_rfl) <|
    xn <| wpC_ret <| rt <| rt <| re <| fin h (r1 (ss rfl rfl) <| r1 (ss rfl rfl) <| r0) rfl)
    (fun b10 h => wpC_skip <| kpN [(1, .d ((cLs (cXEdit (cLs cI rfl)) rfl).enc v1))] (by kernel_rfl) <| xn <| wpC_seq <| reg_s <| st rfl <| mvd rfl rfl <| bnd h fun x13 e14 h => st rfl <| o_call (a1 (c := (cLs (cXEdit (cLs cI rfl)) rfl)) (tLs (tXEdit (tLs tK))) rfl a0) (con_spec_eWithout e14) (.inr (hr1 rfl rfl hr0)) <| x_asg (ss rfl rfl) <| x_asg (sc cB true rfl) <| seqN [(4, .d ((cLs (cXEdit (cLs cI rfl)) rfl).enc x13)), (5, .d (cB.enc true))] (by kernel_rfl) <|
    xn <| wpC_ret <| re <| fin h (r1 (ss rfl rfl) <| r1 (ss rfl rfl) <| r0) rfl)

def rs_impl_compareEdits (r : Int) : List D := [cI.enc r]
def m106 : MC := .seq (.reg [⟨some 2, .box (.t 0), none⟩,
    ⟨some 3, .box (.t 1), none⟩,
    ⟨some 4, .asg (.c (.int .i64 0)), none⟩] [2, 3])
  (.seq (.reg [⟨some 5, .fa 2 0 0, none⟩,
    ⟨some 6, .ld 5 1 false, none⟩,
    ⟨some 7, .fa 3 0 0, none⟩,
    ⟨some 8, .ld 7 1 false, none⟩,
    ⟨some 9, .call 135 [(.t 6), (.t 8)], none⟩,
    ⟨some 4, .asg (.t 9), none⟩] [4])
  (.ret))
theorem con_impl_compareEdits {v0 : XEdit} {v1 : XEdit} {r : Int} (h : sh_impl_compareEdits v0 v1 = some r) : Con Try.prog 106 [(cXEdit (cLs cI rfl)).enc v0, (cXEdit (cLs cI rfl)).enc v1] [] (rs_impl_compareEdits r) := by
  delta sh_impl_compareEdits at h
  refine top (out := none) (f := Try.f106) (m := m106) (rs := [.t 4]) (by kernel_rfl) rfl (by kernel_rfl) (by kernel_rfl) (by kernel_rfl) (by kernel_rfl) (by kernel_rfl) ?_
  exact
   ini [(0, .d ((cXEdit (cLs cI rfl)).enc v0)), (1, .d ((cXEdit (cLs cI rfl)).enc v1))] rfl <| wpC_seq <| reg_s <| x_box (ss rfl rfl) <| x_box (ss rfl rfl) <| x_asg (sc cI (0 : Int) rfl) <| seqN [(2, .box ((cXEdit (cLs cI rfl)).enc v0)), (3, .box ((cXEdit (cLs cI rfl)).enc v1))] (by kernel_rfl) <|
    xn <| wpC_seq <| reg_s <| st rfl <| fab rfl rfl rfl rfl <| st rfl <| lda rfl rfl rfl rfl rfl rfl <| st rfl <| fab rfl rfl rfl rfl <| st rfl <| lda rfl rfl rfl rfl rfl rfl <| bnd h fun x3 e4 h => st rfl <| o_call (a1 (c := (cLs cI rfl)) (tLs tK) rfl (a1 (c := (cLs cI rfl)) (tLs tK) rfl a0)) (con_slices_Compare_int e4) (.inl (so1 sK so0)) <| x_asg (ss rfl rfl) <| seqN [(4, .d (cI.enc x3))] (by kernel_rfl) <|
    xn <| wpC_ret <| re <| fin h (r1 (ss rfl rfl) <| r0) rfl

def rs_impl_contains (r : Bool) : List D := [cB.enc r]
def m107 : MC := .seq (.reg [⟨some 2, .box (.t 0), none⟩,
    ⟨some 3, .box (.t 1), none⟩,
    ⟨some 4, .asg (.c (.bool false)), none⟩] [2, 3])
  (.seq (.kp [] (.seq (.reg [⟨some 7, .fa 3 0 0, none⟩,
    ⟨some 8, .ld 7 1 false, none⟩,
    ⟨some 9, .len false (.t 8), none⟩,
    ⟨some 10, .mv (.c (.int .i64 0)), none⟩] [2, 3, 7, 8, 9, 10])
  (.blk 0 (.loop (.seq (.reg [⟨some 11, .bin .lss (.t 10) (.t 9), none⟩] [2, 3, 7, 8, 9, 10, 11])
  (.seq (.kp [2, 3, 7, 8, 9, 10] (.cond (.t 11) (.skip) (.exit 0)))
  (.seq (.kp [2, 3, 7, 8, 9, 10] (.blk 1 (.seq (.reg [⟨some 12, .mv (.t 10), none⟩,
    ⟨some 13, .ia 8 (.t 10) 1, none⟩,
    ⟨some 14, .ld 13 1 false, none⟩,
    ⟨some 5, .asg (.t 12), none⟩,
    ⟨some 6, .asg (.t 14), none⟩] [2, 3, 5, 6, 7, 8, 9, 10])
  (.seq (.reg [⟨some 15, .mv (.t 6), none⟩,
    ⟨some 16, .fa 2 0 0, none⟩,
    ⟨some 17, .ld 16 1 false, none⟩,
    ⟨some 18, .mv (.t 5), none⟩,
    ⟨some 19, .ia 17 (.t 18) 1, none⟩,
    ⟨some 20, .ld 19 1 false, none⟩,
    ⟨some 21, .bin .andNot (.t 15) (.t 20), none⟩,
    ⟨some 22, .bin .neq (.t 21) (.c (.int .i64 0)), none⟩] [2, 3, 7, 8, 9, 10, 22])
  (.cond (.t 22) (.seq (.reg [⟨some 4, .asg (.c (.bool false)), none⟩] [4])
  (.ret)) (.skip))))))
  (.reg [⟨some 23, .bin .add (.t 10) (.c (.int .i64 1)), none⟩,
    ⟨some 10, .mv (.t 23), none⟩] [2, 3, 7, 8, 9, 10]))))))))
  (.seq (.reg [⟨some 4, .asg (.c (.bool true)), none⟩] [4])
  (.ret)))
theorem con_impl_contains {v0 : XEdit} {v1 : XEdit} {r : Bool} (h : sh_impl_contains v0 v1 = some r) : Con Try.prog 107 [(cXEdit (cLs cI rfl)).enc v0, (cXEdit (cLs cI rfl)).enc v1] [] (rs_impl_contains r) := by
  delta sh_impl_contains at h
  refine top (out := none) (f := Try.f107) (m := m107) (rs := [.t 4]) (by kernel_rfl) rfl (by kernel_rfl) (by kernel_rfl) (by kernel_rfl) (by kernel_rfl) (by kernel_rfl) ?_
  exact
   ini [(0, .d ((cXEdit (cLs cI rfl)).enc v0)), (1, .d ((cXEdit (cLs cI rfl)).enc v1))] rfl <| wpC_seq <| reg_s <| x_box (ss rfl rfl) <| x_box (ss rfl rfl) <| x_asg (sc cB false rfl) <| seqN [(2, .box ((cXEdit (cLs cI rfl)).enc v0)), (3, .box ((cXEdit (cLs cI rfl)).enc v1))] (by kernel_rfl) <|
    xn <| wpC_seq <| wpC_kp <| wpC_seq <| reg_s <| st rfl <| fab rfl rfl rfl rfl <| st rfl <| lda rfl rfl rfl rfl rfl rfl <| stw rfl <| lens rfl fun l72 => st rfl <| mvc cI (0 : Int) rfl <| seqN [(2, .box ((cXEdit (cLs cI rfl)).enc v0)), (3, .box ((cXEdit (cLs cI rfl)).enc v1)), (7, .adr 3 [.fld 0]), (8, .d ((cLs cI rfl).enc v1.Sets)), (9, .d (cI.enc (v1.Sets.length : Int))), (10, .d (cI.enc (0 : Int)))] (by kernel_rfl) <|
    xn <| wpC_blk <| lpR (fun (k74 : Nat) (s73 : Unit) => [(2, .box ((cXEdit (cLs cI rfl)).enc v0)), (3, .box ((cXEdit (cLs cI rfl)).enc v1)), (7, .adr 3 [.fld 0]), (8, .d ((cLs cI rfl).enc v1.Sets)), (9, .d (cI.enc (v1.Sets.length : Int))), (10, .d (cI.enc (k74 : Int)))]) () rfl h
    (fun G110 s73 h => wpC_seq <| reg_s <| st rfl <| b_lss (k := .i64) rfl rfl <| seqN [(2, .box ((cXEdit (cLs cI rfl)).enc v0)), (3, .box ((cXEdit (cLs cI rfl)).enc v1)), (7, .adr 3 [.fld 0]), (8, .d ((cLs cI rfl).enc v1.Sets)), (9, .d (cI.enc (v1.Sets.length : Int))), (10, .d (cI.enc (v1.Sets.length : Int))), (11, .d (cB.enc (decide ((v1.Sets.length : Int) < (v1.Sets.length : Int)))))] (by kernel_rfl) <|
    xn <| wpC_seq <| wpC_kp <| cnd0 rfl (dlf _) <| wpC_exit <| xt <| xt <| xt <| xb <| kpN [] (by kernel_rfl) <| xn <| wpC_seq <| reg_s <| x_asg (sc cB true rfl) <| seqN [(4, .d (cB.enc true))] (by kernel_rfl) <|
    xn <| wpC_ret <| re <| fin h (r1 (ss rfl rfl) <| r0) rfl)
    (fun G110 nx108 k74 s73 x75 hk76 hx77 hn109 h => wpC_seq <| reg_s <| st rfl <| b_lss (k := .i64) rfl rfl <| seqN [(2, .box ((cXEdit (cLs cI rfl)).enc v0)), (3, .box ((cXEdit (cLs cI rfl)).enc v1)), (7, .adr 3 [.fld 0]), (8, .d ((cLs cI rfl).enc v1.Sets)), (9, .d (cI.enc (v1.Sets.length : Int))), (10, .d (cI.enc (k74 : Int))), (11, .d (cB.enc (decide ((k74 : Int) < (v1.Sets.length : Int)))))] (by kernel_rfl) <|
    xn <| wpC_seq <| wpC_kp <| cnd1 rfl (dlt hk76) <| wpC_skip <| kpN [(2, .box ((cXEdit (cLs cI rfl)).enc v0)), (3, .box ((cXEdit (cLs cI rfl)).enc v1)), (7, .adr 3 [.fld 0]), (8, .d ((cLs cI rfl).enc v1.Sets)), (9, .d (cI.enc (v1.Sets.length : Int))), (10, .d (cI.enc (k74 : Int)))] (by kernel_rfl) <| xn <| wpC_seq <| wpC_kp <| wpC_blk <| wpC_seq <| reg_s <| st rfl <| mvd rfl rfl <| st rfl <| ias rfl rfl (Int.natCast_nonneg _) hx77 rfl <| st rfl <| ldi rfl rfl rfl rfl <| x_asg (ss rfl rfl) <| x_asg (ss rfl rfl) <| seqN [(2, .box ((cXEdit (cLs cI rfl)).enc v0)), (3, .box ((cXEdit (cLs cI rfl)).enc v1)), (5, .d (cI.enc (k74 : Int))), (6, .d (cI.enc x75)), (7, .adr 3 [.fld 0]), (8, .d ((cLs cI rfl).enc v1.Sets)), (9, .d (cI.enc (v1.Sets.length : Int))), (10, .d (cI.enc (k74 : Int)))] (by kernel_rfl) <|
    xn <| wpC_seq <| reg_s <| st rfl <| mvd rfl rfl <| st rfl <| fab rfl rfl rfl rfl <| st rfl <| lda rfl rfl rfl rfl rfl rfl <| st rfl <| mvd rfl rfl <| getO_k h fun x133 i134 g135 h => st rfl <| ias rfl rfl i134 g135 rfl <| st rfl <| ldi rfl rfl rfl rfl <| ck_k h fun i136 h => ckK_k h fun i137 h => ck_k h fun i138 h => ckK_k h fun i139 h => st rfl <| b_andNot (k := .i64) rfl rfl ⟨i136, i137⟩ ⟨i138, i139⟩ <| st rfl <| b_neq (k := .i64) rfl rfl <| seqN [(2, .box ((cXEdit (cLs cI rfl)).enc v0)), (3, .box ((cXEdit (cLs cI rfl)).enc v1)), (7, .adr 3 [.fld 0]), (8, .d ((cLs cI rfl).enc v1.Sets)), (9, .d (cI.enc (v1.Sets.length : Int))), (10, .d (cI.enc (k74 : Int))), (22, .d (cB.enc (decide ((((x75.toNat &&& x133.toNat) ^^^ x75.toNat : Nat) : Int) ≠ (0 : Int)))))] (by kernel_rfl) <|
    xn <| cnd rfl h (fun b140 h => wpC_seq <| reg_s <| x_asg (sc cB false rfl) <| seqN [(4, .d (cB.enc false))] (by kernel_rfl) <|
    xn <| wpC_ret <| rb <| rt <| rt <| rt <| rb <| rt <| rt <| re <| fin h (r1 (ss rfl rfl) <| r0) rfl)
    (fun b140 h => wpC_skip <| xbb <| kpN [(2, .box ((cXEdit (cLs cI rfl)).enc v0)), (3, .box ((cXEdit (cLs cI rfl)).enc v1)), (7, .adr 3 [.fld 0]), (8, .d ((cLs cI rfl).enc v1.Sets)), (9, .d (cI.enc (v1.Sets.length : Int))), (10, .d (cI.enc (k74 : Int)))] (by kernel_rfl) <| xn <| reg_s <| st rfl <| b_inc rfl rfl l72 hk76 <| st rfl <| mvd rfl rfl <| seqN [(2, .box ((cXEdit (cLs cI rfl)).enc v0)), (3, .box ((cXEdit (cLs cI rfl)).enc v1)), (7, .adr 3 [.fld 0]), (8, .d ((cLs cI rfl).enc v1.Sets)), (9, .d (cI.enc (v1.Sets.length : Int))), (10, .d (cI.enc ((k74 + 1 : Nat) : Int)))] (by kernel_rfl) <|
    xn <| hn109 () h))

def os_slices_SortFunc_impl_Edit_impl_Edit_impl_compareEdits (r : ((List XEdit) × Unit)) : D := (cLo (cXEdit (cLo cI))).enc r.1
def rs_slices_SortFunc_impl_Edit_impl_Edit_impl_compareEdits (r : ((List XEdit) × Unit)) : List D := []
theorem lexI_self : ∀ a : List Int, sh_lexI a a = 0
  | [] => rfl
  | x :: a => by simp [sh_lexI, lexI_self a]
theorem lexI_zero : ∀ {a b : List Int}, sh_lexI a b = 0 → a = b
  | [], [], _ => rfl
  | [], _ :: _, h => by simp [sh_lexI] at h
  | _ :: _, [], h => by simp [sh_lexI] at h
  | x :: a, y :: b, h => by
    simp only [sh_lexI] at h
    by_cases h1 : x < y
    · simp [h1] at h
    · by_cases h2 : y < x
      · simp [h1, h2] at h
      · simp only [h1, h2, if_false] at h
        rw [show x = y by omega, lexI_zero h]
theorem lexI_anti : ∀ a b : List Int, sh_lexI b a = -sh_lexI a b
  | [], [] => rfl
  | [], _ :: _ => rfl
  | _ :: _, [] => rfl
  | x :: a, y :: b => by
    simp only [sh_lexI]
    by_cases h1 : x < y
    · simp [h1, show ¬ y < x by omega]
    · by_cases h2 : y < x
      · simp [h1, h2]
      · simp only [h1, h2, if_false]; exact lexI_anti a b
theorem lexI_trans : ∀ {a b c : List Int}, sh_lexI a b < 0 → sh_lexI b c < 0 → sh_lexI a c < 0
  | [], [], _, h, _ => by simp [sh_lexI] at h
  | [], _ :: _, [], _, h => by simp [sh_lexI] at h
  | [], _ :: _, _ :: _, _, _ => by simp [sh_lexI]
  | _ :: _, [], _, h, _ => by simp [sh_lexI] at h
  | _ :: _, _ :: _, [], _, h => by simp [sh_lexI] at h
  | x :: a, y :: b, z :: c, h1, h2 => by
    simp only [sh_lexI] at h1 h2 ⊢
    by_cases p : x < y
    · by_cases q : y < z
      · simp [show x < z by omega]
      · by_cases q' : z < y
        · simp [q, q'] at h2
        · simp [show x < z by omega]
    · by_cases p' : y < x
      · simp [p, p'] at h1
      · simp only [p, p', if_false] at h1
        have e : x = y := by omega
        subst e
        by_cases q : x < z
        · simp [q]
        · by_cases q' : z < x
          · simp [q, q'] at h2
          · simp only [q, q', if_false] at h2 ⊢
            exact lexI_trans h1 h2
theorem lexI_ntrans {a b c : List Int} (h1 : ¬ sh_lexI a b < 0) (h2 : ¬ sh_lexI b c < 0) : ¬ sh_lexI a c < 0 := by
  intro h3
  have e1 := lexI_anti a b
  by_cases q : sh_lexI a b = 0
  · rw [lexI_zero q] at h3; exact h2 h3
  · exact h2 (lexI_trans (show sh_lexI b a < 0 by omega) h3)
abbrev eE : XEdit → D := (cXEdit (cLo cI)).enc
abbrev eS : XEdit → D := (cXEdit (cLs cI rfl)).enc
theorem eE_imm (x : XEdit) : (eE x).toImm = eS x := (tXEdit (tLo tK)).h x
open Go.Sort in
/-- The comparison, wherever the sort has come to. -/
theorem cmp_lays {v0 : List XEdit} (hcon : ∀ {x y : XEdit} {r : Int}, sh_impl_compareEdits x y = some r → Con Try.prog 106 [eS x, eS y] [] [cI.enc r]) (hc : ∀ x ∈ v0, ∀ y ∈ v0, sh_impl_compareEdits x y = some (sh_lexI x.Sets y.Sets))
    {w : World} {Z : Nat → Prop} {xs : List Value} {f1 F : FP} (hr : RepXs w Z (v0.map eE) xs f1) (hxl : xs.length = v0.length) {blk : Nat} (hZ : ∀ b, Z b → b < w.heap.size ∧ b ≠ blk) (hf : ∀ b, 0 < f1 b → b < w.heap.size ∧ b ≠ blk) [Inhabited (Fin v0.length)] :
    CmpLays Try.prog 106 #[] (fun i : Fin v0.length => [xs[i.1]'(by rw [hxl]; exact i.2)]) 1 (fun i j => sh_lexI v0[i.1].Sets v0[j.1].Sets) blk 0 v0.length w := by
  intro m os dk hdk x y
  generalize hW : sortWorldK (fun i : Fin v0.length => [xs[i.1]'(by rw [hxl]; exact i.2)]) 1 w blk 0 m dk os = W
  have hoth : ∀ b, b < w.heap.size → b ≠ blk → W.heap[b]? = w.heap[b]? := fun b h1 h2 => by rw [← hW]; exact sw_other h1 h2
  have hWs : w.heap.size ≤ W.heap.size := by rw [← hW, sw_size]; omega
  have h1 := hcon (hc _ (List.getElem_mem x.2) _ (List.getElem_mem y.2))
  have one : ∀ i : Fin v0.length, RepV W (fun b => Z b ∨ 0 < f1 b) (eS v0[i.1]) (.agg #[xs[i.1]'(by rw [hxl]; exact i.2)]) (fun _ => 0) := by
    intro i
    obtain ⟨fi, k1, k2⟩ := reps_get (fun d hd => by obtain ⟨z, _, rfl⟩ := List.mem_map.1 hd; rfl) hr i.1 (by simp) (by rw [hxl]; exact i.2)
    have k3 := RepX.toImm (Z' := fun b => Z b ∨ 0 < f1 b) (fun b hb => .inl hb) _ (fun b hb => .inr (by have := k2 b; omega)) k1
    simp only [List.getElem_map] at k3
    rw [eE_imm] at k3
    exact ⟨rfl, RepX.mono (fun b hb => ⟨hb, by rcases hb with hb | hb; exact hoth b (hZ b hb).1 (hZ b hb).2; exact hoth b (hf b hb).1 (hf b hb).2⟩) _ (fun b hb => absurd hb (Nat.lt_irrefl 0)) k3⟩
  have h2 := h1.2 W (fun b => Z b ∨ 0 < f1 b) [.agg #[xs[x.1]'(by rw [hxl]; exact x.2)], .agg #[xs[y.1]'(by rw [hxl]; exact y.2)]] (fun _ => 0)
    ⟨_, _, _, _, rfl, fun _ => rfl, one x, _, _, _, _, rfl, fun _ => rfl, one y, rfl, fun _ => rfl⟩ (fun _ => Nat.zero_le _) (fun b hb => absurd hb (Nat.lt_irrefl 0))
    (fun b hb => ⟨by rcases hb with hb | hb; exact Nat.lt_of_lt_of_le (hZ b hb).1 hWs; exact Nat.lt_of_lt_of_le (hf b hb).1 hWs, rfl⟩)
  rw [Array.append_empty]
  refine h2.mono ?_
  rintro e w' ⟨v, Z', G, H, rfl, hret⟩
  have hres : RepV w' Z' (cI.enc _) v G := hret.res
  obtain ⟨rfl, _⟩ := RepV.int hres
  refine ⟨rfl, w'.drawn - W.drawn, w'.heap.extract W.heap.size w'.heap.size, ?_⟩
  have hfr := hret.fr
  have hd := hfr.drw
  have hheap : w'.heap = W.heap ++ w'.heap.extract W.heap.size w'.heap.size := by
    apply Array.ext_getElem?
    intro k
    by_cases hk : k < W.heap.size
    · rw [Array.getElem?_append_left hk]
      exact hfr.block k hk rfl
    · rw [Array.getElem?_append_right (by omega), Array.getElem?_extract]
      by_cases hk2 : k < w'.heap.size
      · rw [if_pos (by omega)]; congr 1; omega
      · rw [if_neg (by omega), Array.getElem?_eq_none (by omega)]
  cases w' with
  | mk h1 t1 d1 o1 u1 =>
    have e1 := hfr.os; have e2 := hfr.tape; have e3 := hfr.output
    simp only at e1 e2 e3 hheap hd
    simp only [Go.Sort.grow, World.drewN]
    rw [← hheap, ← e1, ← e2, ← e3]
    congr 1
    omega

open Go.Sort in
theorem con_sort (hcon : ∀ {x y : XEdit} {r : Int}, sh_impl_compareEdits x y = some r → Con Try.prog 106 [eS x, eS y] [] [cI.enc r]) {v0 : List XEdit} (hlen : v0.length ≤ 1048576) (hnd : (v0.map (·.Sets)).Nodup)
    (hc : ∀ x ∈ v0, ∀ y ∈ v0, sh_impl_compareEdits x y = some (sh_lexI x.Sets y.Sets)) :
    Con Try.prog 108 [(cLo (cXEdit (cLo cI))).enc v0, .fn 106 []] [(0, (cLo (cXEdit (cLo cI))).enc (v0.mergeSort fun x y => !decide (sh_lexI y.Sets x.Sets < 0)))] [] := by
  refine ⟨⟨Try.f108, _, Try.func108, rfl, by kernel_rfl⟩, ?_⟩
  intro w Z vs F hrep hF1 hFs hZ
  obtain ⟨v1, vs2, g1, g2, rfl, eF, r1, v2, vs3, g3, g4, rfl, eg2, r2, rfl, eg4⟩ := hrep
  have r1' := r1
  obtain ⟨k1, k2⟩ := r1
  obtain ⟨m1, m2⟩ := r2
  simp only [RepX] at m2
  obtain ⟨cp, hcp, _, hcx⟩ := m2
  simp only [RepXs] at hcx
  obtain ⟨hcp0, hg3⟩ := hcx
  have hcp1 : cp = #[] := by apply Array.ext'; simpa using hcp0
  subst hcp1
  obtain rfl := cells_single m1 hcp
  have hFg : ∀ b, F b = g1 b := fun b => by have := eF b; have := eg2 b; have := hg3 b; have := eg4 b; omega
  have k2 : RepX w Z (.slice true (v0.map eE)) v1.cells.toList g1 := k2
  simp only [RepX] at k2
  rcases k2 with ⟨hn, hg0, a, cap, hcs, hcm, _, hcap0⟩ | ⟨hne, g, off, cap, xs, sz, f1, hcs, hcap, hle, hxl, hsz, hxs, ho⟩
  · have hv0 : v0 = [] := by simpa using hn
    subst hv0
    obtain rfl := cells_single k1 hcs
    have h0 := AnyF.slices_SortFunc_none Try.sortE a cap (.func (.func 106) #[] #[]) w
    refine h0.mono ?_
    rintro e w' ⟨rfl, rfl⟩
    simp only [List.mergeSort_nil]
    exact ⟨_, Z, fun _ => 0, g1, rfl, ⟨fun _ => rfl, ⟨_, g1, fun _ => 0, rfl, fun _ => rfl, r1', fun _ => rfl⟩, fun b => by have := hg0 b; omega, fun b hb => by have := hg0 b; omega, fun _ h => h, fun _ h => .inl h, fun b _ => by have := hg0 b; omega, Fr.refl _ _⟩⟩
  · obtain rfl := cells_single k1 hcs
    rcases ho with ⟨ho, _⟩ | ⟨_, rfl, hfp, cur, e, hblk, hcur, htk⟩
    · cases ho
    · have hv0 : v0 ≠ [] := by intro h; apply hne; rw [h]; rfl
      have hn0 : 0 < v0.length := List.length_pos_iff.2 hv0
      have hl0 : (v0.map eE).length = v0.length := by simp
      have hs1 : sz = 1 := by
        obtain ⟨x, l, rfl⟩ := List.exists_cons_of_ne_nil hv0
        exact (hsz (eE x) (List.mem_map.2 ⟨x, by simp, rfl⟩)).symm
      subst hs1
      rw [hl0] at hxl hle htk hcs
      rw [Nat.mul_one] at hxl htk
      letI : Inhabited (Fin v0.length) := ⟨⟨0, hn0⟩⟩
      have hFgb : F g = 1 := by have := hFg g; have := hfp g; have := hF1 g; simp at *; omega
      have hf1g : ∀ b, 0 < f1 b → b < w.heap.size ∧ b ≠ g := fun b hb => by
        have e1 := hFg b; have e2 := hfp b; have e3 := hF1 b
        refine ⟨hFs b (by omega), fun e => ?_⟩
        subst e; simp at e2; omega
      have hZg : ∀ b, Z b → b < w.heap.size ∧ b ≠ g := fun b hb => ⟨(hZ b hb).1, fun e => by subst e; have := (hZ b hb).2; omega⟩
      have hlay := cmp_lays hcon hc (F := F) hxs hxl hZg hf1g
      let d : Array (Fin v0.length) := Array.ofFn id
      have hds : d.size = v0.length := by simp [d]
      have hcurx : ∀ (i : Nat) (h : i < v0.length), cur[i]? = some (xs[i]'(by rw [hxl]; exact h)) := fun i h => by
        have h2 : (cur.toList.take v0.length)[i]? = xs[i]? := by rw [htk]
        rw [List.getElem?_take_of_lt h, Array.getElem?_toList] at h2
        rw [h2]
        exact List.getElem?_eq_getElem _
      have hHolds : HoldsK (fun i : Fin v0.length => [xs[i.1]'(by rw [hxl]; exact i.2)]) 1 w g 0 d := by
        intro j hj
        rw [size_flatK, hds, Nat.mul_one] at hj
        have hf : (flatK (fun i : Fin v0.length => [xs[i.1]'(by rw [hxl]; exact i.2)]) 1 d)[j]! = xs[j]'(by rw [hxl]; exact hj) := by
          rw [get_flatK _ _ _ _ (by rw [hds]; omega)]
          have hdj : d[j / 1]! = ⟨j, hj⟩ := by rw [Nat.div_one, getElem!_pos d j (by omega)]; simp [d]
          rw [hdj, Nat.mod_one]; rfl
        rw [hf]
        constructor
        · simp only [World.cell?, hblk, Nat.zero_add]
          simpa using hcurx j hj
        · simp [World.frozen?, hblk]
      have hswo : SWO (ltOf fun (i j : Fin v0.length) => sh_lexI v0[i.1].Sets v0[j.1].Sets) := {
        irrefl := fun x => by simp [ltOf, lexI_self]
        trans := fun x y z h1 h2 => by simp only [ltOf, decide_eq_true_eq] at h1 h2 ⊢; exact lexI_trans h1 h2
        ntrans := fun x y z h1 h2 => by simp only [ltOf, decide_eq_false_iff_not] at h1 h2 ⊢; exact lexI_ntrans h1 h2 }
      have hk := AnyQ.slices_SortFunc_total Try.sortE 1 (agg_flat (n := 1) (by kernel_rfl)) (size_info (n := 1) (by kernel_rfl)) (fun i : Fin v0.length => [xs[i.1]'(by rw [hxl]; exact i.2)]) (fun _ => rfl)
        (fun x v hv => by
          simp only [List.mem_cons, List.not_mem_nil, or_false] at hv
          subst hv
          obtain ⟨fi, k3, _⟩ := reps_get (fun d hd => by obtain ⟨z, _, rfl⟩ := List.mem_map.1 hd; rfl) hxs x.1 (by simp) (by rw [hxl]; exact x.2)
          exact RepX.oneCell _ k3 _ (by simp))
        (fun i j => sh_lexI v0[i.1].Sets v0[j.1].Sets) hswo 106 #[] g 0 cap d w (enters_of Try.func106 (by kernel_rfl) rfl) (by rw [hds]; exact hlay) hHolds (Array.getElem?_eq_some_iff.1 hblk).1 (by rw [hds]; omega)
        (fun x y h1 h2 => by
          simp only [ltOf, decide_eq_false_iff_not] at h1 h2
          have h3 := lexI_anti v0[x.1].Sets v0[y.1].Sets
          have h4 := lexI_zero (show sh_lexI v0[x.1].Sets v0[y.1].Sets = 0 by omega)
          have hp := List.pairwise_iff_getElem.1 hnd
          refine Fin.ext ?_
          rcases Nat.lt_trichotomy x.1 y.1 with q | q | q
          · exact absurd (by simpa using h4) (hp x.1 y.1 (by simp) (by simp) q)
          · exact q
          · exact absurd (by simpa using h4.symm) (hp y.1 x.1 (by simp) (by simp) q))
      rw [hds] at hk
      rw [hl0]
      refine hk.mono ?_
      rintro e w' ⟨rfl, n, os, rfl⟩
      have hdl : d.toList = List.finRange v0.length := by
        apply List.ext_getElem
        · simp [d]
        · intro i h1 h2; simp [d]
      rw [hdl]
      generalize hL : (List.finRange v0.length).mergeSort (fun x y => !(ltOf fun (i j : Fin v0.length) => sh_lexI v0[i.1].Sets v0[j.1].Sets) y x) = L
      have hperm : L.Perm (List.finRange v0.length) := by rw [← hL]; exact List.mergeSort_perm _ _
      have hLl : L.length = v0.length := by have := hperm.length_eq; simpa using this
      have hdata : L.map (fun i => (v0[i.1]'i.2)) = v0.mergeSort fun x y => !decide (sh_lexI y.Sets x.Sets < 0) := by
        rw [← hL]
        refine (List.map_mergeSort (r := fun x y => !(ltOf fun (i j : Fin v0.length) => sh_lexI v0[i.1].Sets v0[j.1].Sets) y x) (f := fun (i : Fin v0.length) => (v0[i.1]'i.2)) (s := fun x y => !decide (sh_lexI y.Sets x.Sets < 0)) (fun a _ b _ => rfl)).trans ?_
        congr 1
        apply List.ext_getElem
        · simp
        · intro i h1 h2; simp
      rw [← hdata]
      have hw : w.heap.size ≤ (sortWorldK (fun i : Fin v0.length => [xs[i.1]'(by rw [hxl]; exact i.2)]) 1 w g 0 n L.toArray os).heap.size := by rw [sw_size]; omega
      have hpairs : RepXs w Z (L.map fun i => eE (v0[i.1]'i.2)) (L.map fun (i : Fin v0.length) => xs[i.1]'(by rw [hxl]; exact i.2)) f1 := by
        have h0 : RepXs w Z (((List.finRange v0.length).map fun i : Fin v0.length => (eE (v0[i.1]'i.2), xs[i.1]'(by rw [hxl]; exact i.2))).map Prod.fst) (((List.finRange v0.length).map fun i : Fin v0.length => (eE (v0[i.1]'i.2), xs[i.1]'(by rw [hxl]; exact i.2))).map Prod.snd) f1 := by
          have e1 : ((List.finRange v0.length).map fun i : Fin v0.length => (eE (v0[i.1]'i.2), xs[i.1]'(by rw [hxl]; exact i.2))).map Prod.fst = v0.map eE := by
            apply List.ext_getElem
            · simp
            · intro i h1 h2; simp
          have e2 : ((List.finRange v0.length).map fun i : Fin v0.length => (eE (v0[i.1]'i.2), xs[i.1]'(by rw [hxl]; exact i.2))).map Prod.snd = xs := by
            apply List.ext_getElem
            · simp [hxl]
            · intro i h1 h2; simp
          rw [e1, e2]; exact hxs
        have h1 := reps_perm (hperm.symm.map fun i : Fin v0.length => (eE (v0[i.1]'i.2), xs[i.1]'(by rw [hxl]; exact i.2))) (fun p hp => by obtain ⟨z, _, rfl⟩ := List.mem_map.1 hp; rfl) h0
        simpa [List.map_map, Function.comp_def] using h1
      refine ⟨_, Z, fun _ => 0, g1, rfl, ⟨fun _ => rfl, ⟨_, g1, fun _ => 0, rfl, fun _ => rfl, ⟨rfl, ?_⟩, fun _ => rfl⟩, fun b => by have := hFg b; have := hF1 b; omega, fun b hb => ?_, fun _ h => h, fun _ h => .inl h, fun b hb => by have := (hZ b hb).2; have := hFg b; omega, ?_⟩⟩
      · show RepX _ _ (.slice true ((L.map fun i => (v0[i.1]'i.2)).map eE)) _ _
        simp only [RepX]
        right
        refine ⟨by simp; intro h; rw [h] at hLl; simp at hLl; omega, g, 0, cap, L.map (fun (i : Fin v0.length) => xs[i.1]'(by rw [hxl]; exact i.2)), 1, f1, ?_, hcap, by simp only [List.length_map, hLl]; exact hle, by simp, fun x hx => ?_, ?_, .inr ⟨trivial, rfl, hfp, _, e, sw_blk hblk, ?_, ?_⟩⟩
        · simp only [List.length_map, hLl]; rfl
        · obtain ⟨z, _, rfl⟩ := List.mem_map.1 hx; rfl
        · rw [List.map_map]
          exact RepXs.mono (fun b hb => ⟨hb, sw_other (hZg b hb).1 (hZg b hb).2⟩) _ (fun b hb => sw_other (hf1g b hb).1 (hf1g b hb).2) hpairs
        · simp only [putCells, Array.size_mapIdx]; exact hcur
        · apply List.ext_getElem?
          intro i
          simp only [List.length_map, hLl, Nat.mul_one]
          by_cases hi : i < v0.length
          · rw [List.getElem?_take_of_lt hi, Array.getElem?_toList]
            have hci : i < cur.size := by omega
            simp only [putCells, Array.getElem?_mapIdx, size_flatK, List.size_toArray, hLl, Nat.mul_one, Nat.zero_add, Nat.sub_zero]
            rw [Array.getElem?_eq_getElem hci, Option.map_some, if_pos ⟨Nat.zero_le _, hi⟩, get_flatK _ _ _ _ (by simp [hLl]; omega)]
            have hLi : L.toArray[i / 1]! = L[i]'(by omega) := by rw [Nat.div_one, getElem!_pos _ i (by simp [hLl]; omega)]; simp
            rw [hLi, Nat.mod_one, List.getElem?_map, List.getElem?_eq_getElem (show i < L.length by omega)]
            rfl
          · rw [List.getElem?_eq_none (by simp; omega), List.getElem?_eq_none (by simp [hLl]; omega)]
      · have := hFg b
        exact ⟨Nat.lt_of_lt_of_le (hFs b (by omega)) hw, .inr (by omega)⟩
      · refine ⟨rfl, rfl, rfl, hw, ?_, fun k hk hF0 => sw_other hk (fun e => by subst e; omega)⟩
        show w.drawn ≤ w.drawn + n
        omega
theorem con_slices_SortFunc_impl_Edit_impl_Edit_impl_compareEdits {v0 : (List XEdit)} {v1 : Unit} {r : ((List XEdit) × Unit)} (h : sh_slices_SortFunc_impl_Edit_impl_Edit_impl_compareEdits v0 v1 = some r) : Con Try.prog 108 [(cLo (cXEdit (cLo cI))).enc v0, (cFn 106 (fun (v : Unit) => []) true (fun _ => im0)).enc v1] (outsOf (some (0, os_slices_SortFunc_impl_Edit_impl_Edit_impl_compareEdits r))) (rs_slices_SortFunc_impl_Edit_impl_Edit_impl_compareEdits r) := by
  unfold sh_slices_SortFunc_impl_Edit_impl_Edit_impl_compareEdits at h
  split at h
  · rename_i hb
    cases h
    exact con_sort (fun h => con_impl_compareEdits h) hb.1 hb.2.1 hb.2.2
  · cases h

end AS.W
