/- The program computes the plain functions. No condition. -/
import Derived.Test.YtliinmppiocmcaaQEditTextS
import Derived.Test.YtliinmppiocmcaaProg
import Derived.Test.YtliinmppiocmcaaQEditTextX
import Derived.Test.YtliinmppiocmcaaQEditTextL0
set_option maxRecDepth 100000
set_option linter.unusedVariables false
set_option linter.unusedSimpArgs false
namespace AS.W
open Go Go.Proofs
def rs_impl_involvedIn (r : (List Int)) : List D := [(cLo cI).enc r]
def m20 : MC := .seq (.reg [⟨some 3, .box (.t 1), none⟩,
    ⟨some 4, .asg (.c (.slice true [])), none⟩] [0, 3])
  (.seq (.reg [⟨some 5, .asg (.c (.slice true [])), none⟩] [0, 3, 5])
  (.seq (.kp [5] (.seq (.reg [⟨some 8, .fa 3 0 0, none⟩,
    ⟨some 9, .ld 8 1 false, none⟩,
    ⟨some 10, .len false (.t 9), none⟩,
    ⟨some 11, .mv (.c (.int .i64 0)), none⟩] [0, 3, 5, 8, 9, 10, 11])
  (.blk 0 (.loop (.seq (.reg [⟨some 12, .bin .lss (.t 11) (.t 10), none⟩] [0, 3, 5, 8, 9, 10, 11, 12])
  (.seq (.kp [0, 3, 5, 8, 9, 10, 11] (.cond (.t 12) (.skip) (.exit 0)))
  (.seq (.kp [0, 3, 5, 8, 9, 10, 11] (.blk 1 (.seq (.reg [⟨some 13, .mv (.t 11), none⟩,
    ⟨some 14, .ia 9 (.t 11) 1, none⟩,
    ⟨some 15, .ld 14 1 false, none⟩,
    ⟨some 6, .asg (.t 13), none⟩,
    ⟨some 7, .asg (.t 15), none⟩] [0, 3, 5, 6, 7, 8, 9, 10, 11])
  (.seq (.reg [⟨some 16, .mv (.t 7), none⟩,
    ⟨some 17, .mv (.t 0), none⟩,
    ⟨some 18, .mv (.t 6), none⟩,
    ⟨some 19, .ia 17 (.t 18) 2, none⟩,
    ⟨some 20, .ld 19 2 true, none⟩,
    ⟨some 21, .call 31 [(.t 20)], none⟩,
    ⟨some 22, .bin .neq (.t 16) (.t 21), none⟩] [0, 3, 5, 6, 8, 9, 10, 11, 22])
  (.cond (.t 22) (.reg [⟨some 23, .mv (.t 5), none⟩,
    ⟨some 24, .mv (.t 6), none⟩,
    ⟨some 25, .bsl [(.t 24)] 1, none⟩,
    ⟨some 26, .app (.t 23) (.t 25) 1, none⟩,
    ⟨some 5, .asg (.t 26), none⟩] [0, 3, 5, 8, 9, 10, 11]) (.skip))))))
  (.reg [⟨some 27, .bin .add (.t 11) (.c (.int .i64 1)), none⟩,
    ⟨some 11, .mv (.t 27), none⟩] [0, 3, 5, 8, 9, 10, 11]))))))))
  (.seq (.reg [⟨some 28, .mv (.t 5), none⟩,
    ⟨some 4, .asg (.t 28), none⟩] [4])
  (.ret))))
theorem con_impl_involvedIn {v0 : (List XVariable)} {v1 : XEdit} {r : (List Int)} (h : sh_impl_involvedIn v0 v1 = some r) : Con Try.prog 20 [(cLs (cXVariable cS cI) rfl).enc v0, (cXEdit (cLs cI rfl)).enc v1] [] (rs_impl_involvedIn r) := by
  delta sh_impl_involvedIn at h
  refine top (out := none) (f := Try.f20) (m := m20) (rs := [.t 4]) (by kernel_rfl) rfl (by kernel_rfl) (by kernel_rfl) (by kernel_rfl) (by kernel_rfl) (by kernel_rfl) ?_
  exact
   ini [(0, .d ((cLs (cXVariable cS cI) rfl).enc v0)), (1, .d ((cXEdit (cLs cI rfl)).enc v1))] rfl <| wpC_seq <| reg_s <| x_box (ss rfl rfl) <| x_asg (sc (cLo cI) ([] : List Int) rfl) <| seqN [(0, .d ((cLs (cXVariable cS cI) rfl).enc v0)), (3, .box ((cXEdit (cLs cI rfl)).enc v1))] (by kernel_rfl) <|
    xn <| wpC_seq <| reg_s <| x_asg (sc (cLo cI) ([] : List Int) rfl) <| seqN [(0, .d ((cLs (cXVariable cS cI) rfl).enc v0)), (3, .box ((cXEdit (cLs cI rfl)).enc v1)), (5, .d ((cLo cI).enc ([] : List Int)))] (by kernel_rfl) <|
    xn <| wpC_seq <| wpC_kp <| wpC_seq <| reg_s <| st rfl <| fab rfl rfl rfl rfl <| st rfl <| lda rfl rfl rfl rfl rfl rfl <| stw rfl <| lens rfl fun l84 => st rfl <| mvc cI (0 : Int) rfl <| seqN [(0, .d ((cLs (cXVariable cS cI) rfl).enc v0)), (3, .box ((cXEdit (cLs cI rfl)).enc v1)), (5, .d ((cLo cI).enc ([] : List Int))), (8, .adr 3 [.fld 0]), (9, .d ((cLs cI rfl).enc v1.Sets)), (10, .d (cI.enc (v1.Sets.length : Int))), (11, .d (cI.enc (0 : Int)))] (by kernel_rfl) <|
    xn <| wpC_blk <| lpR (fun (k86 : Nat) (s85 : (List Int)) => [(0, .d ((cLs (cXVariable cS cI) rfl).enc v0)), (3, .box ((cXEdit (cLs cI rfl)).enc v1)), (5, .d ((cLo cI).enc s85)), (8, .adr 3 [.fld 0]), (9, .d ((cLs cI rfl).enc v1.Sets)), (10, .d (cI.enc (v1.Sets.length : Int))), (11, .d (cI.enc (k86 : Int)))]) ([] : List Int) rfl h
    (fun G140 s85 h => wpC_seq <| reg_s <| st rfl <| b_lss (k := .i64) rfl rfl <| seqN [(0, .d ((cLs (cXVariable cS cI) rfl).enc v0)), (3, .box ((cXEdit (cLs cI rfl)).enc v1)), (5, .d ((cLo cI).enc s85)), (8, .adr 3 [.fld 0]), (9, .d ((cLs cI rfl).enc v1.Sets)), (10, .d (cI.enc (v1.Sets.length : Int))), (11, .d (cI.enc (v1.Sets.length : Int))), (12, .d (cB.enc (decide ((v1.Sets.length : Int) < (v1.Sets.length : Int)))))] (by kernel_rfl) <|
    xn <| wpC_seq <| wpC_kp <| cnd0 rfl (dlf _) <| wpC_exit <| xt <| xt <| xt <| xb <| kpN [(5, .d ((cLo cI).enc s85))] (by kernel_rfl) <| xn <| wpC_seq <| reg_s <| st rfl <| mvo rfl rfl <| x_asg (sr rfl rfl) <| seqN [(4, .d ((cLo cI).enc s85))] (by kernel_rfl) <|
    xn <| wpC_ret <| re <| fin h (r1 (so rfl rfl) <| r0) rfl)
    (fun G140 nx138 k86 s85 x87 hk88 hx89 hn139 h => wpC_seq <| reg_s <| st rfl <| b_lss (k := .i64) rfl rfl <| seqN [(0, .d ((cLs (cXVariable cS cI) rfl).enc v0)), (3, .box ((cXEdit (cLs cI rfl)).enc v1)), (5, .d ((cLo cI).enc s85)), (8, .adr 3 [.fld 0]), (9, .d ((cLs cI rfl).enc v1.Sets)), (10, .d (cI.enc (v1.Sets.length : Int))), (11, .d (cI.enc (k86 : Int))), (12, .d (cB.enc (decide ((k86 : Int) < (v1.Sets.length : Int)))))] (by kernel_rfl) <|
    xn <| wpC_seq <| wpC_kp <| cnd1 rfl (dlt hk88) <| wpC_skip <| kpN [(0, .d ((cLs (cXVariable cS cI) rfl).enc v0)), (3, .box ((cXEdit (cLs cI rfl)).enc v1)), (5, .d ((cLo cI).enc s85)), (8, .adr 3 [.fld 0]), (9, .d ((cLs cI rfl).enc v1.Sets)), (10, .d (cI.enc (v1.Sets.length : Int))), (11, .d (cI.enc (k86 : Int)))] (by kernel_rfl) <| xn <| wpC_seq <| wpC_kp <| wpC_blk <| wpC_seq <| reg_s <| st rfl <| mvd rfl rfl <| st rfl <| ias rfl rfl (Int.natCast_nonneg _) hx89 rfl <| st rfl <| ldi rfl rfl rfl rfl <| x_asg (ss rfl rfl) <| x_asg (ss rfl rfl) <| seqN [(0, .d ((cLs (cXVariable cS cI) rfl).enc v0)), (3, .box ((cXEdit (cLs cI rfl)).enc v1)), (5, .d ((cLo cI).enc s85)), (6, .d (cI.enc (k86 : Int))), (7, .d (cI.enc x87)), (8, .adr 3 [.fld 0]), (9, .d ((cLs cI rfl).enc v1.Sets)), (10, .d (cI.enc (v1.Sets.length : Int))), (11, .d (cI.enc (k86 : Int)))] (by kernel_rfl) <|
    xn <| wpC_seq <| reg_s <| st rfl <| mvd rfl rfl <| st rfl <| mvd rfl rfl <| st rfl <| mvd rfl rfl <| getO_k h fun x158 i159 g160 h => st rfl <| ias rfl rfl i159 g160 rfl <| st rfl <| ldi rfl rfl rfl rfl <| bnd h fun x161 e162 h => st rfl <| o_call (a1 (c := (cXVariable cS cI)) (tXVariable tS tK) rfl a0) (con_impl_fullSet e162) (.inl (so1 sK so0)) <| st rfl <| b_neq (k := .i64) rfl rfl <| seqN [(0, .d ((cLs (cXVariable cS cI) rfl).enc v0)), (3, .box ((cXEdit (cLs cI rfl)).enc v1)), (5, .d ((cLo cI).enc s85)), (6, .d (cI.enc (k86 : Int))), (8, .adr 3 [.fld 0]), (9, .d ((cLs cI rfl).enc v1.Sets)), (10, .d (cI.enc (v1.Sets.length : Int))), (11, .d (cI.enc (k86 : Int))), (22, .d (cB.enc (decide (x87 ≠ x161))))] (by kernel_rfl) <|
    xn <| cnd rfl h (fun b163 h => reg_s <| st rfl <| mvo rfl rfl <| st rfl <| mvd rfl rfl <| x_bsl cI [(k86 : Int)] (t1 (ss rfl rfl) rfl t0) rfl rfl <| lnO_k h fun l164 h => x_app (sr rfl rfl) (to rfl rfl) l164 rfl <| x_asg (so rfl rfl) <| seqN [(0, .d ((cLs (cXVariable cS cI) rfl).enc v0)), (3, .box ((cXEdit (cLs cI rfl)).enc v1)), (5, .d ((cLo cI).enc (s85 ++ [(k86 : Int)]))), (8, .adr 3 [.fld 0]), (9, .d ((cLs cI rfl).enc v1.Sets)), (10, .d (cI.enc (v1.Sets.length : Int))), (11, .d (cI.enc (k86 : Int)))] (by kernel_rfl) <|
    xbb <| kpN [(0, .d ((cLs (cXVariable cS cI) rfl).enc v0)), (3, .box ((cXEdit (cLs cI rfl)).enc v1)), (5, .d ((cLo cI).enc (s85 ++ [(k86 : Int)]))), (8, .adr 3 [.fld 0]), (9, .d ((cLs cI rfl).enc v1.Sets)), (10, .d (cI.enc (v1.Sets.length : Int))), (11, .d (cI.enc (k86 : Int)))] (by kernel_rfl) <| xn <| reg_s <| st rfl <| b_inc rfl rfl l84 hk88 <| st rfl <| mvd rfl rfl <| seqN [(0, .d ((cLs (cXVariable cS cI) rfl).enc v0)), (3, .box ((cXEdit (cLs cI rfl)).enc v1)), (5, .d ((cLo cI).enc (s85 ++ [(k86 : Int)]))), (8, .adr 3 [.fld 0]), (9, .d ((cLs cI rfl).enc v1.Sets)), (10, .d (cI.enc (v1.Sets.length : Int))), (11, .d (cI.enc ((k86 + 1 : Nat) : Int)))] (by kernel_rfl) <|
    xn <| hn139 (s85 ++ [(k86 : Int)]) h)
    (fun b163 h => wpC_skip <| xbb <| kpN [(0, .d ((cLs (cXVariable cS cI) rfl).enc v0)), (3, .box ((cXEdit (cLs cI rfl)).enc v1)), (5, .d ((cLo cI).enc s85)), (8, .adr 3 [.fld 0]), (9, .d ((cLs cI rfl).enc v1.Sets)), (10, .d (cI.enc (v1.Sets.length : Int))), (11, .d (cI.enc (k86 : Int)))] (by kernel_rfl) <| xn <| reg_s <| st rfl <| b_inc rfl rfl l84 hk88 <| st rfl <| mvd rfl rfl <| seqN [(0, .d ((cLs (cXVariable cS cI) rfl).enc v0)), (3, .box ((cXEdit (cLs cI rfl)).enc v1)), (5, .d ((cLo cI).enc s85)), (8, .adr 3 [.fld 0]), (9, .d ((cLs cI rfl).enc v1.Sets)), (10, .d (cI.enc (v1.Sets.length : Int))), (11, .d (cI.enc ((k86 + 1 : Nat) : Int)))] (by kernel_rfl) <|
    xn <| hn139 s85 h))

def rs_strings_Join (r : (List UInt8)) : List D := [cS.enc r]
theorem con_strings_Join {v0 : (List (List UInt8))} {v1 : (List UInt8)} {r : (List UInt8)} (h : sh_strings_Join v0 v1 = some r) : Con Try.prog 22 [(cLs cS rfl).enc v0, cS.enc v1] [] (rs_strings_Join r) := by
  unfold sh_strings_Join at h
  split at h
  · rename_i hb
    cases h
    refine ⟨⟨Try.f22, _, Try.func22, rfl, by kernel_rfl⟩, ?_⟩
    intro w Z vs F hrep h1 h2 h3
    obtain ⟨x, vs2, f1, f2, rfl, e1, r1, y, vs3, f3, f4, rfl, e2, r2, rfl, e4⟩ := hrep
    obtain ⟨rfl, hl1, hz1⟩ := RepV.str r2
    have hN : maxLen = 9223372036854775807 := rfl
    obtain ⟨k1, k2⟩ := r1
    simp only [cLs, RepX] at k2
    rcases k2 with ⟨hn, _, a, cap, hc, _⟩ | ⟨hne, g, off, cap, xs, sz, f5, hc, hcap, hle, hxl, hsz, hxs, ho⟩
    · have hv0 : v0 = [] := by simpa using hn
      subst hv0
      obtain rfl := cells_single k1 hc
      refine (Try.strings_Join_none a cap ⟨v1.toArray⟩ w).mono ?_
      rintro e w' ⟨rfl, rfl⟩
      exact ⟨_, Z, fun _ => 0, fun _ => 0, rfl, ret_below (RepV.mkStr (s := []) (Nat.zero_le _)) (Go.RowKit.Below.refl _ _)⟩
    · obtain rfl := cells_single k1 hc
      rcases ho with ⟨_, hZ, _, _, hcell⟩ | ⟨ho, _⟩
      · have hxs2 := rep_strs hxs
        subst hxs2
        have hm : (v0.map cS.enc).length = (v0.map fun s => (⟨s.toArray⟩ : ByteArray)).length := by simp
        have hd : (v0.map fun s => (⟨s.toArray⟩ : ByteArray)).map (fun b => b.data.toList) = v0 := by simp [List.map_map, Function.comp_def]
        have hj : Go.Lib.join ((v0.map fun s => (⟨s.toArray⟩ : ByteArray)).map (fun b => b.data.toList)) (⟨v1.toArray⟩ : ByteArray).data.toList = v1.intercalate v0 := by rw [hd]; rfl
        have := Try.strings_Join g off cap (v0.map fun s => (⟨s.toArray⟩ : ByteArray)) ⟨v1.toArray⟩ w (fun j x hx => hcell j _ (by
          simp only [List.getElem?_map, Option.map_eq_some_iff] at hx ⊢
          obtain ⟨s, h5, rfl⟩ := hx
          exact ⟨s, h5, rfl⟩)) (h3 g hZ).1 (by simp; omega) (by simpa using hle) (by rw [hj]; omega)
        rw [← hm, hj] at this
        refine this.mono ?_
        rintro e w' ⟨rfl, hbl⟩
        exact ⟨_, Z, fun _ => 0, fun _ => 0, rfl, ret_below (RepV.mkStr (by omega)) hbl⟩
      · cases ho
  · cases h

def rs_impl_setText (r : (List UInt8)) : List D := [cS.enc r]
def m21 : MC := .seq (.reg [⟨some 2, .asg (.c (.str [])), none⟩] [0])
  (.seq (.reg [⟨some 3, .asg (.c (.slice true [])), none⟩] [0, 3])
  (.seq (.kp [3] (.seq (.reg [⟨some 5, .mv (.c (.int .i64 0)), none⟩] [0, 3, 5])
  (.blk 0 (.loop (.seq (.reg [⟨some 6, .bin .lss (.t 5) (.c (.int .i64 8)), none⟩] [0, 3, 5, 6])
  (.seq (.kp [0, 3, 5] (.cond (.t 6) (.skip) (.exit 0)))
  (.seq (.kp [0, 3, 5] (.blk 1 (.seq (.reg [⟨some 7, .mv (.t 5), none⟩,
    ⟨some 4, .asg (.t 7), none⟩] [0, 3, 4, 5])
  (.seq (.reg [⟨some 8, .mv (.t 0), none⟩,
    ⟨some 9, .mv (.t 4), none⟩,
    ⟨some 10, .bin .shr (.t 8) (.t 9), none⟩,
    ⟨some 11, .bin .and (.t 10) (.c (.int .i64 1)), none⟩,
    ⟨some 12, .bin .eql (.t 11) (.c (.int .i64 1)), none⟩] [0, 3, 4, 5, 12])
  (.cond (.t 12) (.reg [⟨some 13, .mv (.t 3), none⟩,
    ⟨some 14, .mv (.t 4), none⟩,
    ⟨some 15, .bin .add (.c (.int .i64 48)) (.t 14), none⟩,
    ⟨some 16, .cvi .i32 (.t 15), none⟩,
    ⟨some 17, .i2s (.t 16), none⟩,
    ⟨some 18, .bsl [(.t 17)] 1, none⟩,
    ⟨some 19, .app (.t 13) (.t 18) 1, none⟩,
    ⟨some 3, .asg (.t 19), none⟩] [0, 3, 5]) (.skip))))))
  (.reg [⟨some 20, .bin .add (.t 5) (.c (.int .i64 1)), none⟩,
    ⟨some 5, .mv (.t 20), none⟩] [0, 3, 5]))))))))
  (.seq (.reg [⟨some 21, .mv (.t 3), none⟩,
    ⟨some 22, .call 22 [(.t 21), (.c (.str [44]))], none⟩,
    ⟨some 2, .asg (.t 22), none⟩] [2])
  (.ret))))
theorem con_impl_setText {v0 : Int} {r : (List UInt8)} (h : sh_impl_setText v0 = some r) : Con Try.prog 21 [cI.enc v0] [] (rs_impl_setText r) := by
  delta sh_impl_setText at h
  refine top (out := none) (f := Try.f21) (m := m21) (rs := [.t 2]) (by kernel_rfl) rfl (by kernel_rfl) (by kernel_rfl) (by kernel_rfl) (by kernel_rfl) (by kernel_rfl) ?_
  exact
   ini [(0, .d (cI.enc v0))] rfl <| wpC_seq <| reg_s <| x_asg (sc cS ([] : List UInt8) rfl) <| seqN [(0, .d (cI.enc v0))] (by kernel_rfl) <|
    xn <| wpC_seq <| reg_s <| x_asg (sc (cLo cS) ([] : List (List UInt8)) rfl) <| seqN [(0, .d (cI.enc v0)), (3, .d ((cLo cS).enc ([] : List (List UInt8))))] (by kernel_rfl) <|
    xn <| wpC_seq <| wpC_kp <| wpC_seq <| reg_s <| st rfl <| mvc cI (0 : Int) rfl <| seqN [(0, .d (cI.enc v0)), (3, .d ((cLo cS).enc ([] : List (List UInt8)))), (5, .d (cI.enc (0 : Int)))] (by kernel_rfl) <|
    xn <| wpC_blk <| lpF (fun (s111 : ((List (List UInt8)) × Int)) => [(0, .d (cI.enc v0)), (3, .d ((cLo cS).enc s111.1)), (5, .d (cI.enc s111.2))]) (([] : List (List UInt8)), (0 : Int)) rfl h
    fun G186 nx184 s111 hn185 h => wpC_seq <| reg_s <| st rfl <| b_lss (k := .i64) rfl rfl <| seqN [(0, .d (cI.enc v0)), (3, .d ((cLo cS).enc s111.1)), (5, .d (cI.enc s111.2)), (6, .d (cB.enc (decide (s111.2 < (8 : Int)))))] (by kernel_rfl) <|
    xn <| wpC_seq <| wpC_kp <| cnd rfl h (fun b188 h => wpC_skip <| kpN [(0, .d (cI.enc v0)), (3, .d ((cLo cS).enc s111.1)), (5, .d (cI.enc s111.2))] (by kernel_rfl) <| xn <| wpC_seq <| wpC_kp <| wpC_blk <| wpC_seq <| reg_s <| st rfl <| mvd rfl rfl <| x_asg (ss rfl rfl) <| seqN [(0, .d (cI.enc v0)), (3, .d ((cLo cS).enc s111.1)), (4, .d (cI.enc s111.2)), (5, .d (cI.enc s111.2))] (by kernel_rfl) <|
    xn <| wpC_seq <| reg_s <| st rfl <| mvd rfl rfl <| st rfl <| mvd rfl rfl <| ck_k h fun i209 h => st rfl <| b_shr (k := .i64) (k' := .i64) rfl rfl i209 rfl <| ck_k h fun i210 h => ckK_k h fun i211 h => ck_k h fun i212 h => ckK_k h fun i213 h => st rfl <| b_and (k := .i64) rfl rfl ⟨i210, i211⟩ ⟨i212, i213⟩ <| st rfl <| b_eql (k := .i64) rfl rfl <| seqN [(0, .d (cI.enc v0)), (3, .d ((cLo cS).enc s111.1)), (4, .d (cI.enc s111.2)), (5, .d (cI.enc s111.2)), (12, .d (cB.enc (decide ((((v0 / 2 ^ (s111.2).toNat).toNat &&& (1 : Int).toNat : Nat) : Int) = (1 : Int)))))] (by kernel_rfl) <|
    xn <| cnd rfl h (fun b214 h => reg_s <| st rfl <| mvo rfl rfl <| st rfl <| mvd rfl rfl <| ckI_k h fun i215 h => st rfl <| b_add (k := .i64) rfl rfl i215 <| ckK_k h fun i216 h => st rfl <| o_cvi (k := .i64) (k' := .i32) rfl i216 <| ck_k h fun i217 h => st rfl <| o_i2s (k := .i32) rfl i217 <| x_bsl cS [[UInt8.ofNat (((48 : Int) + s111.2)).toNat]] (t1 (ss rfl rfl) rfl t0) rfl rfl <| lnO_k h fun l218 h => x_app (sr rfl rfl) (to rfl rfl) l218 rfl <| x_asg (so rfl rfl) <| seqN [(0, .d (cI.enc v0)), (3, .d ((cLo cS).enc (s111.1 ++ [[UInt8.ofNat (((48 : Int) + s111.2)).toNat]]))), (5, .d (cI.enc s111.2))] (by kernel_rfl) <|
    xbb <| kpN [(0, .d (cI.enc v0)), (3, .d ((cLo cS).enc (s111.1 ++ [[UInt8.ofNat (((48 : Int) + s111.2)).toNat]]))), (5, .d (cI.enc s111.2))] (by kernel_rfl) <| xn <| reg_s <| ckI_k h fun i219 h => st rfl <| b_add (k := .i64) rfl rfl i219 <| st rfl <| mvd rfl rfl <| seqN [(0, .d (cI.enc v0)), (3, .d ((cLo cS).enc (s111.1 ++ [[UInt8.ofNat (((48 : Int) + s111.2)).toNat]]))), (5, .d (cI.enc (s111.2 + (1 : Int))))] (by kernel_rfl) <|
    xn <| hn185 ((s111.1 ++ [[UInt8.ofNat (((48 : Int) + s111.2)).toNat]]), (s111.2 + (1 : Int))) h)
    (fun b214 h => wpC_skip <| xbb <| kpN [(0, .d (cI.enc v0)), (3, .d ((cLo cS).enc s111.1)), (5, .d (cI.enc s111.2))] (by kernel_rfl) <| xn <| reg_s <| ckI_k h fun i220 h => st rfl <| b_add (k := .i64) rfl rfl i220 <| st rfl <| mvd rfl rfl <| seqN [(0, .d (cI.enc v0)), (3, .d ((cLo cS).enc s111.1)), (5, .d (cI.enc (s111.2 + (1 : Int))))] (by kernel_rfl) <|
    xn <| hn185 (s111.1, (s111.2 + (1 : Int))) h))
    (fun b188 h => wpC_exit <| xt <| xt <| xt <| xb <| kpN [(3, .d ((cLo cS).enc s111.1))] (by kernel_rfl) <| xn <| wpC_seq <| reg_s <| st rfl <| mvo rfl rfl <| bnd h fun x223 e224 h => st rfl <| o_call (a1 (c := (cLo cS)) (tLo tS) rfl (a1 (c := cS) tS rfl a0)) (con_strings_Join e224) (.inl (so1 sS so0)) <| x_asg (ss rfl rfl) <| seqN [(2, .d (cS.enc x223))] (by kernel_rfl) <|
    xn <| wpC_ret <| re <| fin h (r1 (ss rfl rfl) <| r0) rfl)

def rs_impl_EditText (r : ((List UInt8) × Bool)) : List D := [cS.enc r.1, cB.enc r.2]
def m9 : MC := .seq (.reg [⟨some 3, .box (.t 1), none⟩,
    ⟨some 4, .asg (.c (.str [])), none⟩,
    ⟨some 5, .asg (.c (.bool false)), none⟩] [0, 3])
  (.seq (.kp [0, 3] (.seq (.reg [⟨some 10, .mv (.t 0), none⟩,
    ⟨some 11, .call 18 [(.t 10)], none⟩,
    ⟨some 12, .nt (.t 11), none⟩,
    ⟨some 13, .mv (.t 12), none⟩,
    ⟨some 14, .mv (.t 0), some (13, false)⟩,
    ⟨some 15, .ld 3 1 true, some (13, false)⟩,
    ⟨some 16, .call 19 [(.t 14), (.t 15)], some (13, false)⟩,
    ⟨some 17, .nt (.t 16), some (13, false)⟩,
    ⟨some 18, .pick (.t 13) (.c (.bool true)) (.t 17), none⟩] [0, 3, 18])
  (.cond (.t 18) (.seq (.reg [⟨some 4, .asg (.c (.str [])), none⟩,
    ⟨some 5, .asg (.c (.bool false)), none⟩] [4, 5])
  (.ret)) (.skip))))
  (.seq (.reg [⟨some 19, .mv (.t 0), none⟩,
    ⟨some 20, .ld 3 1 true, none⟩,
    ⟨some 21, .call 20 [(.t 19), (.t 20)], none⟩,
    ⟨some 6, .asg (.t 21), none⟩] [0, 3, 6])
  (.seq (.kp [0, 3, 6] (.seq (.reg [⟨some 22, .mv (.t 6), none⟩,
    ⟨some 23, .len false (.t 22), none⟩,
    ⟨some 24, .bin .eql (.t 23) (.c (.int .i64 0)), none⟩] [0, 3, 6, 24])
  (.cond (.t 24) (.seq (.reg [⟨some 4, .asg (.c (.str [97, 108, 108])), none⟩,
    ⟨some 5, .asg (.c (.bool true)), none⟩] [4, 5])
  (.ret)) (.skip))))
  (.seq (.reg [⟨some 25, .mv (.t 6), none⟩,
    ⟨some 26, .len false (.t 25), none⟩,
    ⟨some 27, .mk (.str []) (.t 26), none⟩,
    ⟨some 7, .asg (.t 27), none⟩] [0, 3, 6, 7])
  (.seq (.kp [7] (.seq (.reg [⟨some 28, .mv (.t 6), none⟩,
    ⟨some 29, .len false (.t 28), none⟩,
    ⟨some 30, .mv (.c (.int .i64 0)), none⟩] [0, 3, 6, 7, 28, 29, 30])
  (.blk 0 (.loop (.seq (.reg [⟨some 31, .bin .lss (.t 30) (.t 29), none⟩] [0, 3, 6, 7, 28, 29, 30, 31])
  (.seq (.kp [0, 3, 6, 7, 28, 29, 30] (.cond (.t 31) (.skip) (.exit 0)))
  (.seq (.kp [0, 3, 6, 7, 28, 29, 30] (.blk 1 (.seq (.reg [⟨some 32, .mv (.t 30), none⟩,
    ⟨some 33, .ia 28 (.t 30) 1, none⟩,
    ⟨some 34, .ld 33 1 false, none⟩,
    ⟨some 8, .asg (.t 32), none⟩,
    ⟨some 9, .asg (.t 34), none⟩] [0, 3, 6, 7, 8, 9, 28, 29, 30])
  (.drw [⟨0, ⟨some 35, .mv (.t 7), none⟩, [36, 37, 38, 39, 40, 41, 42, 43, 44, 45, 46, 47, 48, 49, 50]⟩,
    ⟨1, ⟨some 36, .mv (.t 8), none⟩, [35, 37, 38, 39, 40, 41, 42, 43, 44, 45, 46, 47, 48, 49, 50]⟩,
    ⟨2, ⟨some 37, .mv (.t 0), none⟩, [35, 36, 38, 39, 40, 41, 42, 43, 44, 45, 46, 47, 48, 49, 50]⟩,
    ⟨3, ⟨some 38, .mv (.t 9), none⟩, [35, 36, 37, 39, 40, 41, 42, 43, 44, 45, 46, 47, 48, 49, 50]⟩,
    ⟨4, ⟨some 39, .ia 37 (.t 38) 2, none⟩, [35, 36, 40, 41, 42, 43, 44, 45, 46, 47, 48, 49, 50]⟩,
    ⟨5, ⟨some 40, .fa 39 0 0, none⟩, [35, 36, 41, 42, 43, 44, 45, 46, 47, 48, 49, 50]⟩,
    ⟨6, ⟨some 41, .ld 40 1 false, none⟩, [35, 36, 42, 43, 44, 45, 46, 47, 48, 49, 50]⟩,
    ⟨7, ⟨some 42, .bin .add (.t 41) (.c (.str [61])), none⟩, [35, 36, 43, 44, 45, 46, 47, 48, 49, 50]⟩,
    ⟨8, ⟨some 43, .fa 3 0 0, none⟩, [35, 36, 37, 38, 39, 40, 41, 42, 44, 45, 46, 47, 48, 49, 50]⟩,
    ⟨9, ⟨some 44, .ld 43 1 false, none⟩, [35, 36, 37, 38, 39, 40, 41, 42, 45, 46, 47, 48, 49, 50]⟩,
    ⟨10, ⟨some 45, .mv (.t 9), none⟩, [35, 36, 37, 38, 39, 40, 41, 42, 43, 44, 46, 47, 48, 49, 50]⟩,
    ⟨11, ⟨some 46, .ia 44 (.t 45) 1, none⟩, [35, 36, 37, 38, 39, 40, 41, 42, 47, 48, 49, 50]⟩,
    ⟨12, ⟨some 47, .ld 46 1 false, none⟩, [35, 36, 37, 38, 39, 40, 41, 42, 48, 49, 50]⟩,
    ⟨13, ⟨some 48, .call 21 [(.t 47)], none⟩, [35, 36, 37, 38, 39, 40, 41, 42, 49, 50]⟩,
    ⟨14, ⟨some 49, .bin .add (.t 42) (.t 48), none⟩, [35, 36, 50]⟩,
    ⟨15, ⟨some 50, .ia 35 (.t 36) 1, none⟩, []⟩]
    [(16, ⟨none, .st 50 (.t 49) 1, none⟩)] [0, 3, 6, 7, 28, 29, 30]))))
  (.reg [⟨some 51, .bin .add (.t 30) (.c (.int .i64 1)), none⟩,
    ⟨some 30, .mv (.t 51), none⟩] [0, 3, 6, 7, 28, 29, 30]))))))))
  (.seq (.reg [⟨some 52, .mv (.t 7), none⟩,
    ⟨some 53, .call 22 [(.t 52), (.c (.str [32]))], none⟩,
    ⟨some 4, .asg (.t 53), none⟩,
    ⟨some 5, .asg (.c (.bool true)), none⟩] [4, 5])
  (.ret)))))))
theorem con_impl_EditText {v0 : (List XVariable)} {v1 : XEdit} {r : ((List UInt8) × Bool)} (h : sh_impl_EditText v0 v1 = some r) : Con Try.prog 9 [(cLs (cXVariable cS cI) rfl).enc v0, (cXEdit (cLs cI rfl)).enc v1] [] (rs_impl_EditText r) := by
  delta sh_impl_EditText at h
  refine top (out := none) (f := Try.f9) (m := m9) (rs := [.t 4, .t 5]) (by kernel_rfl) rfl (by kernel_rfl) (by kernel_rfl) (by kernel_rfl) (by kernel_rfl) (by kernel_rfl) ?_
  exact
   ini [(0, .d ((cLs (cXVariable cS cI) rfl).enc v0)), (1, .d ((cXEdit (cLs cI rfl)).enc v1))] rfl <| wpC_seq <| reg_s <| x_box (ss rfl rfl) <| x_asg (sc cS ([] : List UInt8) rfl) <| x_asg (sc cB false rfl) <| seqN [(0, .d ((cLs (cXVariable cS cI) rfl).enc v0)), (3, .box ((cXEdit (cLs cI rfl)).enc v1))] (by kernel_rfl) <|
    xn <| wpC_seq <| wpC_kp <| wpC_seq <| reg_s <| st rfl <| mvd rfl rfl <| bnd h fun x17 e18 h => st rfl <| o_call (a1 (c := (cLs (cXVariable cS cI) rfl)) (tLs (tXVariable tS tK)) rfl a0) (con_impl_IsSchema e18) (.inl (so1 sB so0)) <| st rfl <| o_nt rfl <| st rfl <| mvd rfl rfl <| ite_k h (fun b19 h => gf rfl b19 <| gf rfl b19 <| gf rfl b19 <| gf rfl b19 <| st rfl <| pick1 rfl b19 (cd := cB) (v := true) rfl rfl <| seqN [(0, .d ((cLs (cXVariable cS cI) rfl).enc v0)), (3, .box ((cXEdit (cLs cI rfl)).enc v1)), (18, .d (cB.enc true))] (by kernel_rfl) <|
    xn <| cnd1 rfl rfl <| wpC_seq <| reg_s <| x_asg (sc cS ([] : List UInt8) rfl) <| x_asg (sc cB false rfl) <| seqN [(4, .d (cS.enc ([] : List UInt8))), (5, .d (cB.enc false))] (by kernel_rfl) <|
    xn <| wpC_ret <| rt <| rt <| re <| fin h (r1 (ss rfl rfl) <| r1 (ss rfl rfl) <| r0) rfl)
    (fun b19 h => gt' rfl b19 <| st rfl <| mvd rfl rfl <| gt' rfl b19 <| st rfl <| ldb rfl rfl rfl rfl <| gt' rfl b19 <| bnd h fun x20 e21 h => st rfl <| o_call (a1 (c := (cLs (cXVariable cS cI) rfl)) (tLs (tXVariable tS tK)) rfl (a1 (c := (cXEdit (cLs cI rfl))) (tXEdit (tLs tK)) rfl a0)) (con_impl_isEdit e21) (.inl (so1 sB so0)) <| gt' rfl b19 <| st rfl <| o_nt rfl <| st rfl <| pick0 rfl b19 (cd := cB) (v := (!x20)) rfl rfl <| seqN [(0, .d ((cLs (cXVariable cS cI) rfl).enc v0)), (3, .box ((cXEdit (cLs cI rfl)).enc v1)), (18, .d (cB.enc (!x20)))] (by kernel_rfl) <|
    xn <| cnd rfl h (fun b22 h => wpC_seq <| reg_s <| x_asg (sc cS ([] : List UInt8) rfl) <| x_asg (sc cB false rfl) <| seqN [(4, .d (cS.enc ([] : List UInt8))), (5, .d (cB.enc false))] (by kernel_rfl) <|
    xn <| wpC_ret <| rt <| rt <| re <| fin h (r1 (ss rfl rfl) <| r1 (ss rfl rfl) <| r0) rfl)
    (fun b22 h => wpC_skip <| kpN [(0, .d ((cLs (cXVariable cS cI) rfl).enc v0)), (3, .box ((cXEdit (cLs cI rfl)).enc v1))] (by kernel_rfl) <| xn <| wpC_seq <| reg_s <| st rfl <| mvd rfl rfl <| st rfl <| ldb rfl rfl rfl rfl <| bnd h fun x25 e26 h => st rfl <| o_call (a1 (c := (cLs (cXVariable cS cI) rfl)) (tLs (tXVariable tS tK)) rfl (a1 (c := (cXEdit (cLs cI rfl))) (tXEdit (tLs tK)) rfl a0)) (con_impl_involvedIn e26) (.inl (so1 (sLo sK) so0)) <| x_asg (so rfl rfl) <| seqN [(0, .d ((cLs (cXVariable cS cI) rfl).enc v0)), (3, .box ((cXEdit (cLs cI rfl)).enc v1)), (6, .d ((cLo cI).enc x25))] (by kernel_rfl) <|
    xn <| wpC_seq <| wpC_kp <| wpC_seq <| reg_s <| st rfl <| mvo rfl rfl <| stw rfl <| leno rfl fun l31 => st rfl <| b_eql (k := .i64) rfl rfl <| seqN [(0, .d ((cLs (cXVariable cS cI) rfl).enc v0)), (3, .box ((cXEdit (cLs cI rfl)).enc v1)), (6, .d ((cLo cI).enc x25)), (24, .d (cB.enc (decide ((x25.length : Int) = (0 : Int)))))] (by kernel_rfl) <|
    xn <| cnd rfl h (fun b32 h => wpC_seq <| reg_s <| x_asg (sc cS ([97, 108, 108] : List UInt8) rfl) <| x_asg (sc cB true rfl) <| seqN [(4, .d (cS.enc ([97, 108, 108] : List UInt8))), (5, .d (cB.enc true))] (by kernel_rfl) <|
    xn <| wpC_ret <| rt <| rt <| re <| fin h (r1 (ss rfl rfl) <| r1 (ss rfl rfl) <| r0) rfl)
    (fun b32 h => wpC_skip <| kpN [(0, .d ((cLs (cXVariable cS cI) rfl).enc v0)), (3, .box ((cXEdit (cLs cI rfl)).enc v1)), (6, .d ((cLo cI).enc x25))] (by kernel_rfl) <| xn <| wpC_seq <| reg_s <| st rfl <| mvo rfl rfl <| stw rfl <| leno rfl fun l36 => mkO_k h fun i37 l38 h => st rfl <| o_mk (c := cS) (a0 := ([] : List UInt8)) rfl (k := .i64) rfl i37 l38 <| x_asg (so rfl rfl) <| seqN [(0, .d ((cLs (cXVariable cS cI) rfl).enc v0)), (3, .box ((cXEdit (cLs cI rfl)).enc v1)), (6, .d ((cLo cI).enc x25)), (7, .d ((cLo cS).enc (List.replicate ((x25.length : Int)).toNat ([] : List UInt8))))] (by kernel_rfl) <|
    xn <| wpC_seq <| wpC_kp <| wpC_seq <| reg_s <| st rfl <| mvo rfl rfl <| stw rfl <| leno rfl fun l128 => st rfl <| mvc cI (0 : Int) rfl <| seqN [(0, .d ((cLs (cXVariable cS cI) rfl).enc v0)), (3, .box ((cXEdit (cLs cI rfl)).enc v1)), (6, .d ((cLo cI).enc x25)), (7, .d ((cLo cS).enc (List.replicate ((x25.length : Int)).toNat ([] : List UInt8)))), (28, .ref 6 []), (29, .d (cI.enc (x25.length : Int))), (30, .d (cI.enc (0 : Int)))] (by kernel_rfl) <|
    xn <| wpC_blk <| lpR (fun (k130 : Nat) (s129 : (List (List UInt8))) => [(0, .d ((cLs (cXVariable cS cI) rfl).enc v0)), (3, .box ((cXEdit (cLs cI rfl)).enc v1)), (6, .d ((cLo cI).enc x25)), (7, .d ((cLo cS).enc s129)), (28, .ref 6 []), (29, .d (cI.enc (x25.length : Int))), (30, .d (cI.enc (k130 : Int)))]) (List.replicate ((x25.length : Int)).toNat ([] : List UInt8)) rfl h
    (fun G188 s129 h => wpC_seq <| reg_s <| st rfl <| b_lss (k := .i64) rfl rfl <| seqN [(0, .d ((cLs (cXVariable cS cI) rfl).enc v0)), (3, .box ((cXEdit (cLs cI rfl)).enc v1)), (6, .d ((cLo cI).enc x25)), (7, .d ((cLo cS).enc s129)), (28, .ref 6 []), (29, .d (cI.enc (x25.length : Int))), (30, .d (cI.enc (x25.length : Int))), (31, .d (cB.enc (decide ((x25.length : Int) < (x25.length : Int)))))] (by kernel_rfl) <|
    xn <| wpC_seq <| wpC_kp <| cnd0 rfl (dlf _) <| wpC_exit <| xt <| xt <| xt <| xb <| kpN [(7, .d ((cLo cS).enc s129))] (by kernel_rfl) <| xn <| wpC_seq <| reg_s <| st rfl <| mvo rfl rfl <| bnd h fun x191 e192 h => st rfl <| o_call (a1 (c := (cLo cS)) (tLo tS) rfl (a1 (c := cS) tS rfl a0)) (con_strings_Join e192) (.inl (so1 sS so0)) <| x_asg (ss rfl rfl) <| x_asg (sc cB true rfl) <| seqN [(4, .d (cS.enc x191)), (5, .d (cB.enc true))] (by kernel_rfl) <|
    xn <| wpC_ret <| re <| fin h (r1 (ss rfl rfl) <| r1 (ss rfl rfl) <| r0) rfl)
    (fun G188 nx186 k130 s129 x131 hk132 hx133 hn187 h => wpC_seq <| reg_s <| st rfl <| b_lss (k := .i64) rfl rfl <| seqN [(0, .d ((cLs (cXVariable cS cI) rfl).enc v0)), (3, .box ((cXEdit (cLs cI rfl)).enc v1)), (6, .d ((cLo cI).enc x25)), (7, .d ((cLo cS).enc s129)), (28, .ref 6 []), (29, .d (cI.enc (x25.length : Int))), (30, .d (cI.enc (k130 : Int))), (31, .d (cB.enc (decide ((k130 : Int) < (x25.length : Int)))))] (by kernel_rfl) <|
    xn <| wpC_seq <| wpC_kp <| cnd1 rfl (dlt hk132) <| wpC_skip <| kpN [(0, .d ((cLs (cXVariable cS cI) rfl).enc v0)), (3, .box ((cXEdit (cLs cI rfl)).enc v1)), (6, .d ((cLo cI).enc x25)), (7, .d ((cLo cS).enc s129)), (28, .ref 6 []), (29, .d (cI.enc (x25.length : Int))), (30, .d (cI.enc (k130 : Int)))] (by kernel_rfl) <| xn <| wpC_seq <| wpC_kp <| wpC_blk <| wpC_seq <| reg_s <| st rfl <| mvd rfl rfl <| st rfl <| iar rfl rfl rfl rfl (Int.natCast_nonneg _) hx133 rfl <| st rfl <| lda rfl rfl (Gt.idx hx133 Gt.nil) rfl rfl rfl <| x_asg (ss rfl rfl) <| x_asg (ss rfl rfl) <| seqN [(0, .d ((cLs (cXVariable cS cI) rfl).enc v0)), (3, .box ((cXEdit (cLs cI rfl)).enc v1)), (6, .d ((cLo cI).enc x25)), (7, .d ((cLo cS).enc s129)), (8, .d (cI.enc (k130 : Int))), (9, .d (cI.enc x131)), (28, .ref 6 []), (29, .d (cI.enc (x25.length : Int))), (30, .d (cI.enc (k130 : Int)))] (by kernel_rfl) <|
    xn <| drw_s <| pst rfl <| mvo rfl rfl ⟨rfl, pst rfl <| mvd rfl rfl ⟨rfl, pst rfl <| mvd rfl rfl ⟨rfl, pst rfl <| mvd rfl rfl ⟨rfl, getO_kp h fun x206 i207 g208 h => pst rfl <| ias rfl rfl i207 g208 rfl ⟨rfl, pst rfl <| fai rfl rfl rfl rfl ⟨rfl, pst rfl <| ldi rfl rfl rfl rfl ⟨rfl, lnO_kp h fun l209 h => pst rfl <| b_cat rfl rfl l209 ⟨rfl, pst rfl <| fab rfl rfl rfl rfl ⟨rfl, pst rfl <| lda rfl rfl rfl rfl rfl rfl ⟨rfl, pst rfl <| mvd rfl rfl ⟨rfl, getO_kp h fun x210 i211 g212 h => pst rfl <| ias rfl rfl i211 g212 rfl ⟨rfl, pst rfl <| ldi rfl rfl rfl rfl ⟨rfl, bndp h fun x213 e214 h => pst rfl <| o_call (a1 (c := cI) tK rfl a0) (con_impl_setText e214) (.inl (so1 sS so0)) ⟨rfl, lnO_kp h fun l215 h => pst rfl <| b_cat rfl rfl l215 ⟨rfl, getO_kp h fun x216 i217 g218 h => pst rfl <| iar rfl rfl rfl rfl i217 g218 rfl ⟨rfl, preN <| x_sta ((cLo cS).enc (s129.set ((k130 : Int)).toNat ((x206.Name ++ ([61] : List UInt8)) ++ x213))) (ss rfl rfl) rfl rfl (Ln.idx g218 Ln.nil) (Cd.h_sz cS _) rfl <| seqN [(0, .d ((cLs (cXVariable cS cI) rfl).enc v0)), (3, .box ((cXEdit (cLs cI rfl)).enc v1)), (6, .d ((cLo cI).enc x25)), (7, .d ((cLo cS).enc (s129.set ((k130 : Int)).toNat ((x206.Name ++ ([61] : List UInt8)) ++ x213)))), (28, .ref 6 []), (29, .d (cI.enc (x25.length : Int))), (30, .d (cI.enc (k130 : Int)))] (by kernel_rfl) <|
    xbb <| kpN [(0, .d ((cLs (cXVariable cS cI) rfl).enc v0)), (3, .box ((cXEdit (cLs cI rfl)).enc v1)), (6, .d ((cLo cI).enc x25)), (7, .d ((cLo cS).enc (s129.set ((k130 : Int)).toNat ((x206.Name ++ ([61] : List UInt8)) ++ x213)))), (28, .ref 6 []), (29, .d (cI.enc (x25.length : Int))), (30, .d (cI.enc (k130 : Int)))] (by kernel_rfl) <| xn <| reg_s <| st rfl <| b_inc rfl rfl l128 hk132 <| st rfl <| mvd rfl rfl <| seqN [(0, .d ((cLs (cXVariable cS cI) rfl).enc v0)), (3, .box ((cXEdit (cLs cI rfl)).enc v1)), (6, .d ((cLo cI).enc x25)), (7, .d ((cLo cS).enc (s129.set ((k130 : Int)).toNat ((x206.Name ++ ([61] : List UInt8)) ++ x213)))), (28, .ref 6 []), (29, .d (cI.enc (x25.length : Int))), (30, .d (cI.enc ((k130 + 1 : Nat) : Int)))] (by kernel_rfl) <|
    xn <| hn187 (s129.set ((k130 : Int)).toNat ((x206.Name ++ ([61] : List UInt8)) ++ x213)) h⟩⟩⟩⟩⟩⟩⟩⟩⟩⟩⟩⟩⟩⟩⟩⟩))))

def rs_laws_eqVariable (r : Bool) : List D := [cB.enc r]
def m23 : MC := .seq (.reg [⟨some 2, .box (.t 0), none⟩,
    ⟨some 3, .box (.t 1), none⟩,
    ⟨some 4, .asg (.c (.bool false)), none⟩] [2, 3])
  (.seq (.kp [2, 3] (.seq (.reg [⟨some 5, .fa 2 0 0, none⟩,
    ⟨some 6, .ld 5 1 false, none⟩,
    ⟨some 7, .fa 3 0 0, none⟩,
    ⟨some 8, .ld 7 1 false, none⟩,
    ⟨some 9, .bin .neq (.t 6) (.t 8), none⟩] [2, 3, 9])
  (.cond (.t 9) (.seq (.reg [⟨some 4, .asg (.c (.bool false)), none⟩] [4])
  (.ret)) (.skip))))
  (.seq (.kp [] (.seq (.reg [⟨some 10, .fa 2 1 1, none⟩,
    ⟨some 11, .ld 10 1 false, none⟩,
    ⟨some 12, .fa 3 1 1, none⟩,
    ⟨some 13, .ld 12 1 false, none⟩,
    ⟨some 14, .bin .neq (.t 11) (.t 13), none⟩] [14])
  (.cond (.t 14) (.seq (.reg [⟨some 4, .asg (.c (.bool false)), none⟩] [4])
  (.ret)) (.skip))))
  (.seq (.reg [⟨some 4, .asg (.c (.bool true)), none⟩] [4])
  (.ret))))
theorem con_laws_eqVariable {v0 : XVariable} {v1 : XVariable} {r : Bool} (h : sh_laws_eqVariable v0 v1 = some r) : Con Try.prog 23 [(cXVariable cS cI).enc v0, (cXVariable cS cI).enc v1] [] (rs_laws_eqVariable r) := by
  delta sh_laws_eqVariable at h
  refine top (out := none) (f := Try.f23) (m := m23) (rs := [.t 4]) (by kernel_rfl) rfl (by kernel_rfl) (by kernel_rfl) (by kernel_rfl) (by kernel_rfl) (by kernel_rfl) ?_
  exact
   ini [(0, .d ((cXVariable cS cI).enc v0)), (1, .d ((cXVariable cS cI).enc v1))] rfl <| wpC_seq <| reg_s <| x_box (ss rfl rfl) <| x_box (ss rfl rfl) <| x_asg (sc cB false rfl) <| seqN [(2, .box ((cXVariable cS cI).enc v0)), (3, .box ((cXVariable cS cI).enc v1))] (by kernel_rfl) <|
    xn <| wpC_seq <| wpC_kp <| wpC_seq <| reg_s <| st rfl <| fab rfl rfl rfl rfl <| st rfl <| lda rfl rfl rfl rfl rfl rfl <| st rfl <| fab rfl rfl rfl rfl <| st rfl <| lda rfl rfl rfl rfl rfl rfl <| st rfl <| b_sne rfl rfl <| seqN [(2, .box ((cXVariable cS cI).enc v0)), (3, .box ((cXVariable cS cI).enc v1)), (9, .d (cB.enc (decide (v0.Name ≠ v1.Name))))] (by kernel_rfl) <|
    xn <| cnd rfl h (fun b2 h => wpC_seq <| reg_s <| x_asg (sc cB false rfl) <| seqN [(4, .d (cB.enc false))] (by kernel_rfl) <|
    xn <| wpC_ret <| rt <| rt <| re <| fin h (r1 (ss rfl rfl) <| r0) rfl)
    (fun b2 h => wpC_skip <| kpN [(2, .box ((cXVariable cS cI).enc v0)), (3, .box ((cXVariable cS cI).enc v1))] (by kernel_rfl) <| xn <| wpC_seq <| wpC_kp <| wpC_seq <| reg_s <| st rfl <| fab rfl rfl rfl rfl <| st rfl <| lda rfl rfl rfl rfl rfl rfl <| st rfl <| fab rfl rfl rfl rfl <| st rfl <| lda rfl rfl rfl rfl rfl rfl <| st rfl <| b_neq (k := .i64) rfl rfl <| seqN [(14, .d (cB.enc (decide (v0.Levels ≠ v1.Levels))))] (by kernel_rfl) <|
    xn <| cnd rfl h (fun b4 h => wpC_seq <| reg_s <| x_asg (sc cB false rfl) <| seqN [(4, .d (cB.enc false))] (by kernel_rfl) <|
    xn <| wpC_ret <| rt <| rt <| re <| fin h (r1 (ss rfl rfl) <| r0) rfl)
    (fun b4 h => wpC_skip <| kpN [] (by kernel_rfl) <| xn <| wpC_seq <| reg_s <| x_asg (sc cB true rfl) <| seqN [(4, .d (cB.enc true))] (by kernel_rfl) <|
    xn <| wpC_ret <| re <| fin h (r1 (ss rfl rfl) <| r0) rfl))

def rs_laws_eqVariableS (r : Bool) : List D := [cB.enc r]
def m10 : MC := .seq (.reg [⟨some 4, .asg (.c (.bool false)), none⟩] [0, 1])
  (.seq (.kp [0, 1] (.seq (.reg [⟨some 6, .mv (.t 0), none⟩,
    ⟨some 7, .len false (.t 6), none⟩,
    ⟨some 8, .mv (.t 1), none⟩,
    ⟨some 9, .len false (.t 8), none⟩,
    ⟨some 10, .bin .neq (.t 7) (.t 9), none⟩] [0, 1, 10])
  (.cond (.t 10) (.seq (.reg [⟨some 4, .asg (.c (.bool false)), none⟩] [4])
  (.ret)) (.skip))))
  (.seq (.kp [] (.seq (.reg [⟨some 5, .asg (.c (.int .i64 0)), none⟩] [0, 1, 5])
  (.blk 0 (.loop (.seq (.kp [0, 1, 5] (.seq (.reg [⟨some 11, .mv (.t 5), none⟩,
    ⟨some 12, .mv (.t 0), none⟩,
    ⟨some 13, .len false (.t 12), none⟩,
    ⟨some 14, .bin .lss (.t 11) (.t 13), none⟩] [0, 1, 5, 14])
  (.cond (.t 14) (.skip) (.exit 0))))
  (.seq (.kp [0, 1, 5] (.blk 1 (.seq (.drw [⟨0, ⟨some 17, .mv (.t 0), none⟩, [18, 19, 20, 21, 22, 23, 24, 25, 26]⟩,
    ⟨1, ⟨some 18, .mv (.t 5), none⟩, [17, 19, 20, 21, 22, 23, 24, 25, 26]⟩,
    ⟨2, ⟨some 19, .ia 17 (.t 18) 2, none⟩, [20, 21, 22, 23, 24, 25, 26]⟩,
    ⟨3, ⟨some 20, .ld 19 2 true, none⟩, [21, 22, 23, 24, 25, 26]⟩,
    ⟨4, ⟨some 21, .mv (.t 1), none⟩, [17, 18, 19, 20, 22, 23, 24, 25, 26]⟩,
    ⟨5, ⟨some 22, .mv (.t 5), none⟩, [17, 18, 19, 20, 21, 23, 24, 25, 26]⟩,
    ⟨6, ⟨some 23, .ia 21 (.t 22) 2, none⟩, [17, 18, 19, 20, 24, 25, 26]⟩,
    ⟨7, ⟨some 24, .ld 23 2 true, none⟩, [17, 18, 19, 20, 25, 26]⟩,
    ⟨8, ⟨some 25, .call 23 [(.t 20), (.t 24)], none⟩, [26]⟩,
    ⟨9, ⟨some 26, .nt (.t 25), none⟩, []⟩]
    [] [0, 1, 5, 26])
  (.cond (.t 26) (.seq (.reg [⟨some 4, .asg (.c (.bool false)), none⟩] [4])
  (.ret)) (.skip)))))
  (.reg [⟨some 15, .mv (.t 5), none⟩,
    ⟨some 16, .bin .add (.t 15) (.c (.int .i64 1)), none⟩,
    ⟨some 5, .asg (.t 16), none⟩] [0, 1, 5])))))))
  (.seq (.reg [⟨some 4, .asg (.c (.bool true)), none⟩] [4])
  (.ret))))
theorem con_laws_eqVariableS {v0 : (List XVariable)} {v1 : (List XVariable)} {r : Bool} (h : sh_laws_eqVariableS v0 v1 = some r) : Con Try.prog 10 [(cLs (cXVariable cS cI) rfl).enc v0, (cLs (cXVariable cS cI) rfl).enc v1] [] (rs_laws_eqVariableS r) := by
  delta sh_laws_eqVariableS at h
  refine top (out := none) (f := Try.f10) (m := m10) (rs := [.t 4]) (by kernel_rfl) rfl (by kernel_rfl) (by kernel_rfl) (by kernel_rfl) (by kernel_rfl) (by kernel_rfl) ?_
  exact
   ini [(0, .d ((cLs (cXVariable cS cI) rfl).enc v0)), (1, .d ((cLs (cXVariable cS cI) rfl).enc v1))] rfl <| wpC_seq <| reg_s <| x_asg (sc cB false rfl) <| seqN [(0, .d ((cLs (cXVariable cS cI) rfl).enc v0)), (1, .d ((cLs (cXVariable cS cI) rfl).enc v1))] (by kernel_rfl) <|
    xn <| wpC_seq <| wpC_kp <| wpC_seq <| reg_s <| st rfl <| mvd rfl rfl <| stw rfl <| lens rfl fun l8 => st rfl <| mvd rfl rfl <| stw rfl <| lens rfl fun l9 => st rfl <| b_neq (k := .i64) rfl rfl <| seqN [(0, .d ((cLs (cXVariable cS cI) rfl).enc v0)), (1, .d ((cLs (cXVariable cS cI) rfl).enc v1)), (10, .d (cB.enc (decide ((v0.length : Int) ≠ (v1.length : Int)))))] (by kernel_rfl) <|
    xn <| cnd rfl h (fun b10 h => wpC_seq <| reg_s <| x_asg (sc cB false rfl) <| seqN [(4, .d (cB.enc false))] (by kernel_rfl) <|
    xn <| wpC_ret <| rt <| rt <| re <| fin h (r1 (ss rfl rfl) <| r0) rfl)
    (fun b10 h => wpC_skip <| kpN [(0, .d ((cLs (cXVariable cS cI) rfl).enc v0)), (1, .d ((cLs (cXVariable cS cI) rfl).enc v1))] (by kernel_rfl) <| xn <| wpC_seq <| wpC_kp <| wpC_seq <| reg_s <| x_asg (sc cI (0 : Int) rfl) <| seqN [(0, .d ((cLs (cXVariable cS cI) rfl).enc v0)), (1, .d ((cLs (cXVariable cS cI) rfl).enc v1)), (5, .d (cI.enc (0 : Int)))] (by kernel_rfl) <|
    xn <| wpC_blk <| lpF (fun (s142 : Int) => [(0, .d ((cLs (cXVariable cS cI) rfl).enc v0)), (1, .d ((cLs (cXVariable cS cI) rfl).enc v1)), (5, .d (cI.enc s142))]) (0 : Int) rfl h
    fun G231 nx229 s142 hn230 h => wpC_seq <| wpC_kp <| wpC_seq <| reg_s <| st rfl <| mvd rfl rfl <| st rfl <| mvd rfl rfl <| stw rfl <| lens rfl fun l236 => st rfl <| b_lss (k := .i64) rfl rfl <| seqN [(0, .d ((cLs (cXVariable cS cI) rfl).enc v0)), (1, .d ((cLs (cXVariable cS cI) rfl).enc v1)), (5, .d (cI.enc s142)), (14, .d (cB.enc (decide (s142 < (v0.length : Int)))))] (by kernel_rfl) <|
    xn <| cnd rfl h (fun b237 h => wpC_skip <| kpN [(0, .d ((cLs (cXVariable cS cI) rfl).enc v0)), (1, .d ((cLs (cXVariable cS cI) rfl).enc v1)), (5, .d (cI.enc s142))] (by kernel_rfl) <| xn <| wpC_seq <| wpC_kp <| wpC_blk <| wpC_seq <| drw_s <| pst rfl <| mvd rfl rfl ⟨rfl, pst rfl <| mvd rfl rfl ⟨rfl, getO_kp h fun x263 i264 g265 h => pst rfl <| ias rfl rfl i264 g265 rfl ⟨rfl, pst rfl <| ldi rfl rfl rfl rfl ⟨rfl, pst rfl <| mvd rfl rfl ⟨rfl, pst rfl <| mvd rfl rfl ⟨rfl, getO_kp h fun x266 i267 g268 h => pst rfl <| ias rfl rfl i267 g268 rfl ⟨rfl, pst rfl <| ldi rfl rfl rfl rfl ⟨rfl, bndp h fun x269 e270 h => pst rfl <| o_call (a1 (c := (cXVariable cS cI)) (tXVariable tS tK) rfl (a1 (c := (cXVariable cS cI)) (tXVariable tS tK) rfl a0)) (con_laws_eqVariable e270) (.inl (so1 sB so0)) ⟨rfl, pst rfl <| o_nt rfl ⟨rfl, preN <| seqN [(0, .d ((cLs (cXVariable cS cI) rfl).enc v0)), (1, .d ((cLs (cXVariable cS cI) rfl).enc v1)), (5, .d (cI.enc s142)), (26, .d (cB.enc (!x269)))] (by kernel_rfl) <|
    xn <| cnd rfl h (fun b271 h => wpC_seq <| reg_s <| x_asg (sc cB false rfl) <| seqN [(4, .d (cB.enc false))] (by kernel_rfl) <|
    xn <| wpC_ret <| rb <| rt <| rt <| rt <| rb <| rt <| rt <| re <| fin h (r1 (ss rfl rfl) <| r0) rfl)
    (fun b271 h => wpC_skip <| xbb <| kpN [(0, .d ((cLs (cXVariable cS cI) rfl).enc v0)), (1, .d ((cLs (cXVariable cS cI) rfl).enc v1)), (5, .d (cI.enc s142))] (by kernel_rfl) <| xn <| reg_s <| st rfl <| mvd rfl rfl <| ckI_k h fun i272 h => st rfl <| b_add (k := .i64) rfl rfl i272 <| x_asg (ss rfl rfl) <| seqN [(0, .d ((cLs (cXVariable cS cI) rfl).enc v0)), (1, .d ((cLs (cXVariable cS cI) rfl).enc v1)), (5, .d (cI.enc (s142 + (1 : Int))))] (by kernel_rfl) <|
    xn <| hn230 (s142 + (1 : Int)) h)⟩⟩⟩⟩⟩⟩⟩⟩⟩⟩)
    (fun b237 h => wpC_exit <| xt <| xt <| xt <| xb <| kpN [] (by kernel_rfl) <| xn <| wpC_seq <| reg_s <| x_asg (sc cB true rfl) <| seqN [(4, .d (cB.enc true))] (by kernel_rfl) <|
    xn <| wpC_ret <| re <| fin h (r1 (ss rfl rfl) <| r0) rfl))

def rs_laws_eqIntS (r : Bool) : List D := [cB.enc r]
def m24 : MC := .seq (.reg [⟨some 4, .asg (.c (.bool false)), none⟩] [0, 1])
  (.seq (.kp [0, 1] (.seq (.reg [⟨some 6, .mv (.t 0), none⟩,
    ⟨some 7, .len false (.t 6), none⟩,
    ⟨some 8, .mv (.t 1), none⟩,
    ⟨some 9, .len false (.t 8), none⟩,
    ⟨some 10, .bin .neq (.t 7) (.t 9), none⟩] [0, 1, 10])
  (.cond (.t 10) (.seq (.reg [⟨some 4, .asg (.c (.bool false)), none⟩] [4])
  (.ret)) (.skip))))
  (.seq (.kp [] (.seq (.reg [⟨some 5, .asg (.c (.int .i64 0)), none⟩] [0, 1, 5])
  (.blk 0 (.loop (.seq (.kp [0, 1, 5] (.seq (.reg [⟨some 11, .mv (.t 5), none⟩,
    ⟨some 12, .mv (.t 0), none⟩,
    ⟨some 13, .len false (.t 12), none⟩,
    ⟨some 14, .bin .lss (.t 11) (.t 13), none⟩] [0, 1, 5, 14])
  (.cond (.t 14) (.skip) (.exit 0))))
  (.seq (.kp [0, 1, 5] (.blk 1 (.seq (.drw [⟨0, ⟨some 17, .mv (.t 0), none⟩, [18, 19, 20, 21, 22, 23, 24, 25]⟩,
    ⟨1, ⟨some 18, .mv (.t 5), none⟩, [17, 19, 20, 21, 22, 23, 24, 25]⟩,
    ⟨2, ⟨some 19, .ia 17 (.t 18) 1, none⟩, [20, 21, 22, 23, 24, 25]⟩,
    ⟨3, ⟨some 20, .ld 19 1 false, none⟩, [21, 22, 23, 24, 25]⟩,
    ⟨4, ⟨some 21, .mv (.t 1), none⟩, [17, 18, 19, 20, 22, 23, 24, 25]⟩,
    ⟨5, ⟨some 22, .mv (.t 5), none⟩, [17, 18, 19, 20, 21, 23, 24, 25]⟩,
    ⟨6, ⟨some 23, .ia 21 (.t 22) 1, none⟩, [17, 18, 19, 20, 24, 25]⟩,
    ⟨7, ⟨some 24, .ld 23 1 false, none⟩, [17, 18, 19, 20, 25]⟩,
    ⟨8, ⟨some 25, .bin .neq (.t 20) (.t 24), none⟩, []⟩]
    [] [0, 1, 5, 25])
  (.cond (.t 25) (.seq (.reg [⟨some 4, .asg (.c (.bool false)), none⟩] [4])
  (.ret)) (.skip)))))
  (.reg [⟨some 15, .mv (.t 5), none⟩,
    ⟨some 16, .bin .add (.t 15) (.c (.int .i64 1)), none⟩,
    ⟨some 5, .asg (.t 16), none⟩] [0, 1, 5])))))))
  (.seq (.reg [⟨some 4, .asg (.c (.bool true)), none⟩] [4])
  (.ret))))
theorem con_laws_eqIntS {v0 : (List Int)} {v1 : (List Int)} {r : Bool} (h : sh_laws_eqIntS v0 v1 = some r) : Con Try.prog 24 [(cLs cI rfl).enc v0, (cLs cI rfl).enc v1] [] (rs_laws_eqIntS r) := by
  delta sh_laws_eqIntS at h
  refine top (out := none) (f := Try.f24) (m := m24) (rs := [.t 4]) (by kernel_rfl) rfl (by kernel_rfl) (by kernel_rfl) (by kernel_rfl) (by kernel_rfl) (by kernel_rfl) ?_
  exact
   ini [(0, .d ((cLs cI rfl).enc v0)), (1, .d ((cLs cI rfl).enc v1))] rfl <| wpC_seq <| reg_s <| x_asg (sc cB false rfl) <| seqN [(0, .d ((cLs cI rfl).enc v0)), (1, .d ((cLs cI rfl).enc v1))] (by kernel_rfl) <|
    xn <| wpC_seq <| wpC_kp <| wpC_seq <| reg_s <| st rfl <| mvd rfl rfl <| stw rfl <| lens rfl fun l8 => st rfl <| mvd rfl rfl <| stw rfl <| lens rfl fun l9 => st rfl <| b_neq (k := .i64) rfl rfl <| seqN [(0, .d ((cLs cI rfl).enc v0)), (1, .d ((cLs cI rfl).enc v1)), (10, .d (cB.enc (decide ((v0.length : Int) ≠ (v1.length : Int)))))] (by kernel_rfl) <|
    xn <| cnd rfl h (fun b10 h => wpC_seq <| reg_s <| x_asg (sc cB false rfl) <| seqN [(4, .d (cB.enc false))] (by kernel_rfl) <|
    xn <| wpC_ret <| rt <| rt <| re <| fin h (r1 (ss rfl rfl) <| r0) rfl)
    (fun b10 h => wpC_skip <| kpN [(0, .d ((cLs cI rfl).enc v0)), (1, .d ((cLs cI rfl).enc v1))] (by kernel_rfl) <| xn <| wpC_seq <| wpC_kp <| wpC_seq <| reg_s <| x_asg (sc cI (0 : Int) rfl) <| seqN [(0, .d ((cLs cI rfl).enc v0)), (1, .d ((cLs cI rfl).enc v1)), (5, .d (cI.enc (0 : Int)))] (by kernel_rfl) <|
    xn <| wpC_blk <| lpF (fun (s118 : Int) => [(0, .d ((cLs cI rfl).enc v0)), (1, .d ((cLs cI rfl).enc v1)), (5, .d (cI.enc s118))]) (0 : Int) rfl h
    fun G191 nx189 s118 hn190 h => wpC_seq <| wpC_kp <| wpC_seq <| reg_s <| st rfl <| mvd rfl rfl <| st rfl <| mvd rfl rfl <| stw rfl <| lens rfl fun l196 => st rfl <| b_lss (k := .i64) rfl rfl <| seqN [(0, .d ((cLs cI rfl).enc v0)), (1, .d ((cLs cI rfl).enc v1)), (5, .d (cI.enc s118)), (14, .d (cB.enc (decide (s118 < (v0.length : Int)))))] (by kernel_rfl) <|
    xn <| cnd rfl h (fun b197 h => wpC_skip <| kpN [(0, .d ((cLs cI rfl).enc v0)), (1, .d ((cLs cI rfl).enc v1)), (5, .d (cI.enc s118))] (by kernel_rfl) <| xn <| wpC_seq <| wpC_kp <| wpC_blk <| wpC_seq <| drw_s <| pst rfl <| mvd rfl rfl ⟨rfl, pst rfl <| mvd rfl rfl ⟨rfl, getO_kp h fun x217 i218 g219 h => pst rfl <| ias rfl rfl i218 g219 rfl ⟨rfl, pst rfl <| ldi rfl rfl rfl rfl ⟨rfl, pst rfl <| mvd rfl rfl ⟨rfl, pst rfl <| mvd rfl rfl ⟨rfl, getO_kp h fun x220 i221 g222 h => pst rfl <| ias rfl rfl i221 g222 rfl ⟨rfl, pst rfl <| ldi rfl rfl rfl rfl ⟨rfl, pst rfl <| b_neq (k := .i64) rfl rfl ⟨rfl, preN <| seqN [(0, .d ((cLs cI rfl).enc v0)), (1, .d ((cLs cI rfl).enc v1)), (5, .d (cI.enc s118)), (25, .d (cB.enc (decide (x217 ≠ x220))))] (by kernel_rfl) <|
    xn <| cnd rfl h (fun b223 h => wpC_seq <| reg_s <| x_asg (sc cB false rfl) <| seqN [(4, .d (cB.enc false))] (by kernel_rfl) <|
    xn <| wpC_ret <| rb <| rt <| rt <| rt <| rb <| rt <| rt <| re <| fin h (r1 (ss rfl rfl) <| r0) rfl)
    (fun b223 h => wpC_skip <| xbb <| kpN [(0, .d ((cLs cI rfl).enc v0)), (1, .d ((cLs cI rfl).enc v1)), (5, .d (cI.enc s118))] (by kernel_rfl) <| xn <| reg_s <| st rfl <| mvd rfl rfl <| ckI_k h fun i224 h => st rfl <| b_add (k := .i64) rfl rfl i224 <| x_asg (ss rfl rfl) <| seqN [(0, .d ((cLs cI rfl).enc v0)), (1, .d ((cLs cI rfl).enc v1)), (5, .d (cI.enc (s118 + (1 : Int))))] (by kernel_rfl) <|
    xn <| hn190 (s118 + (1 : Int)) h)⟩⟩⟩⟩⟩⟩⟩⟩⟩)
    (fun b197 h => wpC_exit <| xt <| xt <| xt <| xb <| kpN [] (by kernel_rfl) <| xn <| wpC_seq <| reg_s <| x_asg (sc cB true rfl) <| seqN [(4, .d (cB.enc true))] (by kernel_rfl) <|
    xn <| wpC_ret <| re <| fin h (r1 (ss rfl rfl) <| r0) rfl))

def rs_laws_eqEdit (r : Bool) : List D := [cB.enc r]
def m11 : MC := .seq (.reg [⟨some 2, .box (.t 0), none⟩,
    ⟨some 3, .box (.t 1), none⟩,
    ⟨some 4, .asg (.c (.bool false)), none⟩] [2, 3])
  (.seq (.kp [] (.seq (.reg [⟨some 5, .fa 2 0 0, none⟩,
    ⟨some 6, .ld 5 1 false, none⟩,
    ⟨some 7, .fa 3 0 0, none⟩,
    ⟨some 8, .ld 7 1 false, none⟩,
    ⟨some 9, .call 24 [(.t 6), (.t 8)], none⟩,
    ⟨some 10, .nt (.t 9), none⟩] [10])
  (.cond (.t 10) (.seq (.reg [⟨some 4, .asg (.c (.bool false)), none⟩] [4])
  (.ret)) (.skip))))
  (.seq (.reg [⟨some 4, .asg (.c (.bool true)), none⟩] [4])
  (.ret)))
theorem con_laws_eqEdit {v0 : XEdit} {v1 : XEdit} {r : Bool} (h : sh_laws_eqEdit v0 v1 = some r) : Con Try.prog 11 [(cXEdit (cLs cI rfl)).enc v0, (cXEdit (cLs cI rfl)).enc v1] [] (rs_laws_eqEdit r) := by
  delta sh_laws_eqEdit at h
  refine top (out := none) (f := Try.f11) (m := m11) (rs := [.t 4]) (by kernel_rfl) rfl (by kernel_rfl) (by kernel_rfl) (by kernel_rfl) (by kernel_rfl) (by kernel_rfl) ?_
  exact
   ini [(0, .d ((cXEdit (cLs cI rfl)).enc v0)), (1, .d ((cXEdit (cLs cI rfl)).enc v1))] rfl <| wpC_seq <| reg_s <| x_box (ss rfl rfl) <| x_box (ss rfl rfl) <| x_asg (sc cB false rfl) <| seqN [(2, .box ((cXEdit (cLs cI rfl)).enc v0)), (3, .box ((cXEdit (cLs cI rfl)).enc v1))] (by kernel_rfl) <|
    xn <| wpC_seq <| wpC_kp <| wpC_seq <| reg_s <| st rfl <| fab rfl rfl rfl rfl <| st rfl <| lda rfl rfl rfl rfl rfl rfl <| st rfl <| fab rfl rfl rfl rfl <| st rfl <| lda rfl rfl rfl rfl rfl rfl <| bnd h fun x8 e9 h => st rfl <| o_call (a1 (c := (cLs cI rfl)) (tLs tK) rfl (a1 (c := (cLs cI rfl)) (tLs tK) rfl a0)) (con_laws_eqIntS e9) (.inl (so1 sB so0)) <| st rfl <| o_nt rfl <| seqN [(10, .d (cB.enc (!x8)))] (by kernel_rfl) <|
    xn <| cnd rfl h (fun b10 h => wpC_seq <| reg_s <| x_asg (sc cB false rfl) <| seqN [(4, .d (cB.enc false))] (by kernel_rfl) <|
    xn <| wpC_ret <| rt <| rt <| re <| fin h (r1 (ss rfl rfl) <| r0) rfl)
    (fun b10 h => wpC_skip <| kpN [] (by kernel_rfl) <| xn <| wpC_seq <| reg_s <| x_asg (sc cB true rfl) <| seqN [(4, .d (cB.enc true))] (by kernel_rfl) <|
    xn <| wpC_ret <| re <| fin h (r1 (ss rfl rfl) <| r0) rfl)

def rs_laws_FnExactEditText (r : Bool) : List D := [cB.enc r]
def m3 : MC := .seq (.reg [⟨some 3, .box (.t 1), none⟩,
    ⟨some 4, .asg (.c (.bool false)), none⟩] [0, 3])
  (.seq (.reg [⟨some 5, .asg (.c (.int .i64 1048576)), none⟩] [0, 3, 5])
  (.seq (.reg [⟨some 12, .mv (.t 0), none⟩,
    ⟨some 13, .mv (.t 5), none⟩,
    ⟨some 14, .call 4 [(.t 12), (.t 13)], none⟩,
    ⟨some 5, .asg (.t 14), none⟩] [0, 3, 5])
  (.seq (.kp [0, 3, 5] (.seq (.reg [⟨some 15, .mv (.t 5), none⟩,
    ⟨some 16, .bin .lss (.t 15) (.c (.int .i64 0)), none⟩] [0, 3, 5, 16])
  (.cond (.t 16) (.seq (.reg [⟨some 4, .asg (.c (.bool true)), none⟩] [4])
  (.ret)) (.skip))))
  (.seq (.reg [⟨some 17, .ld 3 1 true, none⟩,
    ⟨some 18, .mv (.t 5), none⟩,
    ⟨some 19, .call 5 [(.t 17), (.t 18)], none⟩,
    ⟨some 5, .asg (.t 19), none⟩] [0, 3, 5])
  (.seq (.kp [0, 3] (.seq (.reg [⟨some 20, .mv (.t 5), none⟩,
    ⟨some 21, .bin .lss (.t 20) (.c (.int .i64 0)), none⟩] [0, 3, 21])
  (.cond (.t 21) (.seq (.reg [⟨some 4, .asg (.c (.bool true)), none⟩] [4])
  (.ret)) (.skip))))
  (.seq (.drg [⟨0, ⟨some 23, .mv (.t 0), none⟩, [24, 25, 26, 27]⟩,
    ⟨1, ⟨some 24, .call 7 [(.t 23)], none⟩, [25, 26, 27]⟩,
    ⟨2, ⟨some 25, .ld 3 1 true, none⟩, [23, 24, 26, 27]⟩,
    ⟨3, ⟨some 26, .call 8 [(.t 25)], none⟩, [27]⟩,
    ⟨4, ⟨some 27, .call 6 [(.t 24), (.t 26)], none⟩, []⟩]
    [(5, ⟨some 22, .mvt 27, none⟩),
    (6, ⟨some 28, .ext 22 0, none⟩),
    (7, ⟨some 29, .ext 22 1, none⟩),
    (8, ⟨some 6, .asg (.t 28), none⟩),
    (9, ⟨some 7, .asg (.t 29), none⟩)] [0, 3, 6, 7] [6, 7, 22, 27, 28, 29, 0, 3] [([false, false, false, false, false], 0), ([true, false, false, false, false], 1), ([true, false, false, false, false], 2), ([true, true, false, false, false], 2), ([true, true, false, false, false], 3), ([true, false, true, false, false], 1), ([true, true, true, false, false], 3), ([true, true, false, true, false], 2), ([true, true, true, true, false], 4)])
  (.seq (.reg [⟨some 30, .mv (.t 0), none⟩,
    ⟨some 31, .call 7 [(.t 30)], none⟩,
    ⟨some 8, .asg (.t 31), none⟩] [0, 3, 6, 7, 8])
  (.seq (.reg [⟨some 32, .ld 3 1 true, none⟩,
    ⟨some 33, .call 8 [(.t 32)], none⟩,
    ⟨some 9, .alloc (.agg [.slice true []]), none⟩,
    ⟨none, .st 9 (.t 33) 1, none⟩] [0, 3, 6, 7, 8, 9])
  (.seq (.reg [⟨some 35, .mv (.t 8), none⟩,
    ⟨some 36, .ld 9 1 true, none⟩,
    ⟨some 37, .call 9 [(.t 35), (.t 36)], none⟩,
    ⟨some 34, .mvt 37, none⟩,
    ⟨some 38, .ext 34 0, none⟩,
    ⟨some 39, .ext 34 1, none⟩,
    ⟨some 10, .asg (.t 38), none⟩,
    ⟨some 11, .asg (.t 39), none⟩] [0, 3, 6, 7, 8, 9, 10, 11])
  (.seq (.kp [0, 3, 8, 9] (.seq (.reg [⟨some 40, .mv (.t 10), none⟩,
    ⟨some 41, .mv (.t 6), none⟩,
    ⟨some 42, .bin .neq (.t 40) (.t 41), none⟩,
    ⟨some 43, .mv (.t 42), none⟩,
    ⟨some 44, .mv (.t 11), some (43, false)⟩,
    ⟨some 45, .mv (.t 7), some (43, false)⟩,
    ⟨some 46, .eqb true (.t 44) (.t 45), some (43, false)⟩,
    ⟨some 47, .pick (.t 43) (.c (.bool true)) (.t 46), none⟩] [0, 3, 8, 9, 47])
  (.cond (.t 47) (.seq (.reg [⟨some 4, .asg (.c (.bool false)), none⟩] [4])
  (.ret)) (.skip))))
  (.seq (.kp [3, 9] (.seq (.reg [⟨some 48, .mv (.t 8), none⟩,
    ⟨some 49, .mv (.t 0), none⟩,
    ⟨some 50, .call 7 [(.t 49)], none⟩,
    ⟨some 51, .call 10 [(.t 48), (.t 50)], none⟩,
    ⟨some 52, .nt (.t 51), none⟩] [3, 9, 52])
  (.cond (.t 52) (.seq (.reg [⟨some 4, .asg (.c (.bool false)), none⟩] [4])
  (.ret)) (.skip))))
  (.seq (.kp [] (.seq (.drw [⟨0, ⟨some 53, .ld 9 1 true, none⟩, [54, 55, 56, 57]⟩,
    ⟨1, ⟨some 54, .ld 3 1 true, none⟩, [53, 55, 56, 57]⟩,
    ⟨2, ⟨some 55, .call 8 [(.t 54)], none⟩, [53, 56, 57]⟩,
    ⟨3, ⟨some 56, .call 11 [(.t 53), (.t 55)], none⟩, [57]⟩,
    ⟨4, ⟨some 57, .nt (.t 56), none⟩, []⟩]
    [] [57])
  (.cond (.t 57) (.seq (.reg [⟨some 4, .asg (.c (.bool false)), none⟩] [4])
  (.ret)) (.skip))))
  (.seq (.reg [⟨some 4, .asg (.c (.bool true)), none⟩] [4])
  (.ret))))))))))))))
theorem con_laws_FnExactEditText {v0 : (List XVariable)} {v1 : XEdit} {r : Bool} (h : sh_laws_FnExactEditText v0 v1 = some r) : Con Try.prog 3 [(cLs (cXVariable cS cI) rfl).enc v0, (cXEdit (cLs cI rfl)).enc v1] [] (rs_laws_FnExactEditText r) := by
  delta sh_laws_FnExactEditText at h
  refine top (out := none) (f := Try.f3) (m := m3) (rs := [.t 4]) (by kernel_rfl) rfl (by kernel_rfl) (by kernel_rfl) (by kernel_rfl) (by kernel_rfl) (by kernel_rfl) ?_
  exact
   ini [(0, .d ((cLs (cXVariable cS cI) rfl).enc v0)), (1, .d ((cXEdit (cLs cI rfl)).enc v1))] rfl <| wpC_seq <| reg_s <| x_box (ss rfl rfl) <| x_asg (sc cB false rfl) <| seqN [(0, .d ((cLs (cXVariable cS cI) rfl).enc v0)), (3, .box ((cXEdit (cLs cI rfl)).enc v1))] (by kernel_rfl) <|
    xn <| wpC_seq <| reg_s <| x_asg (sc cI (1048576 : Int) rfl) <| seqN [(0, .d ((cLs (cXVariable cS cI) rfl).enc v0)), (3, .box ((cXEdit (cLs cI rfl)).enc v1)), (5, .d (cI.enc (1048576 : Int)))] (by kernel_rfl) <|
    xn <| wpC_seq <| reg_s <| st rfl <| mvd rfl rfl <| st rfl <| mvd rfl rfl <| bnd h fun x3 e4 h => st rfl <| o_call (a1 (c := (cLs (cXVariable cS cI) rfl)) (tLs (tXVariable tS tK)) rfl (a1 (c := cI) tK rfl a0)) (con_laws_szVariableS e4) (.inl (so1 sK so0)) <| x_asg (ss rfl rfl) <| seqN [(0, .d ((cLs (cXVariable cS cI) rfl).enc v0)), (3, .box ((cXEdit (cLs cI rfl)).enc v1)), (5, .d (cI.enc x3))] (by kernel_rfl) <|
    xn <| wpC_seq <| wpC_kp <| wpC_seq <| reg_s <| st rfl <| mvd rfl rfl <| st rfl <| b_lss (k := .i64) rfl rfl <| seqN [(0, .d ((cLs (cXVariable cS cI) rfl).enc v0)), (3, .box ((cXEdit (cLs cI rfl)).enc v1)), (5, .d (cI.enc x3)), (16, .d (cB.enc (decide (x3 < (0 : Int)))))] (by kernel_rfl) <|
    xn <| cnd rfl h (fun b6 h => wpC_seq <| reg_s <| x_asg (sc cB true rfl) <| seqN [(4, .d (cB.enc true))] (by kernel_rfl) <|
    xn <| wpC_ret <| rt <| rt <| re <| fin h (r1 (ss rfl rfl) <| r0) rfl)
    (fun b6 h => wpC_skip <| kpN [(0, .d ((cLs (cXVariable cS cI) rfl).enc v0)), (3, .box ((cXEdit (cLs cI rfl)).enc v1)), (5, .d (cI.enc x3))] (by kernel_rfl) <| xn <| wpC_seq <| reg_s <| st rfl <| ldb rfl rfl rfl rfl <| st rfl <| mvd rfl rfl <| bnd h fun x9 e10 h => st rfl <| o_call (a1 (c := (cXEdit (cLs cI rfl))) (tXEdit (tLs tK)) rfl (a1 (c := cI) tK rfl a0)) (con_laws_szEdit e10) (.inl (so1 sK so0)) <| x_asg (ss rfl rfl) <| seqN [(0, .d ((cLs (cXVariable cS cI) rfl).enc v0)), (3, .box ((cXEdit (cLs cI rfl)).enc v1)), (5, .d (cI.enc x9))] (by kernel_rfl) <|
    xn <| wpC_seq <| wpC_kp <| wpC_seq <| reg_s <| st rfl <| mvd rfl rfl <| st rfl <| b_lss (k := .i64) rfl rfl <| seqN [(0, .d ((cLs (cXVariable cS cI) rfl).enc v0)), (3, .box ((cXEdit (cLs cI rfl)).enc v1)), (21, .d (cB.enc (decide (x9 < (0 : Int)))))] (by kernel_rfl) <|
    xn <| cnd rfl h (fun b12 h => wpC_seq <| reg_s <| x_asg (sc cB true rfl) <| seqN [(4, .d (cB.enc true))] (by kernel_rfl) <|
    xn <| wpC_ret <| rt <| rt <| re <| fin h (r1 (ss rfl rfl) <| r0) rfl)
    (fun b12 h => wpC_skip <| kpN [(0, .d ((cLs (cXVariable cS cI) rfl).enc v0)), (3, .box ((cXEdit (cLs cI rfl)).enc v1))] (by kernel_rfl) <| xn <| wpC_seq <| drg_s <| pst rfl <| mvd rfl rfl ⟨rfl, bndp h fun x19 e20 h => pst rfl <| o_call (a1 (c := (cLs (cXVariable cS cI) rfl)) (tLs (tXVariable tS tK)) rfl a0) (con_laws_toVariableS e20) (.inl (so1 (sLo (sXVariable sS sK)) so0)) ⟨rfl, pst rfl <| ldb rfl rfl rfl rfl ⟨rfl, bndp h fun x21 e22 h => pst rfl <| o_call (a1 (c := (cXEdit (cLs cI rfl))) (tXEdit (tLs tK)) rfl a0) (con_laws_toEdit e22) (.inl (so1 (sXEdit (sLo sK)) so0)) ⟨rfl, bndp h fun x23 e24 h => pst rfl <| o_call (a1 (c := (cLo (cXVariable cS cI))) (tLo (tXVariable tS tK)) rfl (a1 (c := (cXEdit (cLo cI))) (tXEdit (tLo tK)) rfl a0)) (con_spec_EditText e24) (.inl (so1 sS (so1 sB so0))) ⟨rfl, preN <| gr_s [(0, .d ((cLs (cXVariable cS cI) rfl).enc v0)), (3, .box ((cXEdit (cLs cI rfl)).enc v1))] [([false, false, false, false, false], [(6, .un), (7, .un), (22, .un), (27, .tup [some (cS.enc x23.1), some (cB.enc x23.2)]), (28, .un), (29, .un)]),
     ([true, false, false, false, false], [(6, .un), (7, .un), (22, .tup [some (cS.enc x23.1), some (cB.enc x23.2)]), (27, .un), (28, .un), (29, .un)]),
     ([true, true, false, false, false], [(6, .un), (7, .un), (22, .tup [none, some (cB.enc x23.2)]), (27, .un), (28, .d (cS.enc x23.1)), (29, .un)]),
     ([true, false, true, false, false], [(6, .un), (7, .un), (22, .tup [some (cS.enc x23.1), none]), (27, .un), (28, .un), (29, .d (cB.enc x23.2))]),
     ([true, true, true, false, false], [(6, .un), (7, .un), (22, .tup [none, none]), (27, .un), (28, .d (cS.enc x23.1)), (29, .d (cB.enc x23.2))]),
     ([true, true, false, true, false], [(6, .d (cS.enc x23.1)), (7, .un), (22, .tup [none, some (cB.enc x23.2)]), (27, .un), (28, .d (cS.enc x23.1)), (29, .un)]),
     ([true, true, true, true, false], [(6, .d (cS.enc x23.1)), (7, .un), (22, .tup [none, none]), (27, .un), (28, .d (cS.enc x23.1)), (29, .d (cB.enc x23.2))]),
     ([true, true, true, true, true], [(6, .d (cS.enc x23.1)), (7, .d (cB.enc x23.2)), (22, .tup [none, none]), (27, .un), (28, .d (cS.enc x23.1)), (29, .d (cB.enc x23.2))])] [(0, .d ((cLs (cXVariable cS cI) rfl).enc v0)), (3, .box ((cXEdit (cLs cI rfl)).enc v1)), (6, .d (cS.enc x23.1)), (7, .d (cB.enc x23.2))] [([false, false, false, false, false], [])] (by kernel_rfl) (sa1 rfl (by kernel_rfl) <| sa0) rfl
    (ob1 rfl rfl rfl (x_mvt rfl <| obN (by kernel_rfl)) <|
    ob1 rfl rfl rfl (x_ext rfl rfl <| obN (by kernel_rfl)) <|
    ob1 rfl rfl rfl (x_ext rfl rfl <| obN (by kernel_rfl)) <|
    ob1 rfl rfl rfl (x_ext rfl rfl <| obN (by kernel_rfl)) <|
    ob1 rfl rfl rfl (x_asg (ss rfl rfl) <| obN (by kernel_rfl)) <|
    ob1 rfl rfl rfl (x_ext rfl rfl <| obN (by kernel_rfl)) <|
    ob1 rfl rfl rfl (x_asg (ss rfl rfl) <| obN (by kernel_rfl)) <|
    ob1 rfl rfl rfl (x_ext rfl rfl <| obN (by kernel_rfl)) <|
    ob1 rfl rfl rfl (x_asg (ss rfl rfl) <| obN (by kernel_rfl)) <|
    ob0)
    (by kernel_rfl) <|
    xn <| wpC_seq <| reg_s <| st rfl <| mvd rfl rfl <| bnd h fun x27 e28 h => st rfl <| o_call (a1 (c := (cLs (cXVariable cS cI) rfl)) (tLs (tXVariable tS tK)) rfl a0) (con_laws_toVariableS e28) (.inl (so1 (sLo (sXVariable sS sK)) so0)) <| x_asg (so rfl rfl) <| seqN [(0, .d ((cLs (cXVariable cS cI) rfl).enc v0)), (3, .box ((cXEdit (cLs cI rfl)).enc v1)), (6, .d (cS.enc x23.1)), (7, .d (cB.enc x23.2)), (8, .d ((cLo (cXVariable cS cI)).enc x27))] (by kernel_rfl) <|
    xn <| wpC_seq <| reg_s <| st rfl <| ldb rfl rfl rfl rfl <| bnd h fun x31 e32 h => st rfl <| o_call (a1 (c := (cXEdit (cLs cI rfl))) (tXEdit (tLs tK)) rfl a0) (con_laws_toEdit e32) (.inl (so1 (sXEdit (sLo sK)) so0)) <| x_all (cXEdit (cLo cI)) (⟨([] : List Int)⟩ : XEdit) rfl <| x_stb (so rfl rfl) rfl (Cd.h_sz _ _) rfl <| seqN [(0, .d ((cLs (cXVariable cS cI) rfl).enc v0)), (3, .box ((cXEdit (cLs cI rfl)).enc v1)), (6, .d (cS.enc x23.1)), (7, .d (cB.enc x23.2)), (8, .d ((cLo (cXVariable cS cI)).enc x27)), (9, .box ((cXEdit (cLo cI)).enc x31))] (by kernel_rfl) <|
    xn <| wpC_seq <| reg_s <| st rfl <| mvo rfl rfl <| st rfl <| ldbo rfl rfl rfl rfl <| bnd h fun x35 e36 h => st rfl <| o_call (a1 (c := (cLo (cXVariable cS cI))) (tLo (tXVariable tS tK)) rfl (a1 (c := (cXEdit (cLo cI))) (tXEdit (tLo tK)) rfl a0)) (con_impl_EditText e36) (.inl (so1 sS (so1 sB so0))) <| x_mvt rfl <| x_ext rfl rfl <| x_ext rfl rfl <| x_asg (ss rfl rfl) <| x_asg (ss rfl rfl) <| seqN [(0, .d ((cLs (cXVariable cS cI) rfl).enc v0)), (3, .box ((cXEdit (cLs cI rfl)).enc v1)), (6, .d (cS.enc x23.1)), (7, .d (cB.enc x23.2)), (8, .d ((cLo (cXVariable cS cI)).enc x27)), (9, .box ((cXEdit (cLo cI)).enc x31)), (10, .d (cS.enc x35.1)), (11, .d (cB.enc x35.2))] (by kernel_rfl) <|
    xn <| wpC_seq <| wpC_kp <| wpC_seq <| reg_s <| st rfl <| mvd rfl rfl <| st rfl <| mvd rfl rfl <| st rfl <| b_sne rfl rfl <| st rfl <| mvd rfl rfl <| ite_k h (fun b41 h => gf rfl b41 <| gf rfl b41 <| gf rfl b41 <| st rfl <| pick1 rfl b41 (cd := cB) (v := true) rfl rfl <| seqN [(0, .d ((cLs (cXVariable cS cI) rfl).enc v0)), (3, .box ((cXEdit (cLs cI rfl)).enc v1)), (8, .d ((cLo (cXVariable cS cI)).enc x27)), (9, .box ((cXEdit (cLo cI)).enc x31)), (47, .d (cB.enc true))] (by kernel_rfl) <|
    xn <| cnd1 rfl rfl <| wpC_seq <| reg_s <| x_asg (sc cB false rfl) <| seqN [(4, .d (cB.enc false))] (by kernel_rfl) <|
    xn <| wpC_ret <| rt <| rt <| re <| fin h (r1 (ss rfl rfl) <| r0) rfl)
    (fun b41 h => gt' rfl b41 <| st rfl <| mvd rfl rfl <| gt' rfl b41 <| st rfl <| mvd rfl rfl <| gt' rfl b41 <| st rfl <| eqb1 rfl rfl <| st rfl <| pick0 rfl b41 (cd := cB) (v := (x35.2 != x23.2)) rfl rfl <| seqN [(0, .d ((cLs (cXVariable cS cI) rfl).enc v0)), (3, .box ((cXEdit (cLs cI rfl)).enc v1)), (8, .d ((cLo (cXVariable cS cI)).enc x27)), (9, .box ((cXEdit (cLo cI)).enc x31)), (47, .d (cB.enc (x35.2 != x23.2)))] (by kernel_rfl) <|
    xn <| cnd rfl h (fun b42 h => wpC_seq <| reg_s <| x_asg (sc cB false rfl) <| seqN [(4, .d (cB.enc false))] (by kernel_rfl) <|
    xn <| wpC_ret <| rt <| rt <| re <| fin h (r1 (ss rfl rfl) <| r0) rfl)
    (fun b42 h => wpC_skip <| kpN [(0, .d ((cLs (cXVariable cS cI) rfl).enc v0)), (3, .box ((cXEdit (cLs cI rfl)).enc v1)), (8, .d ((cLo (cXVariable cS cI)).enc x27)), (9, .box ((cXEdit (cLo cI)).enc x31))] (by kernel_rfl) <| xn <| wpC_seq <| wpC_kp <| wpC_seq <| reg_s <| st rfl <| mvo rfl rfl <| st rfl <| mvd rfl rfl <| bnd h fun x56 e57 h => st rfl <| o_call (a1 (c := (cLs (cXVariable cS cI) rfl)) (tLs (tXVariable tS tK)) rfl a0) (con_laws_toVariableS e57) (.inl (so1 (sLo (sXVariable sS sK)) so0)) <| bnd h fun x58 e59 h => st rfl <| o_call (a1 (c := (cLo (cXVariable cS cI))) (tLo (tXVariable tS tK)) rfl (a1 (c := (cLo (cXVariable cS cI))) (tLo (tXVariable tS tK)) rfl a0)) (con_laws_eqVariableS e59) (.inl (so1 sB so0)) <| st rfl <| o_nt rfl <| seqN [(3, .box ((cXEdit (cLs cI rfl)).enc v1)), (9, .box ((cXEdit (cLo cI)).enc x31)), (52, .d (cB.enc (!x58)))] (by kernel_rfl) <|
    xn <| cnd rfl h (fun b60 h => wpC_seq <| reg_s <| x_asg (sc cB false rfl) <| seqN [(4, .d (cB.enc false))] (by kernel_rfl) <|
    xn <| wpC_ret <| rt <| rt <| re <| fin h (r1 (ss rfl rfl) <| r0) rfl)
    (fun b60 h => wpC_skip <| kpN [(3, .box ((cXEdit (cLs cI rfl)).enc v1)), (9, .box ((cXEdit (cLo cI)).enc x31))] (by kernel_rfl) <| xn <| wpC_seq <| wpC_kp <| wpC_seq <| drw_s <| pst rfl <| ldbo rfl rfl rfl rfl ⟨rfl, pst rfl <| ldb rfl rfl rfl rfl ⟨rfl, bndp h fun x74 e75 h => pst rfl <| o_call (a1 (c := (cXEdit (cLs cI rfl))) (tXEdit (tLs tK)) rfl a0) (con_laws_toEdit e75) (.inl (so1 (sXEdit (sLo sK)) so0)) ⟨rfl, bndp h fun x76 e77 h => pst rfl <| o_call (a1 (c := (cXEdit (cLo cI))) (tXEdit (tLo tK)) rfl (a1 (c := (cXEdit (cLo cI))) (tXEdit (tLo tK)) rfl a0)) (con_laws_eqEdit e77) (.inl (so1 sB so0)) ⟨rfl, pst rfl <| o_nt rfl ⟨rfl, preN <| seqN [(57, .d (cB.enc (!x76)))] (by kernel_rfl) <|
    xn <| cnd rfl h (fun b78 h => wpC_seq <| reg_s <| x_asg (sc cB false rfl) <| seqN [(4, .d (cB.enc false))] (by kernel_rfl) <|
    xn <| wpC_ret <| rt <| rt <| re <| fin h (r1 (ss rfl rfl) <| r0) rfl)
    (fun b78 h => wpC_skip <| kpN [] (by kernel_rfl) <| xn <| wpC_seq <| reg_s <| x_asg (sc cB true rfl) <| seqN [(4, .d (cB.enc true))] (by kernel_rfl) <|
    xn <| wpC_ret <| re <| fin h (r1 (ss rfl rfl) <| r0) rfl)⟩⟩⟩⟩⟩)))⟩⟩⟩⟩⟩))
end AS.W
