/- The law FnExactReportText: for every input the call returns true, and each argument reads behind the call as it read before. No condition. -/
import Derived.Test.YtpllepipjbiefaaDoorRows
import Derived.Test.YtpllepipjbiefaaDoorQReportTextL2
import Derived.Test.YtpllepipjbiefaaDoorQReportTextM0
import Derived.Test.YtpllepipjbiefaaDoorCards
import Derived.Test.YtpllepipjbiefaaDoorTie
import Derived.SevenTiedAt
import Derived.LaidLaws
import Derived.LaidHandle
import Derived.MakeChecks
import Derived.Lib.LaidTab
namespace Go.Proofs.YtpllepipjbiefaaDoor.fnExactReportText
open Go.ChangeShapes Go.WideShapes Go.ChangeAt Go.RowKit AS AS.W
set_option linter.unusedVariables false
set_option linter.unusedSimpArgs false
set_option maxRecDepth 100000
theorem own : ownKnob Tryd.prog.godebug = none := by kernel_rfl
theorem laidOut : laidOutB Tryd.prog = true := by kernel_rfl
theorem tz_of {W : World} (h0 : laidMetH Tryd.prog Rows.fnExactReportTextRow.laid W) : TZ W fun b => b < W.heap.size := by
  rw [MakeChecks.laidMetH_plain _ _ _ (by kernel_rfl)] at h0
  obtain ⟨ps, ⟨_, _, _, _, _, _, _, _, _, _, ⟨_, _, _, _, _, _, _, _, _, _, ⟨g, t, cs, fuel, p, q, hg, ht, hvar, hd, _⟩, _⟩, _⟩, _⟩ := h0
  have hg2 : Tryd.prog.globalNamed "internal/strconv.uint64pow10" = some 1 := by kernel_rfl
  obtain rfl := Option.some.inj (hg2.symm.trans hg)
  have ht2 : (Tryd.prog.globals[1]?).map (·.type) = some 127 := by kernel_rfl
  obtain rfl := Option.some.inj (ht2.symm.trans ht)
  have hcs := Go.Lib.cells_of_tab (zs := (List.range 20).map fun i => ((10 ^ i : Nat) : Int)) Tryd.underlying127 Tryd.underlying119 (by kernel_rfl) (by kernel_rfl) hd
  have hcs2 : cs = tabA := by apply Array.ext'; rw [hcs]; rfl
  unfold World.var? at hvar
  rw [hg2, Option.bind_some] at hvar
  split at hvar
  · rename_i c1 e1 fr1 hh
    simp only [Option.some.injEq] at hvar
    subst hvar
    refine ⟨?_, e1, fr1, by rw [← hcs2]; exact hh⟩
    exact (Array.getElem?_eq_some_iff.1 hh).1
  · cases hvar
theorem opn3 : Opn Tryd.prog 3 cI := opn_int Tryd.underlying3 (by kernel_rfl) (by kernel_rfl)
theorem opn22 : Opn Tryd.prog 22 (cLs cI rfl) := opn_slice Tryd.underlying22 opn3 rfl (by kernel_rfl) (Nat.lt_of_lt_of_le Nat.zero_lt_one (Nat.le_of_ble_eq_true (by kernel_rfl))) (by kernel_rfl)
theorem opn24 : Opn Tryd.prog 24 (cXGeo (cLs cI rfl)) := OpnP.imp (opn_struct Tryd.underlying24 (tot := 1) (by kernel_rfl) (.cons (sz := 1) rfl (by kernel_rfl) opn22 (.nil _))) fun d h => by
  obtain ⟨ds, rfl, h⟩ := h
  cases h with | cons h0 h =>
  obtain ⟨a0, b0, rfl⟩ := h0
  cases h
  exact ⟨⟨a0⟩, b0, rfl⟩
theorem opn9 : Opn Tryd.prog 9 cS := opn_str Tryd.underlying9 (by kernel_rfl)
theorem opn56 : Opn Tryd.prog 56 (cXVariable cS cI) := OpnP.imp (opn_struct Tryd.underlying56 (tot := 2) (by kernel_rfl) (.cons (sz := 1) rfl (by kernel_rfl) opn9 (.cons (sz := 1) rfl (by kernel_rfl) opn3 (.nil _)))) fun d h => by
  obtain ⟨ds, rfl, h⟩ := h
  cases h with | cons h0 h =>
  obtain ⟨a0, b0, rfl⟩ := h0
  cases h with | cons h1 h =>
  obtain ⟨a1, b1, rfl⟩ := h1
  cases h
  exact ⟨⟨a0, a1⟩, ⟨b0, b1⟩, rfl⟩
theorem opn25 : Opn Tryd.prog 25 (cLs (cXVariable cS cI) rfl) := opn_slice Tryd.underlying25 opn56 rfl (by kernel_rfl) (Nat.lt_of_lt_of_le Nat.zero_lt_one (Nat.le_of_ble_eq_true (by kernel_rfl))) (by kernel_rfl)
theorem opn27 : Opn Tryd.prog 27 (cXTable cI (cLs cI rfl) (cLs cI rfl) cI) := OpnP.imp (opn_struct Tryd.underlying27 (tot := 4) (by kernel_rfl) (.cons (sz := 1) rfl (by kernel_rfl) opn3 (.cons (sz := 1) rfl (by kernel_rfl) opn22 (.cons (sz := 1) rfl (by kernel_rfl) opn22 (.cons (sz := 1) rfl (by kernel_rfl) opn3 (.nil _)))))) fun d h => by
  obtain ⟨ds, rfl, h⟩ := h
  cases h with | cons h0 h =>
  obtain ⟨a0, b0, rfl⟩ := h0
  cases h with | cons h1 h =>
  obtain ⟨a1, b1, rfl⟩ := h1
  cases h with | cons h2 h =>
  obtain ⟨a2, b2, rfl⟩ := h2
  cases h with | cons h3 h =>
  obtain ⟨a3, b3, rfl⟩ := h3
  cases h
  exact ⟨⟨a0, a1, a2, a3⟩, ⟨b0, b1, b2, b3⟩, rfl⟩
noncomputable def laidWorld (os : Os) : World :=
  let w0 := World.holding Tryd.prog os ⟨#[], #[], []⟩
  { w0 with heap := (((w0.heap.modify 4 fun
      | .cells _ t frozen => .cells #[.int .u8 0, .int .u8 1, .int .u8 28, .int .u8 2, .int .u8 29, .int .u8 14, .int .u8 24, .int .u8 3, .int .u8 30, .int .u8 22, .int .u8 20, .int .u8 15, .int .u8 25, .int .u8 17, .int .u8 4, .int .u8 8, .int .u8 31, .int .u8 27, .int .u8 13, .int .u8 23, .int .u8 21, .int .u8 19, .int .u8 16, .int .u8 7, .int .u8 26, .int .u8 12, .int .u8 18, .int .u8 6, .int .u8 11, .int .u8 5, .int .u8 10, .int .u8 9] t frozen
      | o => o).modify 5 fun
      | .cells _ t frozen => .cells #[.int .u8 0, .int .u8 1, .int .u8 56, .int .u8 2, .int .u8 57, .int .u8 49, .int .u8 28, .int .u8 3, .int .u8 61, .int .u8 58, .int .u8 42, .int .u8 50, .int .u8 38, .int .u8 29, .int .u8 17, .int .u8 4, .int .u8 62, .int .u8 47, .int .u8 59, .int .u8 36, .int .u8 45, .int .u8 43, .int .u8 51, .int .u8 22, .int .u8 53, .int .u8 39, .int .u8 33, .int .u8 30, .int .u8 24, .int .u8 18, .int .u8 12, .int .u8 5, .int .u8 63, .int .u8 55, .int .u8 48, .int .u8 27, .int .u8 60, .int .u8 41, .int .u8 37, .int .u8 16, .int .u8 46, .int .u8 35, .int .u8 44, .int .u8 21, .int .u8 52, .int .u8 32, .int .u8 23, .int .u8 11, .int .u8 54, .int .u8 26, .int .u8 40, .int .u8 15, .int .u8 34, .int .u8 20, .int .u8 31, .int .u8 10, .int .u8 25, .int .u8 14, .int .u8 19, .int .u8 9, .int .u8 13, .int .u8 8, .int .u8 7, .int .u8 6] t frozen
      | o => o).modify 1 fun
      | .cells _ t frozen => .cells #[.int .u64 1, .int .u64 10, .int .u64 100, .int .u64 1000, .int .u64 10000, .int .u64 100000, .int .u64 1000000, .int .u64 10000000, .int .u64 100000000, .int .u64 1000000000, .int .u64 10000000000, .int .u64 100000000000, .int .u64 1000000000000, .int .u64 10000000000000, .int .u64 100000000000000, .int .u64 1000000000000000, .int .u64 10000000000000000, .int .u64 100000000000000000, .int .u64 1000000000000000000, .int .u64 10000000000000000000] t frozen
      | o => o) }
theorem laidWorld_met (os : Os) (args : Array Value) : laidMetH Tryd.prog Rows.fnExactReportTextRow.laid ((laidWorld os).forCall (fun _ _ => 0) ⟨#[], args, []⟩).memory :=
  show laidMet Tryd.prog Rows.fnExactReportTextRow.laid _ from laidMet_of_run' 8 (by kernel_rfl) (by kernel_rfl)
theorem lifted (os : Os) (started : os.Started) (H : Type) (enc : TypeId × Value → H) :
    ReturnsInHanded {} Tryd.checked os 3 .any (fun w args => (Rows.fnExactReportTextSpec.pre enc Tryd.prog Tryd.f3 Rows.fnExactReportTextRow.domain false w args ∧ laidMetH Tryd.prog Rows.fnExactReportTextRow.laid w) ∧ sizedMet enc Tryd.prog Tryd.f3 (OpenSpec.ofChange Rows.fnExactReportTextSpec) false w args) (Rows.fnExactReportTextSpec.post enc Tryd.prog Tryd.f3 false true false false) := by
  refine returnsInHanded_of_change_and (C := Tryd.checked) (X := fun w _ => laidMetH Tryd.prog Rows.fnExactReportTextRow.laid w) (fun _ _ _ hh h => h.of_heap hh) own started (by kernel_rfl) Tryd.func3
    (ChangeSpec.witness_at (enc := enc) (C := Tryd.checked) (os := os) (X := fun w _ => laidMetH Tryd.prog Rows.fnExactReportTextRow.laid w) false (laidWorld os) #[.agg #[.slice none 0 0], .slice none 0 0, .agg #[.int .i64 0, .slice none 0 0, .slice none 0 0, .int .i64 0], .slice none 0 0] 8 rfl (by kernel_rfl) (by kernel_rfl) (by kernel_rfl) (by kernel_rfl) (by kernel_rfl) (laidWorld_met os _)) ?_
  intro W base args ds gs before hval0 hW hcnd _ hL _
  have hval : ∀ (j : Nat) t v, Tryd.f3.params[j]? = some t → args[j]? = some v → Value.okWide Tryd.prog W .any base t v := hval0
  have hW' := hW
  obtain ⟨p, q, hA0, hV, rfl, hfz, hnd⟩ := hW
  have hA : DataW.TrodAll enc Tryd.prog W 0 (fun _ => true) true Tryd.f3.params.toList args.toList ds p := hA0
  rw [Tryd.params3] at hA hval
  obtain ⟨v0, vs0, d0, ds0, p0, q0, hargs, rfl, rfl, h0, r0⟩ := trodAll_cons hA
  obtain ⟨v1, vs1, d1, ds1, p1, q1, rfl, rfl, rfl, h1, r1⟩ := trodAll_cons r0
  obtain ⟨v2, vs2, d2, ds2, p2, q2, rfl, rfl, rfl, h2, r2⟩ := trodAll_cons r1
  obtain ⟨v3, vs3, d3, ds3, p3, q3, rfl, rfl, rfl, h3, r3⟩ := trodAll_cons r2
  obtain ⟨rfl, rfl, rfl⟩ := trodAll_nil r3
  obtain rfl : args = #[v0, v1, v2, v3] := by cases args; simp_all
  obtain ⟨rfl, rfl⟩ := trodVars_none hV
  have lt0 : ∀ x ∈ p0, x.block < W.heap.size := by obtain ⟨m, hm⟩ := h0; exact DataW.trod_lt m _ _ _ hm
  obtain ⟨a0, b0, e0⟩ := opn24.arg h0 (vAgg_struct Tryd.underlying24 (hval 0 24 v0 rfl rfl))
  have lt1 : ∀ x ∈ p1, x.block < W.heap.size := by obtain ⟨m, hm⟩ := h1; exact DataW.trod_lt m _ _ _ hm
  obtain ⟨a1, b1, e1⟩ := opn25.arg h1 (vAgg_okWide Tryd.underlying25 (hval 1 25 v1 rfl rfl))
  have lt2 : ∀ x ∈ p2, x.block < W.heap.size := by obtain ⟨m, hm⟩ := h2; exact DataW.trod_lt m _ _ _ hm
  obtain ⟨a2, b2, e2⟩ := opn27.arg h2 (vAgg_struct Tryd.underlying27 (hval 2 27 v2 rfl rfl))
  have lt3 : ∀ x ∈ p3, x.block < W.heap.size := by obtain ⟨m, hm⟩ := h3; exact DataW.trod_lt m _ _ _ hm
  obtain ⟨a3, b3, e3⟩ := opn22.arg h3 (vAgg_okWide Tryd.underlying22 (hval 3 22 v3 rfl rfl))
  clear hA0 hval0
  have hcon := con_laws_FnExactReportText (law_ReportText a0 a1 a2 a3 b0 b1 b2 b3)
  refine (law_calls hcon (RepVs.one e0 (RepVs.one e1 (RepVs.one e2 (RepVs.one e3 RepVs.none)))) (tz_of hL)).mono fun e W' ⟨he, bel⟩ => ?_
  subst he
  exact ⟨_, rfl, _, _, _, [], _, [], hW', trodAll_mk1 (shut_bool Tryd.underlying4 _), (trodAll_cons_mk (Below.trod laidOut (by kernel_rfl) (of_decide_eq_true (by kernel_rfl)) h0 bel lt0) (trodAll_cons_mk (Below.trod laidOut (by kernel_rfl) (of_decide_eq_true (by kernel_rfl)) h1 bel lt1) (trodAll_cons_mk (Below.trod laidOut (by kernel_rfl) (of_decide_eq_true (by kernel_rfl)) h2 bel lt2) (trodAll_cons_mk (Below.trod laidOut (by kernel_rfl) (of_decide_eq_true (by kernel_rfl)) h3 bel lt3) trodAll_mk0)))), rfl, bel.frame _, fun h => by cases h⟩

theorem over : Rows.fnExactReportTextRow.holds Tryd.pinned (OpenSpec.ofChange Rows.fnExactReportTextSpec) :=
  OpenClaim.holds_of_wide 3 Tryd.f3 rfl rfl rfl rfl rfl rfl rfl ⟨rfl, rfl, rfl, rfl, rfl⟩ rfl rfl rfl rfl rfl (by kernel_rfl) Tryd.func3 (by kernel_rfl)
    (of_decide_eq_true (by kernel_rfl)) (by unfold Func.isWrapper; first | (rw [if_pos (by decide +kernel)]; kernel_rfl) | (rw [if_neg (by decide +kernel)]; exact ⟨rfl, rfl⟩))
    (fun os started H enc _ => lifted os started H enc)

/-- The statement. -/
theorem proved : Rows.FnExactReportTextCardSaid :=
  Claim7.holds_tied_plain_at .later [] [.data, .data, .data] true (true, "3ae9e9dac61cbf9fafe999728f5dd2a863954558821ee2d8aa12a6cc3b0fa1d1") false
    over (fun _ h => by cases h) (by kernel_rfl) (fun _ h => by cases h) fnExactReportText_row_tie rfl ⟨rfl, rfl⟩ (by kernel_rfl) rfl
    (fun f fn hf hfn => by
      obtain rfl : f = 3 := (Option.some.inj ((show Tryd.prog.funcNamed Rows.fnExactReportTextRow.func = some 3 by kernel_rfl).symm.trans hf)).symm
      obtain rfl : fn = Tryd.f3 := (Option.some.inj (Tryd.func3.symm.trans hfn)).symm
      refine ⟨by kernel_rfl, fun j t ht => ?_⟩
      have hall : Tryd.f3.params.all (fun t => !Tryd.prog.wantsStandIn t) = true := by kernel_rfl
      have := Array.all_eq_true_iff_forall_mem.1 hall t (Array.mem_of_getElem? ht)
      have h9 : Tryd.prog.wantsStandIn t = false := by simpa using this
      exact h9)
    (by kernel_rfl)
end Go.Proofs.YtpllepipjbiefaaDoor.fnExactReportText
