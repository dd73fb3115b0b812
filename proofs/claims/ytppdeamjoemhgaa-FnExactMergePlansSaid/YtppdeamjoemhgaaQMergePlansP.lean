/- The law FnExactMergePlans: for every input the call returns true, and each argument reads behind the call as it read before. No condition. -/
import Derived.Test.YtppdeamjoemhgaaRows
import Derived.Test.YtppdeamjoemhgaaQMergePlansL3
import Derived.Test.YtppdeamjoemhgaaQMergePlansM0
namespace Go.Proofs.Ytppdeamjoemhgaa.fnExactMergePlans
open Go.ChangeShapes Go.WideShapes Go.ChangeAt Go.RowKit AS AS.W
set_option linter.unusedVariables false
set_option linter.unusedSimpArgs false
set_option maxRecDepth 100000
theorem own : ownKnob Try.prog.godebug = none := by kernel_rfl
theorem laidOut : laidOutB Try.prog = true := by kernel_rfl
theorem opn3 : Opn Try.prog 3 cI := opn_int Try.underlying3 (by kernel_rfl) (by kernel_rfl)
theorem opn22 : Opn Try.prog 22 (cLs cI rfl) := opn_slice Try.underlying22 opn3 rfl (by kernel_rfl) (Nat.lt_of_lt_of_le Nat.zero_lt_one (Nat.le_of_ble_eq_true (by kernel_rfl))) (by kernel_rfl)
theorem opn24 : Opn Try.prog 24 (cXGeo (cLs cI rfl)) := OpnP.imp (opn_struct Try.underlying24 (tot := 1) (by kernel_rfl) (.cons (sz := 1) rfl (by kernel_rfl) opn22 (.nil _))) fun d h => by
  obtain ⟨ds, rfl, h⟩ := h
  cases h with | cons h0 h =>
  obtain ⟨a0, b0, rfl⟩ := h0
  cases h
  exact ⟨⟨a0⟩, b0, rfl⟩
theorem opn9 : Opn Try.prog 9 cS := opn_str Try.underlying9 (by kernel_rfl)
theorem opn48 : Opn Try.prog 48 (cXVariable cS cI) := OpnP.imp (opn_struct Try.underlying48 (tot := 2) (by kernel_rfl) (.cons (sz := 1) rfl (by kernel_rfl) opn9 (.cons (sz := 1) rfl (by kernel_rfl) opn3 (.nil _)))) fun d h => by
  obtain ⟨ds, rfl, h⟩ := h
  cases h with | cons h0 h =>
  obtain ⟨a0, b0, rfl⟩ := h0
  cases h with | cons h1 h =>
  obtain ⟨a1, b1, rfl⟩ := h1
  cases h
  exact ⟨⟨a0, a1⟩, ⟨b0, b1⟩, rfl⟩
theorem opn25 : Opn Try.prog 25 (cLs (cXVariable cS cI) rfl) := opn_slice Try.underlying25 opn48 rfl (by kernel_rfl) (Nat.lt_of_lt_of_le Nat.zero_lt_one (Nat.le_of_ble_eq_true (by kernel_rfl))) (by kernel_rfl)
theorem opn51 : Opn Try.prog 51 (cXTable cI (cLs cI rfl) (cLs cI rfl) cI) := OpnP.imp (opn_struct Try.underlying51 (tot := 4) (by kernel_rfl) (.cons (sz := 1) rfl (by kernel_rfl) opn3 (.cons (sz := 1) rfl (by kernel_rfl) opn22 (.cons (sz := 1) rfl (by kernel_rfl) opn22 (.cons (sz := 1) rfl (by kernel_rfl) opn3 (.nil _)))))) fun d h => by
  obtain ⟨ds, rfl, h⟩ := h
  cases h with | cons h0 h =>
  obtain ⟨a0, b0, rfl⟩ := h0
  cases h with | cons h1 h =>
  obtain ⟨a1, b1, rfl⟩ := h1
  cases h with | cons h2 h =>
  obtain ⟨a2, b2, rfl⟩ := h2
  cases h with | cons h3 h =>
  obtain ⟨a3, b3, rfl⟩ := h3
  cases h
  exact ⟨⟨a0, a1, a2, a3⟩, ⟨b0, b1, b2, b3⟩, rfl⟩
theorem opn26 : Opn Try.prog 26 (cLs (cXTable cI (cLs cI rfl) (cLs cI rfl) cI) rfl) := opn_slice Try.underlying26 opn51 rfl (by kernel_rfl) (Nat.lt_of_lt_of_le Nat.zero_lt_one (Nat.le_of_ble_eq_true (by kernel_rfl))) (by kernel_rfl)
theorem lifted (os : Os) (started : os.Started) (H : Type) (enc : TypeId × Value → H) :
    ReturnsInHanded {} Try.checked os 3 .any (Rows.fnExactMergePlansSpec.pre6 enc Try.prog Try.f3 Rows.fnExactMergePlansRow.domain false) (Rows.fnExactMergePlansSpec.post enc Try.prog Try.f3 false true false false) := by
  refine returnsInHanded_of_change (C := Try.checked) own started (by kernel_rfl) Try.func3
    (ChangeSpec.witness6 (enc := enc) (C := Try.checked) false ⟨#[], #[.agg #[.slice none 0 0], .slice none 0 0, .slice none 0 0, .slice none 0 0], []⟩ 8 (by kernel_rfl) (by kernel_rfl) (by kernel_rfl) (by kernel_rfl)) ?_
  intro W base args ds gs before hval0 hW hcnd _
  have hval : ∀ (j : Nat) t v, Try.f3.params[j]? = some t → args[j]? = some v → Value.okWide Try.prog W .any base t v := hval0
  have hW' := hW
  obtain ⟨p, q, hA0, hV, rfl, hfz, hnd⟩ := hW
  have hA : DataW.TrodAll enc Try.prog W 0 (fun _ => true) true Try.f3.params.toList args.toList ds p := hA0
  rw [Try.params3] at hA hval
  obtain ⟨v0, vs0, d0, ds0, p0, q0, hargs, rfl, rfl, h0, r0⟩ := trodAll_cons hA
  obtain ⟨v1, vs1, d1, ds1, p1, q1, rfl, rfl, rfl, h1, r1⟩ := trodAll_cons r0
  obtain ⟨v2, vs2, d2, ds2, p2, q2, rfl, rfl, rfl, h2, r2⟩ := trodAll_cons r1
  obtain ⟨v3, vs3, d3, ds3, p3, q3, rfl, rfl, rfl, h3, r3⟩ := trodAll_cons r2
  obtain ⟨rfl, rfl, rfl⟩ := trodAll_nil r3
  obtain rfl : args = #[v0, v1, v2, v3] := by cases args; simp_all
  obtain ⟨rfl, rfl⟩ := trodVars_none hV
  have lt0 : ∀ x ∈ p0, x.block < W.heap.size := by obtain ⟨m, hm⟩ := h0; exact DataW.trod_lt m _ _ _ hm
  obtain ⟨a0, b0, e0⟩ := opn24.arg h0 (vAgg_struct Try.underlying24 (hval 0 24 v0 rfl rfl))
  have lt1 : ∀ x ∈ p1, x.block < W.heap.size := by obtain ⟨m, hm⟩ := h1; exact DataW.trod_lt m _ _ _ hm
  obtain ⟨a1, b1, e1⟩ := opn25.arg h1 (vAgg_okWide Try.underlying25 (hval 1 25 v1 rfl rfl))
  have lt2 : ∀ x ∈ p2, x.block < W.heap.size := by obtain ⟨m, hm⟩ := h2; exact DataW.trod_lt m _ _ _ hm
  obtain ⟨a2, b2, e2⟩ := opn26.arg h2 (vAgg_okWide Try.underlying26 (hval 2 26 v2 rfl rfl))
  have lt3 : ∀ x ∈ p3, x.block < W.heap.size := by obtain ⟨m, hm⟩ := h3; exact DataW.trod_lt m _ _ _ hm
  obtain ⟨a3, b3, e3⟩ := opn26.arg h3 (vAgg_okWide Try.underlying26 (hval 3 26 v3 rfl rfl))
  clear hA0 hval0
  have hcon := con_laws_FnExactMergePlans (law_MergePlans a0 a1 a2 a3 b0 b1 b2 b3)
  refine (law_calls hcon (RepVs.one e0 (RepVs.one e1 (RepVs.one e2 (RepVs.one e3 RepVs.none))))).mono fun e W' ⟨he, bel⟩ => ?_
  subst he
  exact ⟨_, rfl, _, _, _, [], _, [], hW', trodAll_mk1 (shut_bool Try.underlying4 _), (trodAll_cons_mk (Below.trod laidOut (by kernel_rfl) (of_decide_eq_true (by kernel_rfl)) h0 bel lt0) (trodAll_cons_mk (Below.trod laidOut (by kernel_rfl) (of_decide_eq_true (by kernel_rfl)) h1 bel lt1) (trodAll_cons_mk (Below.trod laidOut (by kernel_rfl) (of_decide_eq_true (by kernel_rfl)) h2 bel lt2) (trodAll_cons_mk (Below.trod laidOut (by kernel_rfl) (of_decide_eq_true (by kernel_rfl)) h3 bel lt3) trodAll_mk0)))), rfl, bel.frame _, fun h => by cases h⟩

theorem over : Rows.fnExactMergePlansRow.holds Try.pinned (OpenSpec.ofChange Rows.fnExactMergePlansSpec) :=
  OpenClaim.holds_of_wide 3 Try.f3 rfl rfl rfl rfl rfl rfl rfl ⟨rfl, rfl, rfl, rfl, rfl⟩ rfl rfl rfl rfl rfl (by kernel_rfl) Try.func3 (by kernel_rfl)
    (of_decide_eq_true (by kernel_rfl)) (by unfold Func.isWrapper; first | (rw [if_pos (by decide +kernel)]; kernel_rfl) | (rw [if_neg (by decide +kernel)]; exact ⟨rfl, rfl⟩))
    (fun os started H enc _ => lifted os started H enc)

/-- The statement. -/
theorem proved : Rows.FnExactMergePlansSaid := over
end Go.Proofs.Ytppdeamjoemhgaa.fnExactMergePlans
