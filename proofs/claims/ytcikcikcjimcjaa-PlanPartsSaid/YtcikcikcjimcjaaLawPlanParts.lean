/- PlanParts: the row, out of its pure statement and the printed walk; no conditions. -/
import Derived.Test.YtcikcikcjimcjaaRows
import Derived.Test.YtcikcikcjimcjaaPPlanPartsx6
import Derived.Test.YtcikcikcjimcjaaStatPlanParts
import Derived.Test.YtcikcikcjimcjaaPurePlanParts
import Derived.Test.YtcikcikcjimcjaaOpen
import Derived.WalkKit
import Derived.ProofKit
import Derived.OpenShut
import Derived.ShutString
import Derived.ChangeOld
import Derived.Below
import Derived.SizedLaws
namespace Go.Proofs.Ytcikcikcjimcjaa.planParts
open Go.ChangeShapes Go.WideShapes Go.ChangeAt Go.RowKit
open Go.ChangeMaps (open_string shut_string)
open Go.Proofs.Ytcikcikcjimcjaa.Open Go.Proofs.Ytcikcikcjimcjaa.PPlanParts Go.Proofs.YtcikcikcjimcjaaW.PrintWords
set_option linter.unusedVariables false
theorem own : ownKnob Try.prog.godebug = none := by kernel_rfl
theorem laidOut : laidOutB Try.prog = true := by kernel_rfl
set_option maxRecDepth 100000 in
theorem lifted (os : Os) (started : os.Started) (H : Type) (enc : TypeId × Value → H) :
    ReturnsInHanded {} Try.checked os 5 .any (Rows.planPartsSpec.pre6 enc Try.prog Try.f5 Rows.planPartsRow.domain false) (Rows.planPartsSpec.post enc Try.prog Try.f5 false true false false) := by
  refine returnsInHanded_of_change_sized (C := Try.checked) own started (by kernel_rfl) Try.func5
    (ChangeSpec.witness6 (enc := enc) (C := Try.checked) false ⟨#[], #[.agg #[.int .i64 0, .int .i64 0, .int .i64 0, .int .i64 0, .int .i64 0], .int .i64 0, .agg #[.int .i64 0, .int .i64 0, .int .i64 0]], []⟩ 8 (by kernel_rfl) (by kernel_rfl) (by kernel_rfl) (by kernel_rfl)) ?_
  intro W base args ds gs before hval0 hW hcnd hsz0 _
  have hsz : (DataW.weightsEach Try.prog (Try.f5.params.toList ++ Rows.planPartsSpec.plain.varTypes Try.prog) (ds ++ gs)).all (· ≤ reachBytes) = true := hsz0
  have hval : ∀ (j : Nat) t v, Try.f5.params[j]? = some t → args[j]? = some v → Value.okWide Try.prog W .any base t v := hval0
  have hW' := hW
  obtain ⟨p, q, hA0, hV, rfl, hfz, hnd⟩ := hW
  have hA : DataW.TrodAll enc Try.prog W 0 (fun _ => true) true Try.f5.params.toList args.toList ds p := hA0
  rw [Try.params5] at hA hval hsz
  obtain ⟨v0, vs0, d0, ds0, p0, q0, hargs, rfl, rfl, h0, r0⟩ := trodAll_cons hA
  obtain ⟨v1, vs1, d1, ds1, p1, q1, rfl, rfl, rfl, h1, r1⟩ := trodAll_cons r0
  obtain ⟨v2, vs2, d2, ds2, p2, q2, rfl, rfl, rfl, h2, r2⟩ := trodAll_cons r1
  obtain ⟨rfl, rfl, rfl⟩ := trodAll_nil r2
  obtain rfl : args = #[v0, v1, v2] := by cases args; simp_all
  obtain ⟨rfl, rfl⟩ := trodVars_none hV
  have kk0 := h0
  have lt0 := trod_places kk0
  obtain ⟨cs0, x0, rfl, K0, wf0⟩ := open_struct_val (d := (Kd.pair (Kd.int .i64) (Kd.pair (Kd.int .i64) (Kd.pair (Kd.int .i64) (Kd.pair (Kd.int .i64) (Kd.int .i64)))))) Try.underlying23 (by kernel_rfl) (opnF_cons (opn_int Try.underlying3 (by kernel_rfl)) rfl (opnF_cons (opn_int Try.underlying3 (by kernel_rfl)) rfl (opnF_cons (opn_int Try.underlying3 (by kernel_rfl)) rfl (opnF_cons (opn_int Try.underlying3 (by kernel_rfl)) rfl (opnF_one (opn_int Try.underlying3 (by kernel_rfl)) rfl))))) (hval 0 23 v0 rfl rfl) h0 (light hsz (j := 0) (t := 23) rfl rfl)
  obtain ⟨a0_0, a0_1, a0_2, a0_3, a0_4⟩ := x0
  obtain ⟨_, _, e0, rfl, ⟨_, _, rfl, rfl, ⟨_, _, rfl, rfl, ⟨_, _, rfl, rfl, rfl⟩⟩⟩⟩ := K0
  obtain rfl := arr_eq (show cs0.toList = [.int .i64 a0_0, .int .i64 a0_1, .int .i64 a0_2, .int .i64 a0_3, .int .i64 a0_4] from e0)
  obtain ⟨w0_0, w0_1, w0_2, w0_3, w0_4⟩ := wf0
  have kk1 := h1
  have lt1 := trod_places kk1
  obtain ⟨a1, rfl, rfl, rfl, w1⟩ := open_int Try.underlying3 (hval 1 3 v1 rfl rfl) h1
  have kk2 := h2
  have lt2 := trod_places kk2
  obtain ⟨cs2, x2, rfl, K2, wf2⟩ := open_array_val (d := (Kd.pair (Kd.int .i64) (Kd.pair (Kd.int .i64) (Kd.int .i64)))) Try.underlying39 (by kernel_rfl) (opnA_cons (opn_int Try.underlying3 (by kernel_rfl)) (opnA_cons (opn_int Try.underlying3 (by kernel_rfl)) (opnA_one (opn_int Try.underlying3 (by kernel_rfl))))) (hval 2 39 v2 rfl rfl) h2 (light hsz (j := 2) (t := 39) rfl rfl)
  obtain ⟨a2_0, a2_1, a2_2⟩ := x2
  obtain ⟨_, _, e2, rfl, ⟨_, _, rfl, rfl, rfl⟩⟩ := K2
  obtain rfl := arr_eq (show cs2.toList = [.int .i64 a2_0, .int .i64 a2_1, .int .i64 a2_2] from e2)
  obtain ⟨w2_0, w2_1, w2_2⟩ := wf2
  clear hA0 hval0 hsz0 hsz
  obtain ⟨k, hk⟩ := Pure.PlanParts a0_0 a0_1 a0_2 a0_3 a0_4 a1 a2_0 a2_1 a2_2 w0_0 w0_1 w0_2 w0_3 w0_4 w1 w2_0 w2_1 w2_2
  refine (corbellaw13_PlanParts.calls k a0_0 a0_1 a0_2 a0_3 a0_4 a1 a2_0 a2_1 a2_2 true W hk).mono fun e W' ⟨he, bel⟩ => ?_
  subst he
  exact ⟨_, rfl, _, _, _, [], _, [], hW', trodAll_mk1 (shut_bool Try.underlying4 _), (trodAll_cons_mk (Below.trod laidOut (by kernel_rfl) (of_decide_eq_true (by kernel_rfl)) kk0 bel lt0) (trodAll_cons_mk (Below.trod laidOut (by kernel_rfl) (of_decide_eq_true (by kernel_rfl)) kk1 bel lt1) (trodAll_cons_mk (Below.trod laidOut (by kernel_rfl) (of_decide_eq_true (by kernel_rfl)) kk2 bel lt2) trodAll_mk0))), rfl, bel.frame _, fun h => by cases h⟩
theorem over : Rows.planPartsRow.holds Try.pinned (OpenSpec.ofChange Rows.planPartsSpec) :=
  OpenClaim.holds_of_wide 5 Try.f5 rfl rfl rfl rfl rfl rfl rfl ⟨rfl, rfl, rfl, rfl, rfl⟩ rfl rfl rfl rfl rfl (by kernel_rfl) Try.func5 (by kernel_rfl)
    (of_decide_eq_true (by kernel_rfl)) (by unfold Func.isWrapper; first | (rw [if_pos (by decide +kernel)]; kernel_rfl) | (rw [if_neg (by decide +kernel)]; exact ⟨rfl, rfl⟩))
    (fun os started H enc _ => lifted os started H enc)
theorem proved : Rows.PlanPartsSaid := over
end Go.Proofs.Ytcikcikcjimcjaa.planParts
namespace Go.Proofs.Ytcikcikcjimcjaa
/-- The row, under a short name, for the claim. -/
theorem planParts_holds : Rows.PlanPartsSaid := planParts.proved
end Go.Proofs.Ytcikcikcjimcjaa
