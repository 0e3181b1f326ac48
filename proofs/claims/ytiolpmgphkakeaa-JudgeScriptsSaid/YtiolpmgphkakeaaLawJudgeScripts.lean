/- JudgeScripts: the row, out of its pure statement and the evaluator's word; no conditions. Written by program. -/
import Derived.Test.YtiolpmgphkakeaaRows
import Derived.Test.YtiolpmgphkakeaaEvOpen
import Derived.Test.YtiolpmgphkakeaaEcorbellaw23_JudgeScripts
import Derived.Test.YtiolpmgphkakeaaPureJudgeScripts
namespace Go.Proofs.Ytiolpmgphkakeaa.judgeScripts
open Go.ChangeShapes Go.WideShapes Go.ChangeAt Go.RowKit
open Go.ChangeMaps (open_string shut_string)
open Go.Proofs.Ytiolpmgphkakeaa.Ev
set_option linter.unusedVariables false
theorem own : ownKnob Try.prog.godebug = none := by kernel_rfl
theorem laidOut : laidOutB Try.prog = true := by kernel_rfl
set_option maxRecDepth 100000 in
theorem lifted (os : Os) (started : os.Started) (H : Type) (enc : TypeId × Value → H) :
    ReturnsInHanded {} Try.checked os 5 .any (Rows.judgeScriptsSpec.pre6 enc Try.prog Try.f5 Rows.judgeScriptsRow.domain false) (Rows.judgeScriptsSpec.post enc Try.prog Try.f5 false true false false) := by
  refine returnsInHanded_of_change_sized (C := Try.checked) own started (by kernel_rfl) Try.func5
    (ChangeSpec.witness6 (enc := enc) (C := Try.checked) false ⟨#[], #[.int .i64 0, .slice none 0 0], []⟩ 8 (by kernel_rfl) (by kernel_rfl) (by kernel_rfl) (by kernel_rfl)) ?_
  intro W base args ds gs before hval0 hW hcnd hsz0 _
  have hsz : (DataW.weightsEach Try.prog (Try.f5.params.toList ++ Rows.judgeScriptsSpec.plain.varTypes Try.prog) (ds ++ gs)).all (· ≤ reachBytes) = true := hsz0
  have hval : ∀ (j : Nat) t v, Try.f5.params[j]? = some t → args[j]? = some v → Value.okWide Try.prog W .any base t v := hval0
  have hW' := hW
  obtain ⟨p, q, hA0, hV, rfl, hfz, hnd⟩ := hW
  have hA : DataW.TrodAll enc Try.prog W 0 (fun _ => true) true Try.f5.params.toList args.toList ds p := hA0
  rw [Try.params5] at hA hval hsz
  obtain ⟨v0, vs0, d0, ds0, p0, q0, hargs, rfl, rfl, h0, r0⟩ := trodAll_cons hA
  obtain ⟨v1, vs1, d1, ds1, p1, q1, rfl, rfl, rfl, h1, r1⟩ := trodAll_cons r0
  obtain ⟨rfl, rfl, rfl⟩ := trodAll_nil r1
  obtain rfl : args = #[v0, v1] := by cases args; simp_all
  obtain ⟨rfl, rfl⟩ := trodVars_none hV
  have kk0 := h0
  have lt0 := trod_places kk0
  obtain ⟨x0, R0, w0⟩ := open_cell_val (τ := (.int .i64)) (cell_int Try.underlying3 (hval 0 3 v0 rfl rfl) h0) (opn_int Try.underlying3 (by kernel_rfl)) h0 (light hsz (j := 0) (t := 3) rfl rfl)
  have kk1 := h1
  have lt1 := trod_places kk1
  obtain ⟨x1, R1, w1⟩ := open_cell_val (τ := (.sl (.pair (.int .i64) (.pair (.int .i64) (.pair (.int .i64) (.pair (.int .u8) .bool)))))) (cell_slice Try.underlying22 (hval 1 22 v1 rfl rfl)) (opn_slice (opn_struct Try.underlying29 (by kernel_rfl) (opnF_cons (opn_int Try.underlying3 (by kernel_rfl)) rfl (opnF_cons (opn_int Try.underlying3 (by kernel_rfl)) rfl (opnF_cons (opn_int Try.underlying3 (by kernel_rfl)) rfl (opnF_cons (opn_int Try.underlying5 (by kernel_rfl)) rfl (opnF_one (opn_bool Try.underlying4 (by kernel_rfl)) rfl)))))) Try.underlying22 (by kernel_rfl) (of_decide_eq_true (by kernel_rfl))) h1 (light hsz (j := 1) (t := 22) rfl rfl)
  clear hA0 hval0 hsz0 hsz
  obtain ⟨k, hk⟩ := Pure.JudgeScripts x0 x1 w0 w1
  refine (law_calls (p := corbellaw23_JudgeScripts_p k) (corbellaw23_JudgeScripts_ok k) rfl rfl (x := (x0, x1)) (y := true) hk HEq.rfl (fun g x h => by rw [tab_gl0] at h; cases h) (vs := #[v0, v1]) (args_cell R0 (args_cell1 R1))).mono fun e W' ⟨he, bel⟩ => ?_
  subst he
  exact ⟨_, rfl, _, _, _, [], _, [], hW', trodAll_mk1 (shut_bool Try.underlying4 _), (trodAll_cons_mk (Below.trod laidOut (by kernel_rfl) (of_decide_eq_true (by kernel_rfl)) kk0 bel lt0) (trodAll_cons_mk (Below.trod laidOut (by kernel_rfl) (of_decide_eq_true (by kernel_rfl)) kk1 bel lt1) trodAll_mk0)), rfl, bel.frame _, fun h => by cases h⟩
theorem over : Rows.judgeScriptsRow.holds Try.pinned (OpenSpec.ofChange Rows.judgeScriptsSpec) :=
  OpenClaim.holds_of_wide 5 Try.f5 rfl rfl rfl rfl rfl rfl rfl ⟨rfl, rfl, rfl, rfl, rfl⟩ rfl rfl rfl rfl rfl (by kernel_rfl) Try.func5 (by kernel_rfl)
    (of_decide_eq_true (by kernel_rfl)) (by unfold Func.isWrapper; first | (rw [if_pos (by decide +kernel)]; kernel_rfl) | (rw [if_neg (by decide +kernel)]; exact ⟨rfl, rfl⟩))
    (fun os started H enc _ => lifted os started H enc)
theorem proved : Rows.JudgeScriptsSaid := over
end Go.Proofs.Ytiolpmgphkakeaa.judgeScripts
namespace Go.Proofs.Ytiolpmgphkakeaa
/-- The row, under a short name, for the claim. -/
theorem judgeScripts_holds : Rows.JudgeScriptsSaid := judgeScripts.proved
end Go.Proofs.Ytiolpmgphkakeaa
