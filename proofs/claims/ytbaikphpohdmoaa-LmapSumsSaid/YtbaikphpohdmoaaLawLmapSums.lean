/- LmapSums: the row, out of its pure statement and the evaluator's word; no conditions. Written by program. -/
import Derived.Test.YtbaikphpohdmoaaRows
import Derived.Test.YtbaikphpohdmoaaEvOpen
import Derived.Test.YtbaikphpohdmoaaEcorbellaw19_LmapSums
import Derived.Test.YtbaikphpohdmoaaPureLmapSums
namespace Go.Proofs.Ytbaikphpohdmoaa.lmapSums
open Go.ChangeShapes Go.WideShapes Go.ChangeAt Go.RowKit
open Go.ChangeMaps (open_string shut_string)
open Go.Proofs.Ytbaikphpohdmoaa.Ev
set_option linter.unusedVariables false
theorem own : ownKnob Try.prog.godebug = none := by kernel_rfl
theorem laidOut : laidOutB Try.prog = true := by kernel_rfl
set_option maxRecDepth 100000 in
theorem lifted (os : Os) (started : os.Started) (H : Type) (enc : TypeId × Value → H) :
    ReturnsInHanded {} Try.checked os 6 .any (Rows.lmapSumsSpec.pre6 enc Try.prog Try.f6 Rows.lmapSumsRow.domain false) (Rows.lmapSumsSpec.post enc Try.prog Try.f6 false true false false) := by
  refine returnsInHanded_of_change_sized (C := Try.checked) own started (by kernel_rfl) Try.func6
    (ChangeSpec.witness6 (enc := enc) (C := Try.checked) false ⟨#[], #[.slice none 0 0], []⟩ 8 (by kernel_rfl) (by kernel_rfl) (by kernel_rfl) (by kernel_rfl)) ?_
  intro W base args ds gs before hval0 hW hcnd hsz0 _
  have hsz : (DataW.weightsEach Try.prog (Try.f6.params.toList ++ Rows.lmapSumsSpec.plain.varTypes Try.prog) (ds ++ gs)).all (· ≤ reachBytes) = true := hsz0
  have hval : ∀ (j : Nat) t v, Try.f6.params[j]? = some t → args[j]? = some v → Value.okWide Try.prog W .any base t v := hval0
  have hW' := hW
  obtain ⟨p, q, hA0, hV, rfl, hfz, hnd⟩ := hW
  have hA : DataW.TrodAll enc Try.prog W 0 (fun _ => true) true Try.f6.params.toList args.toList ds p := hA0
  rw [Try.params6] at hA hval hsz
  obtain ⟨v0, vs0, d0, ds0, p0, q0, hargs, rfl, rfl, h0, r0⟩ := trodAll_cons hA
  obtain ⟨rfl, rfl, rfl⟩ := trodAll_nil r0
  obtain rfl : args = #[v0] := by cases args; simp_all
  obtain ⟨rfl, rfl⟩ := trodVars_none hV
  have kk0 := h0
  have lt0 := trod_places kk0
  obtain ⟨x0, R0, w0⟩ := open_cell_val (τ := (.sl (.pair (.int .i64) (.pair (.int .i64) (.pair (.int .i64) (.sl (.int .i64))))))) (cell_slice Try.underlying22 (hval 0 22 v0 rfl rfl)) (opn_slice (opn_struct Try.underlying99 (by kernel_rfl) (opnF_cons (opn_int Try.underlying3 (by kernel_rfl)) rfl (opnF_cons (opn_int Try.underlying3 (by kernel_rfl)) rfl (opnF_cons (opn_int Try.underlying3 (by kernel_rfl)) rfl (opnF_one (opn_slice (opn_int Try.underlying3 (by kernel_rfl)) Try.underlying45 (by kernel_rfl) (of_decide_eq_true (by kernel_rfl))) rfl))))) Try.underlying22 (by kernel_rfl) (of_decide_eq_true (by kernel_rfl))) h0 (light hsz (j := 0) (t := 22) rfl rfl)
  clear hA0 hval0 hsz0 hsz
  obtain ⟨k, hk⟩ := Pure.LmapSums x0 w0
  refine (law_calls (p := corbellaw19_LmapSums_p k) (corbellaw19_LmapSums_ok k) rfl rfl (x := x0) (y := true) hk HEq.rfl (fun g x h => by rw [tab_gl0] at h; cases h) (vs := #[v0]) (args_cell1 R0)).mono fun e W' ⟨he, bel⟩ => ?_
  subst he
  exact ⟨_, rfl, _, _, _, [], _, [], hW', trodAll_mk1 (shut_bool Try.underlying4 _), (trodAll_cons_mk (Below.trod laidOut (by kernel_rfl) (of_decide_eq_true (by kernel_rfl)) kk0 bel lt0) trodAll_mk0), rfl, bel.frame _, fun h => by cases h⟩
theorem over : Rows.lmapSumsRow.holds Try.pinned (OpenSpec.ofChange Rows.lmapSumsSpec) :=
  OpenClaim.holds_of_wide 6 Try.f6 rfl rfl rfl rfl rfl rfl rfl ⟨rfl, rfl, rfl, rfl, rfl⟩ rfl rfl rfl rfl rfl (by kernel_rfl) Try.func6 (by kernel_rfl)
    (of_decide_eq_true (by kernel_rfl)) (by unfold Func.isWrapper; first | (rw [if_pos (by decide +kernel)]; kernel_rfl) | (rw [if_neg (by decide +kernel)]; exact ⟨rfl, rfl⟩))
    (fun os started H enc _ => lifted os started H enc)
theorem proved : Rows.LmapSumsSaid := over
end Go.Proofs.Ytbaikphpohdmoaa.lmapSums
namespace Go.Proofs.Ytbaikphpohdmoaa
/-- The row, under a short name, for the claim. -/
theorem lmapSums_holds : Rows.LmapSumsSaid := lmapSums.proved
end Go.Proofs.Ytbaikphpohdmoaa
