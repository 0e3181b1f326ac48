/- BookFresh: the row, out of its pure statement and the evaluator's word; no conditions. Written by program. -/
import Derived.Test.YtbaikphpohdmoaaRows
import Derived.Test.YtbaikphpohdmoaaEvOpen
import Derived.Test.YtbaikphpohdmoaaEcorbellaw10_BookFresh
import Derived.Test.YtbaikphpohdmoaaPureBookFresh
namespace Go.Proofs.Ytbaikphpohdmoaa.bookFresh
open Go.ChangeShapes Go.WideShapes Go.ChangeAt Go.RowKit
open Go.ChangeMaps (open_string shut_string)
open Go.Proofs.Ytbaikphpohdmoaa.Ev
set_option linter.unusedVariables false
theorem own : ownKnob Try.prog.godebug = none := by kernel_rfl
theorem laidOut : laidOutB Try.prog = true := by kernel_rfl
set_option maxRecDepth 100000 in
theorem lifted (os : Os) (started : os.Started) (H : Type) (enc : TypeId × Value → H) :
    ReturnsInHanded {} Try.checked os 9 .any (Rows.bookFreshSpec.pre6 enc Try.prog Try.f9 Rows.bookFreshRow.domain false) (Rows.bookFreshSpec.post enc Try.prog Try.f9 false true false false) := by
  refine returnsInHanded_of_change_sized (C := Try.checked) own started (by kernel_rfl) Try.func9
    (ChangeSpec.witness6 (enc := enc) (C := Try.checked) false ⟨#[], #[.agg #[.int .i64 0, .int .i64 0, .int .i64 0, .int .i64 0, .int .i64 0], .slice none 0 0], []⟩ 8 (by kernel_rfl) (by kernel_rfl) (by kernel_rfl) (by kernel_rfl)) ?_
  intro W base args ds gs before hval0 hW hcnd hsz0 _
  have hsz : (DataW.weightsEach Try.prog (Try.f9.params.toList ++ Rows.bookFreshSpec.plain.varTypes Try.prog) (ds ++ gs)).all (· ≤ reachBytes) = true := hsz0
  have hval : ∀ (j : Nat) t v, Try.f9.params[j]? = some t → args[j]? = some v → Value.okWide Try.prog W .any base t v := hval0
  have hW' := hW
  obtain ⟨p, q, hA0, hV, rfl, hfz, hnd⟩ := hW
  have hA : DataW.TrodAll enc Try.prog W 0 (fun _ => true) true Try.f9.params.toList args.toList ds p := hA0
  rw [Try.params9] at hA hval hsz
  obtain ⟨v0, vs0, d0, ds0, p0, q0, hargs, rfl, rfl, h0, r0⟩ := trodAll_cons hA
  obtain ⟨v1, vs1, d1, ds1, p1, q1, rfl, rfl, rfl, h1, r1⟩ := trodAll_cons r0
  obtain ⟨rfl, rfl, rfl⟩ := trodAll_nil r1
  obtain rfl : args = #[v0, v1] := by cases args; simp_all
  obtain ⟨rfl, rfl⟩ := trodVars_none hV
  have kk0 := h0
  have lt0 := trod_places kk0
  obtain ⟨cs0, x0, rfl, R0, w0⟩ := open_struct_val (τ := (.pair (.int .i64) (.pair (.int .i64) (.pair (.int .i64) (.pair (.int .i64) (.int .i64)))))) Try.underlying58 (opn_struct Try.underlying58 (by kernel_rfl) (opnF_cons (opn_int Try.underlying3 (by kernel_rfl)) rfl (opnF_cons (opn_int Try.underlying3 (by kernel_rfl)) rfl (opnF_cons (opn_int Try.underlying3 (by kernel_rfl)) rfl (opnF_cons (opn_int Try.underlying3 (by kernel_rfl)) rfl (opnF_one (opn_int Try.underlying3 (by kernel_rfl)) rfl)))))) (hval 0 58 v0 rfl rfl) h0 (light hsz (j := 0) (t := 58) rfl rfl)
  have kk1 := h1
  have lt1 := trod_places kk1
  obtain ⟨x1, R1, w1⟩ := open_cell_val (τ := (.sl (.int .i64))) (cell_slice Try.underlying45 (hval 1 45 v1 rfl rfl)) (opn_slice (opn_int Try.underlying3 (by kernel_rfl)) Try.underlying45 (by kernel_rfl) (of_decide_eq_true (by kernel_rfl))) h1 (light hsz (j := 1) (t := 45) rfl rfl)
  clear hA0 hval0 hsz0 hsz
  obtain ⟨k, hk⟩ := Pure.BookFresh x0 x1 w0 w1
  refine (law_calls (p := corbellaw10_BookFresh_p k) (corbellaw10_BookFresh_ok k) rfl rfl (x := (x0, x1)) (y := true) hk HEq.rfl (fun g x h => by rw [tab_gl0] at h; cases h) (vs := #[(.agg cs0), v1]) (args_agg rfl R0 (args_cell1 R1))).mono fun e W' ⟨he, bel⟩ => ?_
  subst he
  exact ⟨_, rfl, _, _, _, [], _, [], hW', trodAll_mk1 (shut_bool Try.underlying4 _), (trodAll_cons_mk (Below.trod laidOut (by kernel_rfl) (of_decide_eq_true (by kernel_rfl)) kk0 bel lt0) (trodAll_cons_mk (Below.trod laidOut (by kernel_rfl) (of_decide_eq_true (by kernel_rfl)) kk1 bel lt1) trodAll_mk0)), rfl, bel.frame _, fun h => by cases h⟩
theorem over : Rows.bookFreshRow.holds Try.pinned (OpenSpec.ofChange Rows.bookFreshSpec) :=
  OpenClaim.holds_of_wide 9 Try.f9 rfl rfl rfl rfl rfl rfl rfl ⟨rfl, rfl, rfl, rfl, rfl⟩ rfl rfl rfl rfl rfl (by kernel_rfl) Try.func9 (by kernel_rfl)
    (of_decide_eq_true (by kernel_rfl)) (by unfold Func.isWrapper; first | (rw [if_pos (by decide +kernel)]; kernel_rfl) | (rw [if_neg (by decide +kernel)]; exact ⟨rfl, rfl⟩))
    (fun os started H enc _ => lifted os started H enc)
theorem proved : Rows.BookFreshSaid := over
end Go.Proofs.Ytbaikphpohdmoaa.bookFresh
namespace Go.Proofs.Ytbaikphpohdmoaa
/-- The row, under a short name, for the claim. -/
theorem bookFresh_holds : Rows.BookFreshSaid := bookFresh.proved
end Go.Proofs.Ytbaikphpohdmoaa
