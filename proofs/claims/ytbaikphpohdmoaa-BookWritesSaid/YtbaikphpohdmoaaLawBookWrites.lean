/- BookWrites: the row, out of its pure statement and the evaluator's word; no conditions. Written by program. -/
import Derived.Test.YtbaikphpohdmoaaRows
import Derived.Test.YtbaikphpohdmoaaEvOpen
import Derived.Test.YtbaikphpohdmoaaEcorbellaw10_BookWrites
import Derived.Test.YtbaikphpohdmoaaPureBookWrites
namespace Go.Proofs.Ytbaikphpohdmoaa.bookWrites
open Go.ChangeShapes Go.WideShapes Go.ChangeAt Go.RowKit
open Go.ChangeMaps (open_string shut_string)
open Go.Proofs.Ytbaikphpohdmoaa.Ev
set_option linter.unusedVariables false
theorem own : ownKnob Try.prog.godebug = none := by kernel_rfl
theorem laidOut : laidOutB Try.prog = true := by kernel_rfl
set_option maxRecDepth 100000 in
theorem lifted (os : Os) (started : os.Started) (H : Type) (enc : TypeId × Value → H) :
    ReturnsInHanded {} Try.checked os 8 .any (Rows.bookWritesSpec.pre6 enc Try.prog Try.f8 Rows.bookWritesRow.domain false) (Rows.bookWritesSpec.post enc Try.prog Try.f8 false true false false) := by
  refine returnsInHanded_of_change_sized (C := Try.checked) own started (by kernel_rfl) Try.func8
    (ChangeSpec.witness6 (enc := enc) (C := Try.checked) false ⟨#[], #[.agg #[.int .i64 0, .int .i64 0, .int .i64 0, .int .i64 0, .int .i64 0], .slice none 0 0, .int .i64 0], []⟩ 8 (by kernel_rfl) (by kernel_rfl) (by kernel_rfl) (by kernel_rfl)) ?_
  intro W base args ds gs before hval0 hW hcnd hsz0 _
  have hsz : (DataW.weightsEach Try.prog (Try.f8.params.toList ++ Rows.bookWritesSpec.plain.varTypes Try.prog) (ds ++ gs)).all (· ≤ reachBytes) = true := hsz0
  have hval : ∀ (j : Nat) t v, Try.f8.params[j]? = some t → args[j]? = some v → Value.okWide Try.prog W .any base t v := hval0
  have hW' := hW
  obtain ⟨p, q, hA0, hV, rfl, hfz, hnd⟩ := hW
  have hA : DataW.TrodAll enc Try.prog W 0 (fun _ => true) true Try.f8.params.toList args.toList ds p := hA0
  rw [Try.params8] at hA hval hsz
  obtain ⟨v0, vs0, d0, ds0, p0, q0, hargs, rfl, rfl, h0, r0⟩ := trodAll_cons hA
  obtain ⟨v1, vs1, d1, ds1, p1, q1, rfl, rfl, rfl, h1, r1⟩ := trodAll_cons r0
  obtain ⟨v2, vs2, d2, ds2, p2, q2, rfl, rfl, rfl, h2, r2⟩ := trodAll_cons r1
  obtain ⟨rfl, rfl, rfl⟩ := trodAll_nil r2
  obtain rfl : args = #[v0, v1, v2] := by cases args; simp_all
  obtain ⟨rfl, rfl⟩ := trodVars_none hV
  have kk0 := h0
  have lt0 := trod_places kk0
  obtain ⟨cs0, x0, rfl, R0, w0⟩ := open_struct_val (τ := (.pair (.int .i64) (.pair (.int .i64) (.pair (.int .i64) (.pair (.int .i64) (.int .i64)))))) Try.underlying58 (opn_struct Try.underlying58 (by kernel_rfl) (opnF_cons (opn_int Try.underlying3 (by kernel_rfl)) rfl (opnF_cons (opn_int Try.underlying3 (by kernel_rfl)) rfl (opnF_cons (opn_int Try.underlying3 (by kernel_rfl)) rfl (opnF_cons (opn_int Try.underlying3 (by kernel_rfl)) rfl (opnF_one (opn_int Try.underlying3 (by kernel_rfl)) rfl)))))) (hval 0 58 v0 rfl rfl) h0 (light hsz (j := 0) (t := 58) rfl rfl)
  have kk1 := h1
  have lt1 := trod_places kk1
  obtain ⟨x1, R1, w1⟩ := open_cell_val (τ := (.sl (.sl (.pair (.int .i64) (.pair (.int .i64) (.pair (.int .i64) (.pair (.int .i64) (.pair (.int .i64) (.int .i64))))))))) (cell_slice Try.underlying59 (hval 1 59 v1 rfl rfl)) (opn_slice (opn_slice (opn_struct Try.underlying111 (by kernel_rfl) (opnF_cons (opn_int Try.underlying3 (by kernel_rfl)) rfl (opnF_cons (opn_int Try.underlying3 (by kernel_rfl)) rfl (opnF_cons (opn_int Try.underlying3 (by kernel_rfl)) rfl (opnF_cons (opn_int Try.underlying3 (by kernel_rfl)) rfl (opnF_cons (opn_int Try.underlying3 (by kernel_rfl)) rfl (opnF_one (opn_int Try.underlying3 (by kernel_rfl)) rfl))))))) Try.underlying109 (by kernel_rfl) (of_decide_eq_true (by kernel_rfl))) Try.underlying59 (by kernel_rfl) (of_decide_eq_true (by kernel_rfl))) h1 (light hsz (j := 1) (t := 59) rfl rfl)
  have kk2 := h2
  have lt2 := trod_places kk2
  obtain ⟨x2, R2, w2⟩ := open_cell_val (τ := (.int .i64)) (cell_int Try.underlying3 (hval 2 3 v2 rfl rfl) h2) (opn_int Try.underlying3 (by kernel_rfl)) h2 (light hsz (j := 2) (t := 3) rfl rfl)
  clear hA0 hval0 hsz0 hsz
  obtain ⟨k, hk⟩ := Pure.BookWrites x0 x1 x2 w0 w1 w2
  refine (law_calls (p := corbellaw10_BookWrites_p k) (corbellaw10_BookWrites_ok k) rfl rfl (x := (x0, (x1, x2))) (y := true) hk HEq.rfl (fun g x h => by rw [tab_gl0] at h; cases h) (vs := #[(.agg cs0), v1, v2]) (args_agg rfl R0 (args_cell R1 (args_cell1 R2)))).mono fun e W' ⟨he, bel⟩ => ?_
  subst he
  exact ⟨_, rfl, _, _, _, [], _, [], hW', trodAll_mk1 (shut_bool Try.underlying4 _), (trodAll_cons_mk (Below.trod laidOut (by kernel_rfl) (of_decide_eq_true (by kernel_rfl)) kk0 bel lt0) (trodAll_cons_mk (Below.trod laidOut (by kernel_rfl) (of_decide_eq_true (by kernel_rfl)) kk1 bel lt1) (trodAll_cons_mk (Below.trod laidOut (by kernel_rfl) (of_decide_eq_true (by kernel_rfl)) kk2 bel lt2) trodAll_mk0))), rfl, bel.frame _, fun h => by cases h⟩
theorem over : Rows.bookWritesRow.holds Try.pinned (OpenSpec.ofChange Rows.bookWritesSpec) :=
  OpenClaim.holds_of_wide 8 Try.f8 rfl rfl rfl rfl rfl rfl rfl ⟨rfl, rfl, rfl, rfl, rfl⟩ rfl rfl rfl rfl rfl (by kernel_rfl) Try.func8 (by kernel_rfl)
    (of_decide_eq_true (by kernel_rfl)) (by unfold Func.isWrapper; first | (rw [if_pos (by decide +kernel)]; kernel_rfl) | (rw [if_neg (by decide +kernel)]; exact ⟨rfl, rfl⟩))
    (fun os started H enc _ => lifted os started H enc)
theorem proved : Rows.BookWritesSaid := over
end Go.Proofs.Ytbaikphpohdmoaa.bookWrites
namespace Go.Proofs.Ytbaikphpohdmoaa
/-- The row, under a short name, for the claim. -/
theorem bookWrites_holds : Rows.BookWritesSaid := bookWrites.proved
end Go.Proofs.Ytbaikphpohdmoaa
