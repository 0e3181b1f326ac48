/- TopWritten: the row, out of its pure statement and the evaluator's word; no conditions. Written by program. -/
import Derived.Test.YtibdnfknokkadaaDoorRows
import Derived.Test.YtibdnfknokkadaaDoorEvOpen
import Derived.Test.YtibdnfknokkadaaDoorEcorbeltop_TopWritten
import Derived.Test.YtibdnfknokkadaaDoorPureTopWritten
import Derived.Test.YtibdnfknokkadaaDoorTabs
import Derived.Test.YtibdnfknokkadaaDoorEvGl
import Derived.Test.YtibdnfknokkadaaDoorTie
import Derived.Test.YtibdnfknokkadaaDoorCards
import Derived.WalkKit
import Derived.ProofKit
import Derived.OpenShut
import Derived.ShutString
import Derived.ChangeOld
import Derived.Below
import Derived.SizedLaws
import Derived.LaidMore
import Derived.SevenTiedAt
namespace Go.Proofs.YtibdnfknokkadaaDoor.topWritten
open Go.ChangeShapes Go.WideShapes Go.ChangeAt Go.RowKit
open Go.ChangeMaps (open_string shut_string)
open Go.Proofs.YtibdnfknokkadaaDoor.Ev
set_option linter.unusedVariables false
theorem own : ownKnob Tryd.prog.godebug = none := by kernel_rfl
theorem laidOut : laidOutB Tryd.prog = true := by kernel_rfl
set_option maxRecDepth 100000 in
theorem lifted (os : Os) (started : os.Started) (H : Type) (enc : TypeId × Value → H) :
    ReturnsInHanded {} Tryd.checked os 3 .any (fun w args => (Rows.topWrittenSpec.pre enc Tryd.prog Tryd.f3 [] false w args ∧ laidMetH Tryd.prog Tabs.L w) ∧ sizedMet enc Tryd.prog Tryd.f3 (OpenSpec.ofChange Rows.topWrittenSpec) false w args) (Rows.topWrittenSpec.post enc Tryd.prog Tryd.f3 false true false false) := by
  refine returnsInHanded_of_change_and (C := Tryd.checked) (X := fun w _ => laidMetH Tryd.prog Tabs.L w) (fun _ _ _ hh h => h.of_heap hh) own started (by kernel_rfl) Tryd.func3
    (ChangeSpec.witness_shaped (enc := enc) (C := Tryd.checked) (os := os) (X := fun w _ => laidMetH Tryd.prog Tabs.L w) false (World.laidAll Tryd.prog os Tabs.L) #[.slice none 0 0, .int .i64 0, .int .i64 0] 8 (World.laidAll_os _ _ _) (World.shaped_of_ZipB (by kernel_rfl) (by kernel_rfl)) (by kernel_rfl) (by kernel_rfl) (by kernel_rfl) (Tabs.door_met os _)) ?_
  intro W base args ds gs before hval0 hW hcnd hsz0 hL _
  have HT := glr (Tabs.tab_of_laid hL)
  have hsz : (DataW.weightsEach Tryd.prog (Tryd.f3.params.toList ++ Rows.topWrittenSpec.plain.varTypes Tryd.prog) (ds ++ gs)).all (· ≤ reachBytes) = true := hsz0
  have hval : ∀ (j : Nat) t v, Tryd.f3.params[j]? = some t → args[j]? = some v → Value.okWide Tryd.prog W .any base t v := hval0
  have hW' := hW
  obtain ⟨p, q, hA0, hV, rfl, hfz, hnd⟩ := hW
  have hA : DataW.TrodAll enc Tryd.prog W 0 (fun _ => true) true Tryd.f3.params.toList args.toList ds p := hA0
  rw [Tryd.params3] at hA hval hsz
  obtain ⟨v0, vs0, d0, ds0, p0, q0, hargs, rfl, rfl, h0, r0⟩ := trodAll_cons hA
  obtain ⟨v1, vs1, d1, ds1, p1, q1, rfl, rfl, rfl, h1, r1⟩ := trodAll_cons r0
  obtain ⟨v2, vs2, d2, ds2, p2, q2, rfl, rfl, rfl, h2, r2⟩ := trodAll_cons r1
  obtain ⟨rfl, rfl, rfl⟩ := trodAll_nil r2
  obtain rfl : args = #[v0, v1, v2] := by cases args; simp_all
  obtain ⟨rfl, rfl⟩ := trodVars_none hV
  have kk0 := h0
  have lt0 := trod_places kk0
  obtain ⟨x0, R0, w0⟩ := open_cell_val (τ := (.sl (.pair (.int .i64) (.pair (.int .i64) (.pair (.int .i64) (.int .i64)))))) (cell_slice Tryd.underlying22 (hval 0 22 v0 rfl rfl)) (opn_slice (opn_struct Tryd.underlying31 (by kernel_rfl) (opnF_cons (opn_int Tryd.underlying3 (by kernel_rfl)) rfl (opnF_cons (opn_int Tryd.underlying3 (by kernel_rfl)) rfl (opnF_cons (opn_int Tryd.underlying3 (by kernel_rfl)) rfl (opnF_one (opn_int Tryd.underlying3 (by kernel_rfl)) rfl))))) Tryd.underlying22 (by kernel_rfl) (of_decide_eq_true (by kernel_rfl))) h0 (light hsz (j := 0) (t := 22) rfl rfl)
  have kk1 := h1
  have lt1 := trod_places kk1
  obtain ⟨x1, R1, w1⟩ := open_cell_val (τ := (.int .i64)) (cell_int Tryd.underlying3 (hval 1 3 v1 rfl rfl) h1) (opn_int Tryd.underlying3 (by kernel_rfl)) h1 (light hsz (j := 1) (t := 3) rfl rfl)
  have kk2 := h2
  have lt2 := trod_places kk2
  obtain ⟨x2, R2, w2⟩ := open_cell_val (τ := (.int .i64)) (cell_int Tryd.underlying3 (hval 2 3 v2 rfl rfl) h2) (opn_int Tryd.underlying3 (by kernel_rfl)) h2 (light hsz (j := 2) (t := 3) rfl rfl)
  clear hA0 hval0 hsz0 hsz
  obtain ⟨k, hk⟩ := Pure.TopWritten x0 x1 x2 w0 w1 w2
  refine (law_calls (p := corbeltop_TopWritten_p k) (corbeltop_TopWritten_ok k) rfl rfl (x := (x0, (x1, x2))) (y := true) hk HEq.rfl HT (vs := #[v0, v1, v2]) (args_cell R0 (args_cell R1 (args_cell1 R2)))).mono fun e W' ⟨he, bel⟩ => ?_
  subst he
  exact ⟨_, rfl, _, _, _, [], _, [], hW', trodAll_mk1 (shut_bool Tryd.underlying4 _), (trodAll_cons_mk (Below.trod laidOut (by kernel_rfl) (of_decide_eq_true (by kernel_rfl)) kk0 bel lt0) (trodAll_cons_mk (Below.trod laidOut (by kernel_rfl) (of_decide_eq_true (by kernel_rfl)) kk1 bel lt1) (trodAll_cons_mk (Below.trod laidOut (by kernel_rfl) (of_decide_eq_true (by kernel_rfl)) kk2 bel lt2) trodAll_mk0))), rfl, bel.frame _, fun h => by cases h⟩
theorem over : Rows.topWrittenRow.holds Tryd.pinned (OpenSpec.ofChange Rows.topWrittenSpec) :=
  OpenClaim.holds_of_wide 3 Tryd.f3 rfl rfl rfl rfl rfl rfl rfl ⟨rfl, rfl, rfl, rfl, rfl⟩ rfl rfl rfl rfl rfl (by kernel_rfl) Tryd.func3 (by kernel_rfl)
    (of_decide_eq_true (by kernel_rfl)) (by unfold Func.isWrapper; first | (rw [if_pos (by decide +kernel)]; kernel_rfl) | (rw [if_neg (by decide +kernel)]; exact ⟨rfl, rfl⟩))
    (fun os started H enc _ => lifted os started H enc)
theorem proved : Rows.TopWrittenCardSaid :=
  Claim7.holds_tied_plain_at .later [] [.data, .data, .pinned] true (true, "5d440f8ae0fac6e443ce4fcf9f0bf121737a319295d77e56b9baa588814b364a") false
    over (fun _ h => by cases h) (by kernel_rfl) (fun _ h => by cases h) topWritten_row_tie rfl ⟨rfl, rfl⟩ (by kernel_rfl) rfl
    (fun f fn hf hfn => by
      obtain rfl : f = 3 := Option.some.inj ((show Tryd.prog.funcNamed "corbel/corbeltop.TopWritten" = some 3 by kernel_rfl).symm.trans hf) |>.symm
      obtain rfl : fn = Tryd.f3 := (Option.some.inj (Tryd.func3.symm.trans hfn)).symm
      exact ⟨by kernel_rfl, fun j t ht => by
        rw [Tryd.params3] at ht
        have hm : t ∈ [22, 3, 3] := by simpa using Array.mem_of_getElem? ht
        have hall : ([22, 3, 3].all fun u => !Tryd.prog.wantsStandIn u) = true := by kernel_rfl
        exact (show Tryd.prog.wantsStandIn t = false by simpa using List.all_eq_true.1 hall t hm)⟩)
    (by kernel_rfl)
end Go.Proofs.YtibdnfknokkadaaDoor.topWritten
namespace Go.Proofs.YtibdnfknokkadaaDoor
/-- The row, under a short name, for the claim. -/
theorem topWritten_holds : Rows.TopWrittenCardSaid := topWritten.proved
end Go.Proofs.YtibdnfknokkadaaDoor
