/- TopRow: the row, out of its pure statement and the evaluator's word; no conditions. Written by program. -/
import Derived.Test.YtdmcfpnegbfgiaaDoorRows
import Derived.Test.YtdmcfpnegbfgiaaDoorEvOpen
import Derived.Test.YtdmcfpnegbfgiaaDoorEcorbeltop_TopRow
import Derived.Test.YtdmcfpnegbfgiaaDoorPureTopRow
import Derived.Test.YtdmcfpnegbfgiaaDoorTabs
import Derived.Test.YtdmcfpnegbfgiaaDoorEvGl
import Derived.Test.YtdmcfpnegbfgiaaDoorTie
import Derived.Test.YtdmcfpnegbfgiaaDoorCards
import Derived.WalkKit
import Derived.ProofKit
import Derived.OpenShut
import Derived.ShutString
import Derived.ChangeOld
import Derived.Below
import Derived.SizedLaws
import Derived.LaidMore
import Derived.SevenTiedAt
namespace Go.Proofs.YtdmcfpnegbfgiaaDoor.topRow
open Go.ChangeShapes Go.WideShapes Go.ChangeAt Go.RowKit
open Go.ChangeMaps (open_string shut_string)
open Go.Proofs.YtdmcfpnegbfgiaaDoor.Ev
set_option linter.unusedVariables false
theorem own : ownKnob Tryd.prog.godebug = none := by kernel_rfl
theorem laidOut : laidOutB Tryd.prog = true := by kernel_rfl
set_option maxRecDepth 100000 in
theorem lifted (os : Os) (started : os.Started) (H : Type) (enc : TypeId × Value → H) :
    ReturnsInHanded {} Tryd.checked os 5 .any (fun w args => (Rows.topRowSpec.pre enc Tryd.prog Tryd.f5 [] false w args ∧ laidMetH Tryd.prog Tabs.L w) ∧ sizedMet enc Tryd.prog Tryd.f5 (OpenSpec.ofChange Rows.topRowSpec) false w args) (Rows.topRowSpec.post enc Tryd.prog Tryd.f5 false true false false) := by
  refine returnsInHanded_of_change_and (C := Tryd.checked) (X := fun w _ => laidMetH Tryd.prog Tabs.L w) (fun _ _ _ hh h => h.of_heap hh) own started (by kernel_rfl) Tryd.func5
    (ChangeSpec.witness_shaped (enc := enc) (C := Tryd.checked) (os := os) (X := fun w _ => laidMetH Tryd.prog Tabs.L w) false (World.laidAll Tryd.prog os Tabs.L) #[.agg #[.int .i64 0, .int .i64 0, .int .i64 0], .agg #[.int .i64 0, .int .i64 0, .int .i64 0]] 8 (World.laidAll_os _ _ _) (World.shaped_of_ZipB (by kernel_rfl) (by kernel_rfl)) (by kernel_rfl) (by kernel_rfl) (by kernel_rfl) (Tabs.door_met os _)) ?_
  intro W base args ds gs before hval0 hW hcnd hsz0 hL _
  have HT := glr (Tabs.tab_of_laid hL)
  have hsz : (DataW.weightsEach Tryd.prog (Tryd.f5.params.toList ++ Rows.topRowSpec.plain.varTypes Tryd.prog) (ds ++ gs)).all (· ≤ reachBytes) = true := hsz0
  have hval : ∀ (j : Nat) t v, Tryd.f5.params[j]? = some t → args[j]? = some v → Value.okWide Tryd.prog W .any base t v := hval0
  have hW' := hW
  obtain ⟨p, q, hA0, hV, rfl, hfz, hnd⟩ := hW
  have hA : DataW.TrodAll enc Tryd.prog W 0 (fun _ => true) true Tryd.f5.params.toList args.toList ds p := hA0
  rw [Tryd.params5] at hA hval hsz
  obtain ⟨v0, vs0, d0, ds0, p0, q0, hargs, rfl, rfl, h0, r0⟩ := trodAll_cons hA
  obtain ⟨v1, vs1, d1, ds1, p1, q1, rfl, rfl, rfl, h1, r1⟩ := trodAll_cons r0
  obtain ⟨rfl, rfl, rfl⟩ := trodAll_nil r1
  obtain rfl : args = #[v0, v1] := by cases args; simp_all
  obtain ⟨rfl, rfl⟩ := trodVars_none hV
  have kk0 := h0
  have lt0 := trod_places kk0
  obtain ⟨cs0, x0, rfl, R0, w0⟩ := open_array_val (τ := (.pair (.int .i64) (.pair (.int .i64) (.int .i64)))) Tryd.underlying32 (opn_array Tryd.underlying32 (by kernel_rfl) (opnA_cons (opn_int Tryd.underlying3 (by kernel_rfl)) (opnA_cons (opn_int Tryd.underlying3 (by kernel_rfl)) (opnA_one (opn_int Tryd.underlying3 (by kernel_rfl)))))) (hval 0 32 v0 rfl rfl) h0 (light hsz (j := 0) (t := 32) rfl rfl)
  have kk1 := h1
  have lt1 := trod_places kk1
  obtain ⟨cs1, x1, rfl, R1, w1⟩ := open_array_val (τ := (.pair (.int .i64) (.pair (.int .i64) (.int .i64)))) Tryd.underlying32 (opn_array Tryd.underlying32 (by kernel_rfl) (opnA_cons (opn_int Tryd.underlying3 (by kernel_rfl)) (opnA_cons (opn_int Tryd.underlying3 (by kernel_rfl)) (opnA_one (opn_int Tryd.underlying3 (by kernel_rfl)))))) (hval 1 32 v1 rfl rfl) h1 (light hsz (j := 1) (t := 32) rfl rfl)
  clear hA0 hval0 hsz0 hsz
  obtain ⟨k, hk⟩ := Pure.TopRow x0 x1 w0 w1
  refine (law_calls (p := corbeltop_TopRow_p k) (corbeltop_TopRow_ok k) rfl rfl (x := (x0, x1)) (y := true) hk HEq.rfl HT (vs := #[(.agg cs0), (.agg cs1)]) (args_agg rfl R0 (args_agg1 rfl R1))).mono fun e W' ⟨he, bel⟩ => ?_
  subst he
  exact ⟨_, rfl, _, _, _, [], _, [], hW', trodAll_mk1 (shut_bool Tryd.underlying4 _), (trodAll_cons_mk (Below.trod laidOut (by kernel_rfl) (of_decide_eq_true (by kernel_rfl)) kk0 bel lt0) (trodAll_cons_mk (Below.trod laidOut (by kernel_rfl) (of_decide_eq_true (by kernel_rfl)) kk1 bel lt1) trodAll_mk0)), rfl, bel.frame _, fun h => by cases h⟩
theorem over : Rows.topRowRow.holds Tryd.pinned (OpenSpec.ofChange Rows.topRowSpec) :=
  OpenClaim.holds_of_wide 5 Tryd.f5 rfl rfl rfl rfl rfl rfl rfl ⟨rfl, rfl, rfl, rfl, rfl⟩ rfl rfl rfl rfl rfl (by kernel_rfl) Tryd.func5 (by kernel_rfl)
    (of_decide_eq_true (by kernel_rfl)) (by unfold Func.isWrapper; first | (rw [if_pos (by decide +kernel)]; kernel_rfl) | (rw [if_neg (by decide +kernel)]; exact ⟨rfl, rfl⟩))
    (fun os started H enc _ => lifted os started H enc)
theorem proved : Rows.TopRowCardSaid :=
  Claim7.holds_tied_plain_at .later [] [.data, .data, .pinned] true (true, "ddf2cba9caef7fe5939df1865a05518afa50f2bb2409613c3b8460d7b0fd89df") false
    over (fun _ h => by cases h) (by kernel_rfl) (fun _ h => by cases h) topRow_row_tie rfl ⟨rfl, rfl⟩ (by kernel_rfl) rfl
    (fun f fn hf hfn => by
      obtain rfl : f = 5 := Option.some.inj ((show Tryd.prog.funcNamed "corbel/corbeltop.TopRow" = some 5 by kernel_rfl).symm.trans hf) |>.symm
      obtain rfl : fn = Tryd.f5 := (Option.some.inj (Tryd.func5.symm.trans hfn)).symm
      exact ⟨by kernel_rfl, fun j t ht => by
        rw [Tryd.params5] at ht
        have hm : t ∈ [32, 32] := by simpa using Array.mem_of_getElem? ht
        have hall : ([32, 32].all fun u => !Tryd.prog.wantsStandIn u) = true := by kernel_rfl
        exact (show Tryd.prog.wantsStandIn t = false by simpa using List.all_eq_true.1 hall t hm)⟩)
    (by kernel_rfl)
end Go.Proofs.YtdmcfpnegbfgiaaDoor.topRow
namespace Go.Proofs.YtdmcfpnegbfgiaaDoor
/-- The row, under a short name, for the claim. -/
theorem topRow_holds : Rows.TopRowCardSaid := topRow.proved
end Go.Proofs.YtdmcfpnegbfgiaaDoor
