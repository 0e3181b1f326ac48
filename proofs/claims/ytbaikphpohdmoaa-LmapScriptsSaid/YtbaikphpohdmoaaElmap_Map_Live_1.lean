/- lmap_Map_Live_1, told on plain data. Written by program. -/
import Derived.Test.YtbaikphpohdmoaaEcmp_Compare
import Derived.Test.YtbaikphpohdmoaaEcmp_Or
set_option linter.unusedVariables false
set_option maxRecDepth 1000000
namespace Go.Proofs.Ytbaikphpohdmoaa.Ev
open Go Go.RowKit Go.Proofs
noncomputable def lmap_Map_Live_1 (k : Nat) (aa_16443 : Int) (ab_16444 : Int) (ac_16445 : Int) (ba_16446 : Int) (bb_16447 : Int) (bc_16448 : Int) : Option Int :=
  optb (cmp_Compare k ab_16444 bb_16447) fun r_16467 =>
  optb (cmp_Compare k ac_16445 bc_16448) fun r_16468 =>
  optb (cmp_Or k false ([r_16467, r_16468] : List Int)) fun r_16469 =>
  some r_16469
noncomputable def lmap_Map_Live_1_p (k : Nat) : PF := { ps := [(true, 3), (true, 3)], rs := [(false, 1)], τ := (.pair (.pair (.int .i64) (.pair (.int .i64) (.int .i64))) (.pair (.int .i64) (.pair (.int .i64) (.int .i64)))), σ := (.int .i64), f := fun x => lmap_Map_Live_1 k x.1.1 x.1.2.1 x.1.2.2 x.2.1 x.2.2.1 x.2.2.2 }
noncomputable def lmap_Map_Live_1_F (k : Nat) : PT := fcons 36 (cmp_Compare_p k) <| fcons 35 (cmp_Or_p k) <| fnone
theorem lmap_Map_Live_1_fok (k : Nat) : FOK Try.prog tab (lmap_Map_Live_1_F k) := fok_cons (cmp_Compare_ok k) Try.call36 <| fok_cons (cmp_Or_ok k) Try.call35 <| fok_none
noncomputable def lmap_Map_Live_1_h : Hint := .no
noncomputable def lmap_Map_Live_1_O {R : Type} (k : Nat) : CutK R := cutsO []
noncomputable def lmap_Map_Live_1_I {R : Type} (k : Nat) : InlT R := inone
theorem lmap_Map_Live_1_iok {R : Type} (k : Nat) : IOK Try.prog tab (lmap_Map_Live_1_F k) (lmap_Map_Live_1_I (R := R) k) := iok_none
theorem lmap_Map_Live_1_ev (k : Nat) (x : (lmap_Map_Live_1_p k).τ.den) : evalF tab (lmap_Map_Live_1_F k) (lmap_Map_Live_1_p k) (lmap_Map_Live_1_I k) 0 (lmap_Map_Live_1_O k) lmap_Map_Live_1_h Try.f34 x = (lmap_Map_Live_1_p k).f x := by kernel_rfl
theorem lmap_Map_Live_1_ok (k : Nat) : PFOK Try.prog tab 34 (lmap_Map_Live_1_p k) := pfok mixed tabOK (lmap_Map_Live_1_fok k) Try.func34 (I := lmap_Map_Live_1_I k) (d := 0) (lmap_Map_Live_1_iok k) (Q := lmap_Map_Live_1_O k) (hi := lmap_Map_Live_1_h) (cuts_of (l := []) (by kernel_rfl) trivial) (lmap_Map_Live_1_ev k)
end Go.Proofs.Ytbaikphpohdmoaa.Ev
