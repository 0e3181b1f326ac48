/- geom_within, told on plain data. Written by program. -/
import Derived.Test.YtbaikphpohdmoaaEtab
set_option linter.unusedVariables false
set_option maxRecDepth 1000000
namespace Go.Proofs.Ytbaikphpohdmoaa.Ev
open Go Go.RowKit Go.Proofs
def geom_within (k : Nat) (n_23 : Int) (least_24 : Int) (most_25 : Int) : Option Bool :=
  bif (decide (least_24 ≤ n_23)) then
    some (decide (n_23 ≤ most_25))
  else some false
def geom_within_p (k : Nat) : PF := { ps := [(false, 1), (false, 1), (false, 1)], rs := [(false, 1)], τ := (.pair (.int .i64) (.pair (.int .i64) (.int .i64))), σ := .bool, f := fun x => geom_within k x.1 x.2.1 x.2.2 }
def geom_within_F (k : Nat) : PT := fnone
theorem geom_within_fok (k : Nat) : FOK Try.prog tab (geom_within_F k) := fok_none
def geom_within_h : Hint := .no
def geom_within_O {R : Type} (k : Nat) : CutK R := cutsO []
noncomputable def geom_within_I {R : Type} (k : Nat) : InlT R := inone
theorem geom_within_iok {R : Type} (k : Nat) : IOK Try.prog tab (geom_within_F k) (geom_within_I (R := R) k) := iok_none
theorem geom_within_ev (k : Nat) (x : (geom_within_p k).τ.den) : evalF tab (geom_within_F k) (geom_within_p k) (geom_within_I k) 0 (geom_within_O k) geom_within_h Try.f50 x = (geom_within_p k).f x := by kernel_rfl
theorem geom_within_ok (k : Nat) : PFOK Try.prog tab 50 (geom_within_p k) := pfok mixed tabOK (geom_within_fok k) Try.func50 (I := geom_within_I k) (d := 0) (geom_within_iok k) (Q := geom_within_O k) (hi := geom_within_h) (cuts_of (l := []) (by kernel_rfl) trivial) (geom_within_ev k)
end Go.Proofs.Ytbaikphpohdmoaa.Ev
