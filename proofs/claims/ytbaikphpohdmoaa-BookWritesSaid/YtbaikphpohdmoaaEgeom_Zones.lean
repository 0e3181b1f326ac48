/- geom_Zones, told on plain data. Written by program. -/
import Derived.Test.YtbaikphpohdmoaaEgeom_Good
set_option linter.unusedVariables false
set_option maxRecDepth 1000000
namespace Go.Proofs.Ytbaikphpohdmoaa.Ev
open Go Go.RowKit Go.Proofs
def geom_Zones (k : Nat) (ga_13 : Int) (gb_14 : Int) (gc_15 : Int) (gd_16 : Int) (ge_17 : Int) : Option Int :=
  optb (geom_Good k ga_13 gb_14 gc_15 gd_16 ge_17) fun r_31 =>
  bif (!r_31) then
    some (0 : Int)
  else some (wrap64 ((wrap64 (gb_14 - (2 : Int))) - (1 : Int)))
def geom_Zones_p (k : Nat) : PF := { ps := [(true, 5)], rs := [(false, 1)], τ := (.pair (.int .i64) (.pair (.int .i64) (.pair (.int .i64) (.pair (.int .i64) (.int .i64))))), σ := (.int .i64), f := fun x => geom_Zones k x.1 x.2.1 x.2.2.1 x.2.2.2.1 x.2.2.2.2 }
def geom_Zones_F (k : Nat) : PT := fcons 37 (geom_Good_p k) <| fnone
theorem geom_Zones_fok (k : Nat) : FOK Try.prog tab (geom_Zones_F k) := fok_cons (geom_Good_ok k) Try.call37 <| fok_none
def geom_Zones_h : Hint := .no
def geom_Zones_O {R : Type} (k : Nat) : CutK R := cutsO []
noncomputable def geom_Zones_I {R : Type} (k : Nat) : InlT R := inone
theorem geom_Zones_iok {R : Type} (k : Nat) : IOK Try.prog tab (geom_Zones_F k) (geom_Zones_I (R := R) k) := iok_none
theorem geom_Zones_ev (k : Nat) (x : (geom_Zones_p k).τ.den) : evalF tab (geom_Zones_F k) (geom_Zones_p k) (geom_Zones_I k) 0 (geom_Zones_O k) geom_Zones_h Try.f42 x = (geom_Zones_p k).f x := by kernel_rfl
theorem geom_Zones_ok (k : Nat) : PFOK Try.prog tab 42 (geom_Zones_p k) := pfok mixed tabOK (geom_Zones_fok k) Try.func42 (I := geom_Zones_I k) (d := 0) (geom_Zones_iok k) (Q := geom_Zones_O k) (hi := geom_Zones_h) (cuts_of (l := []) (by kernel_rfl) trivial) (geom_Zones_ev k)
end Go.Proofs.Ytbaikphpohdmoaa.Ev
