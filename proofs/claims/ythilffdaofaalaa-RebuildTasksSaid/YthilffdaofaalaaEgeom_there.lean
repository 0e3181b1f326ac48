/- geom_there, told on plain data. Written by program. -/
import Derived.Test.YthilffdaofaalaaEgeom_Zones
import Derived.Test.YthilffdaofaalaaEgeom_within
set_option linter.unusedVariables false
set_option maxRecDepth 1000000
namespace Go.Proofs.Ythilffdaofaalaa.Ev
open Go Go.RowKit Go.Proofs
def geom_there (k : Nat) (ga_10548 : Int) (gb_10549 : Int) (gc_10550 : Int) (gd_10551 : Int) (ge_10552 : Int) (zone_10553 : Int) (row_10554 : Int) : Option Bool :=
  optb (geom_Zones k ga_10548 gb_10549 gc_10550 gd_10551 ge_10552) fun r_10555 =>
  optb (geom_within k zone_10553 (0 : Int) (wrap64 (r_10555 - (1 : Int)))) fun r_10556 =>
  bif r_10556 then
    optb (geom_within k row_10554 (0 : Int) (wrap64 (gc_10550 - (1 : Int)))) fun r_10557 =>
    some r_10557
  else some false
def geom_there_p (k : Nat) : PF := { ps := [(true, 5), (false, 1), (false, 1)], rs := [(false, 1)], τ := (.pair (.pair (.int .i64) (.pair (.int .i64) (.pair (.int .i64) (.pair (.int .i64) (.int .i64))))) (.pair (.int .i64) (.int .i64))), σ := .bool, f := fun x => geom_there k x.1.1 x.1.2.1 x.1.2.2.1 x.1.2.2.2.1 x.1.2.2.2.2 x.2.1 x.2.2 }
def geom_there_F (k : Nat) : PT := fcons 23 (geom_Zones_p k) <| fcons 58 (geom_within_p k) <| fnone
theorem geom_there_fok (k : Nat) : FOK Try.prog tab (geom_there_F k) := fok_cons (geom_Zones_ok k) Try.call23 <| fok_cons (geom_within_ok k) Try.call58 <| fok_none
def geom_there_h : Hint := .no
def geom_there_O {R : Type} (k : Nat) : CutK R := cutsO []
noncomputable def geom_there_I {R : Type} (k : Nat) : InlT R := inone
theorem geom_there_iok {R : Type} (k : Nat) : IOK Try.prog tab (geom_there_F k) (geom_there_I (R := R) k) := iok_none
theorem geom_there_ev (k : Nat) (x : (geom_there_p k).τ.den) : evalF tab (geom_there_F k) (geom_there_p k) (geom_there_I k) 0 (geom_there_O k) geom_there_h Try.f57 x = (geom_there_p k).f x := by kernel_rfl
theorem geom_there_ok (k : Nat) : PFOK Try.prog tab 57 (geom_there_p k) := pfok mixed tabOK (geom_there_fok k) Try.func57 (I := geom_there_I k) (d := 0) (geom_there_iok k) (Q := geom_there_O k) (hi := geom_there_h) (cuts_of (l := []) (by kernel_rfl) trivial) (geom_there_ev k)
end Go.Proofs.Ythilffdaofaalaa.Ev
