/- geom_Parity, told on plain data. Written by program. -/
import Derived.Test.YthilffdaofaalaaEgeom_there
set_option linter.unusedVariables false
set_option maxRecDepth 1000000
namespace Go.Proofs.Ythilffdaofaalaa.Ev
open Go Go.RowKit Go.Proofs
def geom_Parity (k : Nat) (ga_10541 : Int) (gb_10542 : Int) (gc_10543 : Int) (gd_10544 : Int) (ge_10545 : Int) (zone_10546 : Int) (row_10547 : Int) : Option Int :=
  optb (geom_there k ga_10541 gb_10542 gc_10543 gd_10544 ge_10545 zone_10546 row_10547) fun r_10559 =>
  bif (!r_10559) then
    some (-1 : Int)
  else bif (decide (ga_10541 = (0 : Int))) then
    none
  else some (Int.tmod (wrap64 (zone_10546 + row_10547)) ga_10541)
def geom_Parity_p (k : Nat) : PF := { ps := [(true, 5), (false, 1), (false, 1)], rs := [(false, 1)], τ := (.pair (.pair (.int .i64) (.pair (.int .i64) (.pair (.int .i64) (.pair (.int .i64) (.int .i64))))) (.pair (.int .i64) (.int .i64))), σ := (.int .i64), f := fun x => geom_Parity k x.1.1 x.1.2.1 x.1.2.2.1 x.1.2.2.2.1 x.1.2.2.2.2 x.2.1 x.2.2 }
def geom_Parity_F (k : Nat) : PT := fcons 57 (geom_there_p k) <| fnone
theorem geom_Parity_fok (k : Nat) : FOK Try.prog tab (geom_Parity_F k) := fok_cons (geom_there_ok k) Try.call57 <| fok_none
def geom_Parity_h : Hint := .no
def geom_Parity_O {R : Type} (k : Nat) : CutK R := cutsO []
noncomputable def geom_Parity_I {R : Type} (k : Nat) : InlT R := inone
theorem geom_Parity_iok {R : Type} (k : Nat) : IOK Try.prog tab (geom_Parity_F k) (geom_Parity_I (R := R) k) := iok_none
theorem geom_Parity_ev (k : Nat) (x : (geom_Parity_p k).τ.den) : evalF tab (geom_Parity_F k) (geom_Parity_p k) (geom_Parity_I k) 0 (geom_Parity_O k) geom_Parity_h Try.f53 x = (geom_Parity_p k).f x := by kernel_rfl
theorem geom_Parity_ok (k : Nat) : PFOK Try.prog tab 53 (geom_Parity_p k) := pfok mixed tabOK (geom_Parity_fok k) Try.func53 (I := geom_Parity_I k) (d := 0) (geom_Parity_iok k) (Q := geom_Parity_O k) (hi := geom_Parity_h) (cuts_of (l := []) (by kernel_rfl) trivial) (geom_Parity_ev k)
end Go.Proofs.Ythilffdaofaalaa.Ev
