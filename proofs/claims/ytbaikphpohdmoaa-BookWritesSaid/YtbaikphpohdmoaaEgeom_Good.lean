/- geom_Good, told on plain data. Written by program. -/
import Derived.Test.YtbaikphpohdmoaaEgeom_within
set_option linter.unusedVariables false
set_option maxRecDepth 1000000
namespace Go.Proofs.Ytbaikphpohdmoaa.Ev
open Go Go.RowKit Go.Proofs
def geom_Good (k : Nat) (ga_18 : Int) (gb_19 : Int) (gc_20 : Int) (gd_21 : Int) (ge_22 : Int) : Option Bool :=
  optb (geom_within k ga_18 (3 : Int) (16 : Int)) fun r_26 =>
  bif r_26 then
    optb (geom_within k gb_19 (5 : Int) (64 : Int)) fun r_27 =>
    bif r_27 then
      optb (geom_within k gc_20 (4 : Int) (256 : Int)) fun r_28 =>
      bif r_28 then
        optb (geom_within k gd_21 (1 : Int) ge_22) fun r_29 =>
        bif r_29 then
          some (decide (ge_22 ≤ gb_19))
        else some false
      else some false
    else some false
  else some false
def geom_Good_p (k : Nat) : PF := { ps := [(true, 5)], rs := [(false, 1)], τ := (.pair (.int .i64) (.pair (.int .i64) (.pair (.int .i64) (.pair (.int .i64) (.int .i64))))), σ := .bool, f := fun x => geom_Good k x.1 x.2.1 x.2.2.1 x.2.2.2.1 x.2.2.2.2 }
def geom_Good_F (k : Nat) : PT := fcons 50 (geom_within_p k) <| fnone
theorem geom_Good_fok (k : Nat) : FOK Try.prog tab (geom_Good_F k) := fok_cons (geom_within_ok k) Try.call50 <| fok_none
def geom_Good_h : Hint := .no
def geom_Good_O {R : Type} (k : Nat) : CutK R := cutsO []
noncomputable def geom_Good_I {R : Type} (k : Nat) : InlT R := inone
theorem geom_Good_iok {R : Type} (k : Nat) : IOK Try.prog tab (geom_Good_F k) (geom_Good_I (R := R) k) := iok_none
theorem geom_Good_ev (k : Nat) (x : (geom_Good_p k).τ.den) : evalF tab (geom_Good_F k) (geom_Good_p k) (geom_Good_I k) 0 (geom_Good_O k) geom_Good_h Try.f37 x = (geom_Good_p k).f x := by kernel_rfl
theorem geom_Good_ok (k : Nat) : PFOK Try.prog tab 37 (geom_Good_p k) := pfok mixed tabOK (geom_Good_fok k) Try.func37 (I := geom_Good_I k) (d := 0) (geom_Good_iok k) (Q := geom_Good_O k) (hi := geom_Good_h) (cuts_of (l := []) (by kernel_rfl) trivial) (geom_Good_ev k)
end Go.Proofs.Ytbaikphpohdmoaa.Ev
