/- geom_Good, told on plain data. Written by program. -/
import Derived.Test.YtdmcfpnegbfgiaaDoorEgeom_within
set_option linter.unusedVariables false
set_option maxRecDepth 1000000
namespace Go.Proofs.YtdmcfpnegbfgiaaDoor.Ev
open Go Go.RowKit Go.Proofs
def geom_Good (k : Nat) (ga_26 : Int) (gb_27 : Int) (gc_28 : Int) (gd_29 : Int) (ge_30 : Int) : Option Bool :=
  optb (geom_within k ga_26 (3 : Int) (16 : Int)) fun r_34 =>
  bif r_34 then
    optb (geom_within k gb_27 (5 : Int) (64 : Int)) fun r_35 =>
    bif r_35 then
      optb (geom_within k gc_28 (4 : Int) (256 : Int)) fun r_36 =>
      bif r_36 then
        optb (geom_within k gd_29 (1 : Int) ge_30) fun r_37 =>
        bif r_37 then
          some (decide (ge_30 ≤ gb_27))
        else some false
      else some false
    else some false
  else some false
def geom_Good_p (k : Nat) : PF := { ps := [(true, 5)], rs := [(false, 1)], τ := (.pair (.int .i64) (.pair (.int .i64) (.pair (.int .i64) (.pair (.int .i64) (.int .i64))))), σ := .bool, f := fun x => geom_Good k x.1 x.2.1 x.2.2.1 x.2.2.2.1 x.2.2.2.2 }
def geom_Good_F (k : Nat) : PT := fcons 25 (geom_within_p k) <| fnone
theorem geom_Good_fok (k : Nat) : FOK Tryd.prog tab (geom_Good_F k) := fok_cons (geom_within_ok k) Tryd.call25 <| fok_none
def geom_Good_h : Hint := .no
def geom_Good_O {R : Type} (k : Nat) : CutK R := cutsO []
noncomputable def geom_Good_I {R : Type} (k : Nat) : InlT R := inone
theorem geom_Good_iok {R : Type} (k : Nat) : IOK Tryd.prog tab (geom_Good_F k) (geom_Good_I (R := R) k) := iok_none
theorem geom_Good_ev (k : Nat) (x : (geom_Good_p k).τ.den) : evalF tab (geom_Good_F k) (geom_Good_p k) (geom_Good_I k) 0 (geom_Good_O k) geom_Good_h Tryd.f23 x = (geom_Good_p k).f x := by kernel_rfl
theorem geom_Good_ok (k : Nat) : PFOK Tryd.prog tab 23 (geom_Good_p k) := pfok mixed tabOK (geom_Good_fok k) Tryd.func23 (I := geom_Good_I k) (d := 0) (geom_Good_iok k) (Q := geom_Good_O k) (hi := geom_Good_h) (cuts_of (l := []) (by kernel_rfl) trivial) (geom_Good_ev k)
end Go.Proofs.YtdmcfpnegbfgiaaDoor.Ev
