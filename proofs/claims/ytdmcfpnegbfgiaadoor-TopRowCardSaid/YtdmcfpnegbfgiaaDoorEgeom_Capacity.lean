/- geom_Capacity, told on plain data. Written by program. -/
import Derived.Test.YtdmcfpnegbfgiaaDoorEgeom_Good
set_option linter.unusedVariables false
set_option maxRecDepth 1000000
namespace Go.Proofs.YtdmcfpnegbfgiaaDoor.Ev
open Go Go.RowKit Go.Proofs
def geom_Capacity (k : Nat) (ga_44 : Int) (gb_45 : Int) (gc_46 : Int) (gd_47 : Int) (ge_48 : Int) : Option Int :=
  optb (geom_Good k ga_44 gb_45 gc_46 gd_47 ge_48) fun r_50 =>
  bif (!r_50) then
    some (0 : Int)
  else some (wrap64 ((wrap64 (ga_44 - (1 : Int))) * gc_46))
def geom_Capacity_p (k : Nat) : PF := { ps := [(true, 5)], rs := [(false, 1)], τ := (.pair (.int .i64) (.pair (.int .i64) (.pair (.int .i64) (.pair (.int .i64) (.int .i64))))), σ := (.int .i64), f := fun x => geom_Capacity k x.1 x.2.1 x.2.2.1 x.2.2.2.1 x.2.2.2.2 }
def geom_Capacity_F (k : Nat) : PT := fcons 23 (geom_Good_p k) <| fnone
theorem geom_Capacity_fok (k : Nat) : FOK Tryd.prog tab (geom_Capacity_F k) := fok_cons (geom_Good_ok k) Tryd.call23 <| fok_none
def geom_Capacity_h : Hint := .no
def geom_Capacity_O {R : Type} (k : Nat) : CutK R := cutsO []
noncomputable def geom_Capacity_I {R : Type} (k : Nat) : InlT R := inone
theorem geom_Capacity_iok {R : Type} (k : Nat) : IOK Tryd.prog tab (geom_Capacity_F k) (geom_Capacity_I (R := R) k) := iok_none
theorem geom_Capacity_ev (k : Nat) (x : (geom_Capacity_p k).τ.den) : evalF tab (geom_Capacity_F k) (geom_Capacity_p k) (geom_Capacity_I k) 0 (geom_Capacity_O k) geom_Capacity_h Tryd.f14 x = (geom_Capacity_p k).f x := by kernel_rfl
theorem geom_Capacity_ok (k : Nat) : PFOK Tryd.prog tab 14 (geom_Capacity_p k) := pfok mixed tabOK (geom_Capacity_fok k) Tryd.func14 (I := geom_Capacity_I k) (d := 0) (geom_Capacity_iok k) (Q := geom_Capacity_O k) (hi := geom_Capacity_h) (cuts_of (l := []) (by kernel_rfl) trivial) (geom_Capacity_ev k)
end Go.Proofs.YtdmcfpnegbfgiaaDoor.Ev
