/- geom_there, told on plain data. Written by program. -/
import Derived.Test.YtdmcfpnegbfgiaaDoorEgeom_Zones
import Derived.Test.YtdmcfpnegbfgiaaDoorEgeom_within
set_option linter.unusedVariables false
set_option maxRecDepth 1000000
namespace Go.Proofs.YtdmcfpnegbfgiaaDoor.Ev
open Go Go.RowKit Go.Proofs
def geom_there (k : Nat) (ga_14 : Int) (gb_15 : Int) (gc_16 : Int) (gd_17 : Int) (ge_18 : Int) (zone_19 : Int) (row_20 : Int) : Option Bool :=
  optb (geom_Zones k ga_14 gb_15 gc_16 gd_17 ge_18) fun r_41 =>
  optb (geom_within k zone_19 (0 : Int) (wrap64 (r_41 - (1 : Int)))) fun r_42 =>
  bif r_42 then
    optb (geom_within k row_20 (0 : Int) (wrap64 (gc_16 - (1 : Int)))) fun r_43 =>
    some r_43
  else some false
def geom_there_p (k : Nat) : PF := { ps := [(true, 5), (false, 1), (false, 1)], rs := [(false, 1)], τ := (.pair (.pair (.int .i64) (.pair (.int .i64) (.pair (.int .i64) (.pair (.int .i64) (.int .i64))))) (.pair (.int .i64) (.int .i64))), σ := .bool, f := fun x => geom_there k x.1.1 x.1.2.1 x.1.2.2.1 x.1.2.2.2.1 x.1.2.2.2.2 x.2.1 x.2.2 }
def geom_there_F (k : Nat) : PT := fcons 13 (geom_Zones_p k) <| fcons 25 (geom_within_p k) <| fnone
theorem geom_there_fok (k : Nat) : FOK Tryd.prog tab (geom_there_F k) := fok_cons (geom_Zones_ok k) Tryd.call13 <| fok_cons (geom_within_ok k) Tryd.call25 <| fok_none
def geom_there_h : Hint := .no
def geom_there_O {R : Type} (k : Nat) : CutK R := cutsO []
noncomputable def geom_there_I {R : Type} (k : Nat) : InlT R := inone
theorem geom_there_iok {R : Type} (k : Nat) : IOK Tryd.prog tab (geom_there_F k) (geom_there_I (R := R) k) := iok_none
theorem geom_there_ev (k : Nat) (x : (geom_there_p k).τ.den) : evalF tab (geom_there_F k) (geom_there_p k) (geom_there_I k) 0 (geom_there_O k) geom_there_h Tryd.f24 x = (geom_there_p k).f x := by kernel_rfl
theorem geom_there_ok (k : Nat) : PFOK Tryd.prog tab 24 (geom_there_p k) := pfok mixed tabOK (geom_there_fok k) Tryd.func24 (I := geom_there_I k) (d := 0) (geom_there_iok k) (Q := geom_there_O k) (hi := geom_there_h) (cuts_of (l := []) (by kernel_rfl) trivial) (geom_there_ev k)
end Go.Proofs.YtdmcfpnegbfgiaaDoor.Ev
