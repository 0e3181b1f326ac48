/- geom_Parity, told on plain data. Written by program. -/
import Derived.Test.YtdmcfpnegbfgiaaDoorEgeom_there
set_option linter.unusedVariables false
set_option maxRecDepth 1000000
namespace Go.Proofs.YtdmcfpnegbfgiaaDoor.Ev
open Go Go.RowKit Go.Proofs
def geom_Parity (k : Nat) (ga_172 : Int) (gb_173 : Int) (gc_174 : Int) (gd_175 : Int) (ge_176 : Int) (zone_177 : Int) (row_178 : Int) : Option Int :=
  optb (geom_there k ga_172 gb_173 gc_174 gd_175 ge_176 zone_177 row_178) fun r_180 =>
  bif (!r_180) then
    some (-1 : Int)
  else bif (decide (ga_172 = (0 : Int))) then
    none
  else some (Int.tmod (wrap64 (zone_177 + row_178)) ga_172)
def geom_Parity_p (k : Nat) : PF := { ps := [(true, 5), (false, 1), (false, 1)], rs := [(false, 1)], τ := (.pair (.pair (.int .i64) (.pair (.int .i64) (.pair (.int .i64) (.pair (.int .i64) (.int .i64))))) (.pair (.int .i64) (.int .i64))), σ := (.int .i64), f := fun x => geom_Parity k x.1.1 x.1.2.1 x.1.2.2.1 x.1.2.2.2.1 x.1.2.2.2.2 x.2.1 x.2.2 }
def geom_Parity_F (k : Nat) : PT := fcons 24 (geom_there_p k) <| fnone
theorem geom_Parity_fok (k : Nat) : FOK Tryd.prog tab (geom_Parity_F k) := fok_cons (geom_there_ok k) Tryd.call24 <| fok_none
def geom_Parity_h : Hint := .no
def geom_Parity_O {R : Type} (k : Nat) : CutK R := cutsO []
noncomputable def geom_Parity_I {R : Type} (k : Nat) : InlT R := inone
theorem geom_Parity_iok {R : Type} (k : Nat) : IOK Tryd.prog tab (geom_Parity_F k) (geom_Parity_I (R := R) k) := iok_none
theorem geom_Parity_ev (k : Nat) (x : (geom_Parity_p k).τ.den) : evalF tab (geom_Parity_F k) (geom_Parity_p k) (geom_Parity_I k) 0 (geom_Parity_O k) geom_Parity_h Tryd.f16 x = (geom_Parity_p k).f x := by kernel_rfl
theorem geom_Parity_ok (k : Nat) : PFOK Tryd.prog tab 16 (geom_Parity_p k) := pfok mixed tabOK (geom_Parity_fok k) Tryd.func16 (I := geom_Parity_I k) (d := 0) (geom_Parity_iok k) (Q := geom_Parity_O k) (hi := geom_Parity_h) (cuts_of (l := []) (by kernel_rfl) trivial) (geom_Parity_ev k)
end Go.Proofs.YtdmcfpnegbfgiaaDoor.Ev
