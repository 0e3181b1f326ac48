/- corbeltop_shape, told on plain data. Written by program. -/
import Derived.Test.YtdmcfpnegbfgiaaDoorEtab
set_option linter.unusedVariables false
set_option maxRecDepth 1000000
namespace Go.Proofs.YtdmcfpnegbfgiaaDoor.Ev
open Go Go.RowKit Go.Proofs
def corbeltop_shape (k : Nat) (xa_1163 : Int) (xb_1164 : Int) (xc_1165 : Int) : Option (Int × (Int × (Int × (Int × Int)))) :=
  some ((wrap64 ((3 : Int) + (bitop .and .i64 xa_1163 (7 : Int)))), ((wrap64 ((6 : Int) + (bitop .and .i64 xb_1164 (7 : Int)))), ((wrap64 ((4 : Int) + (bitop .and .i64 xc_1165 (31 : Int)))), ((2 : Int), (4 : Int)))))
def corbeltop_shape_p (k : Nat) : PF := { ps := [(true, 3)], rs := [(true, 5)], τ := (.pair (.int .i64) (.pair (.int .i64) (.int .i64))), σ := (.pair (.int .i64) (.pair (.int .i64) (.pair (.int .i64) (.pair (.int .i64) (.int .i64))))), f := fun x => corbeltop_shape k x.1 x.2.1 x.2.2 }
def corbeltop_shape_F (k : Nat) : PT := fnone
theorem corbeltop_shape_fok (k : Nat) : FOK Tryd.prog tab (corbeltop_shape_F k) := fok_none
def corbeltop_shape_h : Hint := .no
def corbeltop_shape_O {R : Type} (k : Nat) : CutK R := cutsO []
noncomputable def corbeltop_shape_I {R : Type} (k : Nat) : InlT R := inone
theorem corbeltop_shape_iok {R : Type} (k : Nat) : IOK Tryd.prog tab (corbeltop_shape_F k) (corbeltop_shape_I (R := R) k) := iok_none
theorem corbeltop_shape_ev (k : Nat) (x : (corbeltop_shape_p k).τ.den) : evalF tab (corbeltop_shape_F k) (corbeltop_shape_p k) (corbeltop_shape_I k) 0 (corbeltop_shape_O k) corbeltop_shape_h Tryd.f12 x = (corbeltop_shape_p k).f x := by kernel_rfl
theorem corbeltop_shape_ok (k : Nat) : PFOK Tryd.prog tab 12 (corbeltop_shape_p k) := pfok mixed tabOK (corbeltop_shape_fok k) Tryd.func12 (I := corbeltop_shape_I k) (d := 0) (corbeltop_shape_iok k) (Q := corbeltop_shape_O k) (hi := corbeltop_shape_h) (cuts_of (l := []) (by kernel_rfl) trivial) (corbeltop_shape_ev k)
end Go.Proofs.YtdmcfpnegbfgiaaDoor.Ev
