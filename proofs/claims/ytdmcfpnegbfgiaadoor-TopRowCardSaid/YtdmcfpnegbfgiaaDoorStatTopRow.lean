/- TopRow: the pure statement. Written by program. -/
import Derived.Test.YtdmcfpnegbfgiaaDoorEcorbeltop_TopRow
import Derived.Test.YtdmcfpnegbfgiaaDoorEvOpen
namespace Go.Proofs.YtdmcfpnegbfgiaaDoor.Ev
def TopRowPure : Prop := ∀ (x0 : Ty.den (.pair (.int .i64) (.pair (.int .i64) (.int .i64)))) (x1 : Ty.den (.pair (.int .i64) (.pair (.int .i64) (.int .i64)))), Ty.wf (.pair (.int .i64) (.pair (.int .i64) (.int .i64))) x0 → Ty.wf (.pair (.int .i64) (.pair (.int .i64) (.int .i64))) x1 → ∃ k, corbeltop_TopRow k x0.1 x0.2.1 x0.2.2 x1.1 x1.2.1 x1.2.2 = some true
end Go.Proofs.YtdmcfpnegbfgiaaDoor.Ev
