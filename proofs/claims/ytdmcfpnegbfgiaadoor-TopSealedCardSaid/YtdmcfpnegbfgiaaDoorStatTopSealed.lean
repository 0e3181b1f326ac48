/- TopSealed: the pure statement. Written by program. -/
import Derived.Test.YtdmcfpnegbfgiaaDoorEcorbeltop_TopSealed
import Derived.Test.YtdmcfpnegbfgiaaDoorEvOpen
namespace Go.Proofs.YtdmcfpnegbfgiaaDoor.Ev
def TopSealedPure : Prop := ∀ (x0 : Ty.den (.sl (.int .i64))) (x1 : Ty.den (.int .i64)) (x2 : Ty.den (.int .u8)), Ty.wf (.sl (.int .i64)) x0 → Ty.wf (.int .i64) x1 → Ty.wf (.int .u8) x2 → ∃ k, corbeltop_TopSealed k x0.1 x0.2 x1 x2 = some true
end Go.Proofs.YtdmcfpnegbfgiaaDoor.Ev
