/- CrcTells: the pure statement. Written by program. -/
import Derived.Test.YtncdfikcdchimaaDoorEcorbellaw02_CrcTells
import Derived.Test.YtncdfikcdchimaaDoorEvOpen
namespace Go.Proofs.YtncdfikcdchimaaDoor.Ev
def CrcTellsPure : Prop := ∀ (x0 : Ty.den .str) (x1 : Ty.den (.int .i64)) (x2 : Ty.den (.pair (.int .u8) (.pair (.int .u8) (.pair (.int .u8) (.int .u8))))), Ty.wf .str x0 → Ty.wf (.int .i64) x1 → Ty.wf (.pair (.int .u8) (.pair (.int .u8) (.pair (.int .u8) (.int .u8)))) x2 → ∃ k, corbellaw02_CrcTells k x0 x1 x2.1 x2.2.1 x2.2.2.1 x2.2.2.2 = some true
end Go.Proofs.YtncdfikcdchimaaDoor.Ev
