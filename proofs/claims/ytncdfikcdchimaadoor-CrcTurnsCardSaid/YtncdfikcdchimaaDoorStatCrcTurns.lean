/- CrcTurns: the pure statement. Written by program. -/
import Derived.Test.YtncdfikcdchimaaDoorEcorbellaw02_CrcTurns
import Derived.Test.YtncdfikcdchimaaDoorEvOpen
namespace Go.Proofs.YtncdfikcdchimaaDoor.Ev
def CrcTurnsPure : Prop := ∀ (x0 : Ty.den .str) (x1 : Ty.den (.pair (.int .i64) (.int .i64))) (x2 : Ty.den (.int .u8)), Ty.wf .str x0 → Ty.wf (.pair (.int .i64) (.int .i64)) x1 → Ty.wf (.int .u8) x2 → ∃ k, corbellaw02_CrcTurns k x0 x1.1 x1.2 x2 = some true
end Go.Proofs.YtncdfikcdchimaaDoor.Ev
