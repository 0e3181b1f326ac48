/- PickTurned: the pure statement. Written by program. -/
import Derived.Test.YtcikcikcjimcjaaEcorbellaw20_PickTurned
import Derived.Test.YtcikcikcjimcjaaEvOpen
namespace Go.Proofs.Ytcikcikcjimcjaa.Ev
def PickTurnedPure : Prop := ∀ (x0 : Ty.den (.sl (.pair (.int .i64) (.pair (.int .i64) .bool)))) (x1 : Ty.den (.int .i64)), Ty.wf (.sl (.pair (.int .i64) (.pair (.int .i64) .bool))) x0 → Ty.wf (.int .i64) x1 → ∃ k, corbellaw20_PickTurned k x0.1 x0.2 x1 = some true
end Go.Proofs.Ytcikcikcjimcjaa.Ev
