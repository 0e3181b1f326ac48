/- LmapOrder: the pure statement. Written by program. -/
import Derived.Test.YtbaikphpohdmoaaEcorbellaw19_LmapOrder
import Derived.Test.YtbaikphpohdmoaaEvOpen
namespace Go.Proofs.Ytbaikphpohdmoaa.Ev
def LmapOrderPure : Prop := ∀ (x0 : Ty.den (.sl (.pair (.int .i64) (.pair (.int .i64) (.pair (.int .i64) (.sl (.int .i64))))))) (x1 : Ty.den (.int .i64)), Ty.wf (.sl (.pair (.int .i64) (.pair (.int .i64) (.pair (.int .i64) (.sl (.int .i64)))))) x0 → Ty.wf (.int .i64) x1 → ∃ k, corbellaw19_LmapOrder k x0.1 x0.2 x1 = some true
end Go.Proofs.Ytbaikphpohdmoaa.Ev
