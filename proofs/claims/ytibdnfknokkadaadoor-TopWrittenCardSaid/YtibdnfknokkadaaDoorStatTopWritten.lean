/- TopWritten: the pure statement. Written by program. -/
import Derived.Test.YtibdnfknokkadaaDoorEcorbeltop_TopWritten
import Derived.Test.YtibdnfknokkadaaDoorEvOpen
namespace Go.Proofs.YtibdnfknokkadaaDoor.Ev
def TopWrittenPure : Prop := ∀ (x0 : Ty.den (.sl (.pair (.int .i64) (.pair (.int .i64) (.pair (.int .i64) (.int .i64)))))) (x1 : Ty.den (.int .i64)) (x2 : Ty.den (.int .i64)), Ty.wf (.sl (.pair (.int .i64) (.pair (.int .i64) (.pair (.int .i64) (.int .i64))))) x0 → Ty.wf (.int .i64) x1 → Ty.wf (.int .i64) x2 → ∃ k, corbeltop_TopWritten k x0.1 x0.2 x1 x2 = some true
end Go.Proofs.YtibdnfknokkadaaDoor.Ev
