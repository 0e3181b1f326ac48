/- RebuildEnds: the pure statement. Written by program. -/
import Derived.Test.YthilffdaofaalaaEcorbellaw16_RebuildEnds
import Derived.Test.YthilffdaofaalaaEvOpen
namespace Go.Proofs.Ythilffdaofaalaa.Ev
def RebuildEndsPure : Prop := ∀ (x0 : Ty.den (.pair (.int .i64) (.pair (.int .i64) (.pair (.int .i64) (.pair (.int .i64) (.int .i64)))))) (x1 : Ty.den (.int .i64)) (x2 : Ty.den (.sl (.int .i64))), Ty.wf (.pair (.int .i64) (.pair (.int .i64) (.pair (.int .i64) (.pair (.int .i64) (.int .i64))))) x0 → Ty.wf (.int .i64) x1 → Ty.wf (.sl (.int .i64)) x2 → ∃ k, corbellaw16_RebuildEnds k x0.1 x0.2.1 x0.2.2.1 x0.2.2.2.1 x0.2.2.2.2 x1 x2.1 x2.2 = some true
end Go.Proofs.Ythilffdaofaalaa.Ev
