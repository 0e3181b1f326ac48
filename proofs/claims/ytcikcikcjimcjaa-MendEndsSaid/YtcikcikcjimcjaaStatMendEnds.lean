/- MendEnds: the pure statement. Written by program. -/
import Derived.Test.YtcikcikcjimcjaaEcorbellaw15_MendEnds
import Derived.Test.YtcikcikcjimcjaaEvOpen
namespace Go.Proofs.Ytcikcikcjimcjaa.Ev
def MendEndsPure : Prop := ∀ (x0 : Ty.den (.pair (.int .i64) (.pair (.int .i64) (.pair (.int .i64) (.pair (.int .i64) (.int .i64)))))) (x1 : Ty.den (.pair (.int .i64) (.pair (.int .i64) (.pair (.int .i64) (.int .i64))))) (x2 : Ty.den (.sl (.int .i64))), Ty.wf (.pair (.int .i64) (.pair (.int .i64) (.pair (.int .i64) (.pair (.int .i64) (.int .i64))))) x0 → Ty.wf (.pair (.int .i64) (.pair (.int .i64) (.pair (.int .i64) (.int .i64)))) x1 → Ty.wf (.sl (.int .i64)) x2 → ∃ k, corbellaw15_MendEnds k x0.1 x0.2.1 x0.2.2.1 x0.2.2.2.1 x0.2.2.2.2 x1.1 x1.2.1 x1.2.2.1 x1.2.2.2 x2.1 x2.2 = some true
end Go.Proofs.Ytcikcikcjimcjaa.Ev
