/- BookFresh: the pure statement. Written by program. -/
import Derived.Test.YtbaikphpohdmoaaEcorbellaw10_BookFresh
import Derived.Test.YtbaikphpohdmoaaEvOpen
namespace Go.Proofs.Ytbaikphpohdmoaa.Ev
def BookFreshPure : Prop := ∀ (x0 : Ty.den (.pair (.int .i64) (.pair (.int .i64) (.pair (.int .i64) (.pair (.int .i64) (.int .i64)))))) (x1 : Ty.den (.sl (.int .i64))), Ty.wf (.pair (.int .i64) (.pair (.int .i64) (.pair (.int .i64) (.pair (.int .i64) (.int .i64))))) x0 → Ty.wf (.sl (.int .i64)) x1 → ∃ k, corbellaw10_BookFresh k x0.1 x0.2.1 x0.2.2.1 x0.2.2.2.1 x0.2.2.2.2 x1.1 x1.2 = some true
end Go.Proofs.Ytbaikphpohdmoaa.Ev
