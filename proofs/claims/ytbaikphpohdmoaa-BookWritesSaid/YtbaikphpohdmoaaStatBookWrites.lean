/- BookWrites: the pure statement. Written by program. -/
import Derived.Test.YtbaikphpohdmoaaEcorbellaw10_BookWrites
import Derived.Test.YtbaikphpohdmoaaEvOpen
namespace Go.Proofs.Ytbaikphpohdmoaa.Ev
def BookWritesPure : Prop := ∀ (x0 : Ty.den (.pair (.int .i64) (.pair (.int .i64) (.pair (.int .i64) (.pair (.int .i64) (.int .i64)))))) (x1 : Ty.den (.sl (.sl (.pair (.int .i64) (.pair (.int .i64) (.pair (.int .i64) (.pair (.int .i64) (.pair (.int .i64) (.int .i64))))))))) (x2 : Ty.den (.int .i64)), Ty.wf (.pair (.int .i64) (.pair (.int .i64) (.pair (.int .i64) (.pair (.int .i64) (.int .i64))))) x0 → Ty.wf (.sl (.sl (.pair (.int .i64) (.pair (.int .i64) (.pair (.int .i64) (.pair (.int .i64) (.pair (.int .i64) (.int .i64)))))))) x1 → Ty.wf (.int .i64) x2 → ∃ k, corbellaw10_BookWrites k x0.1 x0.2.1 x0.2.2.1 x0.2.2.2.1 x0.2.2.2.2 x1.1 x1.2 x2 = some true
end Go.Proofs.Ytbaikphpohdmoaa.Ev
