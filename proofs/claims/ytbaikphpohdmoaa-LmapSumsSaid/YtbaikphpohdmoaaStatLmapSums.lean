/- LmapSums: the pure statement. Written by program. -/
import Derived.Test.YtbaikphpohdmoaaEcorbellaw19_LmapSums
import Derived.Test.YtbaikphpohdmoaaEvOpen
namespace Go.Proofs.Ytbaikphpohdmoaa.Ev
def LmapSumsPure : Prop := ∀ (x0 : Ty.den (.sl (.pair (.int .i64) (.pair (.int .i64) (.pair (.int .i64) (.sl (.int .i64))))))), Ty.wf (.sl (.pair (.int .i64) (.pair (.int .i64) (.pair (.int .i64) (.sl (.int .i64)))))) x0 → ∃ k, corbellaw19_LmapSums k x0.1 x0.2 = some true
end Go.Proofs.Ytbaikphpohdmoaa.Ev
