/- LmapNil: the pure statement. Written by program. -/
import Derived.Test.YtbaikphpohdmoaaEcorbellaw19_LmapNil
import Derived.Test.YtbaikphpohdmoaaEvOpen
namespace Go.Proofs.Ytbaikphpohdmoaa.Ev
def LmapNilPure : Prop := ∀ (x0 : Ty.den (.int .i64)) (x1 : Ty.den (.int .i64)), Ty.wf (.int .i64) x0 → Ty.wf (.int .i64) x1 → ∃ k, corbellaw19_LmapNil k x0 x1 = some true
end Go.Proofs.Ytbaikphpohdmoaa.Ev
