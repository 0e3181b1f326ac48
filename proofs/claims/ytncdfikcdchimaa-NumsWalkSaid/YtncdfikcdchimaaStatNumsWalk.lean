/- NumsWalk: the pure statement. Written by program. -/
import Derived.Test.YtncdfikcdchimaaEcorbellaw01_NumsWalk
import Derived.Test.YtncdfikcdchimaaEvOpen
namespace Go.Proofs.Ytncdfikcdchimaa.Ev
def NumsWalkPure : Prop := ∀ (x0 : Ty.den (.sl (.int .i64))), Ty.wf (.sl (.int .i64)) x0 → ∃ k, corbellaw01_NumsWalk k x0.1 x0.2 = some true
end Go.Proofs.Ytncdfikcdchimaa.Ev
