/- NumsWidth: the pure statement. Written by program. -/
import Derived.Test.YtncdfikcdchimaaEcorbellaw01_NumsWidth
import Derived.Test.YtncdfikcdchimaaEvOpen
namespace Go.Proofs.Ytncdfikcdchimaa.Ev
def NumsWidthPure : Prop := ∀ (x0 : Ty.den (.int .i64)) (x1 : Ty.den (.int .i64)), Ty.wf (.int .i64) x0 → Ty.wf (.int .i64) x1 → ∃ k, corbellaw01_NumsWidth k x0 x1 = some true
end Go.Proofs.Ytncdfikcdchimaa.Ev
