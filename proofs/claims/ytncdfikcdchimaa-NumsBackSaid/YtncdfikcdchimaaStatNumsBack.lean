/- NumsBack: the pure statement. Written by program. -/
import Derived.Test.YtncdfikcdchimaaEcorbellaw01_NumsBack
import Derived.Test.YtncdfikcdchimaaEvOpen
namespace Go.Proofs.Ytncdfikcdchimaa.Ev
def NumsBackPure : Prop := ∀ (x0 : Ty.den (.int .i64)) (x1 : Ty.den (.int .i64)) (x2 : Ty.den (.int .i64)), Ty.wf (.int .i64) x0 → Ty.wf (.int .i64) x1 → Ty.wf (.int .i64) x2 → ∃ k, corbellaw01_NumsBack k x0 x1 x2 = some true
end Go.Proofs.Ytncdfikcdchimaa.Ev
