/- NumsAlike: the pure statement. Written by program. -/
import Derived.Test.YtncdfikcdchimaaEcorbellaw01_NumsAlike
import Derived.Test.YtncdfikcdchimaaEvOpen
namespace Go.Proofs.Ytncdfikcdchimaa.Ev
def NumsAlikePure : Prop := ∀ (x0 : Ty.den (.sl (.int .i64))), Ty.wf (.sl (.int .i64)) x0 → ∃ k, corbellaw01_NumsAlike k x0.1 x0.2 = some true
end Go.Proofs.Ytncdfikcdchimaa.Ev
