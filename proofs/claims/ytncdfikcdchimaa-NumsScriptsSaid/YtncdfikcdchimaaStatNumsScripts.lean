/- NumsScripts: the pure statement. Written by program. -/
import Derived.Test.YtncdfikcdchimaaEcorbellaw01_NumsScripts
import Derived.Test.YtncdfikcdchimaaEvOpen
namespace Go.Proofs.Ytncdfikcdchimaa.Ev
def NumsScriptsPure : Prop := ∀ (x0 : Ty.den (.sl (.pair (.int .i64) .bool))) (x1 : Ty.den (.int .i64)), Ty.wf (.sl (.pair (.int .i64) .bool)) x0 → Ty.wf (.int .i64) x1 → ∃ k, corbellaw01_NumsScripts k x0.1 x0.2 x1 = some true
end Go.Proofs.Ytncdfikcdchimaa.Ev
