/- JudgeNil: the pure statement. Written by program. -/
import Derived.Test.YtbgcfcojepfdbaaEcorbellaw23_JudgeNil
import Derived.Test.YtbgcfcojepfdbaaEvOpen
namespace Go.Proofs.Ytbgcfcojepfdbaa.Ev
def JudgeNilPure : Prop := ∀ (x0 : Ty.den (.int .i64)) (x1 : Ty.den (.int .i64)) (x2 : Ty.den .str), Ty.wf (.int .i64) x0 → Ty.wf (.int .i64) x1 → Ty.wf .str x2 → ∃ k, corbellaw23_JudgeNil k x0 x1 x2 = some true
end Go.Proofs.Ytbgcfcojepfdbaa.Ev
