/- PickPacks: the pure statement. Written by program. -/
import Derived.Test.YtcikcikcjimcjaaEcorbellaw20_PickPacks
import Derived.Test.YtcikcikcjimcjaaEvOpen
namespace Go.Proofs.Ytcikcikcjimcjaa.Ev
def PickPacksPure : Prop := ∀ (x0 : Ty.den (.int .i64)) (x1 : Ty.den (.int .i64)), Ty.wf (.int .i64) x0 → Ty.wf (.int .i64) x1 → ∃ k, corbellaw20_PickPacks k x0 x1 = some true
end Go.Proofs.Ytcikcikcjimcjaa.Ev
