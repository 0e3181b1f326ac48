/- StripeOne: the pure statement. Written by program. -/
import Derived.Test.YtbgcfcojepfdbaaEcorbellaw11_StripeOne
import Derived.Test.YtbgcfcojepfdbaaEvOpen
namespace Go.Proofs.Ytbgcfcojepfdbaa.Ev
def StripeOnePure : Prop := ∀ (x0 : Ty.den (.sl .str)) (x1 : Ty.den (.int .i64)), Ty.wf (.sl .str) x0 → Ty.wf (.int .i64) x1 → ∃ k, corbellaw11_StripeOne k x0.1 x0.2 x1 = some true
end Go.Proofs.Ytbgcfcojepfdbaa.Ev
