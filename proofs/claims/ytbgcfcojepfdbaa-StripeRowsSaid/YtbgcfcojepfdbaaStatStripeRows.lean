/- StripeRows: the pure statement. Written by program. -/
import Derived.Test.YtbgcfcojepfdbaaEcorbellaw11_StripeRows
import Derived.Test.YtbgcfcojepfdbaaEvOpen
namespace Go.Proofs.Ytbgcfcojepfdbaa.Ev
def StripeRowsPure : Prop := ∀ (x0 : Ty.den (.int .i64)) (x1 : Ty.den (.sl .str)) (x2 : Ty.den (.sl .bool)), Ty.wf (.int .i64) x0 → Ty.wf (.sl .str) x1 → Ty.wf (.sl .bool) x2 → ∃ k, corbellaw11_StripeRows k x0 x1.1 x1.2 x2.1 x2.2 = some true
end Go.Proofs.Ytbgcfcojepfdbaa.Ev
