/- StripeRestores: the pure statement. Written by program. -/
import Derived.Test.YtbgcfcojepfdbaaEcorbellaw11_StripeRestores
import Derived.Test.YtbgcfcojepfdbaaEvOpen
namespace Go.Proofs.Ytbgcfcojepfdbaa.Ev
def StripeRestoresPure : Prop := ∀ (x0 : Ty.den .str) (x1 : Ty.den (.sl .str)) (x2 : Ty.den (.pair (.int .i64) (.int .i64))), Ty.wf .str x0 → Ty.wf (.sl .str) x1 → Ty.wf (.pair (.int .i64) (.int .i64)) x2 → ∃ k, corbellaw11_StripeRestores k x0 x1.1 x1.2 x2.1 x2.2 = some true
end Go.Proofs.Ytbgcfcojepfdbaa.Ev
