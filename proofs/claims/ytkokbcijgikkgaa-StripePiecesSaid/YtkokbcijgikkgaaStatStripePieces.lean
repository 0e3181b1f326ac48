/- StripePieces: the pure statement. Written by program. -/
import Derived.Test.YtkokbcijgikkgaaEcorbellaw11_StripePieces
import Derived.Test.YtkokbcijgikkgaaEvOpen
namespace Go.Proofs.Ytkokbcijgikkgaa.Ev
def StripePiecesPure : Prop := ∀ (x0 : Ty.den (.int .i64)) (x1 : Ty.den (.int .i64)) (x2 : Ty.den (.int .i64)), Ty.wf (.int .i64) x0 → Ty.wf (.int .i64) x1 → Ty.wf (.int .i64) x2 → ∃ k, corbellaw11_StripePieces k x0 x1 x2 = some true
end Go.Proofs.Ytkokbcijgikkgaa.Ev
