/- StripeBranches: the pure statement. Written by program. -/
import Derived.Test.YtkokbcijgikkgaaEcorbellaw11_StripeBranches
import Derived.Test.YtkokbcijgikkgaaEvOpen
namespace Go.Proofs.Ytkokbcijgikkgaa.Ev
def StripeBranchesPure : Prop := ∀ (x0 : Ty.den (.sl .str)) (x1 : Ty.den .str) (x2 : Ty.den .str), Ty.wf (.sl .str) x0 → Ty.wf .str x1 → Ty.wf .str x2 → ∃ k, corbellaw11_StripeBranches k x0.1 x0.2 x1 x2 = some true
end Go.Proofs.Ytkokbcijgikkgaa.Ev
