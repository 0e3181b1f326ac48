/- PickLeast: the pure statement. Written by program. -/
import Derived.Test.YtcikcikcjimcjaaEcorbellaw20_PickLeast
import Derived.Test.YtcikcikcjimcjaaEvOpen
namespace Go.Proofs.Ytcikcikcjimcjaa.Ev
def PickLeastPure : Prop := ∀ (x0 : Ty.den (.sl (.pair (.int .i64) (.pair (.int .i64) .bool)))), Ty.wf (.sl (.pair (.int .i64) (.pair (.int .i64) .bool))) x0 → ∃ k, corbellaw20_PickLeast k x0.1 x0.2 = some true
end Go.Proofs.Ytcikcikcjimcjaa.Ev
