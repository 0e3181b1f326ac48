/- JudgeScripts: the pure statement. Written by program. -/
import Derived.Test.YtiolpmgphkakeaaEcorbellaw23_JudgeScripts
import Derived.Test.YtiolpmgphkakeaaEvOpen
namespace Go.Proofs.Ytiolpmgphkakeaa.Ev
def JudgeScriptsPure : Prop := ∀ (x0 : Ty.den (.int .i64)) (x1 : Ty.den (.sl (.pair (.int .i64) (.pair (.int .i64) (.pair (.int .i64) (.pair (.int .u8) .bool)))))), Ty.wf (.int .i64) x0 → Ty.wf (.sl (.pair (.int .i64) (.pair (.int .i64) (.pair (.int .i64) (.pair (.int .u8) .bool))))) x1 → ∃ k, corbellaw23_JudgeScripts k x0 x1.1 x1.2 = some true
end Go.Proofs.Ytiolpmgphkakeaa.Ev
