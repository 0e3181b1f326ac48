/- BookNotes: the pure statement. Written by program. -/
import Derived.Test.YthilffdaofaalaaEcorbellaw10_BookNotes
import Derived.Test.YthilffdaofaalaaEvOpen
namespace Go.Proofs.Ythilffdaofaalaa.Ev
def BookNotesPure : Prop := ∀ (x0 : Ty.den (.pair (.int .i64) (.pair (.int .i64) (.pair (.int .i64) (.pair (.int .i64) (.int .i64)))))) (x1 : Ty.den (.sl (.pair (.int .i64) (.pair (.int .i64) (.pair (.int .i64) (.pair (.int .i64) (.pair (.int .i64) (.int .i64)))))))) (x2 : Ty.den (.pair (.int .i64) (.int .i64))), Ty.wf (.pair (.int .i64) (.pair (.int .i64) (.pair (.int .i64) (.pair (.int .i64) (.int .i64))))) x0 → Ty.wf (.sl (.pair (.int .i64) (.pair (.int .i64) (.pair (.int .i64) (.pair (.int .i64) (.pair (.int .i64) (.int .i64))))))) x1 → Ty.wf (.pair (.int .i64) (.int .i64)) x2 → ∃ k, corbellaw10_BookNotes k x0.1 x0.2.1 x0.2.2.1 x0.2.2.2.1 x0.2.2.2.2 x1.1 x1.2 x2.1 x2.2 = some true
end Go.Proofs.Ythilffdaofaalaa.Ev
