/- Types of the seat, for the evaluator. Written by program. -/
import Derived.Test.YtkokbcijgikkgaaEvShape
import Derived.Test.YtkokbcijgikkgaaProg
set_option linter.unusedVariables false
set_option maxRecDepth 1000000
namespace Go.Proofs.Ytkokbcijgikkgaa.Ev
open Go Go.RowKit Go.Proofs
noncomputable def ti3 : Inf := inf Try.t3 Try.t3 (Try.t3.zero.getD (.bool false)) (some (.int .i64)) false
noncomputable def ti5 : Inf := inf Try.t5 Try.t5 (Try.t5.zero.getD (.bool false)) (some (.int .u8)) false
noncomputable def ti9 : Inf := inf Try.t9 Try.t9 (Try.t9.zero.getD (.bool false)) (some .str) false
noncomputable def ti51 : Inf := inf Try.t51 Try.t51 (Try.t51.zero.getD (.bool false)) (some (.sl (.pair (.int .i64) (.pair (.int .i64) (.int .i64))))) false
noncomputable def ti54 : Inf := inf Try.t54 Try.t53 (Try.t54.zero.getD (.bool false)) (some (.pair (.int .i64) (.pair (.int .i64) (.int .i64)))) true
noncomputable def ti56 : Inf := inf Try.t56 Try.t56 (Try.t56.zero.getD (.bool false)) (some (.sl .str)) false
noncomputable def ti58 : Inf := inf Try.t58 Try.t57 (Try.t58.zero.getD (.bool false)) (some (.pair (.int .i64) (.sl .str))) false
noncomputable def ti78 : Inf := inf Try.t78 Try.t78 (Try.t78.zero.getD (.bool false)) (some (.sl (.int .u8))) false
noncomputable def tab : Tab := tcons 3 ti3 <| tcons 5 ti5 <| tcons 9 ti9 <| tcons 51 ti51 <| tcons 54 ti54 <| tcons 56 ti56 <| tcons 58 ti58 <| tcons 78 ti78 <| tnone
theorem tabOK : TabOK Try.prog tab := tab_cons (Try.underlying3.trans (by kernel_rfl)) (by kernel_rfl) (j := Try.t3) (by kernel_rfl) (by kernel_rfl) (by kernel_rfl) (by kernel_rfl) (by kernel_rfl) (by kernel_rfl) (by kernel_rfl) (by kernel_rfl) <| tab_cons (Try.underlying5.trans (by kernel_rfl)) (by kernel_rfl) (j := Try.t5) (by kernel_rfl) (by kernel_rfl) (by kernel_rfl) (by kernel_rfl) (by kernel_rfl) (by kernel_rfl) (by kernel_rfl) (by kernel_rfl) <| tab_cons (Try.underlying9.trans (by kernel_rfl)) (by kernel_rfl) (j := Try.t9) (by kernel_rfl) (by kernel_rfl) (by kernel_rfl) (by kernel_rfl) (by kernel_rfl) (by kernel_rfl) (by kernel_rfl) (by kernel_rfl) <| tab_cons (Try.underlying51.trans (by kernel_rfl)) (by kernel_rfl) (j := Try.t51) (by kernel_rfl) (by kernel_rfl) (by kernel_rfl) (by kernel_rfl) (by kernel_rfl) (by kernel_rfl) (by kernel_rfl) (by kernel_rfl) <| tab_cons (Try.underlying54.trans (by kernel_rfl)) (by kernel_rfl) (j := Try.t54) (by kernel_rfl) (by kernel_rfl) (by kernel_rfl) (by kernel_rfl) (by kernel_rfl) (by kernel_rfl) (by kernel_rfl) (by kernel_rfl) <| tab_cons (Try.underlying56.trans (by kernel_rfl)) (by kernel_rfl) (j := Try.t56) (by kernel_rfl) (by kernel_rfl) (by kernel_rfl) (by kernel_rfl) (by kernel_rfl) (by kernel_rfl) (by kernel_rfl) (by kernel_rfl) <| tab_cons (Try.underlying58.trans (by kernel_rfl)) (by kernel_rfl) (j := Try.t58) (by kernel_rfl) (by kernel_rfl) (by kernel_rfl) (by kernel_rfl) (by kernel_rfl) (by kernel_rfl) (by kernel_rfl) (by kernel_rfl) <| tab_cons (Try.underlying78.trans (by kernel_rfl)) (by kernel_rfl) (j := Try.t78) (by kernel_rfl) (by kernel_rfl) (by kernel_rfl) (by kernel_rfl) (by kernel_rfl) (by kernel_rfl) (by kernel_rfl) (by kernel_rfl) <| tab_none
theorem mixed : Try.prog.follows .mixedOrders = true := by kernel_rfl
theorem tab_gl0 : tab.gl = fun _ => none := rfl
end Go.Proofs.Ytkokbcijgikkgaa.Ev
