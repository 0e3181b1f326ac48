/- Types of the seat, for the evaluator. Written by program. -/
import Derived.Test.YtbgcfcojepfdbaaEvShape
import Derived.Test.YtbgcfcojepfdbaaProg
set_option linter.unusedVariables false
set_option maxRecDepth 1000000
namespace Go.Proofs.Ytbgcfcojepfdbaa.Ev
open Go Go.RowKit Go.Proofs
noncomputable def ti3 : Inf := inf Try.t3 Try.t3 (Try.t3.zero.getD (.bool false)) (some (.int .i64)) false
noncomputable def ti5 : Inf := inf Try.t5 Try.t5 (Try.t5.zero.getD (.bool false)) (some (.int .u8)) false
noncomputable def ti9 : Inf := inf Try.t9 Try.t9 (Try.t9.zero.getD (.bool false)) (some .str) false
noncomputable def ti22 : Inf := inf Try.t22 Try.t22 (Try.t22.zero.getD (.bool false)) (some (.sl .str)) false
noncomputable def ti46 : Inf := inf Try.t46 Try.t46 (Try.t46.zero.getD (.bool false)) none false
noncomputable def ti57 : Inf := inf Try.t57 Try.t57 (Try.t57.zero.getD (.bool false)) (some (.sl (.int .u8))) false
noncomputable def ti85 : Inf := inf Try.t85 Try.t85 (Try.t85.zero.getD (.bool false)) (some (.sl (.pair (.int .i64) .str))) false
noncomputable def ti87 : Inf := inf Try.t87 Try.t86 (Try.t87.zero.getD (.bool false)) (some (.pair (.sl .str) (.sl (.pair (.int .i64) .str)))) false
noncomputable def ti89 : Inf := inf Try.t89 Try.t88 (Try.t89.zero.getD (.bool false)) (some (.pair (.int .i64) .str)) false
noncomputable def ti98 : Inf := inf Try.t98 Try.t98 (Try.t98.zero.getD (.bool false)) (some (.int .u64)) false
noncomputable def tab : Tab := tcons 3 ti3 <| tcons 5 ti5 <| tcons 9 ti9 <| tcons 22 ti22 <| tcons 46 ti46 <| tcons 57 ti57 <| tcons 85 ti85 <| tcons 87 ti87 <| tcons 89 ti89 <| tcons 98 ti98 <| tnone
theorem tabOK : TabOK Try.prog tab := tab_cons (Try.underlying3.trans (by kernel_rfl)) (by kernel_rfl) (j := Try.t3) (by kernel_rfl) (by kernel_rfl) (by kernel_rfl) (by kernel_rfl) (by kernel_rfl) (by kernel_rfl) (by kernel_rfl) (by kernel_rfl) <| tab_cons (Try.underlying5.trans (by kernel_rfl)) (by kernel_rfl) (j := Try.t5) (by kernel_rfl) (by kernel_rfl) (by kernel_rfl) (by kernel_rfl) (by kernel_rfl) (by kernel_rfl) (by kernel_rfl) (by kernel_rfl) <| tab_cons (Try.underlying9.trans (by kernel_rfl)) (by kernel_rfl) (j := Try.t9) (by kernel_rfl) (by kernel_rfl) (by kernel_rfl) (by kernel_rfl) (by kernel_rfl) (by kernel_rfl) (by kernel_rfl) (by kernel_rfl) <| tab_cons (Try.underlying22.trans (by kernel_rfl)) (by kernel_rfl) (j := Try.t22) (by kernel_rfl) (by kernel_rfl) (by kernel_rfl) (by kernel_rfl) (by kernel_rfl) (by kernel_rfl) (by kernel_rfl) (by kernel_rfl) <| tab_cons (Try.underlying46.trans (by kernel_rfl)) (by kernel_rfl) (j := Try.t46) (by kernel_rfl) (by kernel_rfl) (by kernel_rfl) (by kernel_rfl) (by kernel_rfl) (by kernel_rfl) (by kernel_rfl) (by kernel_rfl) <| tab_cons (Try.underlying57.trans (by kernel_rfl)) (by kernel_rfl) (j := Try.t57) (by kernel_rfl) (by kernel_rfl) (by kernel_rfl) (by kernel_rfl) (by kernel_rfl) (by kernel_rfl) (by kernel_rfl) (by kernel_rfl) <| tab_cons (Try.underlying85.trans (by kernel_rfl)) (by kernel_rfl) (j := Try.t85) (by kernel_rfl) (by kernel_rfl) (by kernel_rfl) (by kernel_rfl) (by kernel_rfl) (by kernel_rfl) (by kernel_rfl) (by kernel_rfl) <| tab_cons (Try.underlying87.trans (by kernel_rfl)) (by kernel_rfl) (j := Try.t87) (by kernel_rfl) (by kernel_rfl) (by kernel_rfl) (by kernel_rfl) (by kernel_rfl) (by kernel_rfl) (by kernel_rfl) (by kernel_rfl) <| tab_cons (Try.underlying89.trans (by kernel_rfl)) (by kernel_rfl) (j := Try.t89) (by kernel_rfl) (by kernel_rfl) (by kernel_rfl) (by kernel_rfl) (by kernel_rfl) (by kernel_rfl) (by kernel_rfl) (by kernel_rfl) <| tab_cons (Try.underlying98.trans (by kernel_rfl)) (by kernel_rfl) (j := Try.t98) (by kernel_rfl) (by kernel_rfl) (by kernel_rfl) (by kernel_rfl) (by kernel_rfl) (by kernel_rfl) (by kernel_rfl) (by kernel_rfl) <| tab_none
theorem mixed : Try.prog.follows .mixedOrders = true := by kernel_rfl
theorem tab_gl0 : tab.gl = fun _ => none := rfl
end Go.Proofs.Ytbgcfcojepfdbaa.Ev
