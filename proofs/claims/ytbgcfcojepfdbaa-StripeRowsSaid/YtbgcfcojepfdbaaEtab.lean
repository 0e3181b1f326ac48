/- Types of the seat, for the evaluator. Written by program. -/
import Derived.Test.YtbgcfcojepfdbaaEvShape
import Derived.Test.YtbgcfcojepfdbaaProg
set_option linter.unusedVariables false
set_option maxRecDepth 1000000
namespace Go.Proofs.Ytbgcfcojepfdbaa.Ev
open Go Go.RowKit Go.Proofs
noncomputable def ti3 : Inf := inf Try.t3 Try.t3 (Try.t3.zero.getD (.bool false)) (some (.int .i64)) false
noncomputable def ti4 : Inf := inf Try.t4 Try.t4 (Try.t4.zero.getD (.bool false)) (some .bool) false
noncomputable def ti5 : Inf := inf Try.t5 Try.t5 (Try.t5.zero.getD (.bool false)) (some (.int .u8)) false
noncomputable def ti9 : Inf := inf Try.t9 Try.t9 (Try.t9.zero.getD (.bool false)) (some .str) false
noncomputable def ti22 : Inf := inf Try.t22 Try.t22 (Try.t22.zero.getD (.bool false)) (some (.sl .str)) false
noncomputable def ti32 : Inf := inf Try.t32 Try.t32 (Try.t32.zero.getD (.bool false)) (some (.sl .bool)) false
noncomputable def ti34 : Inf := inf Try.t34 Try.t33 (Try.t34.zero.getD (.bool false)) (some (.pair (.int .i64) (.sl .str))) false
noncomputable def ti57 : Inf := inf Try.t57 Try.t57 (Try.t57.zero.getD (.bool false)) (some (.sl (.int .u8))) false
noncomputable def ti71 : Inf := inf Try.t71 Try.t71 (Try.t71.zero.getD (.bool false)) (some (.sl (.pair (.int .i64) (.pair (.int .i64) (.int .i64))))) false
noncomputable def ti74 : Inf := inf Try.t74 Try.t73 (Try.t74.zero.getD (.bool false)) (some (.pair (.int .i64) (.pair (.int .i64) (.int .i64)))) true
noncomputable def ti110 : Inf := inf Try.t110 Try.t110 (Try.t110.zero.getD (.bool false)) (some (.int .u64)) false
noncomputable def tab : Tab := tcons 3 ti3 <| tcons 4 ti4 <| tcons 5 ti5 <| tcons 9 ti9 <| tcons 22 ti22 <| tcons 32 ti32 <| tcons 34 ti34 <| tcons 57 ti57 <| tcons 71 ti71 <| tcons 74 ti74 <| tcons 110 ti110 <| tnone
theorem tabOK : TabOK Try.prog tab := tab_cons (Try.underlying3.trans (by kernel_rfl)) (by kernel_rfl) (j := Try.t3) (by kernel_rfl) (by kernel_rfl) (by kernel_rfl) (by kernel_rfl) (by kernel_rfl) (by kernel_rfl) (by kernel_rfl) (by kernel_rfl) <| tab_cons (Try.underlying4.trans (by kernel_rfl)) (by kernel_rfl) (j := Try.t4) (by kernel_rfl) (by kernel_rfl) (by kernel_rfl) (by kernel_rfl) (by kernel_rfl) (by kernel_rfl) (by kernel_rfl) (by kernel_rfl) <| tab_cons (Try.underlying5.trans (by kernel_rfl)) (by kernel_rfl) (j := Try.t5) (by kernel_rfl) (by kernel_rfl) (by kernel_rfl) (by kernel_rfl) (by kernel_rfl) (by kernel_rfl) (by kernel_rfl) (by kernel_rfl) <| tab_cons (Try.underlying9.trans (by kernel_rfl)) (by kernel_rfl) (j := Try.t9) (by kernel_rfl) (by kernel_rfl) (by kernel_rfl) (by kernel_rfl) (by kernel_rfl) (by kernel_rfl) (by kernel_rfl) (by kernel_rfl) <| tab_cons (Try.underlying22.trans (by kernel_rfl)) (by kernel_rfl) (j := Try.t22) (by kernel_rfl) (by kernel_rfl) (by kernel_rfl) (by kernel_rfl) (by kernel_rfl) (by kernel_rfl) (by kernel_rfl) (by kernel_rfl) <| tab_cons (Try.underlying32.trans (by kernel_rfl)) (by kernel_rfl) (j := Try.t32) (by kernel_rfl) (by kernel_rfl) (by kernel_rfl) (by kernel_rfl) (by kernel_rfl) (by kernel_rfl) (by kernel_rfl) (by kernel_rfl) <| tab_cons (Try.underlying34.trans (by kernel_rfl)) (by kernel_rfl) (j := Try.t34) (by kernel_rfl) (by kernel_rfl) (by kernel_rfl) (by kernel_rfl) (by kernel_rfl) (by kernel_rfl) (by kernel_rfl) (by kernel_rfl) <| tab_cons (Try.underlying57.trans (by kernel_rfl)) (by kernel_rfl) (j := Try.t57) (by kernel_rfl) (by kernel_rfl) (by kernel_rfl) (by kernel_rfl) (by kernel_rfl) (by kernel_rfl) (by kernel_rfl) (by kernel_rfl) <| tab_cons (Try.underlying71.trans (by kernel_rfl)) (by kernel_rfl) (j := Try.t71) (by kernel_rfl) (by kernel_rfl) (by kernel_rfl) (by kernel_rfl) (by kernel_rfl) (by kernel_rfl) (by kernel_rfl) (by kernel_rfl) <| tab_cons (Try.underlying74.trans (by kernel_rfl)) (by kernel_rfl) (j := Try.t74) (by kernel_rfl) (by kernel_rfl) (by kernel_rfl) (by kernel_rfl) (by kernel_rfl) (by kernel_rfl) (by kernel_rfl) (by kernel_rfl) <| tab_cons (Try.underlying110.trans (by kernel_rfl)) (by kernel_rfl) (j := Try.t110) (by kernel_rfl) (by kernel_rfl) (by kernel_rfl) (by kernel_rfl) (by kernel_rfl) (by kernel_rfl) (by kernel_rfl) (by kernel_rfl) <| tab_none
theorem mixed : Try.prog.follows .mixedOrders = true := by kernel_rfl
theorem tab_gl0 : tab.gl = fun _ => none := rfl
end Go.Proofs.Ytbgcfcojepfdbaa.Ev
