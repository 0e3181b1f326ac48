/- Types of the seat, for the evaluator. Written by program. -/
import Derived.Test.YtncdfikcdchimaaEvShape
import Derived.Test.YtncdfikcdchimaaProg
set_option linter.unusedVariables false
set_option maxRecDepth 1000000
namespace Go.Proofs.Ytncdfikcdchimaa.Ev
open Go Go.RowKit Go.Proofs
noncomputable def ti3 : Inf := inf Try.t3 Try.t3 (Try.t3.zero.getD (.bool false)) (some (.int .i64)) false
noncomputable def ti4 : Inf := inf Try.t4 Try.t4 (Try.t4.zero.getD (.bool false)) (some .bool) false
noncomputable def ti5 : Inf := inf Try.t5 Try.t5 (Try.t5.zero.getD (.bool false)) (some (.int .u8)) false
noncomputable def ti9 : Inf := inf Try.t9 Try.t9 (Try.t9.zero.getD (.bool false)) (some .str) false
noncomputable def ti25 : Inf := inf Try.t25 Try.t25 (Try.t25.zero.getD (.bool false)) (some (.sl (.int .i64))) false
noncomputable def ti26 : Inf := inf Try.t26 Try.t26 (Try.t26.zero.getD (.bool false)) (some (.int .u64)) true
noncomputable def ti27 : Inf := inf Try.t27 Try.t27 (Try.t27.zero.getD (.bool false)) (some (.pair (.int .u64) (.pair (.int .u64) (.pair (.int .u64) (.int .u64))))) true
noncomputable def ti29 : Inf := inf Try.t29 Try.t28 (Try.t29.zero.getD (.bool false)) (some (.pair (.int .u64) (.pair (.int .u64) (.pair (.int .u64) (.int .u64))))) true
noncomputable def ti39 : Inf := inf Try.t39 Try.t39 (Try.t39.zero.getD (.bool false)) (some (.sl (.pair (.int .i64) .bool))) false
noncomputable def ti41 : Inf := inf Try.t41 Try.t40 (Try.t41.zero.getD (.bool false)) (some (.sl (.int .i64))) false
noncomputable def ti43 : Inf := inf Try.t43 Try.t42 (Try.t43.zero.getD (.bool false)) (some (.pair (.int .i64) .bool)) false
noncomputable def ti51 : Inf := inf Try.t51 Try.t51 (Try.t51.zero.getD (.bool false)) (some (.sl (.int .u8))) false
noncomputable def tab : Tab := tcons 3 ti3 <| tcons 4 ti4 <| tcons 5 ti5 <| tcons 9 ti9 <| tcons 25 ti25 <| tcons 26 ti26 <| tcons 27 ti27 <| tcons 29 ti29 <| tcons 39 ti39 <| tcons 41 ti41 <| tcons 43 ti43 <| tcons 51 ti51 <| tnone
theorem tabOK : TabOK Try.prog tab := tab_cons (Try.underlying3.trans (by kernel_rfl)) (by kernel_rfl) (j := Try.t3) (by kernel_rfl) (by kernel_rfl) (by kernel_rfl) (by kernel_rfl) (by kernel_rfl) (by kernel_rfl) (by kernel_rfl) (by kernel_rfl) <| tab_cons (Try.underlying4.trans (by kernel_rfl)) (by kernel_rfl) (j := Try.t4) (by kernel_rfl) (by kernel_rfl) (by kernel_rfl) (by kernel_rfl) (by kernel_rfl) (by kernel_rfl) (by kernel_rfl) (by kernel_rfl) <| tab_cons (Try.underlying5.trans (by kernel_rfl)) (by kernel_rfl) (j := Try.t5) (by kernel_rfl) (by kernel_rfl) (by kernel_rfl) (by kernel_rfl) (by kernel_rfl) (by kernel_rfl) (by kernel_rfl) (by kernel_rfl) <| tab_cons (Try.underlying9.trans (by kernel_rfl)) (by kernel_rfl) (j := Try.t9) (by kernel_rfl) (by kernel_rfl) (by kernel_rfl) (by kernel_rfl) (by kernel_rfl) (by kernel_rfl) (by kernel_rfl) (by kernel_rfl) <| tab_cons (Try.underlying25.trans (by kernel_rfl)) (by kernel_rfl) (j := Try.t25) (by kernel_rfl) (by kernel_rfl) (by kernel_rfl) (by kernel_rfl) (by kernel_rfl) (by kernel_rfl) (by kernel_rfl) (by kernel_rfl) <| tab_cons (Try.underlying26.trans (by kernel_rfl)) (by kernel_rfl) (j := Try.t26) (by kernel_rfl) (by kernel_rfl) (by kernel_rfl) (by kernel_rfl) (by kernel_rfl) (by kernel_rfl) (by kernel_rfl) (by kernel_rfl) <| tab_cons (Try.underlying27.trans (by kernel_rfl)) (by kernel_rfl) (j := Try.t27) (by kernel_rfl) (by kernel_rfl) (by kernel_rfl) (by kernel_rfl) (by kernel_rfl) (by kernel_rfl) (by kernel_rfl) (by kernel_rfl) <| tab_cons (Try.underlying29.trans (by kernel_rfl)) (by kernel_rfl) (j := Try.t29) (by kernel_rfl) (by kernel_rfl) (by kernel_rfl) (by kernel_rfl) (by kernel_rfl) (by kernel_rfl) (by kernel_rfl) (by kernel_rfl) <| tab_cons (Try.underlying39.trans (by kernel_rfl)) (by kernel_rfl) (j := Try.t39) (by kernel_rfl) (by kernel_rfl) (by kernel_rfl) (by kernel_rfl) (by kernel_rfl) (by kernel_rfl) (by kernel_rfl) (by kernel_rfl) <| tab_cons (Try.underlying41.trans (by kernel_rfl)) (by kernel_rfl) (j := Try.t41) (by kernel_rfl) (by kernel_rfl) (by kernel_rfl) (by kernel_rfl) (by kernel_rfl) (by kernel_rfl) (by kernel_rfl) (by kernel_rfl) <| tab_cons (Try.underlying43.trans (by kernel_rfl)) (by kernel_rfl) (j := Try.t43) (by kernel_rfl) (by kernel_rfl) (by kernel_rfl) (by kernel_rfl) (by kernel_rfl) (by kernel_rfl) (by kernel_rfl) (by kernel_rfl) <| tab_cons (Try.underlying51.trans (by kernel_rfl)) (by kernel_rfl) (j := Try.t51) (by kernel_rfl) (by kernel_rfl) (by kernel_rfl) (by kernel_rfl) (by kernel_rfl) (by kernel_rfl) (by kernel_rfl) (by kernel_rfl) <| tab_none
theorem mixed : Try.prog.follows .mixedOrders = true := by kernel_rfl
theorem tab_gl0 : tab.gl = fun _ => none := rfl
end Go.Proofs.Ytncdfikcdchimaa.Ev
