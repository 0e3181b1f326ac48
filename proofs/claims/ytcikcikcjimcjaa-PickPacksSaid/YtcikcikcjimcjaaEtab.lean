/- Types of the seat, for the evaluator. Written by program. -/
import Derived.Test.YtcikcikcjimcjaaEvShape
import Derived.Test.YtcikcikcjimcjaaProg
set_option linter.unusedVariables false
set_option maxRecDepth 1000000
namespace Go.Proofs.Ytcikcikcjimcjaa.Ev
open Go Go.RowKit Go.Proofs
noncomputable def ti3 : Inf := inf Try.t3 Try.t3 (Try.t3.zero.getD (.bool false)) (some (.int .i64)) false
noncomputable def ti4 : Inf := inf Try.t4 Try.t4 (Try.t4.zero.getD (.bool false)) (some .bool) false
noncomputable def ti42 : Inf := inf Try.t42 Try.t42 (Try.t42.zero.getD (.bool false)) (some (.sl (.int .i64))) false
noncomputable def ti65 : Inf := inf Try.t65 Try.t65 (Try.t65.zero.getD (.bool false)) (some (.sl (.pair (.int .i64) (.pair (.int .i64) .bool)))) false
noncomputable def ti66 : Inf := inf Try.t66 Try.t66 (Try.t66.zero.getD (.bool false)) (some (.sl (.pair (.int .i64) (.pair (.int .i64) .bool)))) false
noncomputable def ti67 : Inf := inf Try.t67 Try.t67 (Try.t67.zero.getD (.bool false)) (some (.sl (.pair (.int .i64) (.pair (.int .i64) .bool)))) false
noncomputable def ti71 : Inf := inf Try.t71 Try.t70 (Try.t71.zero.getD (.bool false)) (some (.pair (.int .i64) (.pair (.int .i64) .bool))) true
noncomputable def ti101 : Inf := inf Try.t101 Try.t70 (Try.t101.zero.getD (.bool false)) (some (.pair (.int .i64) (.pair (.int .i64) .bool))) false
noncomputable def ti102 : Inf := inf Try.t102 Try.t70 (Try.t102.zero.getD (.bool false)) (some (.pair (.int .i64) (.pair (.int .i64) .bool))) false
noncomputable def ti114 : Inf := inf Try.t114 Try.t114 (Try.t114.zero.getD (.bool false)) (some (.int .u64)) false
noncomputable def tab : Tab := tcons 3 ti3 <| tcons 4 ti4 <| tcons 42 ti42 <| tcons 65 ti65 <| tcons 66 ti66 <| tcons 67 ti67 <| tcons 71 ti71 <| tcons 101 ti101 <| tcons 102 ti102 <| tcons 114 ti114 <| tnone
theorem tabOK : TabOK Try.prog tab := tab_cons (Try.underlying3.trans (by kernel_rfl)) (by kernel_rfl) (j := Try.t3) (by kernel_rfl) (by kernel_rfl) (by kernel_rfl) (by kernel_rfl) (by kernel_rfl) (by kernel_rfl) (by kernel_rfl) (by kernel_rfl) <| tab_cons (Try.underlying4.trans (by kernel_rfl)) (by kernel_rfl) (j := Try.t4) (by kernel_rfl) (by kernel_rfl) (by kernel_rfl) (by kernel_rfl) (by kernel_rfl) (by kernel_rfl) (by kernel_rfl) (by kernel_rfl) <| tab_cons (Try.underlying42.trans (by kernel_rfl)) (by kernel_rfl) (j := Try.t42) (by kernel_rfl) (by kernel_rfl) (by kernel_rfl) (by kernel_rfl) (by kernel_rfl) (by kernel_rfl) (by kernel_rfl) (by kernel_rfl) <| tab_cons (Try.underlying65.trans (by kernel_rfl)) (by kernel_rfl) (j := Try.t65) (by kernel_rfl) (by kernel_rfl) (by kernel_rfl) (by kernel_rfl) (by kernel_rfl) (by kernel_rfl) (by kernel_rfl) (by kernel_rfl) <| tab_cons (Try.underlying66.trans (by kernel_rfl)) (by kernel_rfl) (j := Try.t66) (by kernel_rfl) (by kernel_rfl) (by kernel_rfl) (by kernel_rfl) (by kernel_rfl) (by kernel_rfl) (by kernel_rfl) (by kernel_rfl) <| tab_cons (Try.underlying67.trans (by kernel_rfl)) (by kernel_rfl) (j := Try.t67) (by kernel_rfl) (by kernel_rfl) (by kernel_rfl) (by kernel_rfl) (by kernel_rfl) (by kernel_rfl) (by kernel_rfl) (by kernel_rfl) <| tab_cons (Try.underlying71.trans (by kernel_rfl)) (by kernel_rfl) (j := Try.t71) (by kernel_rfl) (by kernel_rfl) (by kernel_rfl) (by kernel_rfl) (by kernel_rfl) (by kernel_rfl) (by kernel_rfl) (by kernel_rfl) <| tab_cons (Try.underlying101.trans (by kernel_rfl)) (by kernel_rfl) (j := Try.t101) (by kernel_rfl) (by kernel_rfl) (by kernel_rfl) (by kernel_rfl) (by kernel_rfl) (by kernel_rfl) (by kernel_rfl) (by kernel_rfl) <| tab_cons (Try.underlying102.trans (by kernel_rfl)) (by kernel_rfl) (j := Try.t102) (by kernel_rfl) (by kernel_rfl) (by kernel_rfl) (by kernel_rfl) (by kernel_rfl) (by kernel_rfl) (by kernel_rfl) (by kernel_rfl) <| tab_cons (Try.underlying114.trans (by kernel_rfl)) (by kernel_rfl) (j := Try.t114) (by kernel_rfl) (by kernel_rfl) (by kernel_rfl) (by kernel_rfl) (by kernel_rfl) (by kernel_rfl) (by kernel_rfl) (by kernel_rfl) <| tab_none
theorem mixed : Try.prog.follows .mixedOrders = true := by kernel_rfl
theorem tab_gl0 : tab.gl = fun _ => none := rfl
end Go.Proofs.Ytcikcikcjimcjaa.Ev
