/- Types of the seat, for the evaluator. Written by program. -/
import Derived.Test.YtkokbcijgikkgaaEvShape
import Derived.Test.YtkokbcijgikkgaaProg
set_option linter.unusedVariables false
set_option maxRecDepth 1000000
namespace Go.Proofs.Ytkokbcijgikkgaa.Ev
open Go Go.RowKit Go.Proofs
noncomputable def ti3 : Inf := inf Try.t3 Try.t3 (Try.t3.zero.getD (.bool false)) (some (.int .i64))
noncomputable def ti4 : Inf := inf Try.t4 Try.t4 (Try.t4.zero.getD (.bool false)) (some .bool)
noncomputable def ti23 : Inf := inf Try.t23 Try.t22 (Try.t23.zero.getD (.bool false)) (some (.pair (.int .i64) (.pair (.int .i64) (.pair (.int .i64) (.pair (.int .i64) (.int .i64))))))
noncomputable def ti25 : Inf := inf Try.t25 Try.t22 (Try.t25.zero.getD (.bool false)) (some (.pair (.int .i64) (.pair (.int .i64) (.pair (.int .i64) (.pair (.int .i64) (.int .i64))))))
noncomputable def ti30 : Inf := inf Try.t30 Try.t22 (Try.t30.zero.getD (.bool false)) (some (.pair (.int .i64) (.pair (.int .i64) (.pair (.int .i64) (.pair (.int .i64) (.int .i64))))))
noncomputable def tab : Tab := tcons 3 ti3 <| tcons 4 ti4 <| tcons 23 ti23 <| tcons 25 ti25 <| tcons 30 ti30 <| tnone
theorem tabOK : TabOK Try.prog tab := tab_cons (Try.underlying3.trans (by kernel_rfl)) (by kernel_rfl) (j := Try.t3) (by kernel_rfl) (by kernel_rfl) (by kernel_rfl) (by kernel_rfl) (by kernel_rfl) (by kernel_rfl) (by kernel_rfl) <| tab_cons (Try.underlying4.trans (by kernel_rfl)) (by kernel_rfl) (j := Try.t4) (by kernel_rfl) (by kernel_rfl) (by kernel_rfl) (by kernel_rfl) (by kernel_rfl) (by kernel_rfl) (by kernel_rfl) <| tab_cons (Try.underlying23.trans (by kernel_rfl)) (by kernel_rfl) (j := Try.t23) (by kernel_rfl) (by kernel_rfl) (by kernel_rfl) (by kernel_rfl) (by kernel_rfl) (by kernel_rfl) (by kernel_rfl) <| tab_cons (Try.underlying25.trans (by kernel_rfl)) (by kernel_rfl) (j := Try.t25) (by kernel_rfl) (by kernel_rfl) (by kernel_rfl) (by kernel_rfl) (by kernel_rfl) (by kernel_rfl) (by kernel_rfl) <| tab_cons (Try.underlying30.trans (by kernel_rfl)) (by kernel_rfl) (j := Try.t30) (by kernel_rfl) (by kernel_rfl) (by kernel_rfl) (by kernel_rfl) (by kernel_rfl) (by kernel_rfl) (by kernel_rfl) <| tab_none
theorem mixed : Try.prog.follows .mixedOrders = true := by kernel_rfl
end Go.Proofs.Ytkokbcijgikkgaa.Ev
