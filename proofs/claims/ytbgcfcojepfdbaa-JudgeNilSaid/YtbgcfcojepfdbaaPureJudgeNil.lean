/- JudgeNil: the pure statement, over numbers and lists alone; no conditions. -/
import Derived.Test.YtbgcfcojepfdbaaStatJudgeNil
set_option linter.unusedVariables false
set_option linter.unusedSimpArgs false
namespace Go.Proofs.Ytbgcfcojepfdbaa.Pure
open Go Go.RowKit Go.Proofs.Ytbgcfcojepfdbaa.Ev
theorem optb_some {α β : Type} (a : α) (f : α → Option β) : optb (some a) f = f a := rfl
theorem speaks23 : corbellaw23_speaks 300 = some true := by kernel_rfl
theorem JudgeNil : JudgeNilPure := by
  intro x0 x1 x2 _ _ _
  refine ⟨300, ?_⟩
  unfold corbellaw23_JudgeNil
  rw [speaks23, optb_some, Bool.not_true, cond_false, decide_eq_true rfl]; rfl
end Go.Proofs.Ytbgcfcojepfdbaa.Pure
