/- LmapNil: the pure statement, over numbers and lists alone; no conditions. -/
import Derived.Test.YtbaikphpohdmoaaStatLmapNil
set_option linter.unusedVariables false
set_option linter.unusedSimpArgs false
namespace Go.Proofs.Ytbaikphpohdmoaa.Pure
open Go Go.RowKit Go.Proofs.Ytbaikphpohdmoaa.Ev
theorem optb_some {α β : Type} (a : α) (f : α → Option β) : optb (some a) f = f a := rfl
theorem speaks19 (d : Nat) : corbellaw19_speaks (d + 300) = some true := by kernel_rfl
theorem LmapNil : LmapNilPure := by
  intro x0 x1 _ _
  refine ⟨0 + 300, ?_⟩
  unfold corbellaw19_LmapNil
  rw [speaks19, optb_some, Bool.not_true, cond_false]
end Go.Proofs.Ytbaikphpohdmoaa.Pure
