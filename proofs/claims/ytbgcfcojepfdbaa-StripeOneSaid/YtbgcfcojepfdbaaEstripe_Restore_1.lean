/- stripe_Restore_1, told on plain data. Written by program. -/
import Derived.Test.YtbgcfcojepfdbaaEtab
set_option linter.unusedVariables false
set_option maxRecDepth 1000000
namespace Go.Proofs.Ytbgcfcojepfdbaa.Ev
open Go Go.RowKit Go.Proofs
def stripe_Restore_1 (k : Nat) (s_19816 : ByteArray) : Option Bool :=
  some (!(decide ((sizeI s_19816) = (64 : Int))))
def stripe_Restore_1_p (k : Nat) : PF := { ps := [(false, 1)], rs := [(false, 1)], τ := .str, σ := .bool, f := fun x => stripe_Restore_1 k x }
def stripe_Restore_1_F (k : Nat) : PT := fnone
theorem stripe_Restore_1_fok (k : Nat) : FOK Try.prog tab (stripe_Restore_1_F k) := fok_none
def stripe_Restore_1_h : Hint := .no
def stripe_Restore_1_O {R : Type} (k : Nat) : CutK R := cutsO []
noncomputable def stripe_Restore_1_I {R : Type} (k : Nat) : InlT R := inone
theorem stripe_Restore_1_iok {R : Type} (k : Nat) : IOK Try.prog tab (stripe_Restore_1_F k) (stripe_Restore_1_I (R := R) k) := iok_none
theorem stripe_Restore_1_ev (k : Nat) (x : (stripe_Restore_1_p k).τ.den) : evalF tab (stripe_Restore_1_F k) (stripe_Restore_1_p k) (stripe_Restore_1_I k) 0 (stripe_Restore_1_O k) stripe_Restore_1_h Try.f41 x = (stripe_Restore_1_p k).f x := by kernel_rfl
theorem stripe_Restore_1_ok (k : Nat) : PFOK Try.prog tab 41 (stripe_Restore_1_p k) := pfok mixed tabOK (stripe_Restore_1_fok k) Try.func41 (I := stripe_Restore_1_I k) (d := 0) (stripe_Restore_1_iok k) (Q := stripe_Restore_1_O k) (hi := stripe_Restore_1_h) (cuts_of (l := []) (by kernel_rfl) trivial) (stripe_Restore_1_ev k)
end Go.Proofs.Ytbgcfcojepfdbaa.Ev
