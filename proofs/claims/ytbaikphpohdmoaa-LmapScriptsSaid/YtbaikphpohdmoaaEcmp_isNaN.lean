/- cmp_isNaN, told on plain data. Written by program. -/
import Derived.Test.YtbaikphpohdmoaaEtab
set_option linter.unusedVariables false
set_option maxRecDepth 1000000
namespace Go.Proofs.Ytbaikphpohdmoaa.Ev
open Go Go.RowKit Go.Proofs
noncomputable def cmp_isNaN (k : Nat) (x_16451 : Int) : Option Bool :=
  some (!(decide (x_16451 = x_16451)))
noncomputable def cmp_isNaN_p (k : Nat) : PF := { ps := [(false, 1)], rs := [(false, 1)], τ := (.int .i64), σ := .bool, f := fun x => cmp_isNaN k x }
noncomputable def cmp_isNaN_F (k : Nat) : PT := fnone
theorem cmp_isNaN_fok (k : Nat) : FOK Try.prog tab (cmp_isNaN_F k) := fok_none
noncomputable def cmp_isNaN_h : Hint := .no
noncomputable def cmp_isNaN_O {R : Type} (k : Nat) : CutK R := cutsO []
noncomputable def cmp_isNaN_I {R : Type} (k : Nat) : InlT R := inone
theorem cmp_isNaN_iok {R : Type} (k : Nat) : IOK Try.prog tab (cmp_isNaN_F k) (cmp_isNaN_I (R := R) k) := iok_none
theorem cmp_isNaN_ev (k : Nat) (x : (cmp_isNaN_p k).τ.den) : evalF tab (cmp_isNaN_F k) (cmp_isNaN_p k) (cmp_isNaN_I k) 0 (cmp_isNaN_O k) cmp_isNaN_h Try.f49 x = (cmp_isNaN_p k).f x := by kernel_rfl
theorem cmp_isNaN_ok (k : Nat) : PFOK Try.prog tab 49 (cmp_isNaN_p k) := pfok mixed tabOK (cmp_isNaN_fok k) Try.func49 (I := cmp_isNaN_I k) (d := 0) (cmp_isNaN_iok k) (Q := cmp_isNaN_O k) (hi := cmp_isNaN_h) (cuts_of (l := []) (by kernel_rfl) trivial) (cmp_isNaN_ev k)
end Go.Proofs.Ytbaikphpohdmoaa.Ev
