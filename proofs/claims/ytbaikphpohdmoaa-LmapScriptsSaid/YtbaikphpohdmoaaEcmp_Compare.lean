/- cmp_Compare, told on plain data. Written by program. -/
import Derived.Test.YtbaikphpohdmoaaEcmp_isNaN
set_option linter.unusedVariables false
set_option maxRecDepth 1000000
namespace Go.Proofs.Ytbaikphpohdmoaa.Ev
open Go Go.RowKit Go.Proofs
noncomputable def cmp_Compare (k : Nat) (x_16449 : Int) (y_16450 : Int) : Option Int :=
  optb (cmp_isNaN k x_16449) fun r_16452 =>
  optb (cmp_isNaN k y_16450) fun r_16453 =>
  bif r_16452 then
    bif r_16453 then
      some (0 : Int)
    else some (-1 : Int)
  else bif r_16453 then
    some (1 : Int)
  else bif (decide (x_16449 < y_16450)) then
    some (-1 : Int)
  else bif (decide (y_16450 < x_16449)) then
    some (1 : Int)
  else some (0 : Int)
noncomputable def cmp_Compare_p (k : Nat) : PF := { ps := [(false, 1), (false, 1)], rs := [(false, 1)], τ := (.pair (.int .i64) (.int .i64)), σ := (.int .i64), f := fun x => cmp_Compare k x.1 x.2 }
noncomputable def cmp_Compare_F (k : Nat) : PT := fcons 49 (cmp_isNaN_p k) <| fnone
theorem cmp_Compare_fok (k : Nat) : FOK Try.prog tab (cmp_Compare_F k) := fok_cons (cmp_isNaN_ok k) Try.call49 <| fok_none
noncomputable def cmp_Compare_h : Hint := .no
noncomputable def cmp_Compare_O {R : Type} (k : Nat) : CutK R := cutsO []
noncomputable def cmp_Compare_I {R : Type} (k : Nat) : InlT R := inone
theorem cmp_Compare_iok {R : Type} (k : Nat) : IOK Try.prog tab (cmp_Compare_F k) (cmp_Compare_I (R := R) k) := iok_none
theorem cmp_Compare_ev (k : Nat) (x : (cmp_Compare_p k).τ.den) : evalF tab (cmp_Compare_F k) (cmp_Compare_p k) (cmp_Compare_I k) 0 (cmp_Compare_O k) cmp_Compare_h Try.f36 x = (cmp_Compare_p k).f x := by kernel_rfl
theorem cmp_Compare_ok (k : Nat) : PFOK Try.prog tab 36 (cmp_Compare_p k) := pfok mixed tabOK (cmp_Compare_fok k) Try.func36 (I := cmp_Compare_I k) (d := 0) (cmp_Compare_iok k) (Q := cmp_Compare_O k) (hi := cmp_Compare_h) (cuts_of (l := []) (by kernel_rfl) trivial) (cmp_Compare_ev k)
end Go.Proofs.Ytbaikphpohdmoaa.Ev
