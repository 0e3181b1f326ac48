/- slices_Clone, told on plain data. Written by program. -/
import Derived.Test.YtiolpmgphkakeaaEtab
set_option linter.unusedVariables false
set_option maxRecDepth 1000000
namespace Go.Proofs.Ytiolpmgphkakeaa.Ev
open Go Go.RowKit Go.Proofs
noncomputable def slices_Clone (k : Nat) (sa_707 : Bool) (sb_708 : List ByteArray) : Option (Bool × List ByteArray) :=
  bif (sa_707 && (sb_708.isEmpty)) then
    some (true, ([] : List ByteArray))
  else bif (decide (([] : List ByteArray).length + sb_708.length ≤ 1099511627776)) then
    some (false, (([] : List ByteArray) ++ sb_708))
  else none
noncomputable def slices_Clone_p (k : Nat) : PF := { ps := [(false, 1)], rs := [(false, 1)], τ := (.sl .str), σ := (.sl .str), f := fun x => slices_Clone k x.1 x.2, fr := [some 9] }
noncomputable def slices_Clone_F (k : Nat) : PT := fnone
theorem slices_Clone_fok (k : Nat) : FOK Try.prog tab (slices_Clone_F k) := fok_none
noncomputable def slices_Clone_h : Hint := .no
noncomputable def slices_Clone_O {R : Type} (k : Nat) : CutK R := cutsO []
noncomputable def slices_Clone_I {R : Type} (k : Nat) : InlT R := inone
theorem slices_Clone_iok {R : Type} (k : Nat) : IOK Try.prog tab (slices_Clone_F k) (slices_Clone_I (R := R) k) := iok_none
theorem slices_Clone_ev (k : Nat) (x : (slices_Clone_p k).τ.den) : evalF tab (slices_Clone_F k) (slices_Clone_p k) (slices_Clone_I k) 0 (slices_Clone_O k) slices_Clone_h Try.f36 x = (slices_Clone_p k).f x := by kernel_rfl
theorem slices_Clone_ok (k : Nat) : PFOK Try.prog tab 36 (slices_Clone_p k) := pfok mixed tabOK (slices_Clone_fok k) Try.func36 (I := slices_Clone_I k) (d := 0) (slices_Clone_iok k) (Q := slices_Clone_O k) (hi := slices_Clone_h) (cuts_of (l := []) (by kernel_rfl) trivial) (slices_Clone_ev k)
end Go.Proofs.Ytiolpmgphkakeaa.Ev
