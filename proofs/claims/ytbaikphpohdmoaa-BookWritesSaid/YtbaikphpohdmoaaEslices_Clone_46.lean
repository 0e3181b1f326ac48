/- slices_Clone_46, told on plain data. Written by program. -/
import Derived.Test.YtbaikphpohdmoaaEtab
set_option linter.unusedVariables false
set_option maxRecDepth 1000000
namespace Go.Proofs.Ytbaikphpohdmoaa.Ev
open Go Go.RowKit Go.Proofs
def slices_Clone_46 (k : Nat) (sa_805 : Bool) (sb_806 : List Int) : Option (Bool × List Int) :=
  bif (sa_805 && (sb_806.isEmpty)) then
    some (true, ([] : List Int))
  else bif (decide (([] : List Int).length + sb_806.length ≤ 1099511627776)) then
    some (false, (([] : List Int) ++ sb_806))
  else none
def slices_Clone_46_p (k : Nat) : PF := { ps := [(false, 1)], rs := [(false, 1)], τ := (.sl (.int .i64)), σ := (.sl (.int .i64)), f := fun x => slices_Clone_46 k x.1 x.2, fr := [some 3] }
def slices_Clone_46_F (k : Nat) : PT := fnone
theorem slices_Clone_46_fok (k : Nat) : FOK Try.prog tab (slices_Clone_46_F k) := fok_none
def slices_Clone_46_h : Hint := .no
def slices_Clone_46_O {R : Type} (k : Nat) : CutK R := cutsO []
noncomputable def slices_Clone_46_I {R : Type} (k : Nat) : InlT R := inone
theorem slices_Clone_46_iok {R : Type} (k : Nat) : IOK Try.prog tab (slices_Clone_46_F k) (slices_Clone_46_I (R := R) k) := iok_none
theorem slices_Clone_46_ev (k : Nat) (x : (slices_Clone_46_p k).τ.den) : evalF tab (slices_Clone_46_F k) (slices_Clone_46_p k) (slices_Clone_46_I k) 0 (slices_Clone_46_O k) slices_Clone_46_h Try.f46 x = (slices_Clone_46_p k).f x := by kernel_rfl
theorem slices_Clone_46_ok (k : Nat) : PFOK Try.prog tab 46 (slices_Clone_46_p k) := pfok mixed tabOK (slices_Clone_46_fok k) Try.func46 (I := slices_Clone_46_I k) (d := 0) (slices_Clone_46_iok k) (Q := slices_Clone_46_O k) (hi := slices_Clone_46_h) (cuts_of (l := []) (by kernel_rfl) trivial) (slices_Clone_46_ev k)
end Go.Proofs.Ytbaikphpohdmoaa.Ev
