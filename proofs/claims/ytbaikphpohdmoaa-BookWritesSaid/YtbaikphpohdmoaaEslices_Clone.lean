/- slices_Clone, told on plain data. Written by program. -/
import Derived.Test.YtbaikphpohdmoaaEtab
set_option linter.unusedVariables false
set_option maxRecDepth 1000000
namespace Go.Proofs.Ytbaikphpohdmoaa.Ev
open Go Go.RowKit Go.Proofs
def slices_Clone (k : Nat) (sa_803 : Bool) (sb_804 : List (Int × (Int × Int))) : Option (Bool × List (Int × (Int × Int))) :=
  bif (sa_803 && (sb_804.isEmpty)) then
    some (true, ([] : List (Int × (Int × Int))))
  else bif (decide (([] : List (Int × (Int × Int))).length + sb_804.length ≤ 1099511627776)) then
    some (false, (([] : List (Int × (Int × Int))) ++ sb_804))
  else none
def slices_Clone_p (k : Nat) : PF := { ps := [(false, 1)], rs := [(false, 1)], τ := (.sl (.pair (.int .i64) (.pair (.int .i64) (.int .i64)))), σ := (.sl (.pair (.int .i64) (.pair (.int .i64) (.int .i64)))), f := fun x => slices_Clone k x.1 x.2, fr := [some 92] }
def slices_Clone_F (k : Nat) : PT := fnone
theorem slices_Clone_fok (k : Nat) : FOK Try.prog tab (slices_Clone_F k) := fok_none
def slices_Clone_h : Hint := .no
def slices_Clone_O {R : Type} (k : Nat) : CutK R := cutsO []
noncomputable def slices_Clone_I {R : Type} (k : Nat) : InlT R := inone
theorem slices_Clone_iok {R : Type} (k : Nat) : IOK Try.prog tab (slices_Clone_F k) (slices_Clone_I (R := R) k) := iok_none
theorem slices_Clone_ev (k : Nat) (x : (slices_Clone_p k).τ.den) : evalF tab (slices_Clone_F k) (slices_Clone_p k) (slices_Clone_I k) 0 (slices_Clone_O k) slices_Clone_h Try.f45 x = (slices_Clone_p k).f x := by kernel_rfl
theorem slices_Clone_ok (k : Nat) : PFOK Try.prog tab 45 (slices_Clone_p k) := pfok mixed tabOK (slices_Clone_fok k) Try.func45 (I := slices_Clone_I k) (d := 0) (slices_Clone_iok k) (Q := slices_Clone_O k) (hi := slices_Clone_h) (cuts_of (l := []) (by kernel_rfl) trivial) (slices_Clone_ev k)
end Go.Proofs.Ytbaikphpohdmoaa.Ev
