/- slices_Contains, told on plain data. Written by program. -/
import Derived.Test.YthilffdaofaalaaEslices_Index
set_option linter.unusedVariables false
set_option maxRecDepth 1000000
namespace Go.Proofs.Ythilffdaofaalaa.Ev
open Go Go.RowKit Go.Proofs
def slices_Contains (k : Nat) (sa_518 : Bool) (sb_519 : List Int) (v_520 : Int) : Option Bool :=
  optb (slices_Index k sa_518 sb_519 v_520) fun r_533 =>
  some (decide ((0 : Int) ≤ r_533))
def slices_Contains_p (k : Nat) : PF := { ps := [(false, 1), (false, 1)], rs := [(false, 1)], τ := (.pair (.sl (.int .i64)) (.int .i64)), σ := .bool, f := fun x => slices_Contains k x.1.1 x.1.2 x.2 }
def slices_Contains_F (k : Nat) : PT := fcons 88 (slices_Index_p k) <| fnone
theorem slices_Contains_fok (k : Nat) : FOK Try.prog tab (slices_Contains_F k) := fok_cons (slices_Index_ok k) Try.call88 <| fok_none
def slices_Contains_h : Hint := .no
def slices_Contains_O {R : Type} (k : Nat) : CutK R := cutsO []
noncomputable def slices_Contains_I {R : Type} (k : Nat) : InlT R := inone
theorem slices_Contains_iok {R : Type} (k : Nat) : IOK Try.prog tab (slices_Contains_F k) (slices_Contains_I (R := R) k) := iok_none
theorem slices_Contains_ev (k : Nat) (x : (slices_Contains_p k).τ.den) : evalF tab (slices_Contains_F k) (slices_Contains_p k) (slices_Contains_I k) 0 (slices_Contains_O k) slices_Contains_h Try.f65 x = (slices_Contains_p k).f x := by kernel_rfl
theorem slices_Contains_ok (k : Nat) : PFOK Try.prog tab 65 (slices_Contains_p k) := pfok mixed tabOK (slices_Contains_fok k) Try.func65 (I := slices_Contains_I k) (d := 0) (slices_Contains_iok k) (Q := slices_Contains_O k) (hi := slices_Contains_h) (cuts_of (l := []) (by kernel_rfl) trivial) (slices_Contains_ev k)
end Go.Proofs.Ythilffdaofaalaa.Ev
