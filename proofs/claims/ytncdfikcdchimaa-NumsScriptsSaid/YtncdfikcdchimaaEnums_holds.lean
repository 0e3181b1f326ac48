/- nums_holds, told on plain data. Written by program. -/
import Derived.Test.YtncdfikcdchimaaEtab
set_option linter.unusedVariables false
set_option maxRecDepth 1000000
namespace Go.Proofs.Ytncdfikcdchimaa.Ev
open Go Go.RowKit Go.Proofs
def nums_holds (k : Nat) (n_24 : Int) : Option Bool :=
  bif (decide ((0 : Int) ≤ n_24)) then
    some (decide (n_24 < (256 : Int)))
  else some false
def nums_holds_p (k : Nat) : PF := { ps := [(false, 1)], rs := [(false, 1)], τ := (.int .i64), σ := .bool, f := fun x => nums_holds k x }
def nums_holds_F (k : Nat) : PT := fnone
theorem nums_holds_fok (k : Nat) : FOK Try.prog tab (nums_holds_F k) := fok_none
def nums_holds_h : Hint := .no
def nums_holds_O {R : Type} (k : Nat) : CutK R := cutsO []
noncomputable def nums_holds_I {R : Type} (k : Nat) : InlT R := inone
theorem nums_holds_iok {R : Type} (k : Nat) : IOK Try.prog tab (nums_holds_F k) (nums_holds_I (R := R) k) := iok_none
theorem nums_holds_ev (k : Nat) (x : (nums_holds_p k).τ.den) : evalF tab (nums_holds_F k) (nums_holds_p k) (nums_holds_I k) 0 (nums_holds_O k) nums_holds_h Try.f27 x = (nums_holds_p k).f x := by kernel_rfl
theorem nums_holds_ok (k : Nat) : PFOK Try.prog tab 27 (nums_holds_p k) := pfok mixed tabOK (nums_holds_fok k) Try.func27 (I := nums_holds_I k) (d := 0) (nums_holds_iok k) (Q := nums_holds_O k) (hi := nums_holds_h) (cuts_of (l := []) (by kernel_rfl) trivial) (nums_holds_ev k)
end Go.Proofs.Ytncdfikcdchimaa.Ev
