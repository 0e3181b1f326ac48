/- stripe_Row_Count, told on plain data. Written by program. -/
import Derived.Test.YtbgcfcojepfdbaaEtab
set_option linter.unusedVariables false
set_option maxRecDepth 1000000
namespace Go.Proofs.Ytbgcfcojepfdbaa.Ev
open Go Go.RowKit Go.Proofs
def stripe_Row_Count (k : Nat) (ra_106 : Int) (rb_107 : Bool) (rc_108 : List ByteArray) : Option Int :=
  some (lenI rc_108)
def stripe_Row_Count_p (k : Nat) : PF := { ps := [(true, 2)], rs := [(false, 1)], τ := (.pair (.int .i64) (.sl .str)), σ := (.int .i64), f := fun x => stripe_Row_Count k x.1 x.2.1 x.2.2 }
def stripe_Row_Count_F (k : Nat) : PT := fnone
theorem stripe_Row_Count_fok (k : Nat) : FOK Try.prog tab (stripe_Row_Count_F k) := fok_none
def stripe_Row_Count_h : Hint := .no
def stripe_Row_Count_O {R : Type} (k : Nat) : CutK R := cutsO []
noncomputable def stripe_Row_Count_I {R : Type} (k : Nat) : InlT R := inone
theorem stripe_Row_Count_iok {R : Type} (k : Nat) : IOK Try.prog tab (stripe_Row_Count_F k) (stripe_Row_Count_I (R := R) k) := iok_none
theorem stripe_Row_Count_ev (k : Nat) (x : (stripe_Row_Count_p k).τ.den) : evalF tab (stripe_Row_Count_F k) (stripe_Row_Count_p k) (stripe_Row_Count_I k) 0 (stripe_Row_Count_O k) stripe_Row_Count_h Try.f15 x = (stripe_Row_Count_p k).f x := by kernel_rfl
theorem stripe_Row_Count_ok (k : Nat) : PFOK Try.prog tab 15 (stripe_Row_Count_p k) := pfok mixed tabOK (stripe_Row_Count_fok k) Try.func15 (I := stripe_Row_Count_I k) (d := 0) (stripe_Row_Count_iok k) (Q := stripe_Row_Count_O k) (hi := stripe_Row_Count_h) (cuts_of (l := []) (by kernel_rfl) trivial) (stripe_Row_Count_ev k)
end Go.Proofs.Ytbgcfcojepfdbaa.Ev
