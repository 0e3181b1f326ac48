/- stripe_Row_Full, told on plain data. Written by program. -/
import Derived.Test.YtbgcfcojepfdbaaEtab
set_option linter.unusedVariables false
set_option maxRecDepth 1000000
namespace Go.Proofs.Ytbgcfcojepfdbaa.Ev
open Go Go.RowKit Go.Proofs
def stripe_Row_Full (k : Nat) (ra_24 : Int) (rb_25 : Bool) (rc_26 : List ByteArray) : Option Bool :=
  some (decide ((lenI rc_26) = ra_24))
def stripe_Row_Full_p (k : Nat) : PF := { ps := [(true, 2)], rs := [(false, 1)], τ := (.pair (.int .i64) (.sl .str)), σ := .bool, f := fun x => stripe_Row_Full k x.1 x.2.1 x.2.2 }
def stripe_Row_Full_F (k : Nat) : PT := fnone
theorem stripe_Row_Full_fok (k : Nat) : FOK Try.prog tab (stripe_Row_Full_F k) := fok_none
def stripe_Row_Full_h : Hint := .no
def stripe_Row_Full_O {R : Type} (k : Nat) : CutK R := cutsO []
noncomputable def stripe_Row_Full_I {R : Type} (k : Nat) : InlT R := inone
theorem stripe_Row_Full_iok {R : Type} (k : Nat) : IOK Try.prog tab (stripe_Row_Full_F k) (stripe_Row_Full_I (R := R) k) := iok_none
theorem stripe_Row_Full_ev (k : Nat) (x : (stripe_Row_Full_p k).τ.den) : evalF tab (stripe_Row_Full_F k) (stripe_Row_Full_p k) (stripe_Row_Full_I k) 0 (stripe_Row_Full_O k) stripe_Row_Full_h Try.f16 x = (stripe_Row_Full_p k).f x := by kernel_rfl
theorem stripe_Row_Full_ok (k : Nat) : PFOK Try.prog tab 16 (stripe_Row_Full_p k) := pfok mixed tabOK (stripe_Row_Full_fok k) Try.func16 (I := stripe_Row_Full_I k) (d := 0) (stripe_Row_Full_iok k) (Q := stripe_Row_Full_O k) (hi := stripe_Row_Full_h) (cuts_of (l := []) (by kernel_rfl) trivial) (stripe_Row_Full_ev k)
end Go.Proofs.Ytbgcfcojepfdbaa.Ev
