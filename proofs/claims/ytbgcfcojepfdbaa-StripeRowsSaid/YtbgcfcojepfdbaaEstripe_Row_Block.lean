/- stripe_Row_Block, told on plain data. Written by program. -/
import Derived.Test.YtbgcfcojepfdbaaEstripe_get
set_option linter.unusedVariables false
set_option maxRecDepth 1000000
namespace Go.Proofs.Ytbgcfcojepfdbaa.Ev
open Go Go.RowKit Go.Proofs
def stripe_Row_Block (k : Nat) (ra_2475 : Int) (rb_2476 : Bool) (rc_2477 : List ByteArray) (k_2478 : Int) : Option (ByteArray × Bool) :=
  optb (stripe_get k rb_2476 rc_2477 k_2478) fun r_2497 =>
  some (r_2497.1, r_2497.2)
def stripe_Row_Block_p (k : Nat) : PF := { ps := [(true, 2), (false, 1)], rs := [(false, 1), (false, 1)], τ := (.pair (.pair (.int .i64) (.sl .str)) (.int .i64)), σ := (.pair .str .bool), f := fun x => stripe_Row_Block k x.1.1 x.1.2.1 x.1.2.2 x.2 }
def stripe_Row_Block_F (k : Nat) : PT := fcons 37 (stripe_get_p k) <| fnone
theorem stripe_Row_Block_fok (k : Nat) : FOK Try.prog tab (stripe_Row_Block_F k) := fok_cons (stripe_get_ok k) Try.call37 <| fok_none
def stripe_Row_Block_h : Hint := .no
def stripe_Row_Block_O {R : Type} (k : Nat) : CutK R := cutsO []
noncomputable def stripe_Row_Block_I {R : Type} (k : Nat) : InlT R := inone
theorem stripe_Row_Block_iok {R : Type} (k : Nat) : IOK Try.prog tab (stripe_Row_Block_F k) (stripe_Row_Block_I (R := R) k) := iok_none
theorem stripe_Row_Block_ev (k : Nat) (x : (stripe_Row_Block_p k).τ.den) : evalF tab (stripe_Row_Block_F k) (stripe_Row_Block_p k) (stripe_Row_Block_I k) 0 (stripe_Row_Block_O k) stripe_Row_Block_h Try.f20 x = (stripe_Row_Block_p k).f x := by kernel_rfl
theorem stripe_Row_Block_ok (k : Nat) : PFOK Try.prog tab 20 (stripe_Row_Block_p k) := pfok mixed tabOK (stripe_Row_Block_fok k) Try.func20 (I := stripe_Row_Block_I k) (d := 0) (stripe_Row_Block_iok k) (Q := stripe_Row_Block_O k) (hi := stripe_Row_Block_h) (cuts_of (l := []) (by kernel_rfl) trivial) (stripe_Row_Block_ev k)
end Go.Proofs.Ytbgcfcojepfdbaa.Ev
