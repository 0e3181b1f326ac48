/- stripe_Row_Parity, told on plain data. Written by program. -/
import Derived.Test.YtbgcfcojepfdbaaExor_Zero
import Derived.Test.YtbgcfcojepfdbaaExor_Fold
import Derived.Test.YtbgcfcojepfdbaaExor_Add
set_option linter.unusedVariables false
set_option maxRecDepth 1000000
namespace Go.Proofs.Ytbgcfcojepfdbaa.Ev
open Go Go.RowKit Go.Proofs
def stripe_Row_Parity (k : Nat) (ra_236 : Int) (rb_237 : Bool) (rc_238 : List ByteArray) : Option ByteArray :=
  optb (xor_Zero k (64 : Int)) fun r_1080 =>
  optb (xor_Fold k rb_237 rc_238) fun r_1081 =>
  optb (xor_Add k r_1080 r_1081) fun r_1082 =>
  some r_1082
def stripe_Row_Parity_p (k : Nat) : PF := { ps := [(true, 2)], rs := [(false, 1)], τ := (.pair (.int .i64) (.sl .str)), σ := .str, f := fun x => stripe_Row_Parity k x.1 x.2.1 x.2.2 }
def stripe_Row_Parity_F (k : Nat) : PT := fcons 44 (xor_Zero_p k) <| fcons 45 (xor_Fold_p k) <| fcons 43 (xor_Add_p k) <| fnone
theorem stripe_Row_Parity_fok (k : Nat) : FOK Try.prog tab (stripe_Row_Parity_F k) := fok_cons (xor_Zero_ok k) Try.call44 <| fok_cons (xor_Fold_ok k) Try.call45 <| fok_cons (xor_Add_ok k) Try.call43 <| fok_none
def stripe_Row_Parity_h : Hint := .no
def stripe_Row_Parity_O {R : Type} (k : Nat) : CutK R := cutsO []
noncomputable def stripe_Row_Parity_I {R : Type} (k : Nat) : InlT R := inone
theorem stripe_Row_Parity_iok {R : Type} (k : Nat) : IOK Try.prog tab (stripe_Row_Parity_F k) (stripe_Row_Parity_I (R := R) k) := iok_none
theorem stripe_Row_Parity_ev (k : Nat) (x : (stripe_Row_Parity_p k).τ.den) : evalF tab (stripe_Row_Parity_F k) (stripe_Row_Parity_p k) (stripe_Row_Parity_I k) 0 (stripe_Row_Parity_O k) stripe_Row_Parity_h Try.f18 x = (stripe_Row_Parity_p k).f x := by kernel_rfl
theorem stripe_Row_Parity_ok (k : Nat) : PFOK Try.prog tab 18 (stripe_Row_Parity_p k) := pfok mixed tabOK (stripe_Row_Parity_fok k) Try.func18 (I := stripe_Row_Parity_I k) (d := 0) (stripe_Row_Parity_iok k) (Q := stripe_Row_Parity_O k) (hi := stripe_Row_Parity_h) (cuts_of (l := []) (by kernel_rfl) trivial) (stripe_Row_Parity_ev k)
end Go.Proofs.Ytbgcfcojepfdbaa.Ev
