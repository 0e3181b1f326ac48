/- corbelref11_Parity, told on plain data. Written by program. -/
import Derived.Test.YtbgcfcojepfdbaaEcorbelref11_zero
import Derived.Test.YtbgcfcojepfdbaaEcorbelref03_Fold
import Derived.Test.YtbgcfcojepfdbaaEcorbelref03_Add
set_option linter.unusedVariables false
set_option maxRecDepth 1000000
namespace Go.Proofs.Ytbgcfcojepfdbaa.Ev
open Go Go.RowKit Go.Proofs
def corbelref11_Parity (k : Nat) (la_1083 : Bool) (lb_1084 : List ByteArray) : Option ByteArray :=
  optb (corbelref11_zero k) fun r_1437 =>
  optb (corbelref03_Fold k la_1083 lb_1084) fun r_1438 =>
  optb (corbelref03_Add k r_1437 r_1438) fun r_1439 =>
  some r_1439
def corbelref11_Parity_p (k : Nat) : PF := { ps := [(false, 1)], rs := [(false, 1)], τ := (.sl .str), σ := .str, f := fun x => corbelref11_Parity k x.1 x.2 }
def corbelref11_Parity_F (k : Nat) : PT := fcons 47 (corbelref11_zero_p k) <| fcons 48 (corbelref03_Fold_p k) <| fcons 46 (corbelref03_Add_p k) <| fnone
theorem corbelref11_Parity_fok (k : Nat) : FOK Try.prog tab (corbelref11_Parity_F k) := fok_cons (corbelref11_zero_ok k) Try.call47 <| fok_cons (corbelref03_Fold_ok k) Try.call48 <| fok_cons (corbelref03_Add_ok k) Try.call46 <| fok_none
def corbelref11_Parity_h : Hint := .no
def corbelref11_Parity_O {R : Type} (k : Nat) : CutK R := cutsO []
noncomputable def corbelref11_Parity_I {R : Type} (k : Nat) : InlT R := inone
theorem corbelref11_Parity_iok {R : Type} (k : Nat) : IOK Try.prog tab (corbelref11_Parity_F k) (corbelref11_Parity_I (R := R) k) := iok_none
theorem corbelref11_Parity_ev (k : Nat) (x : (corbelref11_Parity_p k).τ.den) : evalF tab (corbelref11_Parity_F k) (corbelref11_Parity_p k) (corbelref11_Parity_I k) 0 (corbelref11_Parity_O k) corbelref11_Parity_h Try.f19 x = (corbelref11_Parity_p k).f x := by kernel_rfl
theorem corbelref11_Parity_ok (k : Nat) : PFOK Try.prog tab 19 (corbelref11_Parity_p k) := pfok mixed tabOK (corbelref11_Parity_fok k) Try.func19 (I := corbelref11_Parity_I k) (d := 0) (corbelref11_Parity_iok k) (Q := corbelref11_Parity_O k) (hi := corbelref11_Parity_h) (cuts_of (l := []) (by kernel_rfl) trivial) (corbelref11_Parity_ev k)
end Go.Proofs.Ytbgcfcojepfdbaa.Ev
