/- corbelref11_zero, told on plain data. Written by program. -/
import Derived.Test.YtbgcfcojepfdbaaEtab
set_option linter.unusedVariables false
set_option maxRecDepth 1000000
namespace Go.Proofs.Ytbgcfcojepfdbaa.Ev
open Go Go.RowKit Go.Proofs
def corbelref11_zero (k : Nat)  : Option ByteArray :=
  some (bytesOf (List.replicate (64 : Int).toNat (Ty.zero (.int .u8))))
def corbelref11_zero_p (k : Nat) : PF := { ps := [], rs := [(false, 1)], τ := .bool, σ := .str, f := fun x => corbelref11_zero k }
def corbelref11_zero_F (k : Nat) : PT := fnone
theorem corbelref11_zero_fok (k : Nat) : FOK Try.prog tab (corbelref11_zero_F k) := fok_none
def corbelref11_zero_h : Hint := .no
def corbelref11_zero_O {R : Type} (k : Nat) : CutK R := cutsO []
noncomputable def corbelref11_zero_I {R : Type} (k : Nat) : InlT R := inone
theorem corbelref11_zero_iok {R : Type} (k : Nat) : IOK Try.prog tab (corbelref11_zero_F k) (corbelref11_zero_I (R := R) k) := iok_none
theorem corbelref11_zero_ev (k : Nat) (x : (corbelref11_zero_p k).τ.den) : evalF tab (corbelref11_zero_F k) (corbelref11_zero_p k) (corbelref11_zero_I k) 0 (corbelref11_zero_O k) corbelref11_zero_h Try.f47 x = (corbelref11_zero_p k).f x := by kernel_rfl
theorem corbelref11_zero_ok (k : Nat) : PFOK Try.prog tab 47 (corbelref11_zero_p k) := pfok mixed tabOK (corbelref11_zero_fok k) Try.func47 (I := corbelref11_zero_I k) (d := 0) (corbelref11_zero_iok k) (Q := corbelref11_zero_O k) (hi := corbelref11_zero_h) (cuts_of (l := []) (by kernel_rfl) trivial) (corbelref11_zero_ev k)
end Go.Proofs.Ytbgcfcojepfdbaa.Ev
