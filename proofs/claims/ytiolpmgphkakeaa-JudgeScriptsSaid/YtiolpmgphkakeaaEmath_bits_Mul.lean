/- math_bits_Mul, told on plain data. Written by program. -/
import Derived.Test.YtiolpmgphkakeaaEmath_bits_Mul64
set_option linter.unusedVariables false
set_option maxRecDepth 1000000
namespace Go.Proofs.Ytiolpmgphkakeaa.Ev
open Go Go.RowKit Go.Proofs
noncomputable def math_bits_Mul (k : Nat) (x_9 : Int) (y_10 : Int) : Option (Int × Int) :=
  optb (math_bits_Mul64 k x_9 y_10) fun r_32 =>
  some (r_32.1, r_32.2)
noncomputable def math_bits_Mul_p (k : Nat) : PF := { ps := [(false, 1), (false, 1)], rs := [(false, 1), (false, 1)], τ := (.pair (.int .u64) (.int .u64)), σ := (.pair (.int .u64) (.int .u64)), f := fun x => math_bits_Mul k x.1 x.2 }
noncomputable def math_bits_Mul_F (k : Nat) : PT := fcons 71 (math_bits_Mul64_p k) <| fnone
theorem math_bits_Mul_fok (k : Nat) : FOK Try.prog tab (math_bits_Mul_F k) := fok_cons (math_bits_Mul64_ok k) Try.call71 <| fok_none
noncomputable def math_bits_Mul_h : Hint := .no
noncomputable def math_bits_Mul_O {R : Type} (k : Nat) : CutK R := cutsO []
noncomputable def math_bits_Mul_I {R : Type} (k : Nat) : InlT R := inone
theorem math_bits_Mul_iok {R : Type} (k : Nat) : IOK Try.prog tab (math_bits_Mul_F k) (math_bits_Mul_I (R := R) k) := iok_none
theorem math_bits_Mul_ev (k : Nat) (x : (math_bits_Mul_p k).τ.den) : evalF tab (math_bits_Mul_F k) (math_bits_Mul_p k) (math_bits_Mul_I k) 0 (math_bits_Mul_O k) math_bits_Mul_h Try.f56 x = (math_bits_Mul_p k).f x := by kernel_rfl
theorem math_bits_Mul_ok (k : Nat) : PFOK Try.prog tab 56 (math_bits_Mul_p k) := pfok mixed tabOK (math_bits_Mul_fok k) Try.func56 (I := math_bits_Mul_I k) (d := 0) (math_bits_Mul_iok k) (Q := math_bits_Mul_O k) (hi := math_bits_Mul_h) (cuts_of (l := []) (by kernel_rfl) trivial) (math_bits_Mul_ev k)
end Go.Proofs.Ytiolpmgphkakeaa.Ev
