/- xor_Zero, told on plain data. Written by program. -/
import Derived.Test.YtiolpmgphkakeaaEstrings_Repeat
set_option linter.unusedVariables false
set_option maxRecDepth 1000000
namespace Go.Proofs.Ytiolpmgphkakeaa.Ev
open Go Go.RowKit Go.Proofs
noncomputable def xor_Zero (k : Nat) (n_4 : Int) : Option ByteArray :=
  bif (decide (n_4 < (0 : Int))) then
    some (⟨#[]⟩ : ByteArray)
  else bif (decide ((65536 : Int) < n_4)) then
    some (⟨#[]⟩ : ByteArray)
  else optb (strings_Repeat k (⟨#[0]⟩ : ByteArray) n_4) fun r_5 =>
  some r_5
noncomputable def xor_Zero_p (k : Nat) : PF := { ps := [(false, 1)], rs := [(false, 1)], τ := (.int .i64), σ := .str, f := fun x => xor_Zero k x }
noncomputable def xor_Zero_F (k : Nat) : PT := fcons 38 (strings_Repeat_p k) <| fnone
theorem xor_Zero_fok (k : Nat) : FOK Try.prog tab (xor_Zero_F k) := fok_cons (strings_Repeat_ok k) Try.call38 <| fok_none
noncomputable def xor_Zero_h : Hint := .no
noncomputable def xor_Zero_O {R : Type} (k : Nat) : CutK R := cutsO []
noncomputable def xor_Zero_I {R : Type} (k : Nat) : InlT R := inone
theorem xor_Zero_iok {R : Type} (k : Nat) : IOK Try.prog tab (xor_Zero_F k) (xor_Zero_I (R := R) k) := iok_none
theorem xor_Zero_ev (k : Nat) (x : (xor_Zero_p k).τ.den) : evalF tab (xor_Zero_F k) (xor_Zero_p k) (xor_Zero_I k) 0 (xor_Zero_O k) xor_Zero_h Try.f32 x = (xor_Zero_p k).f x := by kernel_rfl
theorem xor_Zero_ok (k : Nat) : PFOK Try.prog tab 32 (xor_Zero_p k) := pfok mixed tabOK (xor_Zero_fok k) Try.func32 (I := xor_Zero_I k) (d := 0) (xor_Zero_iok k) (Q := xor_Zero_O k) (hi := xor_Zero_h) (cuts_of (l := []) (by kernel_rfl) trivial) (xor_Zero_ev k)
end Go.Proofs.Ytiolpmgphkakeaa.Ev
