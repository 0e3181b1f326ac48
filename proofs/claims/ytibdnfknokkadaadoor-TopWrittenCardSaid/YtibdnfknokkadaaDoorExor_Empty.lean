/- xor_Empty, told on plain data. Written by program. -/
import Derived.Test.YtibdnfknokkadaaDoorEstrings_Trim
set_option linter.unusedVariables false
set_option maxRecDepth 1000000
namespace Go.Proofs.YtibdnfknokkadaaDoor.Ev
open Go Go.RowKit Go.Proofs
noncomputable def xor_Empty (k : Nat) (s_0 : ByteArray) : Option Bool :=
  optb (strings_Trim k s_0 (⟨#[0]⟩ : ByteArray)) fun r_1 =>
  some (decide (r_1 = (⟨#[]⟩ : ByteArray)))
noncomputable def xor_Empty_p (k : Nat) : PF := { ps := [(false, 1)], rs := [(false, 1)], τ := .str, σ := .bool, f := fun x => xor_Empty k x }
noncomputable def xor_Empty_F (k : Nat) : PT := fcons 56 (strings_Trim_p k) <| fnone
theorem xor_Empty_fok (k : Nat) : FOK Tryd.prog tab (xor_Empty_F k) := fok_cons (strings_Trim_ok k) Tryd.call56 <| fok_none
noncomputable def xor_Empty_h : Hint := .no
noncomputable def xor_Empty_O {R : Type} (k : Nat) : CutK R := cutsO []
noncomputable def xor_Empty_I {R : Type} (k : Nat) : InlT R := inone
theorem xor_Empty_iok {R : Type} (k : Nat) : IOK Tryd.prog tab (xor_Empty_F k) (xor_Empty_I (R := R) k) := iok_none
theorem xor_Empty_ev (k : Nat) (x : (xor_Empty_p k).τ.den) : evalF tab (xor_Empty_F k) (xor_Empty_p k) (xor_Empty_I k) 0 (xor_Empty_O k) xor_Empty_h Tryd.f39 x = (xor_Empty_p k).f x := by kernel_rfl
theorem xor_Empty_ok (k : Nat) : PFOK Tryd.prog tab 39 (xor_Empty_p k) := pfok mixed tabOK (xor_Empty_fok k) Tryd.func39 (I := xor_Empty_I k) (d := 0) (xor_Empty_iok k) (Q := xor_Empty_O k) (hi := xor_Empty_h) (cuts_of (l := []) (by kernel_rfl) trivial) (xor_Empty_ev k)
end Go.Proofs.YtibdnfknokkadaaDoor.Ev
