/- corbellaw02_speaks, told on plain data. Written by program. -/
import Derived.Test.YtncdfikcdchimaaDoorEcrc_Sum
set_option linter.unusedVariables false
set_option maxRecDepth 1000000
namespace Go.Proofs.YtncdfikcdchimaaDoor.Ev
open Go Go.RowKit Go.Proofs
def corbellaw02_speaks (k : Nat)  : Option Bool :=
  optb (crc_Sum k false ([(⟨#[49, 50, 51, 52]⟩ : ByteArray), (⟨#[]⟩ : ByteArray), (⟨#[53, 54, 55, 56, 57]⟩ : ByteArray)] : List ByteArray)) fun r_73 =>
  some (decide (r_73 = (3808858755 : Int)))
def corbellaw02_speaks_p (k : Nat) : PF := { ps := [], rs := [(false, 1)], τ := .bool, σ := .bool, f := fun x => corbellaw02_speaks k }
def corbellaw02_speaks_F (k : Nat) : PT := fcons 10 (crc_Sum_p k) <| fnone
theorem corbellaw02_speaks_fok (k : Nat) : FOK Tryd.prog tab (corbellaw02_speaks_F k) := fok_cons (crc_Sum_ok k) Tryd.call10 <| fok_none
def corbellaw02_speaks_h : Hint := .no
def corbellaw02_speaks_O {R : Type} (k : Nat) : CutK R := cutsO []
noncomputable def corbellaw02_speaks_I {R : Type} (k : Nat) : InlT R := inone
theorem corbellaw02_speaks_iok {R : Type} (k : Nat) : IOK Tryd.prog tab (corbellaw02_speaks_F k) (corbellaw02_speaks_I (R := R) k) := iok_none
theorem corbellaw02_speaks_ev (k : Nat) (x : (corbellaw02_speaks_p k).τ.den) : evalF tab (corbellaw02_speaks_F k) (corbellaw02_speaks_p k) (corbellaw02_speaks_I k) 0 (corbellaw02_speaks_O k) corbellaw02_speaks_h Tryd.f8 x = (corbellaw02_speaks_p k).f x := by kernel_rfl
theorem corbellaw02_speaks_ok (k : Nat) : PFOK Tryd.prog tab 8 (corbellaw02_speaks_p k) := pfok mixed tabOK (corbellaw02_speaks_fok k) Tryd.func8 (I := corbellaw02_speaks_I k) (d := 0) (corbellaw02_speaks_iok k) (Q := corbellaw02_speaks_O k) (hi := corbellaw02_speaks_h) (cuts_of (l := []) (by kernel_rfl) trivial) (corbellaw02_speaks_ev k)
end Go.Proofs.YtncdfikcdchimaaDoor.Ev
