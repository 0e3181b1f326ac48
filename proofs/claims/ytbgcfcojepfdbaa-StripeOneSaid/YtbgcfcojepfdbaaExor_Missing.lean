/- xor_Missing, told on plain data. Written by program. -/
import Derived.Test.YtbgcfcojepfdbaaExor_Fold
import Derived.Test.YtbgcfcojepfdbaaExor_Add
set_option linter.unusedVariables false
set_option maxRecDepth 1000000
namespace Go.Proofs.Ytbgcfcojepfdbaa.Ev
open Go Go.RowKit Go.Proofs
def xor_Missing (k : Nat) (parity_19856 : ByteArray) (othersa_19857 : Bool) (othersb_19858 : List ByteArray) : Option ByteArray :=
  optb (xor_Fold k othersa_19857 othersb_19858) fun r_19859 =>
  optb (xor_Add k parity_19856 r_19859) fun r_19860 =>
  some r_19860
def xor_Missing_p (k : Nat) : PF := { ps := [(false, 1), (false, 1)], rs := [(false, 1)], τ := (.pair .str (.sl .str)), σ := .str, f := fun x => xor_Missing k x.1 x.2.1 x.2.2 }
def xor_Missing_F (k : Nat) : PT := fcons 45 (xor_Fold_p k) <| fcons 43 (xor_Add_p k) <| fnone
theorem xor_Missing_fok (k : Nat) : FOK Try.prog tab (xor_Missing_F k) := fok_cons (xor_Fold_ok k) Try.call45 <| fok_cons (xor_Add_ok k) Try.call43 <| fok_none
def xor_Missing_h : Hint := .no
def xor_Missing_O {R : Type} (k : Nat) : CutK R := cutsO []
noncomputable def xor_Missing_I {R : Type} (k : Nat) : InlT R := inone
theorem xor_Missing_iok {R : Type} (k : Nat) : IOK Try.prog tab (xor_Missing_F k) (xor_Missing_I (R := R) k) := iok_none
theorem xor_Missing_ev (k : Nat) (x : (xor_Missing_p k).τ.den) : evalF tab (xor_Missing_F k) (xor_Missing_p k) (xor_Missing_I k) 0 (xor_Missing_O k) xor_Missing_h Try.f42 x = (xor_Missing_p k).f x := by kernel_rfl
theorem xor_Missing_ok (k : Nat) : PFOK Try.prog tab 42 (xor_Missing_p k) := pfok mixed tabOK (xor_Missing_fok k) Try.func42 (I := xor_Missing_I k) (d := 0) (xor_Missing_iok k) (Q := xor_Missing_O k) (hi := xor_Missing_h) (cuts_of (l := []) (by kernel_rfl) trivial) (xor_Missing_ev k)
end Go.Proofs.Ytbgcfcojepfdbaa.Ev
