/- corbellaw11_speaks, told on plain data. Written by program. -/
import Derived.Test.YtbgcfcojepfdbaaEstripe_New
import Derived.Test.YtbgcfcojepfdbaaEstripe_Row_Add
import Derived.Test.YtbgcfcojepfdbaaEstripe_Pieces
import Derived.Test.YtbgcfcojepfdbaaEstripe_Row_Count
import Derived.Test.YtbgcfcojepfdbaaEstripe_Row_Full
set_option linter.unusedVariables false
set_option maxRecDepth 1000000
namespace Go.Proofs.Ytbgcfcojepfdbaa.Ev
open Go Go.RowKit Go.Proofs
def corbellaw11_speaks (k : Nat)  : Option Bool :=
  optb (stripe_New k (2 : Int)) fun r_18 =>
  optb (stripe_Row_Add k r_18.1.1 r_18.1.2.1 r_18.1.2.2 (bytesOf (List.replicate (64 : Int).toNat (Ty.zero (.int .u8))))) fun r_32 =>
  optb (stripe_Pieces k (2 : Int) (1 : Int) (3 : Int)) fun r_105 =>
  bif (decide (r_18.2 = (0 : Int))) then
    bif (decide (r_32.2 = (0 : Int))) then
      optb (stripe_Row_Count k r_32.1.1 r_32.1.2.1 r_32.1.2.2) fun r_109 =>
      bif (decide (r_109 = (1 : Int))) then
        optb (stripe_Row_Full k r_32.1.1 r_32.1.2.1 r_32.1.2.2) fun r_110 =>
        bif (!r_110) then
          bif (decide ((lenI r_105.2) = (2 : Int))) then
            bif (decide ((1 : Int) < (lenI r_105.2))) then
              optb (r_105.2[(1 : Int).toNat]?) fun x_111 =>
              some ((decide (x_111.1 = (1 : Int))) && ((decide (x_111.2.1 = (0 : Int))) && ((decide (x_111.2.2 = (2 : Int))) && true)))
            else none
          else some false
        else some false
      else some false
    else some false
  else some false
def corbellaw11_speaks_p (k : Nat) : PF := { ps := [], rs := [(false, 1)], τ := .bool, σ := .bool, f := fun x => corbellaw11_speaks k }
def corbellaw11_speaks_F (k : Nat) : PT := fcons 14 (stripe_New_p k) <| fcons 17 (stripe_Row_Add_p k) <| fcons 36 (stripe_Pieces_p k) <| fcons 15 (stripe_Row_Count_p k) <| fcons 16 (stripe_Row_Full_p k) <| fnone
theorem corbellaw11_speaks_fok (k : Nat) : FOK Try.prog tab (corbellaw11_speaks_F k) := fok_cons (stripe_New_ok k) Try.call14 <| fok_cons (stripe_Row_Add_ok k) Try.call17 <| fok_cons (stripe_Pieces_ok k) Try.call36 <| fok_cons (stripe_Row_Count_ok k) Try.call15 <| fok_cons (stripe_Row_Full_ok k) Try.call16 <| fok_none
def corbellaw11_speaks_h : Hint := .no
def corbellaw11_speaks_O {R : Type} (k : Nat) : CutK R := cutsO []
noncomputable def corbellaw11_speaks_I {R : Type} (k : Nat) : InlT R := inone
theorem corbellaw11_speaks_iok {R : Type} (k : Nat) : IOK Try.prog tab (corbellaw11_speaks_F k) (corbellaw11_speaks_I (R := R) k) := iok_none
theorem corbellaw11_speaks_ev (k : Nat) (x : (corbellaw11_speaks_p k).τ.den) : evalF tab (corbellaw11_speaks_F k) (corbellaw11_speaks_p k) (corbellaw11_speaks_I k) 0 (corbellaw11_speaks_O k) corbellaw11_speaks_h Try.f10 x = (corbellaw11_speaks_p k).f x := by kernel_rfl
theorem corbellaw11_speaks_ok (k : Nat) : PFOK Try.prog tab 10 (corbellaw11_speaks_p k) := pfok mixed tabOK (corbellaw11_speaks_fok k) Try.func10 (I := corbellaw11_speaks_I k) (d := 0) (corbellaw11_speaks_iok k) (Q := corbellaw11_speaks_O k) (hi := corbellaw11_speaks_h) (cuts_of (l := []) (by kernel_rfl) trivial) (corbellaw11_speaks_ev k)
end Go.Proofs.Ytbgcfcojepfdbaa.Ev
