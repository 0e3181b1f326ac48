/- corbellaw01_speaks, told on plain data. Written by program. -/
import Derived.Test.YtncdfikcdchimaaEnums_Of
import Derived.Test.YtncdfikcdchimaaEnums_Put
import Derived.Test.YtncdfikcdchimaaEnums_Set_Count
import Derived.Test.YtncdfikcdchimaaEnums_Set_Has
import Derived.Test.YtncdfikcdchimaaEnums_Set_Next
set_option linter.unusedVariables false
set_option maxRecDepth 1000000
namespace Go.Proofs.Ytncdfikcdchimaa.Ev
open Go Go.RowKit Go.Proofs
def corbellaw01_speaks (k : Nat)  : Option Bool :=
  optb (nums_Of k false ([(3 : Int), (1 : Int), (300 : Int)] : List Int)) fun r_92 =>
  optb (nums_Put k (258 : Int) (3 : Int)) fun r_238 =>
  bif (decide (r_238 = (⟨#[0, 1, 2]⟩ : ByteArray))) then
    optb (nums_Set_Count k r_92.1 r_92.2.1 r_92.2.2.1 r_92.2.2.2) fun r_240 =>
    bif (decide (r_240 = (2 : Int))) then
      optb (nums_Set_Has k r_92.1 r_92.2.1 r_92.2.2.1 r_92.2.2.2 (3 : Int)) fun r_241 =>
      bif r_241 then
        optb (nums_Set_Next k r_92.1 r_92.2.1 r_92.2.2.1 r_92.2.2.2 (2 : Int)) fun r_242 =>
        some (decide (r_242 = (3 : Int)))
      else some false
    else some false
  else some false
def corbellaw01_speaks_p (k : Nat) : PF := { ps := [], rs := [(false, 1)], τ := .bool, σ := .bool, f := fun x => corbellaw01_speaks k }
def corbellaw01_speaks_F (k : Nat) : PT := fcons 13 (nums_Of_p k) <| fcons 11 (nums_Put_p k) <| fcons 16 (nums_Set_Count_p k) <| fcons 15 (nums_Set_Has_p k) <| fcons 14 (nums_Set_Next_p k) <| fnone
theorem corbellaw01_speaks_fok (k : Nat) : FOK Try.prog tab (corbellaw01_speaks_F k) := fok_cons (nums_Of_ok k) Try.call13 <| fok_cons (nums_Put_ok k) Try.call11 <| fok_cons (nums_Set_Count_ok k) Try.call16 <| fok_cons (nums_Set_Has_ok k) Try.call15 <| fok_cons (nums_Set_Next_ok k) Try.call14 <| fok_none
def corbellaw01_speaks_h : Hint := .no
def corbellaw01_speaks_O {R : Type} (k : Nat) : CutK R := cutsO []
noncomputable def corbellaw01_speaks_I {R : Type} (k : Nat) : InlT R := inone
theorem corbellaw01_speaks_iok {R : Type} (k : Nat) : IOK Try.prog tab (corbellaw01_speaks_F k) (corbellaw01_speaks_I (R := R) k) := iok_none
theorem corbellaw01_speaks_ev (k : Nat) (x : (corbellaw01_speaks_p k).τ.den) : evalF tab (corbellaw01_speaks_F k) (corbellaw01_speaks_p k) (corbellaw01_speaks_I k) 0 (corbellaw01_speaks_O k) corbellaw01_speaks_h Try.f10 x = (corbellaw01_speaks_p k).f x := by kernel_rfl
theorem corbellaw01_speaks_ok (k : Nat) : PFOK Try.prog tab 10 (corbellaw01_speaks_p k) := pfok mixed tabOK (corbellaw01_speaks_fok k) Try.func10 (I := corbellaw01_speaks_I k) (d := 0) (corbellaw01_speaks_iok k) (Q := corbellaw01_speaks_O k) (hi := corbellaw01_speaks_h) (cuts_of (l := []) (by kernel_rfl) trivial) (corbellaw01_speaks_ev k)
end Go.Proofs.Ytncdfikcdchimaa.Ev
