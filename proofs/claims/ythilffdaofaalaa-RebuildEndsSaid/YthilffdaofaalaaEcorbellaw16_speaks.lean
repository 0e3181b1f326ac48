/- corbellaw16_speaks, told on plain data. Written by program. -/
import Derived.Test.YthilffdaofaalaaEbook_New
import Derived.Test.YthilffdaofaalaaErebuild_Begin
import Derived.Test.YthilffdaofaalaaErebuild_Next
set_option linter.unusedVariables false
set_option maxRecDepth 1000000
namespace Go.Proofs.Ythilffdaofaalaa.Ev
open Go Go.RowKit Go.Proofs
def corbellaw16_speaks (k : Nat)  : Option Bool :=
  optb (book_New k (3 : Int) (5 : Int) (4 : Int) (1 : Int) (1 : Int)) fun r_2279 =>
  optb (rebuild_Begin k (3 : Int) (5 : Int) (4 : Int) (1 : Int) (1 : Int) r_2279.1 r_2279.2.1.1 r_2279.2.1.2 r_2279.2.2.1.1 r_2279.2.2.1.2 r_2279.2.2.2.1 r_2279.2.2.2.2 (1 : Int)) fun r_2280 =>
  optb (rebuild_Next k (3 : Int) (5 : Int) (4 : Int) (1 : Int) (1 : Int) r_2280.2.1.1 r_2280.2.1.2.1.1 r_2280.2.1.2.1.2 r_2280.2.1.2.2.1.1 r_2280.2.1.2.2.1.2 r_2280.2.1.2.2.2.1 r_2280.2.1.2.2.2.2) fun r_2401 =>
  bif (decide (r_2280.2.2 = (0 : Int))) then
    bif (decide ((lenI r_2280.1.2) = (2 : Int))) then
      bif (decide ((1 : Int) < (lenI r_2280.1.2))) then
        optb (r_2280.1.2[(1 : Int).toNat]?) fun x_2402 =>
        bif ((decide (x_2402.1 = (5 : Int))) && ((decide (x_2402.2.1 = (2 : Int))) && ((decide (x_2402.2.2.1 = (1 : Int))) && ((decide (x_2402.2.2.2.1 = (3 : Int))) && ((decide (x_2402.2.2.2.2.1 = (0 : Int))) && ((decide (x_2402.2.2.2.2.2.1 = (0 : Int))) && ((decide (x_2402.2.2.2.2.2.2 = (⟨#[]⟩ : ByteArray))) && true))))))) then
          bif (decide (r_2280.2.1.2.2.2.1 = (1 : Int))) then
            bif (decide (r_2401.1 = (2 : Int))) then
              bif (decide (r_2401.2.1 = (0 : Int))) then
                some r_2401.2.2
              else some false
            else some false
          else some false
        else some false
      else none
    else some false
  else some false
def corbellaw16_speaks_p (k : Nat) : PF := { ps := [], rs := [(false, 1)], τ := .bool, σ := .bool, f := fun x => corbellaw16_speaks k }
def corbellaw16_speaks_F (k : Nat) : PT := fcons 30 (book_New_p k) <| fcons 29 (rebuild_Begin_p k) <| fcons 35 (rebuild_Next_p k) <| fnone
theorem corbellaw16_speaks_fok (k : Nat) : FOK Try.prog tab (corbellaw16_speaks_F k) := fok_cons (book_New_ok k) Try.call30 <| fok_cons (rebuild_Begin_ok k) Try.call29 <| fok_cons (rebuild_Next_ok k) Try.call35 <| fok_none
def corbellaw16_speaks_h : Hint := .no
def corbellaw16_speaks_O {R : Type} (k : Nat) : CutK R := cutsO []
noncomputable def corbellaw16_speaks_I {R : Type} (k : Nat) : InlT R := inone
theorem corbellaw16_speaks_iok {R : Type} (k : Nat) : IOK Try.prog tab (corbellaw16_speaks_F k) (corbellaw16_speaks_I (R := R) k) := iok_none
theorem corbellaw16_speaks_ev (k : Nat) (x : (corbellaw16_speaks_p k).τ.den) : evalF tab (corbellaw16_speaks_F k) (corbellaw16_speaks_p k) (corbellaw16_speaks_I k) 0 (corbellaw16_speaks_O k) corbellaw16_speaks_h Try.f28 x = (corbellaw16_speaks_p k).f x := by kernel_rfl
theorem corbellaw16_speaks_ok (k : Nat) : PFOK Try.prog tab 28 (corbellaw16_speaks_p k) := pfok mixed tabOK (corbellaw16_speaks_fok k) Try.func28 (I := corbellaw16_speaks_I k) (d := 0) (corbellaw16_speaks_iok k) (Q := corbellaw16_speaks_O k) (hi := corbellaw16_speaks_h) (cuts_of (l := []) (by kernel_rfl) trivial) (corbellaw16_speaks_ev k)
end Go.Proofs.Ythilffdaofaalaa.Ev
