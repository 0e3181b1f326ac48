/- corbellaw13_speaks, told on plain data. Written by program. -/
import Derived.Test.YtcikcikcjimcjaaEplan_Write
set_option linter.unusedVariables false
set_option maxRecDepth 1000000
namespace Go.Proofs.Ytcikcikcjimcjaa.Ev
open Go Go.RowKit Go.Proofs
def corbellaw13_speaks (k : Nat)  : Option Bool :=
  optb (plan_Write k (3 : Int) (5 : Int) (4 : Int) (1 : Int) (1 : Int) (0 : Int) (0 : Int) (3 : Int)) fun r_1564 =>
  bif (decide (r_1564.2 = (0 : Int))) then
    bif (decide ((lenI r_1564.1.2) = (5 : Int))) then
      bif (decide ((2 : Int) < (lenI r_1564.1.2))) then
        optb (r_1564.1.2[(2 : Int).toNat]?) fun x_1565 =>
        bif ((decide (x_1565.1 = (2 : Int))) && ((decide (x_1565.2.1 = (0 : Int))) && ((decide (x_1565.2.2.1 = (0 : Int))) && ((decide (x_1565.2.2.2.1 = (0 : Int))) && ((decide (x_1565.2.2.2.2 = (0 : Int))) && true))))) then
          bif (decide ((4 : Int) < (lenI r_1564.1.2))) then
            optb (r_1564.1.2[(4 : Int).toNat]?) fun x_1567 =>
            some ((decide (x_1567.1 = (3 : Int))) && ((decide (x_1567.2.1 = (1 : Int))) && ((decide (x_1567.2.2.1 = (1 : Int))) && ((decide (x_1567.2.2.2.1 = (0 : Int))) && ((decide (x_1567.2.2.2.2 = (1 : Int))) && true)))))
          else none
        else some false
      else none
    else some false
  else some false
def corbellaw13_speaks_p (k : Nat) : PF := { ps := [], rs := [(false, 1)], τ := .bool, σ := .bool, f := fun x => corbellaw13_speaks k }
def corbellaw13_speaks_F (k : Nat) : PT := fcons 16 (plan_Write_p k) <| fnone
theorem corbellaw13_speaks_fok (k : Nat) : FOK Try.prog tab (corbellaw13_speaks_F k) := fok_cons (plan_Write_ok k) Try.call16 <| fok_none
def corbellaw13_speaks_h : Hint := .no
def corbellaw13_speaks_O {R : Type} (k : Nat) : CutK R := cutsO []
noncomputable def corbellaw13_speaks_I {R : Type} (k : Nat) : InlT R := inone
theorem corbellaw13_speaks_iok {R : Type} (k : Nat) : IOK Try.prog tab (corbellaw13_speaks_F k) (corbellaw13_speaks_I (R := R) k) := iok_none
theorem corbellaw13_speaks_ev (k : Nat) (x : (corbellaw13_speaks_p k).τ.den) : evalF tab (corbellaw13_speaks_F k) (corbellaw13_speaks_p k) (corbellaw13_speaks_I k) 0 (corbellaw13_speaks_O k) corbellaw13_speaks_h Try.f15 x = (corbellaw13_speaks_p k).f x := by kernel_rfl
theorem corbellaw13_speaks_ok (k : Nat) : PFOK Try.prog tab 15 (corbellaw13_speaks_p k) := pfok mixed tabOK (corbellaw13_speaks_fok k) Try.func15 (I := corbellaw13_speaks_I k) (d := 0) (corbellaw13_speaks_iok k) (Q := corbellaw13_speaks_O k) (hi := corbellaw13_speaks_h) (cuts_of (l := []) (by kernel_rfl) trivial) (corbellaw13_speaks_ev k)
end Go.Proofs.Ytcikcikcjimcjaa.Ev
