/- corbellaw15_speaks, told on plain data. Written by program. -/
import Derived.Test.YtcikcikcjimcjaaEmend_Decide
set_option linter.unusedVariables false
set_option maxRecDepth 1000000
namespace Go.Proofs.Ytcikcikcjimcjaa.Ev
open Go Go.RowKit Go.Proofs
def corbellaw15_speaks (k : Nat)  : Option Bool :=
  optb (mend_Decide k (3 : Int) (5 : Int) (4 : Int) (1 : Int) (1 : Int) (0 : Int) (2 : Int) false ([(0 : Int), (1 : Int), (1 : Int)] : List Int) (-1 : Int)) fun r_14216 =>
  optb (mend_Decide k (3 : Int) (5 : Int) (4 : Int) (1 : Int) (1 : Int) (0 : Int) (1 : Int) false ([(1 : Int), (1 : Int), (0 : Int)] : List Int) (-1 : Int)) fun r_14217 =>
  bif (decide (r_14216.2 = (0 : Int))) then
    bif (decide (r_14217.2 = (0 : Int))) then
      bif ((decide (r_14216.1.1 = (1 : Int))) && ((decide (r_14216.1.2.1 = (0 : Int))) && ((decide (r_14216.1.2.2 = (0 : Int))) && true))) then
        some ((decide (r_14217.1.1 = (2 : Int))) && ((decide (r_14217.1.2.1 = (0 : Int))) && ((decide (r_14217.1.2.2 = (0 : Int))) && true)))
      else some false
    else some false
  else some false
def corbellaw15_speaks_p (k : Nat) : PF := { ps := [], rs := [(false, 1)], τ := .bool, σ := .bool, f := fun x => corbellaw15_speaks k }
def corbellaw15_speaks_F (k : Nat) : PT := fcons 22 (mend_Decide_p k) <| fnone
theorem corbellaw15_speaks_fok (k : Nat) : FOK Try.prog tab (corbellaw15_speaks_F k) := fok_cons (mend_Decide_ok k) Try.call22 <| fok_none
def corbellaw15_speaks_h : Hint := .no
def corbellaw15_speaks_O {R : Type} (k : Nat) : CutK R := cutsO []
noncomputable def corbellaw15_speaks_I {R : Type} (k : Nat) : InlT R := inone
theorem corbellaw15_speaks_iok {R : Type} (k : Nat) : IOK Try.prog tab (corbellaw15_speaks_F k) (corbellaw15_speaks_I (R := R) k) := iok_none
theorem corbellaw15_speaks_ev (k : Nat) (x : (corbellaw15_speaks_p k).τ.den) : evalF tab (corbellaw15_speaks_F k) (corbellaw15_speaks_p k) (corbellaw15_speaks_I k) 0 (corbellaw15_speaks_O k) corbellaw15_speaks_h Try.f21 x = (corbellaw15_speaks_p k).f x := by kernel_rfl
theorem corbellaw15_speaks_ok (k : Nat) : PFOK Try.prog tab 21 (corbellaw15_speaks_p k) := pfok mixed tabOK (corbellaw15_speaks_fok k) Try.func21 (I := corbellaw15_speaks_I k) (d := 0) (corbellaw15_speaks_iok k) (Q := corbellaw15_speaks_O k) (hi := corbellaw15_speaks_h) (cuts_of (l := []) (by kernel_rfl) trivial) (corbellaw15_speaks_ev k)
end Go.Proofs.Ytcikcikcjimcjaa.Ev
