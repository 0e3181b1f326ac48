/- corbellaw10_speaks, told on plain data. Written by program. -/
import Derived.Test.YtbaikphpohdmoaaEbook_New
import Derived.Test.YtbaikphpohdmoaaEbook_Book_Free
import Derived.Test.YtbaikphpohdmoaaEbook_Book_Has
set_option linter.unusedVariables false
set_option maxRecDepth 1000000
namespace Go.Proofs.Ytbaikphpohdmoaa.Ev
open Go Go.RowKit Go.Proofs
def corbellaw10_speaks (k : Nat)  : Option Bool :=
  optb (book_New k (3 : Int) (5 : Int) (4 : Int) (1 : Int) (1 : Int)) fun r_502 =>
  bif (decide ((lenI r_502.2.1.2) = (2 : Int))) then
    bif (decide ((1 : Int) < (lenI r_502.2.1.2))) then
      optb (r_502.2.1.2[(1 : Int).toNat]?) fun x_725 =>
      bif (decide (x_725.1 = (3 : Int))) then
        bif (decide ((lenI r_502.2.2.1.2) = (3 : Int))) then
          optb (book_Book_Free k r_502.1 r_502.2.1.1 r_502.2.1.2 r_502.2.2.1.1 r_502.2.2.1.2 r_502.2.2.2.1 r_502.2.2.2.2 (3 : Int) (5 : Int) (4 : Int) (1 : Int) (1 : Int)) fun r_726 =>
          bif (decide (r_726 = (4 : Int))) then
            optb (book_Book_Has k r_502.1 r_502.2.1.1 r_502.2.1.2 r_502.2.2.1.1 r_502.2.2.1.2 r_502.2.2.2.1 r_502.2.2.2.2 (1 : Int) (2 : Int)) fun r_727 =>
            some r_727
          else some false
        else some false
      else some false
    else none
  else some false
def corbellaw10_speaks_p (k : Nat) : PF := { ps := [], rs := [(false, 1)], τ := .bool, σ := .bool, f := fun x => corbellaw10_speaks k }
def corbellaw10_speaks_F (k : Nat) : PT := fcons 29 (book_New_p k) <| fcons 30 (book_Book_Free_p k) <| fcons 32 (book_Book_Has_p k) <| fnone
theorem corbellaw10_speaks_fok (k : Nat) : FOK Try.prog tab (corbellaw10_speaks_F k) := fok_cons (book_New_ok k) Try.call29 <| fok_cons (book_Book_Free_ok k) Try.call30 <| fok_cons (book_Book_Has_ok k) Try.call32 <| fok_none
def corbellaw10_speaks_h : Hint := .no
def corbellaw10_speaks_O {R : Type} (k : Nat) : CutK R := cutsO []
noncomputable def corbellaw10_speaks_I {R : Type} (k : Nat) : InlT R := inone
theorem corbellaw10_speaks_iok {R : Type} (k : Nat) : IOK Try.prog tab (corbellaw10_speaks_F k) (corbellaw10_speaks_I (R := R) k) := iok_none
theorem corbellaw10_speaks_ev (k : Nat) (x : (corbellaw10_speaks_p k).τ.den) : evalF tab (corbellaw10_speaks_F k) (corbellaw10_speaks_p k) (corbellaw10_speaks_I k) 0 (corbellaw10_speaks_O k) corbellaw10_speaks_h Try.f21 x = (corbellaw10_speaks_p k).f x := by kernel_rfl
theorem corbellaw10_speaks_ok (k : Nat) : PFOK Try.prog tab 21 (corbellaw10_speaks_p k) := pfok mixed tabOK (corbellaw10_speaks_fok k) Try.func21 (I := corbellaw10_speaks_I k) (d := 0) (corbellaw10_speaks_iok k) (Q := corbellaw10_speaks_O k) (hi := corbellaw10_speaks_h) (cuts_of (l := []) (by kernel_rfl) trivial) (corbellaw10_speaks_ev k)
end Go.Proofs.Ytbaikphpohdmoaa.Ev
