/- book_of, told on plain data. Written by program. -/
import Derived.Test.YtbaikphpohdmoaaEtab
set_option linter.unusedVariables false
set_option maxRecDepth 1000000
namespace Go.Proofs.Ytbaikphpohdmoaa.Ev
open Go Go.RowKit Go.Proofs
def book_of (k : Nat) (xa_0 : Int) (xb_1 : Int) (xc_2 : Int) (xd_3 : Int) (xe_4 : Int) (xf_5 : Int) (xg_6 : ByteArray) : Option (Int × Int) :=
  bif (decide (xa_0 = (6 : Int))) then
    some (xa_0, (0 : Int))
  else some (xa_0, xc_2)
def book_of_p (k : Nat) : PF := { ps := [(true, 7)], rs := [(true, 2)], τ := (.pair (.int .i64) (.pair (.int .i64) (.pair (.int .i64) (.pair (.int .i64) (.pair (.int .i64) (.pair (.int .i64) .str)))))), σ := (.pair (.int .i64) (.int .i64)), f := fun x => book_of k x.1 x.2.1 x.2.2.1 x.2.2.2.1 x.2.2.2.2.1 x.2.2.2.2.2.1 x.2.2.2.2.2.2 }
def book_of_F (k : Nat) : PT := fnone
theorem book_of_fok (k : Nat) : FOK Try.prog tab (book_of_F k) := fok_none
def book_of_h : Hint := .no
def book_of_O {R : Type} (k : Nat) : CutK R := cutsO []
noncomputable def book_of_I {R : Type} (k : Nat) : InlT R := inone
theorem book_of_iok {R : Type} (k : Nat) : IOK Try.prog tab (book_of_F k) (book_of_I (R := R) k) := iok_none
theorem book_of_ev (k : Nat) (x : (book_of_p k).τ.den) : evalF tab (book_of_F k) (book_of_p k) (book_of_I k) 0 (book_of_O k) book_of_h Try.f51 x = (book_of_p k).f x := by kernel_rfl
theorem book_of_ok (k : Nat) : PFOK Try.prog tab 51 (book_of_p k) := pfok mixed tabOK (book_of_fok k) Try.func51 (I := book_of_I k) (d := 0) (book_of_iok k) (Q := book_of_O k) (hi := book_of_h) (cuts_of (l := []) (by kernel_rfl) trivial) (book_of_ev k)
end Go.Proofs.Ytbaikphpohdmoaa.Ev
