/- book_Book_Has, told on plain data. Written by program. -/
import Derived.Test.YtbaikphpohdmoaaEtab
set_option linter.unusedVariables false
set_option maxRecDepth 1000000
namespace Go.Proofs.Ytbaikphpohdmoaa.Ev
open Go Go.RowKit Go.Proofs
def book_Book_Has (k : Nat) (ba_716 : Int) (bb_717 : Bool) (bc_718 : List (Int × (Int × Int))) (bd_719 : Bool) (be_720 : List Int) (bf_721 : Int) (bg_722 : Int) (slot_723 : Int) (phys_724 : Int) : Option Bool :=
  bif (decide ((0 : Int) ≤ slot_723)) then
    bif (decide (slot_723 < (lenI be_720))) then
      bif (!(decide (slot_723 = bf_721))) then
        some true
      else some (decide (phys_724 < bg_722))
    else some false
  else some false
def book_Book_Has_p (k : Nat) : PF := { ps := [(true, 5), (false, 1), (false, 1)], rs := [(false, 1)], τ := (.pair (.pair (.int .i64) (.pair (.sl (.pair (.int .i64) (.pair (.int .i64) (.int .i64)))) (.pair (.sl (.int .i64)) (.pair (.int .i64) (.int .i64))))) (.pair (.int .i64) (.int .i64))), σ := .bool, f := fun x => book_Book_Has k x.1.1 x.1.2.1.1 x.1.2.1.2 x.1.2.2.1.1 x.1.2.2.1.2 x.1.2.2.2.1 x.1.2.2.2.2 x.2.1 x.2.2 }
def book_Book_Has_F (k : Nat) : PT := fnone
theorem book_Book_Has_fok (k : Nat) : FOK Try.prog tab (book_Book_Has_F k) := fok_none
def book_Book_Has_h : Hint := .no
def book_Book_Has_O {R : Type} (k : Nat) : CutK R := cutsO []
noncomputable def book_Book_Has_I {R : Type} (k : Nat) : InlT R := inone
theorem book_Book_Has_iok {R : Type} (k : Nat) : IOK Try.prog tab (book_Book_Has_F k) (book_Book_Has_I (R := R) k) := iok_none
theorem book_Book_Has_ev (k : Nat) (x : (book_Book_Has_p k).τ.den) : evalF tab (book_Book_Has_F k) (book_Book_Has_p k) (book_Book_Has_I k) 0 (book_Book_Has_O k) book_Book_Has_h Try.f32 x = (book_Book_Has_p k).f x := by kernel_rfl
theorem book_Book_Has_ok (k : Nat) : PFOK Try.prog tab 32 (book_Book_Has_p k) := pfok mixed tabOK (book_Book_Has_fok k) Try.func32 (I := book_Book_Has_I k) (d := 0) (book_Book_Has_iok k) (Q := book_Book_Has_O k) (hi := book_Book_Has_h) (cuts_of (l := []) (by kernel_rfl) trivial) (book_Book_Has_ev k)
end Go.Proofs.Ytbaikphpohdmoaa.Ev
