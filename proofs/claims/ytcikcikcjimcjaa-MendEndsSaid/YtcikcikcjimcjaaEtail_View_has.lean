/- tail_View_has, told on plain data. Written by program. -/
import Derived.Test.YtcikcikcjimcjaaEtab
set_option linter.unusedVariables false
set_option maxRecDepth 1000000
namespace Go.Proofs.Ytcikcikcjimcjaa.Ev
open Go Go.RowKit Go.Proofs
def tail_View_has (k : Nat) (va_24576 : Bool) (vb_24577 : List Int) (vc_24578 : Int) (vd_24579 : Bool) (ve_24580 : List (Int × Int)) (slot_24581 : Int) (row_24582 : Int) : Option Bool :=
  bif (!(decide (slot_24581 = vc_24578))) then
    bif (decide ((0 : Int) ≤ slot_24581)) then
      optb (vb_24577[slot_24581.toNat]?) fun x_24583 =>
      some (decide (row_24582 < x_24583))
    else none
  else some false
def tail_View_has_p (k : Nat) : PF := { ps := [(true, 3), (false, 1), (false, 1)], rs := [(false, 1)], τ := (.pair (.pair (.sl (.int .i64)) (.pair (.int .i64) (.sl (.pair (.int .i64) (.int .i64))))) (.pair (.int .i64) (.int .i64))), σ := .bool, f := fun x => tail_View_has k x.1.1.1 x.1.1.2 x.1.2.1 x.1.2.2.1 x.1.2.2.2 x.2.1 x.2.2 }
def tail_View_has_F (k : Nat) : PT := fnone
theorem tail_View_has_fok (k : Nat) : FOK Try.prog tab (tail_View_has_F k) := fok_none
def tail_View_has_h : Hint := .no
def tail_View_has_O {R : Type} (k : Nat) : CutK R := cutsO []
noncomputable def tail_View_has_I {R : Type} (k : Nat) : InlT R := inone
theorem tail_View_has_iok {R : Type} (k : Nat) : IOK Try.prog tab (tail_View_has_F k) (tail_View_has_I (R := R) k) := iok_none
theorem tail_View_has_ev (k : Nat) (x : (tail_View_has_p k).τ.den) : evalF tab (tail_View_has_F k) (tail_View_has_p k) (tail_View_has_I k) 0 (tail_View_has_O k) tail_View_has_h Try.f65 x = (tail_View_has_p k).f x := by kernel_rfl
theorem tail_View_has_ok (k : Nat) : PFOK Try.prog tab 65 (tail_View_has_p k) := pfok mixed tabOK (tail_View_has_fok k) Try.func65 (I := tail_View_has_I k) (d := 0) (tail_View_has_iok k) (Q := tail_View_has_O k) (hi := tail_View_has_h) (cuts_of (l := []) (by kernel_rfl) trivial) (tail_View_has_ev k)
end Go.Proofs.Ytcikcikcjimcjaa.Ev
