/- corbelref12_has, told on plain data. Written by program. -/
import Derived.Test.YthilffdaofaalaaEtab
set_option linter.unusedVariables false
set_option maxRecDepth 1000000
namespace Go.Proofs.Ythilffdaofaalaa.Ev
open Go Go.RowKit Go.Proofs
def corbelref12_has (k : Nat) (va_3388 : Bool) (vb_3389 : List Int) (vc_3390 : Int) (vd_3391 : Bool) (ve_3392 : List (Int × Int)) (slot_3393 : Int) (row_3394 : Int) : Option Bool :=
  bif (!(decide (slot_3393 = vc_3390))) then
    bif (decide ((0 : Int) ≤ slot_3393)) then
      optb (vb_3389[slot_3393.toNat]?) fun x_3395 =>
      some (decide (row_3394 < x_3395))
    else none
  else some false
def corbelref12_has_p (k : Nat) : PF := { ps := [(true, 3), (false, 1), (false, 1)], rs := [(false, 1)], τ := (.pair (.pair (.sl (.int .i64)) (.pair (.int .i64) (.sl (.pair (.int .i64) (.int .i64))))) (.pair (.int .i64) (.int .i64))), σ := .bool, f := fun x => corbelref12_has k x.1.1.1 x.1.1.2 x.1.2.1 x.1.2.2.1 x.1.2.2.2 x.2.1 x.2.2 }
def corbelref12_has_F (k : Nat) : PT := fnone
theorem corbelref12_has_fok (k : Nat) : FOK Try.prog tab (corbelref12_has_F k) := fok_none
def corbelref12_has_h : Hint := .no
def corbelref12_has_O {R : Type} (k : Nat) : CutK R := cutsO []
noncomputable def corbelref12_has_I {R : Type} (k : Nat) : InlT R := inone
theorem corbelref12_has_iok {R : Type} (k : Nat) : IOK Try.prog tab (corbelref12_has_F k) (corbelref12_has_I (R := R) k) := iok_none
theorem corbelref12_has_ev (k : Nat) (x : (corbelref12_has_p k).τ.den) : evalF tab (corbelref12_has_F k) (corbelref12_has_p k) (corbelref12_has_I k) 0 (corbelref12_has_O k) corbelref12_has_h Try.f49 x = (corbelref12_has_p k).f x := by kernel_rfl
theorem corbelref12_has_ok (k : Nat) : PFOK Try.prog tab 49 (corbelref12_has_p k) := pfok mixed tabOK (corbelref12_has_fok k) Try.func49 (I := corbelref12_has_I k) (d := 0) (corbelref12_has_iok k) (Q := corbelref12_has_O k) (hi := corbelref12_has_h) (cuts_of (l := []) (by kernel_rfl) trivial) (corbelref12_has_ev k)
end Go.Proofs.Ythilffdaofaalaa.Ev
