/- stripe_Row_Add, told on plain data. Written by program. -/
import Derived.Test.YtbgcfcojepfdbaaEstripe_Row_Full
import Derived.Test.YtbgcfcojepfdbaaEslices_Clone
set_option linter.unusedVariables false
set_option maxRecDepth 1000000
namespace Go.Proofs.Ytbgcfcojepfdbaa.Ev
open Go Go.RowKit Go.Proofs
def stripe_Row_Add (k : Nat) (ra_20 : Int) (rb_21 : Bool) (rc_22 : List ByteArray) (block_23 : ByteArray) : Option ((Int × (Bool × List ByteArray)) × Int) :=
  bif (!(decide ((sizeI block_23) = (64 : Int)))) then
    some (((0 : Int), (true, ([] : List ByteArray))), (1 : Int))
  else optb (stripe_Row_Full k ra_20 rb_21 rc_22) fun r_28 =>
  bif r_28 then
    some (((0 : Int), (true, ([] : List ByteArray))), (4 : Int))
  else optb (slices_Clone k rb_21 rc_22) fun r_31 =>
  bif (decide (r_31.2.length + ([block_23] : List ByteArray).length ≤ 1099511627776)) then
    some ((ra_20, (r_31.1, (r_31.2 ++ ([block_23] : List ByteArray)))), (0 : Int))
  else none
def stripe_Row_Add_p (k : Nat) : PF := { ps := [(true, 2), (false, 1)], rs := [(true, 2), (false, 1)], τ := (.pair (.pair (.int .i64) (.sl .str)) .str), σ := (.pair (.pair (.int .i64) (.sl .str)) (.int .i64)), f := fun x => stripe_Row_Add k x.1.1 x.1.2.1 x.1.2.2 x.2, fr := [none, some 9, none] }
def stripe_Row_Add_F (k : Nat) : PT := fcons 16 (stripe_Row_Full_p k) <| fcons 39 (slices_Clone_p k) <| fnone
theorem stripe_Row_Add_fok (k : Nat) : FOK Try.prog tab (stripe_Row_Add_F k) := fok_cons (stripe_Row_Full_ok k) Try.call16 <| fok_cons (slices_Clone_ok k) Try.call39 <| fok_none
def stripe_Row_Add_h : Hint := .no
def stripe_Row_Add_O {R : Type} (k : Nat) : CutK R := cutsO []
noncomputable def stripe_Row_Add_I {R : Type} (k : Nat) : InlT R := inone
theorem stripe_Row_Add_iok {R : Type} (k : Nat) : IOK Try.prog tab (stripe_Row_Add_F k) (stripe_Row_Add_I (R := R) k) := iok_none
theorem stripe_Row_Add_ev (k : Nat) (x : (stripe_Row_Add_p k).τ.den) : evalF tab (stripe_Row_Add_F k) (stripe_Row_Add_p k) (stripe_Row_Add_I k) 0 (stripe_Row_Add_O k) stripe_Row_Add_h Try.f17 x = (stripe_Row_Add_p k).f x := by kernel_rfl
theorem stripe_Row_Add_ok (k : Nat) : PFOK Try.prog tab 17 (stripe_Row_Add_p k) := pfok mixed tabOK (stripe_Row_Add_fok k) Try.func17 (I := stripe_Row_Add_I k) (d := 0) (stripe_Row_Add_iok k) (Q := stripe_Row_Add_O k) (hi := stripe_Row_Add_h) (cuts_of (l := []) (by kernel_rfl) trivial) (stripe_Row_Add_ev k)
end Go.Proofs.Ytbgcfcojepfdbaa.Ev
