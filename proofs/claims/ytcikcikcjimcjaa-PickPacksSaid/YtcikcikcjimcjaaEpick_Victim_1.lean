/- pick_Victim_1, told on plain data. Written by program. -/
import Derived.Test.YtcikcikcjimcjaaEtab
set_option linter.unusedVariables false
set_option maxRecDepth 1000000
namespace Go.Proofs.Ytcikcikcjimcjaa.Ev
open Go Go.RowKit Go.Proofs
def pick_Victim_1 (k : Nat) (za_182 : Int) (zb_183 : Int) (zc_184 : Bool) : Option Bool :=
  bif (decide ((0 : Int) < za_182)) then
    some (!zc_184)
  else some false
def pick_Victim_1_p (k : Nat) : PF := { ps := [(true, 3)], rs := [(false, 1)], τ := (.pair (.int .i64) (.pair (.int .i64) .bool)), σ := .bool, f := fun x => pick_Victim_1 k x.1 x.2.1 x.2.2 }
def pick_Victim_1_F (k : Nat) : PT := fnone
theorem pick_Victim_1_fok (k : Nat) : FOK Try.prog tab (pick_Victim_1_F k) := fok_none
def pick_Victim_1_h : Hint := .no
def pick_Victim_1_O {R : Type} (k : Nat) : CutK R := cutsO []
noncomputable def pick_Victim_1_I {R : Type} (k : Nat) : InlT R := inone
theorem pick_Victim_1_iok {R : Type} (k : Nat) : IOK Try.prog tab (pick_Victim_1_F k) (pick_Victim_1_I (R := R) k) := iok_none
theorem pick_Victim_1_ev (k : Nat) (x : (pick_Victim_1_p k).τ.den) : evalF tab (pick_Victim_1_F k) (pick_Victim_1_p k) (pick_Victim_1_I k) 0 (pick_Victim_1_O k) pick_Victim_1_h Try.f48 x = (pick_Victim_1_p k).f x := by kernel_rfl
theorem pick_Victim_1_ok (k : Nat) : PFOK Try.prog tab 48 (pick_Victim_1_p k) := pfok mixed tabOK (pick_Victim_1_fok k) Try.func48 (I := pick_Victim_1_I k) (d := 0) (pick_Victim_1_iok k) (Q := pick_Victim_1_O k) (hi := pick_Victim_1_h) (cuts_of (l := []) (by kernel_rfl) trivial) (pick_Victim_1_ev k)
end Go.Proofs.Ytcikcikcjimcjaa.Ev
