/- corbellaw20_PickVictims, told on plain data. Written by program. -/
import Derived.Test.YtcikcikcjimcjaaEcorbellaw20_speaks
import Derived.Test.YtcikcikcjimcjaaEcorbellaw20_zones
import Derived.Test.YtcikcikcjimcjaaEpick_Empty
import Derived.Test.YtcikcikcjimcjaaEcorbelref20_Empty
import Derived.Test.YtcikcikcjimcjaaEpick_Victim
import Derived.Test.YtcikcikcjimcjaaEcorbelref20_Victim
set_option linter.unusedVariables false
set_option maxRecDepth 1000000
namespace Go.Proofs.Ytcikcikcjimcjaa.Ev
open Go Go.RowKit Go.Proofs
def corbellaw20_PickVictims (k : Nat) (la_1 : Bool) (lb_2 : List (Int × (Int × Bool))) : Option Bool :=
  optb (corbellaw20_speaks k) fun r_1098 =>
  bif (!r_1098) then
    some false
  else optb (corbellaw20_zones k la_1 lb_2) fun r_1142 =>
  optb (pick_Empty k r_1142.1.1 r_1142.1.2) fun r_1305 =>
  optb (corbelref20_Empty k r_1142.2.1 r_1142.2.2) fun r_1342 =>
  optb (pick_Victim k r_1142.1.1 r_1142.1.2) fun r_1388 =>
  optb (corbelref20_Victim k r_1142.2.1 r_1142.2.2) fun r_1389 =>
  bif (decide (r_1388 = r_1389)) then
    bif (decide (r_1305.1 = r_1342.1)) then
      some (decide (r_1305.2 = r_1342.2))
    else some false
  else some false
def corbellaw20_PickVictims_p (k : Nat) : PF := { ps := [(false, 1)], rs := [(false, 1)], τ := (.sl (.pair (.int .i64) (.pair (.int .i64) .bool))), σ := .bool, f := fun x => corbellaw20_PickVictims k x.1 x.2 }
def corbellaw20_PickVictims_F (k : Nat) : PT := fcons 28 (corbellaw20_speaks_p k) <| fcons 29 (corbellaw20_zones_p k) <| fcons 33 (pick_Empty_p k) <| fcons 34 (corbelref20_Empty_p k) <| fcons 30 (pick_Victim_p k) <| fcons 35 (corbelref20_Victim_p k) <| fnone
theorem corbellaw20_PickVictims_fok (k : Nat) : FOK Try.prog tab (corbellaw20_PickVictims_F k) := fok_cons (corbellaw20_speaks_ok k) Try.call28 <| fok_cons (corbellaw20_zones_ok k) Try.call29 <| fok_cons (pick_Empty_ok k) Try.call33 <| fok_cons (corbelref20_Empty_ok k) Try.call34 <| fok_cons (pick_Victim_ok k) Try.call30 <| fok_cons (corbelref20_Victim_ok k) Try.call35 <| fok_none
def corbellaw20_PickVictims_h : Hint := .no
def corbellaw20_PickVictims_O {R : Type} (k : Nat) : CutK R := cutsO []
noncomputable def corbellaw20_PickVictims_I {R : Type} (k : Nat) : InlT R := inone
theorem corbellaw20_PickVictims_iok {R : Type} (k : Nat) : IOK Try.prog tab (corbellaw20_PickVictims_F k) (corbellaw20_PickVictims_I (R := R) k) := iok_none
theorem corbellaw20_PickVictims_ev (k : Nat) (x : (corbellaw20_PickVictims_p k).τ.den) : evalF tab (corbellaw20_PickVictims_F k) (corbellaw20_PickVictims_p k) (corbellaw20_PickVictims_I k) 0 (corbellaw20_PickVictims_O k) corbellaw20_PickVictims_h Try.f13 x = (corbellaw20_PickVictims_p k).f x := by kernel_rfl
theorem corbellaw20_PickVictims_ok (k : Nat) : PFOK Try.prog tab 13 (corbellaw20_PickVictims_p k) := pfok mixed tabOK (corbellaw20_PickVictims_fok k) Try.func13 (I := corbellaw20_PickVictims_I k) (d := 0) (corbellaw20_PickVictims_iok k) (Q := corbellaw20_PickVictims_O k) (hi := corbellaw20_PickVictims_h) (cuts_of (l := []) (by kernel_rfl) trivial) (corbellaw20_PickVictims_ev k)
end Go.Proofs.Ytcikcikcjimcjaa.Ev
