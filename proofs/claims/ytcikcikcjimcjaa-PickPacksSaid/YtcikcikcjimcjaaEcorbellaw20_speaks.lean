/- corbellaw20_speaks, told on plain data. Written by program. -/
import Derived.Test.YtcikcikcjimcjaaEpick_Split
import Derived.Test.YtcikcikcjimcjaaEpick_Pack
import Derived.Test.YtcikcikcjimcjaaEpick_Victim
set_option linter.unusedVariables false
set_option maxRecDepth 1000000
namespace Go.Proofs.Ytcikcikcjimcjaa.Ev
open Go Go.RowKit Go.Proofs
def corbellaw20_speaks (k : Nat)  : Option Bool :=
  optb (pick_Split k (8 : Int)) fun r_160 =>
  bif (decide ((lenI r_160.2) = (2 : Int))) then
    bif (decide ((0 : Int) < (lenI r_160.2))) then
      optb (r_160.2[(0 : Int).toNat]?) fun x_1093 =>
      bif (decide (x_1093 = (6 : Int))) then
        bif (decide ((1 : Int) < (lenI r_160.2))) then
          optb (r_160.2[(1 : Int).toNat]?) fun x_1094 =>
          bif (decide (x_1094 = (2 : Int))) then
            optb (pick_Pack k (7 : Int) (1 : Int)) fun r_1095 =>
            bif (decide (r_1095 = (9 : Int))) then
              optb (pick_Victim k false ([((3 : Int), ((2 : Int), false)), ((3 : Int), ((1 : Int), false))] : List (Int × (Int × Bool)))) fun r_1096 =>
              some (decide (r_1096 = (1 : Int)))
            else some false
          else some false
        else none
      else some false
    else none
  else some false
def corbellaw20_speaks_p (k : Nat) : PF := { ps := [], rs := [(false, 1)], τ := .bool, σ := .bool, f := fun x => corbellaw20_speaks k }
def corbellaw20_speaks_F (k : Nat) : PT := fcons 32 (pick_Split_p k) <| fcons 31 (pick_Pack_p k) <| fcons 30 (pick_Victim_p k) <| fnone
theorem corbellaw20_speaks_fok (k : Nat) : FOK Try.prog tab (corbellaw20_speaks_F k) := fok_cons (pick_Split_ok k) Try.call32 <| fok_cons (pick_Pack_ok k) Try.call31 <| fok_cons (pick_Victim_ok k) Try.call30 <| fok_none
def corbellaw20_speaks_h : Hint := .no
def corbellaw20_speaks_O {R : Type} (k : Nat) : CutK R := cutsO []
noncomputable def corbellaw20_speaks_I {R : Type} (k : Nat) : InlT R := inone
theorem corbellaw20_speaks_iok {R : Type} (k : Nat) : IOK Try.prog tab (corbellaw20_speaks_F k) (corbellaw20_speaks_I (R := R) k) := iok_none
theorem corbellaw20_speaks_ev (k : Nat) (x : (corbellaw20_speaks_p k).τ.den) : evalF tab (corbellaw20_speaks_F k) (corbellaw20_speaks_p k) (corbellaw20_speaks_I k) 0 (corbellaw20_speaks_O k) corbellaw20_speaks_h Try.f28 x = (corbellaw20_speaks_p k).f x := by kernel_rfl
theorem corbellaw20_speaks_ok (k : Nat) : PFOK Try.prog tab 28 (corbellaw20_speaks_p k) := pfok mixed tabOK (corbellaw20_speaks_fok k) Try.func28 (I := corbellaw20_speaks_I k) (d := 0) (corbellaw20_speaks_iok k) (Q := corbellaw20_speaks_O k) (hi := corbellaw20_speaks_h) (cuts_of (l := []) (by kernel_rfl) trivial) (corbellaw20_speaks_ev k)
end Go.Proofs.Ytcikcikcjimcjaa.Ev
