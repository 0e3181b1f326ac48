/- corbellaw04_speaks, told on plain data. Written by program. -/
import Derived.Test.YtkokbcijgikkgaaEgeom_Place
import Derived.Test.YtkokbcijgikkgaaEgeom_Good
import Derived.Test.YtkokbcijgikkgaaEgeom_Capacity
import Derived.Test.YtkokbcijgikkgaaEgeom_Zones
set_option linter.unusedVariables false
set_option maxRecDepth 1000000
namespace Go.Proofs.Ytkokbcijgikkgaa.Ev
open Go Go.RowKit Go.Proofs
def corbellaw04_speaks (k : Nat)  : Option Bool :=
  optb (geom_Place k (3 : Int) (5 : Int) (4 : Int) (1 : Int) (1 : Int) (0 : Int) (2 : Int)) fun r_68 =>
  optb (geom_Good k (3 : Int) (5 : Int) (4 : Int) (1 : Int) (1 : Int)) fun r_69 =>
  bif r_69 then
    bif (decide (r_68.1 = (1 : Int))) then
      bif (decide (r_68.2.1 = (2 : Int))) then
        bif r_68.2.2 then
          optb (geom_Capacity k (3 : Int) (5 : Int) (4 : Int) (1 : Int) (1 : Int)) fun r_70 =>
          bif (decide (r_70 = (8 : Int))) then
            optb (geom_Zones k (3 : Int) (5 : Int) (4 : Int) (1 : Int) (1 : Int)) fun r_71 =>
            some (decide (r_71 = (2 : Int)))
          else some false
        else some false
      else some false
    else some false
  else some false
def corbellaw04_speaks_p (k : Nat) : PF := { ps := [], rs := [(false, 1)], τ := .bool, σ := .bool, f := fun x => corbellaw04_speaks k }
def corbellaw04_speaks_F (k : Nat) : PT := fcons 19 (geom_Place_p k) <| fcons 16 (geom_Good_p k) <| fcons 27 (geom_Capacity_p k) <| fcons 17 (geom_Zones_p k) <| fnone
theorem corbellaw04_speaks_fok (k : Nat) : FOK Try.prog (corbellaw04_speaks_F k) := fok_cons (geom_Place_ok k) Try.call19 <| fok_cons (geom_Good_ok k) Try.call16 <| fok_cons (geom_Capacity_ok k) Try.call27 <| fok_cons (geom_Zones_ok k) Try.call17 <| fok_none
def corbellaw04_speaks_h : Hint := .no
def corbellaw04_speaks_O {R : Type} (k : Nat) : CutK R := cutsO []
noncomputable def corbellaw04_speaks_I {R : Type} (k : Nat) : InlT R := inone
theorem corbellaw04_speaks_iok {R : Type} (k : Nat) : IOK Try.prog tab (corbellaw04_speaks_F k) (corbellaw04_speaks_I (R := R) k) := iok_none
theorem corbellaw04_speaks_ev (k : Nat) (x : (corbellaw04_speaks_p k).τ.den) : evalF tab (corbellaw04_speaks_F k) (corbellaw04_speaks_p k) (corbellaw04_speaks_I k) 0 (corbellaw04_speaks_O k) corbellaw04_speaks_h Try.f15 x = (corbellaw04_speaks_p k).f x := by kernel_rfl
theorem corbellaw04_speaks_ok (k : Nat) : PFOK Try.prog 15 (corbellaw04_speaks_p k) := pfok mixed tabOK (corbellaw04_speaks_fok k) Try.func15 (I := corbellaw04_speaks_I k) (d := 0) (corbellaw04_speaks_iok k) (Q := corbellaw04_speaks_O k) (hi := corbellaw04_speaks_h) (cuts_of (l := []) (by kernel_rfl) trivial) (corbellaw04_speaks_ev k)
end Go.Proofs.Ytkokbcijgikkgaa.Ev
