/- geom_Split, told on plain data. Written by program. -/
import Derived.Test.YtkokbcijgikkgaaEgeom_Zones
import Derived.Test.YtkokbcijgikkgaaEgeom_Capacity
import Derived.Test.YtkokbcijgikkgaaEgeom_Mul
import Derived.Test.YtkokbcijgikkgaaEgeom_within
set_option linter.unusedVariables false
set_option maxRecDepth 1000000
namespace Go.Proofs.Ytkokbcijgikkgaa.Ev
open Go Go.RowKit Go.Proofs
def geom_Split (k : Nat) (a0 : Int) (a1 : Int) (a2 : Int) (a3 : Int) (a4 : Int) (a5 : Int) : Option (Int × (Int × Bool)) :=
  optb (geom_Zones k a0 a1 a2 a3 a4) fun r_74 =>
  optb (geom_Capacity k a0 a1 a2 a3 a4) fun r_75 =>
  optb (geom_Mul k r_74 r_75) fun r_92 =>
  optb (geom_within k a5 (0 : Int) (wrap64 (r_92.1 - (1 : Int)))) fun r_94 =>
  bif (!r_94) then
    some ((0 : Int), ((0 : Int), false))
  else optb (geom_Capacity k a0 a1 a2 a3 a4) fun r_95 =>
  bif (decide (r_95 = (0 : Int))) then
    none
  else optb (geom_Capacity k a0 a1 a2 a3 a4) fun r_96 =>
  bif (decide (r_96 = (0 : Int))) then
    none
  else some ((wrap64 (Int.tdiv a5 r_95)), ((Int.tmod a5 r_96), true))
def geom_Split_p (k : Nat) : PF := { ps := [(true, 5), (false, 1)], rs := [(false, 1), (false, 1), (false, 1)], τ := (.pair (.pair (.int .i64) (.pair (.int .i64) (.pair (.int .i64) (.pair (.int .i64) (.int .i64))))) (.int .i64)), σ := (.pair (.int .i64) (.pair (.int .i64) .bool)), f := fun x => geom_Split k x.1.1 x.1.2.1 x.1.2.2.1 x.1.2.2.2.1 x.1.2.2.2.2 x.2 }
def geom_Split_F (k : Nat) : PT := fcons 17 (geom_Zones_p k) <| fcons 27 (geom_Capacity_p k) <| fcons 24 (geom_Mul_p k) <| fcons 48 (geom_within_p k) <| fnone
theorem geom_Split_fok (k : Nat) : FOK Try.prog (geom_Split_F k) := fok_cons (geom_Zones_ok k) Try.call17 <| fok_cons (geom_Capacity_ok k) Try.call27 <| fok_cons (geom_Mul_ok k) Try.call24 <| fok_cons (geom_within_ok k) Try.call48 <| fok_none
def geom_Split_h : Hint := .no
def geom_Split_O {R : Type} (k : Nat) : CutK R := cutsO []
noncomputable def geom_Split_I {R : Type} (k : Nat) : InlT R := inone
theorem geom_Split_iok {R : Type} (k : Nat) : IOK Try.prog tab (geom_Split_F k) (geom_Split_I (R := R) k) := iok_none
theorem geom_Split_ev (k : Nat) (x : (geom_Split_p k).τ.den) : evalF tab (geom_Split_F k) (geom_Split_p k) (geom_Split_I k) 0 (geom_Split_O k) geom_Split_h Try.f26 x = (geom_Split_p k).f x := by kernel_rfl
theorem geom_Split_ok (k : Nat) : PFOK Try.prog 26 (geom_Split_p k) := pfok mixed tabOK (geom_Split_fok k) Try.func26 (I := geom_Split_I k) (d := 0) (geom_Split_iok k) (Q := geom_Split_O k) (hi := geom_Split_h) (cuts_of (l := []) (by kernel_rfl) trivial) (geom_Split_ev k)
end Go.Proofs.Ytkokbcijgikkgaa.Ev
