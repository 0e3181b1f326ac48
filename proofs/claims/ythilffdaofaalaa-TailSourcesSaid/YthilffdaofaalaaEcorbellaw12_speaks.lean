/- corbellaw12_speaks, told on plain data. Written by program. -/
import Derived.Test.YthilffdaofaalaaEtail_Source
import Derived.Test.YthilffdaofaalaaEtail_Length
set_option linter.unusedVariables false
set_option maxRecDepth 1000000
namespace Go.Proofs.Ythilffdaofaalaa.Ev
open Go Go.RowKit Go.Proofs
def corbellaw12_speaks (k : Nat)  : Option Bool :=
  optb (tail_Source k (3 : Int) (5 : Int) (4 : Int) (1 : Int) (1 : Int) (0 : Int) false ([(0 : Int), (1 : Int), (0 : Int)] : List Int) (2 : Int) false ([((0 : Int), (2 : Int))] : List (Int × Int)) (1 : Int)) fun r_1226 =>
  optb (tail_Length k (3 : Int) (5 : Int) (4 : Int) (1 : Int) (1 : Int) (0 : Int) false ([(0 : Int), (1 : Int), (0 : Int)] : List Int) (2 : Int) false ([((0 : Int), (2 : Int))] : List (Int × Int))) fun r_1255 =>
  bif (decide (r_1255 = (2 : Int))) then
    some (decide (r_1226.1 = (3 : Int)))
  else some false
def corbellaw12_speaks_p (k : Nat) : PF := { ps := [], rs := [(false, 1)], τ := .bool, σ := .bool, f := fun x => corbellaw12_speaks k }
def corbellaw12_speaks_F (k : Nat) : PT := fcons 19 (tail_Source_p k) <| fcons 17 (tail_Length_p k) <| fnone
theorem corbellaw12_speaks_fok (k : Nat) : FOK Try.prog tab (corbellaw12_speaks_F k) := fok_cons (tail_Source_ok k) Try.call19 <| fok_cons (tail_Length_ok k) Try.call17 <| fok_none
def corbellaw12_speaks_h : Hint := .no
def corbellaw12_speaks_O {R : Type} (k : Nat) : CutK R := cutsO []
noncomputable def corbellaw12_speaks_I {R : Type} (k : Nat) : InlT R := inone
theorem corbellaw12_speaks_iok {R : Type} (k : Nat) : IOK Try.prog tab (corbellaw12_speaks_F k) (corbellaw12_speaks_I (R := R) k) := iok_none
theorem corbellaw12_speaks_ev (k : Nat) (x : (corbellaw12_speaks_p k).τ.den) : evalF tab (corbellaw12_speaks_F k) (corbellaw12_speaks_p k) (corbellaw12_speaks_I k) 0 (corbellaw12_speaks_O k) corbellaw12_speaks_h Try.f15 x = (corbellaw12_speaks_p k).f x := by kernel_rfl
theorem corbellaw12_speaks_ok (k : Nat) : PFOK Try.prog tab 15 (corbellaw12_speaks_p k) := pfok mixed tabOK (corbellaw12_speaks_fok k) Try.func15 (I := corbellaw12_speaks_I k) (d := 0) (corbellaw12_speaks_iok k) (Q := corbellaw12_speaks_O k) (hi := corbellaw12_speaks_h) (cuts_of (l := []) (by kernel_rfl) trivial) (corbellaw12_speaks_ev k)
end Go.Proofs.Ythilffdaofaalaa.Ev
