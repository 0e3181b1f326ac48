/- corbellaw19_LmapNil, told on plain data. Written by program. -/
import Derived.Test.YtbaikphpohdmoaaEcorbellaw19_speaks
set_option linter.unusedVariables false
set_option maxRecDepth 1000000
namespace Go.Proofs.Ytbaikphpohdmoaa.Ev
open Go Go.RowKit Go.Proofs
def corbellaw19_LmapNil (k : Nat) (block_1914 : Int) (zone_1915 : Int) : Option Bool :=
  optb (corbellaw19_speaks k) fun r_1917 =>
  bif (!r_1917) then
    some false
  else some true
def corbellaw19_LmapNil_p (k : Nat) : PF := { ps := [(false, 1), (false, 1)], rs := [(false, 1)], τ := (.pair (.int .i64) (.int .i64)), σ := .bool, f := fun x => corbellaw19_LmapNil k x.1 x.2 }
def corbellaw19_LmapNil_F (k : Nat) : PT := fcons 10 (corbellaw19_speaks_p k) <| fnone
theorem corbellaw19_LmapNil_fok (k : Nat) : FOK Try.prog tab (corbellaw19_LmapNil_F k) := fok_cons (corbellaw19_speaks_ok k) Try.call10 <| fok_none
def corbellaw19_LmapNil_h : Hint := .no
def corbellaw19_LmapNil_O {R : Type} (k : Nat) : CutK R := cutsO []
def corbellaw19_LmapNil_i20_1_h : Hint := .no
def corbellaw19_LmapNil_i20_1_O {R : Type} (k : Nat) : CutK R := cutsO []
def corbellaw19_LmapNil_i13_3_h : Hint := .no
def corbellaw19_LmapNil_i13_3_O {R : Type} (k : Nat) : CutK R := cutsO []
def corbellaw19_LmapNil_i17_4_h : Hint := .no
def corbellaw19_LmapNil_i17_4_O {R : Type} (k : Nat) : CutK R := cutsO []
def corbellaw19_LmapNil_i19_4_h : Hint := .no
def corbellaw19_LmapNil_i19_4_O {R : Type} (k : Nat) : CutK R := cutsO []
def corbellaw19_LmapNil_i14_4_h : Hint := .no
def corbellaw19_LmapNil_i14_4_O {R : Type} (k : Nat) : CutK R := cutsO []
noncomputable def corbellaw19_LmapNil_I {R : Type} (k : Nat) : InlT R := icons 20 1 (corbellaw19_LmapNil_i20_1_h, Try.f20, deepO 0 (corbellaw19_LmapNil_i20_1_O k)) <| icons 13 3 (corbellaw19_LmapNil_i13_3_h, Try.f13, deepO 0 (corbellaw19_LmapNil_i13_3_O k)) <| icons 17 4 (corbellaw19_LmapNil_i17_4_h, Try.f17, deepO 0 (corbellaw19_LmapNil_i17_4_O k)) <| icons 19 4 (corbellaw19_LmapNil_i19_4_h, Try.f19, deepO 0 (corbellaw19_LmapNil_i19_4_O k)) <| icons 14 4 (corbellaw19_LmapNil_i14_4_h, Try.f14, deepO 0 (corbellaw19_LmapNil_i14_4_O k)) <| inone
theorem corbellaw19_LmapNil_iok {R : Type} (k : Nat) : IOK Try.prog tab (corbellaw19_LmapNil_F k) (corbellaw19_LmapNil_I (R := R) k) := iok_cons Try.func20 Try.call20 (plainO (by kernel_rfl)) <| iok_cons Try.func13 Try.call13 (plainO (by kernel_rfl)) <| iok_cons Try.func17 Try.call17 (plainO (by kernel_rfl)) <| iok_cons Try.func19 Try.call19 (plainO (by kernel_rfl)) <| iok_cons Try.func14 Try.call14 (plainO (by kernel_rfl)) <| iok_none
theorem corbellaw19_LmapNil_ev (k : Nat) (x : (corbellaw19_LmapNil_p k).τ.den) : evalF tab (corbellaw19_LmapNil_F k) (corbellaw19_LmapNil_p k) (corbellaw19_LmapNil_I k) 1 (corbellaw19_LmapNil_O k) corbellaw19_LmapNil_h Try.f5 x = (corbellaw19_LmapNil_p k).f x := by kernel_rfl
theorem corbellaw19_LmapNil_ok (k : Nat) : PFOK Try.prog tab 5 (corbellaw19_LmapNil_p k) := pfok mixed tabOK (corbellaw19_LmapNil_fok k) Try.func5 (I := corbellaw19_LmapNil_I k) (d := 1) (corbellaw19_LmapNil_iok k) (Q := corbellaw19_LmapNil_O k) (hi := corbellaw19_LmapNil_h) (cuts_of (l := []) (by kernel_rfl) trivial) (corbellaw19_LmapNil_ev k)
end Go.Proofs.Ytbaikphpohdmoaa.Ev
