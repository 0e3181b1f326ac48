/- corbellaw01_NumsPuts, told on plain data. Written by program. -/
import Derived.Test.YtncdfikcdchimaaEcorbellaw01_speaks
import Derived.Test.YtncdfikcdchimaaEnums_Put
import Derived.Test.YtncdfikcdchimaaEcorbelref01_Put
set_option linter.unusedVariables false
set_option maxRecDepth 1000000
namespace Go.Proofs.Ytncdfikcdchimaa.Ev
open Go Go.RowKit Go.Proofs
def corbellaw01_NumsPuts (k : Nat) (a0 : Int) (a1 : Int) : Option Bool :=
  optb (corbellaw01_speaks k) fun r_212 =>
  bif r_212 then
    optb (nums_Put k a0 a1) fun r_213 =>
    optb (corbelref01_Put k a0 a1) fun r_230 =>
    some (decide (r_213 = r_230))
  else some false
def corbellaw01_NumsPuts_p (k : Nat) : PF := { ps := [(false, 1), (false, 1)], rs := [(false, 1)], τ := (.pair (.int .i64) (.int .i64)), σ := .bool, f := fun x => corbellaw01_NumsPuts k x.1 x.2 }
def corbellaw01_NumsPuts_F (k : Nat) : PT := fcons 10 (corbellaw01_speaks_p k) <| fcons 11 (nums_Put_p k) <| fcons 12 (corbelref01_Put_p k) <| fnone
theorem corbellaw01_NumsPuts_fok (k : Nat) : FOK Try.prog (corbellaw01_NumsPuts_F k) := fok_cons (corbellaw01_speaks_ok k) Try.call10 <| fok_cons (nums_Put_ok k) Try.call11 <| fok_cons (corbelref01_Put_ok k) Try.call12 <| fok_none
def corbellaw01_NumsPuts_h : Hint := .no
def corbellaw01_NumsPuts_O {R : Type} (k : Nat) : CutK R := cutsO []
noncomputable def corbellaw01_NumsPuts_I {R : Type} (k : Nat) : InlT R := inone
theorem corbellaw01_NumsPuts_iok {R : Type} (k : Nat) : IOK Try.prog tab (corbellaw01_NumsPuts_F k) (corbellaw01_NumsPuts_I (R := R) k) := iok_none
theorem corbellaw01_NumsPuts_ev (k : Nat) (x : (corbellaw01_NumsPuts_p k).τ.den) : evalF tab (corbellaw01_NumsPuts_F k) (corbellaw01_NumsPuts_p k) (corbellaw01_NumsPuts_I k) 0 (corbellaw01_NumsPuts_O k) corbellaw01_NumsPuts_h Try.f3 x = (corbellaw01_NumsPuts_p k).f x := by kernel_rfl
theorem corbellaw01_NumsPuts_ok (k : Nat) : PFOK Try.prog 3 (corbellaw01_NumsPuts_p k) := pfok mixed tabOK (corbellaw01_NumsPuts_fok k) Try.func3 (I := corbellaw01_NumsPuts_I k) (d := 0) (corbellaw01_NumsPuts_iok k) (Q := corbellaw01_NumsPuts_O k) (hi := corbellaw01_NumsPuts_h) (cuts_of (l := []) (by kernel_rfl) trivial) (corbellaw01_NumsPuts_ev k)
end Go.Proofs.Ytncdfikcdchimaa.Ev
