/- corbelref20_better, told on plain data. Written by program. -/
import Derived.Test.YtcikcikcjimcjaaEtab
set_option linter.unusedVariables false
set_option maxRecDepth 1000000
namespace Go.Proofs.Ytcikcikcjimcjaa.Ev
open Go Go.RowKit Go.Proofs
def corbelref20_better (k : Nat) (aa_1349 : Int) (ab_1350 : Int) (ac_1351 : Bool) (ba_1352 : Int) (bb_1353 : Int) (bc_1354 : Bool) : Option Bool :=
  bif (decide (ab_1350 < bb_1353)) then
    some true
  else bif (decide (ab_1350 = bb_1353)) then
    some (decide (ba_1352 < aa_1349))
  else some false
def corbelref20_better_p (k : Nat) : PF := { ps := [(true, 3), (true, 3)], rs := [(false, 1)], τ := (.pair (.pair (.int .i64) (.pair (.int .i64) .bool)) (.pair (.int .i64) (.pair (.int .i64) .bool))), σ := .bool, f := fun x => corbelref20_better k x.1.1 x.1.2.1 x.1.2.2 x.2.1 x.2.2.1 x.2.2.2 }
def corbelref20_better_F (k : Nat) : PT := fnone
theorem corbelref20_better_fok (k : Nat) : FOK Try.prog tab (corbelref20_better_F k) := fok_none
def corbelref20_better_h : Hint := .no
def corbelref20_better_O {R : Type} (k : Nat) : CutK R := cutsO []
noncomputable def corbelref20_better_I {R : Type} (k : Nat) : InlT R := inone
theorem corbelref20_better_iok {R : Type} (k : Nat) : IOK Try.prog tab (corbelref20_better_F k) (corbelref20_better_I (R := R) k) := iok_none
theorem corbelref20_better_ev (k : Nat) (x : (corbelref20_better_p k).τ.den) : evalF tab (corbelref20_better_F k) (corbelref20_better_p k) (corbelref20_better_I k) 0 (corbelref20_better_O k) corbelref20_better_h Try.f55 x = (corbelref20_better_p k).f x := by kernel_rfl
theorem corbelref20_better_ok (k : Nat) : PFOK Try.prog tab 55 (corbelref20_better_p k) := pfok mixed tabOK (corbelref20_better_fok k) Try.func55 (I := corbelref20_better_I k) (d := 0) (corbelref20_better_iok k) (Q := corbelref20_better_O k) (hi := corbelref20_better_h) (cuts_of (l := []) (by kernel_rfl) trivial) (corbelref20_better_ev k)
end Go.Proofs.Ytcikcikcjimcjaa.Ev
