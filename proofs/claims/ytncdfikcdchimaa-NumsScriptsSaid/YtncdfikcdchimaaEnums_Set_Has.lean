/- nums_Set_Has, told on plain data. Written by program. -/
import Derived.Test.YtncdfikcdchimaaEnums_holds
set_option linter.unusedVariables false
set_option maxRecDepth 1000000
namespace Go.Proofs.Ytncdfikcdchimaa.Ev
open Go Go.RowKit Go.Proofs
def nums_Set_Has (k : Nat) (sa_207 : Int) (sb_208 : Int) (sc_209 : Int) (sd_210 : Int) (n_211 : Int) : Option Bool :=
  optb (nums_holds k n_211) fun r_212 =>
  bif r_212 then
    bif (decide ((wrap64 (Int.tdiv n_211 (64 : Int))) = (0 : Int))) then
      bif (decide ((Int.tmod n_211 (64 : Int)) < (0 : Int))) then
        none
      else some (decide ((bitop .and .u64 (shrv .u64 sa_207 (Int.tmod n_211 (64 : Int))) (1 : Int)) = (1 : Int)))
    else bif (decide ((wrap64 (Int.tdiv n_211 (64 : Int))) = (1 : Int))) then
      bif (decide ((Int.tmod n_211 (64 : Int)) < (0 : Int))) then
        none
      else some (decide ((bitop .and .u64 (shrv .u64 sb_208 (Int.tmod n_211 (64 : Int))) (1 : Int)) = (1 : Int)))
    else bif (decide ((wrap64 (Int.tdiv n_211 (64 : Int))) = (2 : Int))) then
      bif (decide ((Int.tmod n_211 (64 : Int)) < (0 : Int))) then
        none
      else some (decide ((bitop .and .u64 (shrv .u64 sc_209 (Int.tmod n_211 (64 : Int))) (1 : Int)) = (1 : Int)))
    else bif (decide ((wrap64 (Int.tdiv n_211 (64 : Int))) = (3 : Int))) then
      bif (decide ((Int.tmod n_211 (64 : Int)) < (0 : Int))) then
        none
      else some (decide ((bitop .and .u64 (shrv .u64 sd_210 (Int.tmod n_211 (64 : Int))) (1 : Int)) = (1 : Int)))
    else none
  else some false
def nums_Set_Has_p (k : Nat) : PF := { ps := [(true, 4), (false, 1)], rs := [(false, 1)], τ := (.pair (.pair (.int .u64) (.pair (.int .u64) (.pair (.int .u64) (.int .u64)))) (.int .i64)), σ := .bool, f := fun x => nums_Set_Has k x.1.1 x.1.2.1 x.1.2.2.1 x.1.2.2.2 x.2 }
def nums_Set_Has_F (k : Nat) : PT := fcons 27 (nums_holds_p k) <| fnone
theorem nums_Set_Has_fok (k : Nat) : FOK Try.prog tab (nums_Set_Has_F k) := fok_cons (nums_holds_ok k) Try.call27 <| fok_none
def nums_Set_Has_h : Hint := .no
def nums_Set_Has_O {R : Type} (k : Nat) : CutK R := cutsO []
noncomputable def nums_Set_Has_I {R : Type} (k : Nat) : InlT R := inone
theorem nums_Set_Has_iok {R : Type} (k : Nat) : IOK Try.prog tab (nums_Set_Has_F k) (nums_Set_Has_I (R := R) k) := iok_none
theorem nums_Set_Has_ev (k : Nat) (x : (nums_Set_Has_p k).τ.den) : evalF tab (nums_Set_Has_F k) (nums_Set_Has_p k) (nums_Set_Has_I k) 0 (nums_Set_Has_O k) nums_Set_Has_h Try.f15 x = (nums_Set_Has_p k).f x := by kernel_rfl
theorem nums_Set_Has_ok (k : Nat) : PFOK Try.prog tab 15 (nums_Set_Has_p k) := pfok mixed tabOK (nums_Set_Has_fok k) Try.func15 (I := nums_Set_Has_I k) (d := 0) (nums_Set_Has_iok k) (Q := nums_Set_Has_O k) (hi := nums_Set_Has_h) (cuts_of (l := []) (by kernel_rfl) trivial) (nums_Set_Has_ev k)
end Go.Proofs.Ytncdfikcdchimaa.Ev
