/- corbelref01_Has, told on plain data. Written by program. -/
import Derived.Test.YtncdfikcdchimaaEtab
set_option linter.unusedVariables false
set_option maxRecDepth 1000000
namespace Go.Proofs.Ytncdfikcdchimaa.Ev
open Go Go.RowKit Go.Proofs
def corbelref01_Has_l0s {R : Type} (rc : Int → Option R) (e0 : Bool → Option R) (e1 : Option R) (k : Nat) (n_435 : Int) (sb_438 : List Int) (i_436 : Int) : Option R :=
  bif (decide (i_436 < (lenI sb_438))) then
    bif (decide ((0 : Int) ≤ i_436)) then
      optb (sb_438[i_436.toNat]?) fun x_441 =>
      bif (decide (x_441 = n_435)) then
        e0 true
      else rc (wrap64 (i_436 + (1 : Int)))
    else none
  else e1
def corbelref01_Has_l0 {R : Type} (e0 : Bool → Option R) (e1 : Option R) (k : Nat) (n_435 : Int) (sb_438 : List Int) : Nat → Int → Option R
  | 0 => fun _ => none
  | j + 1 => corbelref01_Has_l0s (corbelref01_Has_l0 e0 e1 k n_435 sb_438 j) e0 e1 k n_435 sb_438
def corbelref01_Has (k : Nat) (sa_432 : Bool) (sb_433 : List Int) (n_434 : Int) : Option Bool :=
  corbelref01_Has_l0 (fun v_442 =>
    some v_442) (some false) k n_434 sb_433 k (0 : Int)
def corbelref01_Has_p (k : Nat) : PF := { ps := [(true, 1), (false, 1)], rs := [(false, 1)], τ := (.pair (.sl (.int .i64)) (.int .i64)), σ := .bool, f := fun x => corbelref01_Has k x.1.1 x.1.2 x.2 }
def corbelref01_Has_F (k : Nat) : PT := fnone
theorem corbelref01_Has_fok (k : Nat) : FOK Try.prog tab (corbelref01_Has_F k) := fok_none
def corbelref01_Has_c0 : Cl := { keep := [1, 2, 5], hl := 1, ad := [], adc := [], bump := [] }
def corbelref01_Has_x0 : Cl := { keep := [4], hl := 0, ad := [], adc := [], bump := [] }
def corbelref01_Has_h : Hint := (.sq .no (.sq (.sq .no (.lp corbelref01_Has_c0 corbelref01_Has_x0 0 .no)) .no))
def corbelref01_Has_l0_E0 {R : Type} (K : EX → St → Option R) : Bool → Option R := fun v0 => K .ret (mkSt 20 [] corbelref01_Has_x0.keep [.bool v0] [])
def corbelref01_Has_l0_E1 {R : Type} (K : EX → St → Option R) : Option R := K (.exit 0) (mkSt 20 [] corbelref01_Has_x0.keep [.junk] [])
def corbelref01_Has_l0_S (n_435 : Int) (i_436 : Int) (sa_437 : Bool) (sb_438 : List Int) : St := mkSt 20 [] corbelref01_Has_c0.keep [.int .i64 n_435, .ptr 0 0, .int .i64 i_436] [.blk [.sl (.int .i64) sa_437 sb_438]]
def corbelref01_Has_l0_sh : Rd (List AV × List HE) := .pair (.cons (.int .i64) (.cons (.ptr 0 0) (.cons (.int .i64) Rd.nil))) (.cons (.blk (.cons (.sl (.int .i64)) Rd.nil)) Rd.nil)
def corbelref01_Has_l0_a {R : Type} (k : Nat) : Alt R := { n := 20, v := [], sh := corbelref01_Has_l0_sh, g := fun K x => corbelref01_Has_l0 (corbelref01_Has_l0_E0 K) (corbelref01_Has_l0_E1 K) k x.1.1 x.2.1.1.2 k x.1.2.2.1 }
def corbelref01_Has_O {R : Type} (k : Nat) : CutK R := cutsO [[corbelref01_Has_l0_a k]]
noncomputable def corbelref01_Has_b : List Ob := obs (bodyOf Try.f23) corbelref01_Has_h
noncomputable def corbelref01_Has_I {R : Type} (k : Nat) : InlT R := inone
theorem corbelref01_Has_l0_eq {R : Type} (k : Nat) (K : EX → St → Option R) (n_435 : Int) (sa_437 : Bool) (sb_438 : List Int) : ∀ (j : Nat) (i_436 : Int), corbelref01_Has_l0 (corbelref01_Has_l0_E0 K) (corbelref01_Has_l0_E1 K) k n_435 sb_438 j i_436 = iter corbelref01_Has_c0 corbelref01_Has_x0 (ev tab (corbelref01_Has_F k) (inlK tab (corbelref01_Has_F k) (corbelref01_Has_I k) 0) (corbelref01_Has_O k) (obB corbelref01_Has_b 0) (obH corbelref01_Has_b 0)) j (corbelref01_Has_l0_S n_435 i_436 sa_437 sb_438) K
  | 0, _ => rfl
  | j + 1, i_436 => by
    have e : corbelref01_Has_l0 (corbelref01_Has_l0_E0 K) (corbelref01_Has_l0_E1 K) k n_435 sb_438 j = fun i_436 => iter corbelref01_Has_c0 corbelref01_Has_x0 (ev tab (corbelref01_Has_F k) (inlK tab (corbelref01_Has_F k) (corbelref01_Has_I k) 0) (corbelref01_Has_O k) (obB corbelref01_Has_b 0) (obH corbelref01_Has_b 0)) j (corbelref01_Has_l0_S n_435 i_436 sa_437 sb_438) K := by funext i_436; exact corbelref01_Has_l0_eq k K n_435 sa_437 sb_438 j i_436
    show corbelref01_Has_l0s (corbelref01_Has_l0 (corbelref01_Has_l0_E0 K) (corbelref01_Has_l0_E1 K) k n_435 sb_438 j) (corbelref01_Has_l0_E0 K) (corbelref01_Has_l0_E1 K) k n_435 sb_438 i_436 = _
    rw [e, iter_succ]; kernel_rfl
theorem corbelref01_Has_l0_ok {R : Type} (k : Nat)  : ObOK (R := R) tab (corbelref01_Has_F k) (inlK tab (corbelref01_Has_F k) (corbelref01_Has_I k) 0) (corbelref01_Has_O k) (.loop corbelref01_Has_c0 corbelref01_Has_x0 0 (obB corbelref01_Has_b 0) (obH corbelref01_Has_b 0)) :=
  loop_ok (l := [corbelref01_Has_l0_a k]) (by kernel_rfl) ⟨(fun K x => ⟨k, (corbelref01_Has_l0_eq k K x.1.1 x.2.1.1.1 x.2.1.1.2 k x.1.2.2.1).trans (by kernel_rfl)⟩), trivial⟩
theorem corbelref01_Has_cuts {R : Type} (k : Nat) : ∀ c, Try.f23.body = some c → CutsOK (R := R) tab (corbelref01_Has_F k) (inlK tab (corbelref01_Has_F k) (corbelref01_Has_I k) 0) (corbelref01_Has_O k) c corbelref01_Has_h :=
  cuts_of (l := [.loop corbelref01_Has_c0 corbelref01_Has_x0 0 (obB corbelref01_Has_b 0) (obH corbelref01_Has_b 0)]) (by kernel_rfl) ⟨corbelref01_Has_l0_ok k, trivial⟩
theorem corbelref01_Has_iok {R : Type} (k : Nat) : IOK Try.prog tab (corbelref01_Has_F k) (corbelref01_Has_I (R := R) k) := iok_none
theorem corbelref01_Has_ev (k : Nat) (x : (corbelref01_Has_p k).τ.den) : evalF tab (corbelref01_Has_F k) (corbelref01_Has_p k) (corbelref01_Has_I k) 0 (corbelref01_Has_O k) corbelref01_Has_h Try.f23 x = (corbelref01_Has_p k).f x := by kernel_rfl
theorem corbelref01_Has_ok (k : Nat) : PFOK Try.prog tab 23 (corbelref01_Has_p k) := pfok mixed tabOK (corbelref01_Has_fok k) Try.func23 (I := corbelref01_Has_I k) (d := 0) (corbelref01_Has_iok k) (Q := corbelref01_Has_O k) (hi := corbelref01_Has_h) (corbelref01_Has_cuts k) (corbelref01_Has_ev k)
end Go.Proofs.Ytncdfikcdchimaa.Ev
