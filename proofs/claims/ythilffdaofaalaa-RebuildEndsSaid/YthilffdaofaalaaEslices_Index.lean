/- slices_Index, told on plain data. Written by program. -/
import Derived.Test.YthilffdaofaalaaEtab
set_option linter.unusedVariables false
set_option maxRecDepth 1000000
namespace Go.Proofs.Ythilffdaofaalaa.Ev
open Go Go.RowKit Go.Proofs
def slices_Index_l0s {R : Type} (rc : Int → Option R) (e0 : Int → Option R) (e1 : Option R) (k : Nat) (sb_525 : List Int) (v_526 : Int) (v_527 : Int) (v_528 : Int) : Option R :=
  bif (decide (v_528 < v_527)) then
    bif (decide ((0 : Int) ≤ v_528)) then
      optb (sb_525[v_528.toNat]?) fun x_531 =>
      bif (decide (v_526 = x_531)) then
        e0 v_528
      else rc (wrap64 (v_528 + (1 : Int)))
    else none
  else e1
def slices_Index_l0 {R : Type} (e0 : Int → Option R) (e1 : Option R) (k : Nat) (sb_525 : List Int) (v_526 : Int) (v_527 : Int) : Nat → Int → Option R
  | 0 => fun _ => none
  | j + 1 => slices_Index_l0s (slices_Index_l0 e0 e1 k sb_525 v_526 v_527 j) e0 e1 k sb_525 v_526 v_527
def slices_Index (k : Nat) (sa_521 : Bool) (sb_522 : List Int) (v_523 : Int) : Option Int :=
  slices_Index_l0 (fun v_532 =>
    some v_532) (some (-1 : Int)) k sb_522 v_523 (lenI sb_522) k (0 : Int)
def slices_Index_p (k : Nat) : PF := { ps := [(false, 1), (false, 1)], rs := [(false, 1)], τ := (.pair (.sl (.int .i64)) (.int .i64)), σ := (.int .i64), f := fun x => slices_Index k x.1.1 x.1.2 x.2 }
def slices_Index_F (k : Nat) : PT := fnone
theorem slices_Index_fok (k : Nat) : FOK Try.prog tab (slices_Index_F k) := fok_none
def slices_Index_c0 : Cl := { keep := [0, 1, 7, 8], hl := 0, ad := [], adc := [], bump := [] }
def slices_Index_x0 : Cl := { keep := [4], hl := 0, ad := [], adc := [], bump := [] }
def slices_Index_h : Hint := (.sq .no (.sq (.sq .no (.lp slices_Index_c0 slices_Index_x0 0 .no)) .no))
def slices_Index_l0_E0 {R : Type} (K : EX → St → Option R) : Int → Option R := fun v0 => K .ret (mkSt 19 [] slices_Index_x0.keep [.int .i64 v0] [])
def slices_Index_l0_E1 {R : Type} (K : EX → St → Option R) : Option R := K (.exit 0) (mkSt 19 [] slices_Index_x0.keep [.junk] [])
def slices_Index_l0_S (sa_524 : Bool) (sb_525 : List Int) (v_526 : Int) (v_527 : Int) (v_528 : Int) : St := mkSt 19 [] slices_Index_c0.keep [.sl (.int .i64) sa_524 sb_525, .int .i64 v_526, .int .i64 v_527, .int .i64 v_528] []
def slices_Index_l0_sh : Rd (List AV × List HE) := .pair (.cons (.sl (.int .i64)) (.cons (.int .i64) (.cons (.int .i64) (.cons (.int .i64) Rd.nil)))) Rd.nil
def slices_Index_l0_a {R : Type} (k : Nat) : Alt R := { n := 19, v := [], sh := slices_Index_l0_sh, g := fun K x => slices_Index_l0 (slices_Index_l0_E0 K) (slices_Index_l0_E1 K) k x.1.1.2 x.1.2.1 x.1.2.2.1 k x.1.2.2.2.1 }
def slices_Index_O {R : Type} (k : Nat) : CutK R := cutsO [[slices_Index_l0_a k]]
noncomputable def slices_Index_b : List Ob := obs (bodyOf Try.f88) slices_Index_h
noncomputable def slices_Index_I {R : Type} (k : Nat) : InlT R := inone
theorem slices_Index_l0_eq {R : Type} (k : Nat) (K : EX → St → Option R) (sa_524 : Bool) (sb_525 : List Int) (v_526 : Int) (v_527 : Int) : ∀ (j : Nat) (v_528 : Int), slices_Index_l0 (slices_Index_l0_E0 K) (slices_Index_l0_E1 K) k sb_525 v_526 v_527 j v_528 = iter slices_Index_c0 slices_Index_x0 (ev tab (slices_Index_F k) (inlK tab (slices_Index_F k) (slices_Index_I k) 0) (slices_Index_O k) (obB slices_Index_b 0) (obH slices_Index_b 0)) j (slices_Index_l0_S sa_524 sb_525 v_526 v_527 v_528) K
  | 0, _ => rfl
  | j + 1, v_528 => by
    have e : slices_Index_l0 (slices_Index_l0_E0 K) (slices_Index_l0_E1 K) k sb_525 v_526 v_527 j = fun v_528 => iter slices_Index_c0 slices_Index_x0 (ev tab (slices_Index_F k) (inlK tab (slices_Index_F k) (slices_Index_I k) 0) (slices_Index_O k) (obB slices_Index_b 0) (obH slices_Index_b 0)) j (slices_Index_l0_S sa_524 sb_525 v_526 v_527 v_528) K := by funext v_528; exact slices_Index_l0_eq k K sa_524 sb_525 v_526 v_527 j v_528
    show slices_Index_l0s (slices_Index_l0 (slices_Index_l0_E0 K) (slices_Index_l0_E1 K) k sb_525 v_526 v_527 j) (slices_Index_l0_E0 K) (slices_Index_l0_E1 K) k sb_525 v_526 v_527 v_528 = _
    rw [e, iter_succ]; kernel_rfl
theorem slices_Index_l0_ok {R : Type} (k : Nat)  : ObOK (R := R) tab (slices_Index_F k) (inlK tab (slices_Index_F k) (slices_Index_I k) 0) (slices_Index_O k) (.loop slices_Index_c0 slices_Index_x0 0 (obB slices_Index_b 0) (obH slices_Index_b 0)) :=
  loop_ok (l := [slices_Index_l0_a k]) (by kernel_rfl) ⟨(fun K x => ⟨k, (slices_Index_l0_eq k K x.1.1.1 x.1.1.2 x.1.2.1 x.1.2.2.1 k x.1.2.2.2.1).trans (by kernel_rfl)⟩), trivial⟩
theorem slices_Index_cuts {R : Type} (k : Nat) : ∀ c, Try.f88.body = some c → CutsOK (R := R) tab (slices_Index_F k) (inlK tab (slices_Index_F k) (slices_Index_I k) 0) (slices_Index_O k) c slices_Index_h :=
  cuts_of (l := [.loop slices_Index_c0 slices_Index_x0 0 (obB slices_Index_b 0) (obH slices_Index_b 0)]) (by kernel_rfl) ⟨slices_Index_l0_ok k, trivial⟩
theorem slices_Index_iok {R : Type} (k : Nat) : IOK Try.prog tab (slices_Index_F k) (slices_Index_I (R := R) k) := iok_none
theorem slices_Index_ev (k : Nat) (x : (slices_Index_p k).τ.den) : evalF tab (slices_Index_F k) (slices_Index_p k) (slices_Index_I k) 0 (slices_Index_O k) slices_Index_h Try.f88 x = (slices_Index_p k).f x := by kernel_rfl
theorem slices_Index_ok (k : Nat) : PFOK Try.prog tab 88 (slices_Index_p k) := pfok mixed tabOK (slices_Index_fok k) Try.func88 (I := slices_Index_I k) (d := 0) (slices_Index_iok k) (Q := slices_Index_O k) (hi := slices_Index_h) (slices_Index_cuts k) (slices_Index_ev k)
end Go.Proofs.Ythilffdaofaalaa.Ev
