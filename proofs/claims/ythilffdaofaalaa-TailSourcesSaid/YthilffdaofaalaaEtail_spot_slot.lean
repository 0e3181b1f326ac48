/- tail_spot_slot, told on plain data. Written by program. -/
import Derived.Test.YthilffdaofaalaaEgeom_Parity
set_option linter.unusedVariables false
set_option maxRecDepth 1000000
namespace Go.Proofs.Ythilffdaofaalaa.Ev
open Go Go.RowKit Go.Proofs
def tail_spot_slot_j0 {R : Type} (e0 : Int → Option R) (k : Nat) (place_477 : Int) (sf_483 : Int) (sg_484 : Int) (sh_485 : Int) (si_486 : Int) (sj_487 : Int) (sk_488 : Int) (sl_489 : Int) : Option R :=
  optb (geom_Parity k sf_483 sg_484 sh_485 si_486 sj_487 sk_488 sl_489) fun r_491 =>
  bif (decide (sf_483 = (0 : Int))) then
    none
  else e0 (Int.tmod (wrap64 ((wrap64 (r_491 + (1 : Int))) + place_477)) sf_483)
def tail_spot_slot (k : Nat) (sa_463 : Bool) (sb_464 : List Int) (sc_465 : Int) (sd_466 : Bool) (se_467 : List (Int × Int)) (sf_468 : Int) (sg_469 : Int) (sh_470 : Int) (si_471 : Int) (sj_472 : Int) (sk_473 : Int) (sl_474 : Int) (sm_475 : Int) (place_476 : Int) : Option Int :=
  tail_spot_slot_j0 (fun v_493 =>
    some v_493) k place_476 sf_468 sg_469 sh_470 si_471 sj_472 sk_473 sl_474
def tail_spot_slot_p (k : Nat) : PF := { ps := [(true, 11), (false, 1)], rs := [(false, 1)], τ := (.pair (.pair (.pair (.sl (.int .i64)) (.pair (.int .i64) (.sl (.pair (.int .i64) (.int .i64))))) (.pair (.pair (.int .i64) (.pair (.int .i64) (.pair (.int .i64) (.pair (.int .i64) (.int .i64))))) (.pair (.int .i64) (.pair (.int .i64) (.int .i64))))) (.int .i64)), σ := (.int .i64), f := fun x => tail_spot_slot k x.1.1.1.1 x.1.1.1.2 x.1.1.2.1 x.1.1.2.2.1 x.1.1.2.2.2 x.1.2.1.1 x.1.2.1.2.1 x.1.2.1.2.2.1 x.1.2.1.2.2.2.1 x.1.2.1.2.2.2.2 x.1.2.2.1 x.1.2.2.2.1 x.1.2.2.2.2 x.2 }
def tail_spot_slot_F (k : Nat) : PT := fcons 53 (geom_Parity_p k) <| fnone
theorem tail_spot_slot_fok (k : Nat) : FOK Try.prog tab (tail_spot_slot_F k) := fok_cons (geom_Parity_ok k) Try.call53 <| fok_none
def tail_spot_slot_c0 : Cl := { keep := [1, 2], hl := 1, ad := [], adc := [], bump := [] }
def tail_spot_slot_x0 : Cl := { keep := [4], hl := 0, ad := [], adc := [], bump := [] }
def tail_spot_slot_h : Hint := (.ct tail_spot_slot_c0 tail_spot_slot_x0 0 .no .no)
def tail_spot_slot_j0_E0 {R : Type} (K : EX → St → Option R) : Int → Option R := fun v0 => K .ret (mkSt 19 [] tail_spot_slot_x0.keep [.int .i64 v0] [])
def tail_spot_slot_j0_S (place_477 : Int) (sa_478 : Bool) (sb_479 : List Int) (sc_480 : Int) (sd_481 : Bool) (se_482 : List (Int × Int)) (sf_483 : Int) (sg_484 : Int) (sh_485 : Int) (si_486 : Int) (sj_487 : Int) (sk_488 : Int) (sl_489 : Int) (sm_490 : Int) : St := mkSt 19 [] tail_spot_slot_c0.keep [.int .i64 place_477, .ptr 0 0] [.blk [.sl (.int .i64) sa_478 sb_479, .int .i64 sc_480, .sl (.pair (.int .i64) (.int .i64)) sd_481 se_482, .int .i64 sf_483, .int .i64 sg_484, .int .i64 sh_485, .int .i64 si_486, .int .i64 sj_487, .int .i64 sk_488, .int .i64 sl_489, .int .i64 sm_490]]
def tail_spot_slot_j0_sh : Rd (List AV × List HE) := .pair (.cons (.int .i64) (.cons (.ptr 0 0) Rd.nil)) (.cons (.blk (.cons (.sl (.int .i64)) (.cons (.int .i64) (.cons (.sl (.pair (.int .i64) (.int .i64))) (.cons (.int .i64) (.cons (.int .i64) (.cons (.int .i64) (.cons (.int .i64) (.cons (.int .i64) (.cons (.int .i64) (.cons (.int .i64) (.cons (.int .i64) Rd.nil)))))))))))) Rd.nil)
def tail_spot_slot_j0_a {R : Type} (k : Nat) : Alt R := { n := 19, v := [], sh := tail_spot_slot_j0_sh, g := fun K x => tail_spot_slot_j0 (tail_spot_slot_j0_E0 K) k x.1.1 x.2.1.2.2.2.1 x.2.1.2.2.2.2.1 x.2.1.2.2.2.2.2.1 x.2.1.2.2.2.2.2.2.1 x.2.1.2.2.2.2.2.2.2.1 x.2.1.2.2.2.2.2.2.2.2.1 x.2.1.2.2.2.2.2.2.2.2.2.1 }
def tail_spot_slot_O {R : Type} (k : Nat) : CutK R := cutsO [[tail_spot_slot_j0_a k]]
noncomputable def tail_spot_slot_b : List Ob := obs (bodyOf Try.f80) tail_spot_slot_h
noncomputable def tail_spot_slot_I {R : Type} (k : Nat) : InlT R := inone
theorem tail_spot_slot_j0_eq {R : Type} (k : Nat) (K : EX → St → Option R) (place_477 : Int) (sa_478 : Bool) (sb_479 : List Int) (sc_480 : Int) (sd_481 : Bool) (se_482 : List (Int × Int)) (sf_483 : Int) (sg_484 : Int) (sh_485 : Int) (si_486 : Int) (sj_487 : Int) (sk_488 : Int) (sl_489 : Int) (sm_490 : Int) : tail_spot_slot_j0 (tail_spot_slot_j0_E0 K) k place_477 sf_483 sg_484 sh_485 si_486 sj_487 sk_488 sl_489 = ev tab (tail_spot_slot_F k) (inlK tab (tail_spot_slot_F k) (tail_spot_slot_I k) 0) (tail_spot_slot_O k) (obB tail_spot_slot_b 0) (obH tail_spot_slot_b 0) (tail_spot_slot_j0_S place_477 sa_478 sb_479 sc_480 sd_481 se_482 sf_483 sg_484 sh_485 si_486 sj_487 sk_488 sl_489 sm_490) (fun e st => optb (clean tail_spot_slot_x0 st) fun st => K e st) := by kernel_rfl
theorem tail_spot_slot_j0_ok {R : Type} (k : Nat)  : ObOK (R := R) tab (tail_spot_slot_F k) (inlK tab (tail_spot_slot_F k) (tail_spot_slot_I k) 0) (tail_spot_slot_O k) (.join tail_spot_slot_c0 tail_spot_slot_x0 0 (obB tail_spot_slot_b 0) (obH tail_spot_slot_b 0)) :=
  join_ok (l := [tail_spot_slot_j0_a k]) (by kernel_rfl) ⟨(fun K x => (tail_spot_slot_j0_eq k K x.1.1 x.2.1.1.1 x.2.1.1.2 x.2.1.2.1 x.2.1.2.2.1.1 x.2.1.2.2.1.2 x.2.1.2.2.2.1 x.2.1.2.2.2.2.1 x.2.1.2.2.2.2.2.1 x.2.1.2.2.2.2.2.2.1 x.2.1.2.2.2.2.2.2.2.1 x.2.1.2.2.2.2.2.2.2.2.1 x.2.1.2.2.2.2.2.2.2.2.2.1 x.2.1.2.2.2.2.2.2.2.2.2.2.1).trans (by kernel_rfl)), trivial⟩
theorem tail_spot_slot_cuts {R : Type} (k : Nat) : ∀ c, Try.f80.body = some c → CutsOK (R := R) tab (tail_spot_slot_F k) (inlK tab (tail_spot_slot_F k) (tail_spot_slot_I k) 0) (tail_spot_slot_O k) c tail_spot_slot_h :=
  cuts_of (l := [.join tail_spot_slot_c0 tail_spot_slot_x0 0 (obB tail_spot_slot_b 0) (obH tail_spot_slot_b 0)]) (by kernel_rfl) ⟨tail_spot_slot_j0_ok k, trivial⟩
theorem tail_spot_slot_iok {R : Type} (k : Nat) : IOK Try.prog tab (tail_spot_slot_F k) (tail_spot_slot_I (R := R) k) := iok_none
theorem tail_spot_slot_ev (k : Nat) (x : (tail_spot_slot_p k).τ.den) : evalF tab (tail_spot_slot_F k) (tail_spot_slot_p k) (tail_spot_slot_I k) 0 (tail_spot_slot_O k) tail_spot_slot_h Try.f80 x = (tail_spot_slot_p k).f x := by kernel_rfl
theorem tail_spot_slot_ok (k : Nat) : PFOK Try.prog tab 80 (tail_spot_slot_p k) := pfok mixed tabOK (tail_spot_slot_fok k) Try.func80 (I := tail_spot_slot_I k) (d := 0) (tail_spot_slot_iok k) (Q := tail_spot_slot_O k) (hi := tail_spot_slot_h) (tail_spot_slot_cuts k) (tail_spot_slot_ev k)
end Go.Proofs.Ythilffdaofaalaa.Ev
