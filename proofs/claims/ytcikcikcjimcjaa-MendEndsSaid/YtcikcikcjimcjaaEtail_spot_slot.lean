/- tail_spot_slot, told on plain data. Written by program. -/
import Derived.Test.YtcikcikcjimcjaaEgeom_Parity
set_option linter.unusedVariables false
set_option maxRecDepth 1000000
namespace Go.Proofs.Ytcikcikcjimcjaa.Ev
open Go Go.RowKit Go.Proofs
def tail_spot_slot_j0 {R : Type} (e0 : Int → Option R) (k : Nat) (place_24558 : Int) (sf_24564 : Int) (sg_24565 : Int) (sh_24566 : Int) (si_24567 : Int) (sj_24568 : Int) (sk_24569 : Int) (sl_24570 : Int) : Option R :=
  optb (geom_Parity k sf_24564 sg_24565 sh_24566 si_24567 sj_24568 sk_24569 sl_24570) fun r_24572 =>
  bif (decide (sf_24564 = (0 : Int))) then
    none
  else e0 (Int.tmod (wrap64 ((wrap64 (r_24572 + (1 : Int))) + place_24558)) sf_24564)
def tail_spot_slot (k : Nat) (sa_24544 : Bool) (sb_24545 : List Int) (sc_24546 : Int) (sd_24547 : Bool) (se_24548 : List (Int × Int)) (sf_24549 : Int) (sg_24550 : Int) (sh_24551 : Int) (si_24552 : Int) (sj_24553 : Int) (sk_24554 : Int) (sl_24555 : Int) (sm_24556 : Int) (place_24557 : Int) : Option Int :=
  tail_spot_slot_j0 (fun v_24574 =>
    some v_24574) k place_24557 sf_24549 sg_24550 sh_24551 si_24552 sj_24553 sk_24554 sl_24555
def tail_spot_slot_p (k : Nat) : PF := { ps := [(true, 11), (false, 1)], rs := [(false, 1)], τ := (.pair (.pair (.pair (.sl (.int .i64)) (.pair (.int .i64) (.sl (.pair (.int .i64) (.int .i64))))) (.pair (.pair (.int .i64) (.pair (.int .i64) (.pair (.int .i64) (.pair (.int .i64) (.int .i64))))) (.pair (.int .i64) (.pair (.int .i64) (.int .i64))))) (.int .i64)), σ := (.int .i64), f := fun x => tail_spot_slot k x.1.1.1.1 x.1.1.1.2 x.1.1.2.1 x.1.1.2.2.1 x.1.1.2.2.2 x.1.2.1.1 x.1.2.1.2.1 x.1.2.1.2.2.1 x.1.2.1.2.2.2.1 x.1.2.1.2.2.2.2 x.1.2.2.1 x.1.2.2.2.1 x.1.2.2.2.2 x.2 }
def tail_spot_slot_F (k : Nat) : PT := fcons 26 (geom_Parity_p k) <| fnone
theorem tail_spot_slot_fok (k : Nat) : FOK Try.prog tab (tail_spot_slot_F k) := fok_cons (geom_Parity_ok k) Try.call26 <| fok_none
def tail_spot_slot_c0 : Cl := { keep := [1, 2], hl := 1, ad := [], adc := [], bump := [] }
def tail_spot_slot_x0 : Cl := { keep := [4], hl := 0, ad := [], adc := [], bump := [] }
def tail_spot_slot_h : Hint := (.ct tail_spot_slot_c0 tail_spot_slot_x0 0 .no .no)
def tail_spot_slot_j0_E0 {R : Type} (K : EX → St → Option R) : Int → Option R := fun v0 => K .ret (mkSt 19 [] tail_spot_slot_x0.keep [.int .i64 v0] [])
def tail_spot_slot_j0_S (place_24558 : Int) (sa_24559 : Bool) (sb_24560 : List Int) (sc_24561 : Int) (sd_24562 : Bool) (se_24563 : List (Int × Int)) (sf_24564 : Int) (sg_24565 : Int) (sh_24566 : Int) (si_24567 : Int) (sj_24568 : Int) (sk_24569 : Int) (sl_24570 : Int) (sm_24571 : Int) : St := mkSt 19 [] tail_spot_slot_c0.keep [.int .i64 place_24558, .ptr 0 0] [.blk [.sl (.int .i64) sa_24559 sb_24560, .int .i64 sc_24561, .sl (.pair (.int .i64) (.int .i64)) sd_24562 se_24563, .int .i64 sf_24564, .int .i64 sg_24565, .int .i64 sh_24566, .int .i64 si_24567, .int .i64 sj_24568, .int .i64 sk_24569, .int .i64 sl_24570, .int .i64 sm_24571]]
def tail_spot_slot_j0_sh : Rd (List AV × List HE) := .pair (.cons (.int .i64) (.cons (.ptr 0 0) Rd.nil)) (.cons (.blk (.cons (.sl (.int .i64)) (.cons (.int .i64) (.cons (.sl (.pair (.int .i64) (.int .i64))) (.cons (.int .i64) (.cons (.int .i64) (.cons (.int .i64) (.cons (.int .i64) (.cons (.int .i64) (.cons (.int .i64) (.cons (.int .i64) (.cons (.int .i64) Rd.nil)))))))))))) Rd.nil)
def tail_spot_slot_j0_a {R : Type} (k : Nat) : Alt R := { n := 19, v := [], sh := tail_spot_slot_j0_sh, g := fun K x => tail_spot_slot_j0 (tail_spot_slot_j0_E0 K) k x.1.1 x.2.1.2.2.2.1 x.2.1.2.2.2.2.1 x.2.1.2.2.2.2.2.1 x.2.1.2.2.2.2.2.2.1 x.2.1.2.2.2.2.2.2.2.1 x.2.1.2.2.2.2.2.2.2.2.1 x.2.1.2.2.2.2.2.2.2.2.2.1 }
def tail_spot_slot_O {R : Type} (k : Nat) : CutK R := cutsO [[tail_spot_slot_j0_a k]]
noncomputable def tail_spot_slot_b : List Ob := obs (bodyOf Try.f64) tail_spot_slot_h
noncomputable def tail_spot_slot_I {R : Type} (k : Nat) : InlT R := inone
theorem tail_spot_slot_j0_eq {R : Type} (k : Nat) (K : EX → St → Option R) (place_24558 : Int) (sa_24559 : Bool) (sb_24560 : List Int) (sc_24561 : Int) (sd_24562 : Bool) (se_24563 : List (Int × Int)) (sf_24564 : Int) (sg_24565 : Int) (sh_24566 : Int) (si_24567 : Int) (sj_24568 : Int) (sk_24569 : Int) (sl_24570 : Int) (sm_24571 : Int) : tail_spot_slot_j0 (tail_spot_slot_j0_E0 K) k place_24558 sf_24564 sg_24565 sh_24566 si_24567 sj_24568 sk_24569 sl_24570 = ev tab (tail_spot_slot_F k) (inlK tab (tail_spot_slot_F k) (tail_spot_slot_I k) 0) (tail_spot_slot_O k) (obB tail_spot_slot_b 0) (obH tail_spot_slot_b 0) (tail_spot_slot_j0_S place_24558 sa_24559 sb_24560 sc_24561 sd_24562 se_24563 sf_24564 sg_24565 sh_24566 si_24567 sj_24568 sk_24569 sl_24570 sm_24571) (fun e st => optb (clean tail_spot_slot_x0 st) fun st => K e st) := by kernel_rfl
theorem tail_spot_slot_j0_ok {R : Type} (k : Nat)  : ObOK (R := R) tab (tail_spot_slot_F k) (inlK tab (tail_spot_slot_F k) (tail_spot_slot_I k) 0) (tail_spot_slot_O k) (.join tail_spot_slot_c0 tail_spot_slot_x0 0 (obB tail_spot_slot_b 0) (obH tail_spot_slot_b 0)) :=
  join_ok (l := [tail_spot_slot_j0_a k]) (by kernel_rfl) ⟨(fun K x => (tail_spot_slot_j0_eq k K x.1.1 x.2.1.1.1 x.2.1.1.2 x.2.1.2.1 x.2.1.2.2.1.1 x.2.1.2.2.1.2 x.2.1.2.2.2.1 x.2.1.2.2.2.2.1 x.2.1.2.2.2.2.2.1 x.2.1.2.2.2.2.2.2.1 x.2.1.2.2.2.2.2.2.2.1 x.2.1.2.2.2.2.2.2.2.2.1 x.2.1.2.2.2.2.2.2.2.2.2.1 x.2.1.2.2.2.2.2.2.2.2.2.2.1).trans (by kernel_rfl)), trivial⟩
theorem tail_spot_slot_cuts {R : Type} (k : Nat) : ∀ c, Try.f64.body = some c → CutsOK (R := R) tab (tail_spot_slot_F k) (inlK tab (tail_spot_slot_F k) (tail_spot_slot_I k) 0) (tail_spot_slot_O k) c tail_spot_slot_h :=
  cuts_of (l := [.join tail_spot_slot_c0 tail_spot_slot_x0 0 (obB tail_spot_slot_b 0) (obH tail_spot_slot_b 0)]) (by kernel_rfl) ⟨tail_spot_slot_j0_ok k, trivial⟩
theorem tail_spot_slot_iok {R : Type} (k : Nat) : IOK Try.prog tab (tail_spot_slot_F k) (tail_spot_slot_I (R := R) k) := iok_none
theorem tail_spot_slot_ev (k : Nat) (x : (tail_spot_slot_p k).τ.den) : evalF tab (tail_spot_slot_F k) (tail_spot_slot_p k) (tail_spot_slot_I k) 0 (tail_spot_slot_O k) tail_spot_slot_h Try.f64 x = (tail_spot_slot_p k).f x := by kernel_rfl
theorem tail_spot_slot_ok (k : Nat) : PFOK Try.prog tab 64 (tail_spot_slot_p k) := pfok mixed tabOK (tail_spot_slot_fok k) Try.func64 (I := tail_spot_slot_I k) (d := 0) (tail_spot_slot_iok k) (Q := tail_spot_slot_O k) (hi := tail_spot_slot_h) (tail_spot_slot_cuts k) (tail_spot_slot_ev k)
end Go.Proofs.Ytcikcikcjimcjaa.Ev
