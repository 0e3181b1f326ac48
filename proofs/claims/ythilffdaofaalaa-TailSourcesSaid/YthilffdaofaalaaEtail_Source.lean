/- tail_Source, told on plain data. Written by program. -/
import Derived.Test.YthilffdaofaalaaEtail_View_can
import Derived.Test.YthilffdaofaalaaEgeom_Place
import Derived.Test.YthilffdaofaalaaEtail_spot_source
set_option linter.unusedVariables false
set_option maxRecDepth 1000000
namespace Go.Proofs.Ythilffdaofaalaa.Ev
open Go Go.RowKit Go.Proofs
def tail_Source_j0 {R : Type} (e0 : Int → Int → Option R) (k : Nat) (zone_437 : Int) (block_438 : Int) (row_439 : Int) (ga_440 : Int) (gb_441 : Int) (gc_442 : Int) (gd_443 : Int) (ge_444 : Int) (va_445 : Bool) (vb_446 : List Int) (vc_447 : Int) (vd_448 : Bool) (ve_449 : List (Int × Int)) : Option R :=
  bif (decide ((wrap64 (ga_440 - (1 : Int))) = (0 : Int))) then
    none
  else optb (tail_spot_source k va_445 vb_446 vc_447 vd_448 ve_449 ga_440 gb_441 gc_442 gd_443 ge_444 zone_437 row_439 (Int.tmod block_438 (wrap64 (ga_440 - (1 : Int))))) fun r_1223 =>
  e0 r_1223.1 r_1223.2
def tail_Source (k : Nat) (ga_12 : Int) (gb_13 : Int) (gc_14 : Int) (gd_15 : Int) (ge_16 : Int) (zone_17 : Int) (va_18 : Bool) (vb_19 : List Int) (vc_20 : Int) (vd_21 : Bool) (ve_22 : List (Int × Int)) (block_23 : Int) : Option (Int × Int) :=
  optb (tail_View_can k va_18 vb_19 vc_20 vd_21 ve_22 ga_12 gb_13 gc_14 gd_15 ge_16) fun r_435 =>
  bif (!r_435) then
    some ((0 : Int), (0 : Int))
  else optb (geom_Place k ga_12 gb_13 gc_14 gd_15 ge_16 zone_17 block_23) fun r_436 =>
  bif (!r_436.2.2) then
    some ((0 : Int), (0 : Int))
  else tail_Source_j0 (fun v_1224 v_1225 =>
    some (v_1224, v_1225)) k zone_17 block_23 r_436.1 ga_12 gb_13 gc_14 gd_15 ge_16 va_18 vb_19 vc_20 vd_21 ve_22
def tail_Source_p (k : Nat) : PF := { ps := [(true, 5), (false, 1), (true, 3), (false, 1)], rs := [(false, 1), (false, 1)], τ := (.pair (.pair (.int .i64) (.pair (.int .i64) (.pair (.int .i64) (.pair (.int .i64) (.int .i64))))) (.pair (.int .i64) (.pair (.pair (.sl (.int .i64)) (.pair (.int .i64) (.sl (.pair (.int .i64) (.int .i64))))) (.int .i64)))), σ := (.pair (.int .i64) (.int .i64)), f := fun x => tail_Source k x.1.1 x.1.2.1 x.1.2.2.1 x.1.2.2.2.1 x.1.2.2.2.2 x.2.1 x.2.2.1.1.1 x.2.2.1.1.2 x.2.2.1.2.1 x.2.2.1.2.2.1 x.2.2.1.2.2.2 x.2.2.2 }
def tail_Source_F (k : Nat) : PT := fcons 45 (tail_View_can_p k) <| fcons 25 (geom_Place_p k) <| fcons 46 (tail_spot_source_p k) <| fnone
theorem tail_Source_fok (k : Nat) : FOK Try.prog tab (tail_Source_F k) := fok_cons (tail_View_can_ok k) Try.call45 <| fok_cons (geom_Place_ok k) Try.call25 <| fok_cons (tail_spot_source_ok k) Try.call46 <| fok_none
def tail_Source_c0 : Cl := { keep := [1, 3, 4, 6, 10], hl := 2, ad := [], adc := [], bump := [] }
def tail_Source_x0 : Cl := { keep := [8, 9], hl := 0, ad := [], adc := [], bump := [] }
def tail_Source_h : Hint := (.sq .no (.sq .no (.sq .no (.ct tail_Source_c0 tail_Source_x0 0 .no .no))))
def tail_Source_j0_E0 {R : Type} (K : EX → St → Option R) : Int → Int → Option R := fun v0 v1 => K .ret (mkSt 40 [] tail_Source_x0.keep [.int .i64 v0, .int .i64 v1] [])
def tail_Source_j0_S (zone_437 : Int) (block_438 : Int) (row_439 : Int) (ga_440 : Int) (gb_441 : Int) (gc_442 : Int) (gd_443 : Int) (ge_444 : Int) (va_445 : Bool) (vb_446 : List Int) (vc_447 : Int) (vd_448 : Bool) (ve_449 : List (Int × Int)) : St := mkSt 40 [] tail_Source_c0.keep [.int .i64 zone_437, .int .i64 block_438, .ptr 0 0, .ptr 1 0, .int .i64 row_439] [.blk [.int .i64 ga_440, .int .i64 gb_441, .int .i64 gc_442, .int .i64 gd_443, .int .i64 ge_444], .blk [.sl (.int .i64) va_445 vb_446, .int .i64 vc_447, .sl (.pair (.int .i64) (.int .i64)) vd_448 ve_449]]
def tail_Source_j0_sh : Rd (List AV × List HE) := .pair (.cons (.int .i64) (.cons (.int .i64) (.cons (.ptr 0 0) (.cons (.ptr 1 0) (.cons (.int .i64) Rd.nil))))) (.cons (.blk (.cons (.int .i64) (.cons (.int .i64) (.cons (.int .i64) (.cons (.int .i64) (.cons (.int .i64) Rd.nil)))))) (.cons (.blk (.cons (.sl (.int .i64)) (.cons (.int .i64) (.cons (.sl (.pair (.int .i64) (.int .i64))) Rd.nil)))) Rd.nil))
def tail_Source_j0_a {R : Type} (k : Nat) : Alt R := { n := 40, v := [], sh := tail_Source_j0_sh, g := fun K x => tail_Source_j0 (tail_Source_j0_E0 K) k x.1.1 x.1.2.1 x.1.2.2.2.2.1 x.2.1.1 x.2.1.2.1 x.2.1.2.2.1 x.2.1.2.2.2.1 x.2.1.2.2.2.2.1 x.2.2.1.1.1 x.2.2.1.1.2 x.2.2.1.2.1 x.2.2.1.2.2.1.1 x.2.2.1.2.2.1.2 }
def tail_Source_O {R : Type} (k : Nat) : CutK R := cutsO [[tail_Source_j0_a k]]
noncomputable def tail_Source_b : List Ob := obs (bodyOf Try.f19) tail_Source_h
noncomputable def tail_Source_I {R : Type} (k : Nat) : InlT R := inone
theorem tail_Source_j0_eq {R : Type} (k : Nat) (K : EX → St → Option R) (zone_437 : Int) (block_438 : Int) (row_439 : Int) (ga_440 : Int) (gb_441 : Int) (gc_442 : Int) (gd_443 : Int) (ge_444 : Int) (va_445 : Bool) (vb_446 : List Int) (vc_447 : Int) (vd_448 : Bool) (ve_449 : List (Int × Int)) : tail_Source_j0 (tail_Source_j0_E0 K) k zone_437 block_438 row_439 ga_440 gb_441 gc_442 gd_443 ge_444 va_445 vb_446 vc_447 vd_448 ve_449 = ev tab (tail_Source_F k) (inlK tab (tail_Source_F k) (tail_Source_I k) 0) (tail_Source_O k) (obB tail_Source_b 0) (obH tail_Source_b 0) (tail_Source_j0_S zone_437 block_438 row_439 ga_440 gb_441 gc_442 gd_443 ge_444 va_445 vb_446 vc_447 vd_448 ve_449) (fun e st => optb (clean tail_Source_x0 st) fun st => K e st) := by kernel_rfl
theorem tail_Source_j0_ok {R : Type} (k : Nat)  : ObOK (R := R) tab (tail_Source_F k) (inlK tab (tail_Source_F k) (tail_Source_I k) 0) (tail_Source_O k) (.join tail_Source_c0 tail_Source_x0 0 (obB tail_Source_b 0) (obH tail_Source_b 0)) :=
  join_ok (l := [tail_Source_j0_a k]) (by kernel_rfl) ⟨(fun K x => (tail_Source_j0_eq k K x.1.1 x.1.2.1 x.1.2.2.2.2.1 x.2.1.1 x.2.1.2.1 x.2.1.2.2.1 x.2.1.2.2.2.1 x.2.1.2.2.2.2.1 x.2.2.1.1.1 x.2.2.1.1.2 x.2.2.1.2.1 x.2.2.1.2.2.1.1 x.2.2.1.2.2.1.2).trans (by kernel_rfl)), trivial⟩
theorem tail_Source_cuts {R : Type} (k : Nat) : ∀ c, Try.f19.body = some c → CutsOK (R := R) tab (tail_Source_F k) (inlK tab (tail_Source_F k) (tail_Source_I k) 0) (tail_Source_O k) c tail_Source_h :=
  cuts_of (l := [.join tail_Source_c0 tail_Source_x0 0 (obB tail_Source_b 0) (obH tail_Source_b 0)]) (by kernel_rfl) ⟨tail_Source_j0_ok k, trivial⟩
theorem tail_Source_iok {R : Type} (k : Nat) : IOK Try.prog tab (tail_Source_F k) (tail_Source_I (R := R) k) := iok_none
theorem tail_Source_ev (k : Nat) (x : (tail_Source_p k).τ.den) : evalF tab (tail_Source_F k) (tail_Source_p k) (tail_Source_I k) 0 (tail_Source_O k) tail_Source_h Try.f19 x = (tail_Source_p k).f x := by kernel_rfl
theorem tail_Source_ok (k : Nat) : PFOK Try.prog tab 19 (tail_Source_p k) := pfok mixed tabOK (tail_Source_fok k) Try.func19 (I := tail_Source_I k) (d := 0) (tail_Source_iok k) (Q := tail_Source_O k) (hi := tail_Source_h) (tail_Source_cuts k) (tail_Source_ev k)
end Go.Proofs.Ythilffdaofaalaa.Ev
