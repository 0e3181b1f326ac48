/- tail_Source, told on plain data. Written by program. -/
import Derived.Test.YtcikcikcjimcjaaEtail_View_can
import Derived.Test.YtcikcikcjimcjaaEgeom_Place
import Derived.Test.YtcikcikcjimcjaaEtail_spot_source
set_option linter.unusedVariables false
set_option maxRecDepth 1000000
namespace Go.Proofs.Ytcikcikcjimcjaa.Ev
open Go Go.RowKit Go.Proofs
def tail_Source_j0 {R : Type} (e0 : Int → Int → Option R) (k : Nat) (zone_24518 : Int) (block_24519 : Int) (row_24520 : Int) (ga_24521 : Int) (gb_24522 : Int) (gc_24523 : Int) (gd_24524 : Int) (ge_24525 : Int) (va_24526 : Bool) (vb_24527 : List Int) (vc_24528 : Int) (vd_24529 : Bool) (ve_24530 : List (Int × Int)) : Option R :=
  bif (decide ((wrap64 (ga_24521 - (1 : Int))) = (0 : Int))) then
    none
  else optb (tail_spot_source k va_24526 vb_24527 vc_24528 vd_24529 ve_24530 ga_24521 gb_24522 gc_24523 gd_24524 ge_24525 zone_24518 row_24520 (Int.tmod block_24519 (wrap64 (ga_24521 - (1 : Int))))) fun r_25304 =>
  e0 r_25304.1 r_25304.2
def tail_Source (k : Nat) (ga_24275 : Int) (gb_24276 : Int) (gc_24277 : Int) (gd_24278 : Int) (ge_24279 : Int) (zone_24280 : Int) (va_24281 : Bool) (vb_24282 : List Int) (vc_24283 : Int) (vd_24284 : Bool) (ve_24285 : List (Int × Int)) (block_24286 : Int) : Option (Int × Int) :=
  optb (tail_View_can k va_24281 vb_24282 vc_24283 vd_24284 ve_24285 ga_24275 gb_24276 gc_24277 gd_24278 ge_24279) fun r_24516 =>
  bif (!r_24516) then
    some ((0 : Int), (0 : Int))
  else optb (geom_Place k ga_24275 gb_24276 gc_24277 gd_24278 ge_24279 zone_24280 block_24286) fun r_24517 =>
  bif (!r_24517.2.2) then
    some ((0 : Int), (0 : Int))
  else tail_Source_j0 (fun v_25305 v_25306 =>
    some (v_25305, v_25306)) k zone_24280 block_24286 r_24517.1 ga_24275 gb_24276 gc_24277 gd_24278 ge_24279 va_24281 vb_24282 vc_24283 vd_24284 ve_24285
def tail_Source_p (k : Nat) : PF := { ps := [(true, 5), (false, 1), (true, 3), (false, 1)], rs := [(false, 1), (false, 1)], τ := (.pair (.pair (.int .i64) (.pair (.int .i64) (.pair (.int .i64) (.pair (.int .i64) (.int .i64))))) (.pair (.int .i64) (.pair (.pair (.sl (.int .i64)) (.pair (.int .i64) (.sl (.pair (.int .i64) (.int .i64))))) (.int .i64)))), σ := (.pair (.int .i64) (.int .i64)), f := fun x => tail_Source k x.1.1 x.1.2.1 x.1.2.2.1 x.1.2.2.2.1 x.1.2.2.2.2 x.2.1 x.2.2.1.1.1 x.2.2.1.1.2 x.2.2.1.2.1 x.2.2.1.2.2.1 x.2.2.1.2.2.2 x.2.2.2 }
def tail_Source_F (k : Nat) : PT := fcons 59 (tail_View_can_p k) <| fcons 38 (geom_Place_p k) <| fcons 60 (tail_spot_source_p k) <| fnone
theorem tail_Source_fok (k : Nat) : FOK Try.prog tab (tail_Source_F k) := fok_cons (tail_View_can_ok k) Try.call59 <| fok_cons (geom_Place_ok k) Try.call38 <| fok_cons (tail_spot_source_ok k) Try.call60 <| fok_none
def tail_Source_c0 : Cl := { keep := [1, 3, 4, 6, 10], hl := 2, ad := [], adc := [], bump := [] }
def tail_Source_x0 : Cl := { keep := [8, 9], hl := 0, ad := [], adc := [], bump := [] }
def tail_Source_h : Hint := (.sq .no (.sq .no (.sq .no (.ct tail_Source_c0 tail_Source_x0 0 .no .no))))
def tail_Source_j0_E0 {R : Type} (K : EX → St → Option R) : Int → Int → Option R := fun v0 v1 => K .ret (mkSt 40 [] tail_Source_x0.keep [.int .i64 v0, .int .i64 v1] [])
def tail_Source_j0_S (zone_24518 : Int) (block_24519 : Int) (row_24520 : Int) (ga_24521 : Int) (gb_24522 : Int) (gc_24523 : Int) (gd_24524 : Int) (ge_24525 : Int) (va_24526 : Bool) (vb_24527 : List Int) (vc_24528 : Int) (vd_24529 : Bool) (ve_24530 : List (Int × Int)) : St := mkSt 40 [] tail_Source_c0.keep [.int .i64 zone_24518, .int .i64 block_24519, .ptr 0 0, .ptr 1 0, .int .i64 row_24520] [.blk [.int .i64 ga_24521, .int .i64 gb_24522, .int .i64 gc_24523, .int .i64 gd_24524, .int .i64 ge_24525], .blk [.sl (.int .i64) va_24526 vb_24527, .int .i64 vc_24528, .sl (.pair (.int .i64) (.int .i64)) vd_24529 ve_24530]]
def tail_Source_j0_sh : Rd (List AV × List HE) := .pair (.cons (.int .i64) (.cons (.int .i64) (.cons (.ptr 0 0) (.cons (.ptr 1 0) (.cons (.int .i64) Rd.nil))))) (.cons (.blk (.cons (.int .i64) (.cons (.int .i64) (.cons (.int .i64) (.cons (.int .i64) (.cons (.int .i64) Rd.nil)))))) (.cons (.blk (.cons (.sl (.int .i64)) (.cons (.int .i64) (.cons (.sl (.pair (.int .i64) (.int .i64))) Rd.nil)))) Rd.nil))
def tail_Source_j0_a {R : Type} (k : Nat) : Alt R := { n := 40, v := [], sh := tail_Source_j0_sh, g := fun K x => tail_Source_j0 (tail_Source_j0_E0 K) k x.1.1 x.1.2.1 x.1.2.2.2.2.1 x.2.1.1 x.2.1.2.1 x.2.1.2.2.1 x.2.1.2.2.2.1 x.2.1.2.2.2.2.1 x.2.2.1.1.1 x.2.2.1.1.2 x.2.2.1.2.1 x.2.2.1.2.2.1.1 x.2.2.1.2.2.1.2 }
def tail_Source_O {R : Type} (k : Nat) : CutK R := cutsO [[tail_Source_j0_a k]]
noncomputable def tail_Source_b : List Ob := obs (bodyOf Try.f46) tail_Source_h
noncomputable def tail_Source_I {R : Type} (k : Nat) : InlT R := inone
theorem tail_Source_j0_eq {R : Type} (k : Nat) (K : EX → St → Option R) (zone_24518 : Int) (block_24519 : Int) (row_24520 : Int) (ga_24521 : Int) (gb_24522 : Int) (gc_24523 : Int) (gd_24524 : Int) (ge_24525 : Int) (va_24526 : Bool) (vb_24527 : List Int) (vc_24528 : Int) (vd_24529 : Bool) (ve_24530 : List (Int × Int)) : tail_Source_j0 (tail_Source_j0_E0 K) k zone_24518 block_24519 row_24520 ga_24521 gb_24522 gc_24523 gd_24524 ge_24525 va_24526 vb_24527 vc_24528 vd_24529 ve_24530 = ev tab (tail_Source_F k) (inlK tab (tail_Source_F k) (tail_Source_I k) 0) (tail_Source_O k) (obB tail_Source_b 0) (obH tail_Source_b 0) (tail_Source_j0_S zone_24518 block_24519 row_24520 ga_24521 gb_24522 gc_24523 gd_24524 ge_24525 va_24526 vb_24527 vc_24528 vd_24529 ve_24530) (fun e st => optb (clean tail_Source_x0 st) fun st => K e st) := by kernel_rfl
theorem tail_Source_j0_ok {R : Type} (k : Nat)  : ObOK (R := R) tab (tail_Source_F k) (inlK tab (tail_Source_F k) (tail_Source_I k) 0) (tail_Source_O k) (.join tail_Source_c0 tail_Source_x0 0 (obB tail_Source_b 0) (obH tail_Source_b 0)) :=
  join_ok (l := [tail_Source_j0_a k]) (by kernel_rfl) ⟨(fun K x => (tail_Source_j0_eq k K x.1.1 x.1.2.1 x.1.2.2.2.2.1 x.2.1.1 x.2.1.2.1 x.2.1.2.2.1 x.2.1.2.2.2.1 x.2.1.2.2.2.2.1 x.2.2.1.1.1 x.2.2.1.1.2 x.2.2.1.2.1 x.2.2.1.2.2.1.1 x.2.2.1.2.2.1.2).trans (by kernel_rfl)), trivial⟩
theorem tail_Source_cuts {R : Type} (k : Nat) : ∀ c, Try.f46.body = some c → CutsOK (R := R) tab (tail_Source_F k) (inlK tab (tail_Source_F k) (tail_Source_I k) 0) (tail_Source_O k) c tail_Source_h :=
  cuts_of (l := [.join tail_Source_c0 tail_Source_x0 0 (obB tail_Source_b 0) (obH tail_Source_b 0)]) (by kernel_rfl) ⟨tail_Source_j0_ok k, trivial⟩
theorem tail_Source_iok {R : Type} (k : Nat) : IOK Try.prog tab (tail_Source_F k) (tail_Source_I (R := R) k) := iok_none
theorem tail_Source_ev (k : Nat) (x : (tail_Source_p k).τ.den) : evalF tab (tail_Source_F k) (tail_Source_p k) (tail_Source_I k) 0 (tail_Source_O k) tail_Source_h Try.f46 x = (tail_Source_p k).f x := by kernel_rfl
theorem tail_Source_ok (k : Nat) : PFOK Try.prog tab 46 (tail_Source_p k) := pfok mixed tabOK (tail_Source_fok k) Try.func46 (I := tail_Source_I k) (d := 0) (tail_Source_iok k) (Q := tail_Source_O k) (hi := tail_Source_h) (tail_Source_cuts k) (tail_Source_ev k)
end Go.Proofs.Ytcikcikcjimcjaa.Ev
