/- geom_Place, told on plain data. Written by program. -/
import Derived.Test.YtcikcikcjimcjaaEgeom_there
import Derived.Test.YtcikcikcjimcjaaEgeom_Capacity
import Derived.Test.YtcikcikcjimcjaaEgeom_within
import Derived.Test.YtcikcikcjimcjaaEgeom_Parity
set_option linter.unusedVariables false
set_option maxRecDepth 1000000
namespace Go.Proofs.Ytcikcikcjimcjaa.Ev
open Go Go.RowKit Go.Proofs
def geom_Place_j0 {R : Type} (e0 : Int → Int → Bool → Option R) (e1 : Option R) (k : Nat) (v_402 : Bool) : Option R :=
  bif v_402 then
    e0 (0 : Int) (0 : Int) false
  else e1
def geom_Place_j1 {R : Type} (e0 : Int → Bool → Option R) (k : Nat) (zone_427 : Int) (row_428 : Int) (k_429 : Int) (ga_430 : Int) (gb_431 : Int) (gc_432 : Int) (gd_433 : Int) (ge_434 : Int) : Option R :=
  optb (geom_Parity k ga_430 gb_431 gc_432 gd_433 ge_434 zone_427 row_428) fun r_435 =>
  bif (decide (ga_430 = (0 : Int))) then
    none
  else e0 (Int.tmod (wrap64 ((wrap64 (r_435 + (1 : Int))) + k_429)) ga_430) true
def geom_Place_k0 (k : Nat) : Int → Int → Bool → Option (Int × (Int × Bool)) := fun v_410 v_411 v_412 =>
  some (v_410, (v_411, v_412))
def geom_Place_k1 (k : Nat) (block_314 : Int) (ga_308 : Int) (gb_309 : Int) (gc_310 : Int) (gd_311 : Int) (ge_312 : Int) (zone_313 : Int) : Option (Int × (Int × Bool)) := 
  bif (decide ((wrap64 (ga_308 - (1 : Int))) = (0 : Int))) then
    none
  else let z_425 := (wrap64 (Int.tdiv block_314 (wrap64 (ga_308 - (1 : Int)))))
  bif (decide ((wrap64 (ga_308 - (1 : Int))) = (0 : Int))) then
    none
  else geom_Place_j1 (fun v_438 v_439 =>
    some (z_425, (v_438, v_439))) k zone_313 z_425 (Int.tmod block_314 (wrap64 (ga_308 - (1 : Int)))) ga_308 gb_309 gc_310 gd_311 ge_312
def geom_Place (k : Nat) (ga_308 : Int) (gb_309 : Int) (gc_310 : Int) (gd_311 : Int) (ge_312 : Int) (zone_313 : Int) (block_314 : Int) : Option (Int × (Int × Bool)) :=
  optb (geom_there k ga_308 gb_309 gc_310 gd_311 ge_312 zone_313 (0 : Int)) fun r_399 =>
  bif (!r_399) then
    geom_Place_j0 (geom_Place_k0 k) (geom_Place_k1 k block_314 ga_308 gb_309 gc_310 gd_311 ge_312 zone_313) k true
  else optb (geom_Capacity k ga_308 gb_309 gc_310 gd_311 ge_312) fun r_440 =>
  optb (geom_within k block_314 (0 : Int) (wrap64 (r_440 - (1 : Int)))) fun r_441 =>
  geom_Place_j0 (geom_Place_k0 k) (geom_Place_k1 k block_314 ga_308 gb_309 gc_310 gd_311 ge_312 zone_313) k (!r_441)
def geom_Place_p (k : Nat) : PF := { ps := [(true, 5), (false, 1), (false, 1)], rs := [(false, 1), (false, 1), (false, 1)], τ := (.pair (.pair (.int .i64) (.pair (.int .i64) (.pair (.int .i64) (.pair (.int .i64) (.int .i64))))) (.pair (.int .i64) (.int .i64))), σ := (.pair (.int .i64) (.pair (.int .i64) .bool)), f := fun x => geom_Place k x.1.1 x.1.2.1 x.1.2.2.1 x.1.2.2.2.1 x.1.2.2.2.2 x.2.1 x.2.2 }
def geom_Place_F (k : Nat) : PT := fcons 45 (geom_there_p k) <| fcons 25 (geom_Capacity_p k) <| fcons 56 (geom_within_p k) <| fcons 26 (geom_Parity_p k) <| fnone
theorem geom_Place_fok (k : Nat) : FOK Try.prog tab (geom_Place_F k) := fok_cons (geom_there_ok k) Try.call45 <| fok_cons (geom_Capacity_ok k) Try.call25 <| fok_cons (geom_within_ok k) Try.call56 <| fok_cons (geom_Parity_ok k) Try.call26 <| fok_none
def geom_Place_c0 : Cl := { keep := [1, 2, 3, 22], hl := 1, ad := [], adc := [], bump := [] }
def geom_Place_x0 : Cl := { keep := [1, 2, 3, 6, 7, 8], hl := 1, ad := [], adc := [], bump := [] }
def geom_Place_c1 : Cl := { keep := [1, 3, 9, 10], hl := 1, ad := [], adc := [], bump := [] }
def geom_Place_x1 : Cl := { keep := [6, 7, 8], hl := 0, ad := [], adc := [], bump := [] }
def geom_Place_h : Hint := (.sq .no (.sq (.ct geom_Place_c0 geom_Place_x0 0 .no .no) (.ct geom_Place_c1 geom_Place_x1 1 .no .no)))
def geom_Place_j0_E0 {R : Type} (K : EX → St → Option R) : Int → Int → Int → Int → Bool → Int → Int → Int → Int → Int → Option R := fun v0 v1 v2 v3 v4 v5 v6 v7 v8 v9 => K .ret (mkSt 44 [] geom_Place_x0.keep [.int .i64 v0, .int .i64 v1, .ptr 0 0, .int .i64 v2, .int .i64 v3, .bool v4] [.blk [.int .i64 v5, .int .i64 v6, .int .i64 v7, .int .i64 v8, .int .i64 v9]])
def geom_Place_j0_E1 {R : Type} (K : EX → St → Option R) : Int → Int → Int → Int → Int → Int → Int → Option R := fun v0 v1 v2 v3 v4 v5 v6 => K .normal (mkSt 44 [] geom_Place_x0.keep [.int .i64 v0, .int .i64 v1, .ptr 0 0, .junk, .junk, .junk] [.blk [.int .i64 v2, .int .i64 v3, .int .i64 v4, .int .i64 v5, .int .i64 v6]])
def geom_Place_j0_S (zone_400 : Int) (block_401 : Int) (v_402 : Bool) (ga_403 : Int) (gb_404 : Int) (gc_405 : Int) (gd_406 : Int) (ge_407 : Int) : St := mkSt 44 [] geom_Place_c0.keep [.int .i64 zone_400, .int .i64 block_401, .ptr 0 0, .bool v_402] [.blk [.int .i64 ga_403, .int .i64 gb_404, .int .i64 gc_405, .int .i64 gd_406, .int .i64 ge_407]]
def geom_Place_j0_sh : Rd (List AV × List HE) := .pair (.cons (.int .i64) (.cons (.int .i64) (.cons (.ptr 0 0) (.cons .bool Rd.nil)))) (.cons (.blk (.cons (.int .i64) (.cons (.int .i64) (.cons (.int .i64) (.cons (.int .i64) (.cons (.int .i64) Rd.nil)))))) Rd.nil)
def geom_Place_j0_a {R : Type} (k : Nat) : Alt R := { n := 44, v := [], sh := geom_Place_j0_sh, g := fun K x => geom_Place_j0 (fun y2 y3 y4 => geom_Place_j0_E0 K x.1.1 x.1.2.1 y2 y3 y4 x.2.1.1 x.2.1.2.1 x.2.1.2.2.1 x.2.1.2.2.2.1 x.2.1.2.2.2.2.1) (geom_Place_j0_E1 K x.1.1 x.1.2.1 x.2.1.1 x.2.1.2.1 x.2.1.2.2.1 x.2.1.2.2.2.1 x.2.1.2.2.2.2.1) k x.1.2.2.2.1 }
def geom_Place_j1_E0 {R : Type} (K : EX → St → Option R) : Int → Int → Bool → Option R := fun v0 v1 v2 => K .ret (mkSt 44 [] geom_Place_x1.keep [.int .i64 v0, .int .i64 v1, .bool v2] [])
def geom_Place_j1_S (zone_427 : Int) (row_428 : Int) (k_429 : Int) (ga_430 : Int) (gb_431 : Int) (gc_432 : Int) (gd_433 : Int) (ge_434 : Int) : St := mkSt 44 [] geom_Place_c1.keep [.int .i64 zone_427, .ptr 0 0, .int .i64 row_428, .int .i64 k_429] [.blk [.int .i64 ga_430, .int .i64 gb_431, .int .i64 gc_432, .int .i64 gd_433, .int .i64 ge_434]]
def geom_Place_j1_sh : Rd (List AV × List HE) := .pair (.cons (.int .i64) (.cons (.ptr 0 0) (.cons (.int .i64) (.cons (.int .i64) Rd.nil)))) (.cons (.blk (.cons (.int .i64) (.cons (.int .i64) (.cons (.int .i64) (.cons (.int .i64) (.cons (.int .i64) Rd.nil)))))) Rd.nil)
def geom_Place_j1_a {R : Type} (k : Nat) : Alt R := { n := 44, v := [], sh := geom_Place_j1_sh, g := fun K x => geom_Place_j1 (fun y1 y2 => geom_Place_j1_E0 K x.1.2.2.1 y1 y2) k x.1.1 x.1.2.2.1 x.1.2.2.2.1 x.2.1.1 x.2.1.2.1 x.2.1.2.2.1 x.2.1.2.2.2.1 x.2.1.2.2.2.2.1 }
def geom_Place_O {R : Type} (k : Nat) : CutK R := cutsO [[geom_Place_j0_a k], [geom_Place_j1_a k]]
noncomputable def geom_Place_b : List Ob := obs (bodyOf Try.f38) geom_Place_h
noncomputable def geom_Place_I {R : Type} (k : Nat) : InlT R := inone
theorem geom_Place_j0_eq {R : Type} (k : Nat) (K : EX → St → Option R) (zone_400 : Int) (block_401 : Int) (v_402 : Bool) (ga_403 : Int) (gb_404 : Int) (gc_405 : Int) (gd_406 : Int) (ge_407 : Int) : geom_Place_j0 (fun y2 y3 y4 => geom_Place_j0_E0 K zone_400 block_401 y2 y3 y4 ga_403 gb_404 gc_405 gd_406 ge_407) (geom_Place_j0_E1 K zone_400 block_401 ga_403 gb_404 gc_405 gd_406 ge_407) k v_402 = ev tab (geom_Place_F k) (inlK tab (geom_Place_F k) (geom_Place_I k) 0) (geom_Place_O k) (obB geom_Place_b 0) (obH geom_Place_b 0) (geom_Place_j0_S zone_400 block_401 v_402 ga_403 gb_404 gc_405 gd_406 ge_407) (fun e st => optb (clean geom_Place_x0 st) fun st => K e st) := by kernel_rfl
theorem geom_Place_j0_ok {R : Type} (k : Nat)  : ObOK (R := R) tab (geom_Place_F k) (inlK tab (geom_Place_F k) (geom_Place_I k) 0) (geom_Place_O k) (.join geom_Place_c0 geom_Place_x0 0 (obB geom_Place_b 0) (obH geom_Place_b 0)) :=
  join_ok (l := [geom_Place_j0_a k]) (by kernel_rfl) ⟨(fun K x => (geom_Place_j0_eq k K x.1.1 x.1.2.1 x.1.2.2.2.1 x.2.1.1 x.2.1.2.1 x.2.1.2.2.1 x.2.1.2.2.2.1 x.2.1.2.2.2.2.1).trans (by kernel_rfl)), trivial⟩
theorem geom_Place_j1_eq {R : Type} (k : Nat) (K : EX → St → Option R) (zone_427 : Int) (row_428 : Int) (k_429 : Int) (ga_430 : Int) (gb_431 : Int) (gc_432 : Int) (gd_433 : Int) (ge_434 : Int) : geom_Place_j1 (fun y1 y2 => geom_Place_j1_E0 K row_428 y1 y2) k zone_427 row_428 k_429 ga_430 gb_431 gc_432 gd_433 ge_434 = ev tab (geom_Place_F k) (inlK tab (geom_Place_F k) (geom_Place_I k) 0) (geom_Place_O k) (obB geom_Place_b 1) (obH geom_Place_b 1) (geom_Place_j1_S zone_427 row_428 k_429 ga_430 gb_431 gc_432 gd_433 ge_434) (fun e st => optb (clean geom_Place_x1 st) fun st => K e st) := by kernel_rfl
theorem geom_Place_j1_ok {R : Type} (k : Nat)  : ObOK (R := R) tab (geom_Place_F k) (inlK tab (geom_Place_F k) (geom_Place_I k) 0) (geom_Place_O k) (.join geom_Place_c1 geom_Place_x1 1 (obB geom_Place_b 1) (obH geom_Place_b 1)) :=
  join_ok (l := [geom_Place_j1_a k]) (by kernel_rfl) ⟨(fun K x => (geom_Place_j1_eq k K x.1.1 x.1.2.2.1 x.1.2.2.2.1 x.2.1.1 x.2.1.2.1 x.2.1.2.2.1 x.2.1.2.2.2.1 x.2.1.2.2.2.2.1).trans (by kernel_rfl)), trivial⟩
theorem geom_Place_cuts {R : Type} (k : Nat) : ∀ c, Try.f38.body = some c → CutsOK (R := R) tab (geom_Place_F k) (inlK tab (geom_Place_F k) (geom_Place_I k) 0) (geom_Place_O k) c geom_Place_h :=
  cuts_of (l := [.join geom_Place_c0 geom_Place_x0 0 (obB geom_Place_b 0) (obH geom_Place_b 0), .join geom_Place_c1 geom_Place_x1 1 (obB geom_Place_b 1) (obH geom_Place_b 1)]) (by kernel_rfl) ⟨geom_Place_j0_ok k, geom_Place_j1_ok k, trivial⟩
theorem geom_Place_iok {R : Type} (k : Nat) : IOK Try.prog tab (geom_Place_F k) (geom_Place_I (R := R) k) := iok_none
theorem geom_Place_ev (k : Nat) (x : (geom_Place_p k).τ.den) : evalF tab (geom_Place_F k) (geom_Place_p k) (geom_Place_I k) 0 (geom_Place_O k) geom_Place_h Try.f38 x = (geom_Place_p k).f x := by kernel_rfl
theorem geom_Place_ok (k : Nat) : PFOK Try.prog tab 38 (geom_Place_p k) := pfok mixed tabOK (geom_Place_fok k) Try.func38 (I := geom_Place_I k) (d := 0) (geom_Place_iok k) (Q := geom_Place_O k) (hi := geom_Place_h) (geom_Place_cuts k) (geom_Place_ev k)
end Go.Proofs.Ytcikcikcjimcjaa.Ev
