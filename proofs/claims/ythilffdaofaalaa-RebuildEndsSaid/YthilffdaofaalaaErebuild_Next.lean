/- rebuild_Next, told on plain data. Written by program. -/
import Derived.Test.YthilffdaofaalaaEslices_IndexFunc_c72
set_option linter.unusedVariables false
set_option maxRecDepth 1000000
namespace Go.Proofs.Ythilffdaofaalaa.Ev
open Go Go.RowKit Go.Proofs
def rebuild_Next_j0 {R : Type} (e0 : Int → Int → Bool → Option R) (e1 : Option R) (k : Nat) (v_2347 : Bool) : Option R :=
  bif v_2347 then
    e0 (0 : Int) (0 : Int) false
  else e1
def rebuild_Next_k0 (k : Nat) : Int → Int → Bool → Option (Int × (Int × Bool)) := fun v_2360 v_2361 v_2362 =>
  some (v_2360, (v_2361, v_2362))
def rebuild_Next_k1 (k : Nat) (bb_2287 : Bool) (bc_2288 : List (Int × (Int × Int))) (bg_2292 : Int) : Option (Int × (Int × Bool)) := 
  let z_2387 := (bif (decide ((2 : Int) > bg_2292)) then (2 : Int) else bg_2292)
  optb (slices_IndexFunc_c72 k bb_2287 bc_2288 z_2387) fun r_2400 =>
  some (z_2387, (r_2400, true))
def rebuild_Next (k : Nat) (ga_2281 : Int) (gb_2282 : Int) (gc_2283 : Int) (gd_2284 : Int) (ge_2285 : Int) (ba_2286 : Int) (bb_2287 : Bool) (bc_2288 : List (Int × (Int × Int))) (bd_2289 : Bool) (be_2290 : List Int) (bf_2291 : Int) (bg_2292 : Int) : Option (Int × (Int × Bool)) :=
  bif (decide (bf_2291 < (0 : Int))) then
    rebuild_Next_j0 (rebuild_Next_k0 k) (rebuild_Next_k1 k bb_2287 bc_2288 bg_2292) k true
  else rebuild_Next_j0 (rebuild_Next_k0 k) (rebuild_Next_k1 k bb_2287 bc_2288 bg_2292) k (decide (gb_2282 ≤ bg_2292))
def rebuild_Next_p (k : Nat) : PF := { ps := [(true, 5), (true, 5)], rs := [(false, 1), (false, 1), (false, 1)], τ := (.pair (.pair (.int .i64) (.pair (.int .i64) (.pair (.int .i64) (.pair (.int .i64) (.int .i64))))) (.pair (.int .i64) (.pair (.sl (.pair (.int .i64) (.pair (.int .i64) (.int .i64)))) (.pair (.sl (.int .i64)) (.pair (.int .i64) (.int .i64)))))), σ := (.pair (.int .i64) (.pair (.int .i64) .bool)), f := fun x => rebuild_Next k x.1.1 x.1.2.1 x.1.2.2.1 x.1.2.2.2.1 x.1.2.2.2.2 x.2.1 x.2.2.1.1 x.2.2.1.2 x.2.2.2.1.1 x.2.2.2.1.2 x.2.2.2.2.1 x.2.2.2.2.2 }
def rebuild_Next_F (k : Nat) : PT := ccons 71 72 (slices_IndexFunc_c72_p k) <| fnone
theorem rebuild_Next_fok (k : Nat) : FOK Try.prog tab (rebuild_Next_F k) := cok_cons (slices_IndexFunc_c72_ok k) Try.call71 <| fok_none
def rebuild_Next_c0 : Cl := { keep := [3, 17], hl := 2, ad := [], adc := [], bump := [] }
def rebuild_Next_x0 : Cl := { keep := [3, 4, 5, 6], hl := 2, ad := [], adc := [], bump := [] }
def rebuild_Next_h : Hint := (.sq .no (.sq (.ct rebuild_Next_c0 rebuild_Next_x0 0 .no .no) .no))
def rebuild_Next_j0_E0 {R : Type} (K : EX → St → Option R) : Int → Int → Bool → Int → Int → Int → Int → Int → Int → Bool → List (Int × (Int × Int)) → Bool → List Int → Int → Int → Option R := fun v0 v1 v2 v3 v4 v5 v6 v7 v8 v9 v10 v11 v12 v13 v14 => K .ret (mkSt 26 [] rebuild_Next_x0.keep [.ptr 1 0, .int .i64 v0, .int .i64 v1, .bool v2] [.blk [.int .i64 v3, .int .i64 v4, .int .i64 v5, .int .i64 v6, .int .i64 v7], .blk [.int .i64 v8, .sl (.pair (.int .i64) (.pair (.int .i64) (.int .i64))) v9 v10, .sl (.int .i64) v11 v12, .int .i64 v13, .int .i64 v14]])
def rebuild_Next_j0_E1 {R : Type} (K : EX → St → Option R) : Int → Int → Int → Int → Int → Int → Bool → List (Int × (Int × Int)) → Bool → List Int → Int → Int → Option R := fun v0 v1 v2 v3 v4 v5 v6 v7 v8 v9 v10 v11 => K .normal (mkSt 26 [] rebuild_Next_x0.keep [.ptr 1 0, .junk, .junk, .junk] [.blk [.int .i64 v0, .int .i64 v1, .int .i64 v2, .int .i64 v3, .int .i64 v4], .blk [.int .i64 v5, .sl (.pair (.int .i64) (.pair (.int .i64) (.int .i64))) v6 v7, .sl (.int .i64) v8 v9, .int .i64 v10, .int .i64 v11]])
def rebuild_Next_j0_S (v_2347 : Bool) (ha_2348 : Int) (hb_2349 : Int) (hc_2350 : Int) (hd_2351 : Int) (he_2352 : Int) (ba_2353 : Int) (bb_2354 : Bool) (bc_2355 : List (Int × (Int × Int))) (bd_2356 : Bool) (be_2357 : List Int) (bf_2358 : Int) (bg_2359 : Int) : St := mkSt 26 [] rebuild_Next_c0.keep [.ptr 1 0, .bool v_2347] [.blk [.int .i64 ha_2348, .int .i64 hb_2349, .int .i64 hc_2350, .int .i64 hd_2351, .int .i64 he_2352], .blk [.int .i64 ba_2353, .sl (.pair (.int .i64) (.pair (.int .i64) (.int .i64))) bb_2354 bc_2355, .sl (.int .i64) bd_2356 be_2357, .int .i64 bf_2358, .int .i64 bg_2359]]
def rebuild_Next_j0_sh : Rd (List AV × List HE) := .pair (.cons (.ptr 1 0) (.cons .bool Rd.nil)) (.cons (.blk (.cons (.int .i64) (.cons (.int .i64) (.cons (.int .i64) (.cons (.int .i64) (.cons (.int .i64) Rd.nil)))))) (.cons (.blk (.cons (.int .i64) (.cons (.sl (.pair (.int .i64) (.pair (.int .i64) (.int .i64)))) (.cons (.sl (.int .i64)) (.cons (.int .i64) (.cons (.int .i64) Rd.nil)))))) Rd.nil))
def rebuild_Next_j0_a {R : Type} (k : Nat) : Alt R := { n := 26, v := [], sh := rebuild_Next_j0_sh, g := fun K x => rebuild_Next_j0 (fun y0 y1 y2 => rebuild_Next_j0_E0 K y0 y1 y2 x.2.1.1 x.2.1.2.1 x.2.1.2.2.1 x.2.1.2.2.2.1 x.2.1.2.2.2.2.1 x.2.2.1.1 x.2.2.1.2.1.1 x.2.2.1.2.1.2 x.2.2.1.2.2.1.1 x.2.2.1.2.2.1.2 x.2.2.1.2.2.2.1 x.2.2.1.2.2.2.2.1) (rebuild_Next_j0_E1 K x.2.1.1 x.2.1.2.1 x.2.1.2.2.1 x.2.1.2.2.2.1 x.2.1.2.2.2.2.1 x.2.2.1.1 x.2.2.1.2.1.1 x.2.2.1.2.1.2 x.2.2.1.2.2.1.1 x.2.2.1.2.2.1.2 x.2.2.1.2.2.2.1 x.2.2.1.2.2.2.2.1) k x.1.2.1 }
def rebuild_Next_O {R : Type} (k : Nat) : CutK R := cutsO [[rebuild_Next_j0_a k]]
noncomputable def rebuild_Next_b : List Ob := obs (bodyOf Try.f35) rebuild_Next_h
noncomputable def rebuild_Next_I {R : Type} (k : Nat) : InlT R := inone
theorem rebuild_Next_j0_eq {R : Type} (k : Nat) (K : EX → St → Option R) (v_2347 : Bool) (ha_2348 : Int) (hb_2349 : Int) (hc_2350 : Int) (hd_2351 : Int) (he_2352 : Int) (ba_2353 : Int) (bb_2354 : Bool) (bc_2355 : List (Int × (Int × Int))) (bd_2356 : Bool) (be_2357 : List Int) (bf_2358 : Int) (bg_2359 : Int) : rebuild_Next_j0 (fun y0 y1 y2 => rebuild_Next_j0_E0 K y0 y1 y2 ha_2348 hb_2349 hc_2350 hd_2351 he_2352 ba_2353 bb_2354 bc_2355 bd_2356 be_2357 bf_2358 bg_2359) (rebuild_Next_j0_E1 K ha_2348 hb_2349 hc_2350 hd_2351 he_2352 ba_2353 bb_2354 bc_2355 bd_2356 be_2357 bf_2358 bg_2359) k v_2347 = ev tab (rebuild_Next_F k) (inlK tab (rebuild_Next_F k) (rebuild_Next_I k) 0) (rebuild_Next_O k) (obB rebuild_Next_b 0) (obH rebuild_Next_b 0) (rebuild_Next_j0_S v_2347 ha_2348 hb_2349 hc_2350 hd_2351 he_2352 ba_2353 bb_2354 bc_2355 bd_2356 be_2357 bf_2358 bg_2359) (fun e st => optb (clean rebuild_Next_x0 st) fun st => K e st) := by kernel_rfl
theorem rebuild_Next_j0_ok {R : Type} (k : Nat)  : ObOK (R := R) tab (rebuild_Next_F k) (inlK tab (rebuild_Next_F k) (rebuild_Next_I k) 0) (rebuild_Next_O k) (.join rebuild_Next_c0 rebuild_Next_x0 0 (obB rebuild_Next_b 0) (obH rebuild_Next_b 0)) :=
  join_ok (l := [rebuild_Next_j0_a k]) (by kernel_rfl) ⟨(fun K x => (rebuild_Next_j0_eq k K x.1.2.1 x.2.1.1 x.2.1.2.1 x.2.1.2.2.1 x.2.1.2.2.2.1 x.2.1.2.2.2.2.1 x.2.2.1.1 x.2.2.1.2.1.1 x.2.2.1.2.1.2 x.2.2.1.2.2.1.1 x.2.2.1.2.2.1.2 x.2.2.1.2.2.2.1 x.2.2.1.2.2.2.2.1).trans (by kernel_rfl)), trivial⟩
theorem rebuild_Next_cuts {R : Type} (k : Nat) : ∀ c, Try.f35.body = some c → CutsOK (R := R) tab (rebuild_Next_F k) (inlK tab (rebuild_Next_F k) (rebuild_Next_I k) 0) (rebuild_Next_O k) c rebuild_Next_h :=
  cuts_of (l := [.join rebuild_Next_c0 rebuild_Next_x0 0 (obB rebuild_Next_b 0) (obH rebuild_Next_b 0)]) (by kernel_rfl) ⟨rebuild_Next_j0_ok k, trivial⟩
theorem rebuild_Next_iok {R : Type} (k : Nat) : IOK Try.prog tab (rebuild_Next_F k) (rebuild_Next_I (R := R) k) := iok_none
theorem rebuild_Next_ev (k : Nat) (x : (rebuild_Next_p k).τ.den) : evalF tab (rebuild_Next_F k) (rebuild_Next_p k) (rebuild_Next_I k) 0 (rebuild_Next_O k) rebuild_Next_h Try.f35 x = (rebuild_Next_p k).f x := by kernel_rfl
theorem rebuild_Next_ok (k : Nat) : PFOK Try.prog tab 35 (rebuild_Next_p k) := pfok mixed tabOK (rebuild_Next_fok k) Try.func35 (I := rebuild_Next_I k) (d := 0) (rebuild_Next_iok k) (Q := rebuild_Next_O k) (hi := rebuild_Next_h) (rebuild_Next_cuts k) (rebuild_Next_ev k)
end Go.Proofs.Ythilffdaofaalaa.Ev
