/- corbellaw11_StripeRestores, told on plain data. Written by program. -/
import Derived.Test.YtbgcfcojepfdbaaEcorbellaw11_speaks
import Derived.Test.YtbgcfcojepfdbaaEcorbellaw11_block
import Derived.Test.YtbgcfcojepfdbaaEstripe_Restore
import Derived.Test.YtbgcfcojepfdbaaEcorbelref11_Restore
set_option linter.unusedVariables false
set_option maxRecDepth 1000000
namespace Go.Proofs.Ytbgcfcojepfdbaa.Ev
open Go Go.RowKit Go.Proofs
def corbellaw11_StripeRestores_j1 {R : Type} (e0 : Int → Option R) (k : Nat) (i_299 : Int) : Option R :=
  e0 (wrap64 (i_299 + (1 : Int)))
def corbellaw11_StripeRestores_k0 {R : Type} (rc : Int → List ByteArray → Option R) (e0 : List ByteArray → Option R) (k : Nat) : Int → List ByteArray → Option R := fun i_309 in_313 =>
  rc i_309 in_313
def corbellaw11_StripeRestores_l0s {R : Type} (rc : Int → List ByteArray → Option R) (e0 : List ByteArray → Option R) (k : Nat) (lb_284 : List ByteArray) (wrong_286 : Bool) (i_287 : Int) (in_291 : List ByteArray) : Option R :=
  bif (decide (i_287 < (lenI lb_284))) then
    bif (decide ((0 : Int) ≤ i_287)) then
      optb (lb_284[i_287.toNat]?) fun x_292 =>
      bif wrong_286 then
        optb (corbellaw11_block k x_292 (decide (i_287 = (1 : Int)))) fun r_293 =>
        bif (decide (in_291.length + ([r_293] : List ByteArray).length ≤ 1099511627776)) then
          corbellaw11_StripeRestores_j1 (fun i_309 => corbellaw11_StripeRestores_k0 rc e0 k i_309 (in_291 ++ ([r_293] : List ByteArray))) k i_287
        else none
      else optb (corbellaw11_block k x_292 false) fun r_314 =>
      bif (decide (in_291.length + ([r_314] : List ByteArray).length ≤ 1099511627776)) then
        corbellaw11_StripeRestores_j1 (fun i_309 => corbellaw11_StripeRestores_k0 rc e0 k i_309 (in_291 ++ ([r_314] : List ByteArray))) k i_287
      else none
    else none
  else e0 in_291
def corbellaw11_StripeRestores_l0 {R : Type} (e0 : List ByteArray → Option R) (k : Nat) (lb_284 : List ByteArray) (wrong_286 : Bool) : Nat → Int → List ByteArray → Option R
  | 0 => fun _ _ => none
  | j + 1 => corbellaw11_StripeRestores_l0s (corbellaw11_StripeRestores_l0 e0 k lb_284 wrong_286 j) e0 k lb_284 wrong_286
def corbellaw11_StripeRestores_j2 {R : Type} (e0 : Bool → Option R) (k : Nat) (wanting_325 : Int) (p_326 : ByteArray) (inN_329 : Bool) (in_330 : List ByteArray) : Option R :=
  bif (decide (([] : List ByteArray).length + in_330.length ≤ 1099511627776)) then
    optb (stripe_Restore k p_326 false (([] : List ByteArray) ++ in_330) wanting_325) fun r_1511 =>
    optb (corbelref11_Restore k p_326 inN_329 in_330 wanting_325) fun r_1775 =>
    bif (decide (r_1511.1 = r_1775.1)) then
      e0 (decide (r_1511.2 = r_1775.2))
    else e0 false
  else none
def corbellaw11_StripeRestores_k1 (k : Nat) : Bool → Option Bool := fun v_1776 =>
  some v_1776
def corbellaw11_StripeRestores (k : Nat) (parity_1 : ByteArray) (la_2 : Bool) (lb_3 : List ByteArray) (xa_4 : Int) (xb_5 : Int) : Option Bool :=
  let z_279 := (decide ((bitop .and .i64 xb_5 (3 : Int)) = (1 : Int)))
  optb (corbellaw11_speaks k) fun r_281 =>
  bif (!r_281) then
    some false
  else bif (decide ((40 : Int) < (lenI lb_3))) then
    some true
  else corbellaw11_StripeRestores_l0 (fun in_323 =>
    bif z_279 then
      optb (corbellaw11_block k parity_1 (decide ((lenI lb_3) = (1 : Int)))) fun r_324 =>
      corbellaw11_StripeRestores_j2 (corbellaw11_StripeRestores_k1 k) k xa_4 r_324 true in_323
    else optb (corbellaw11_block k parity_1 false) fun r_1777 =>
    corbellaw11_StripeRestores_j2 (corbellaw11_StripeRestores_k1 k) k xa_4 r_1777 true in_323) k lb_3 z_279 k (0 : Int) ([] : List ByteArray)
def corbellaw11_StripeRestores_p (k : Nat) : PF := { ps := [(false, 1), (false, 1), (true, 2)], rs := [(false, 1)], τ := (.pair .str (.pair (.sl .str) (.pair (.int .i64) (.int .i64)))), σ := .bool, f := fun x => corbellaw11_StripeRestores k x.1 x.2.1.1 x.2.1.2 x.2.2.1 x.2.2.2 }
def corbellaw11_StripeRestores_F (k : Nat) : PT := fcons 10 (corbellaw11_speaks_p k) <| fcons 11 (corbellaw11_block_p k) <| fcons 12 (stripe_Restore_p k) <| fcons 13 (corbelref11_Restore_p k) <| fnone
theorem corbellaw11_StripeRestores_fok (k : Nat) : FOK Try.prog tab (corbellaw11_StripeRestores_F k) := fok_cons (corbellaw11_speaks_ok k) Try.call10 <| fok_cons (corbellaw11_block_ok k) Try.call11 <| fok_cons (stripe_Restore_ok k) Try.call12 <| fok_cons (corbelref11_Restore_ok k) Try.call13 <| fok_none
def corbellaw11_StripeRestores_c0 : Cl := { keep := [0, 1, 7, 8, 9, 10], hl := 2, ad := [(9, .str, 9)], adc := [], bump := [] }
def corbellaw11_StripeRestores_x0 : Cl := { keep := [0, 1, 7, 8, 9], hl := 2, ad := [], adc := [], bump := [] }
def corbellaw11_StripeRestores_c1 : Cl := { keep := [0, 1, 7, 8, 9, 10], hl := 2, ad := [], adc := [], bump := [] }
def corbellaw11_StripeRestores_x1 : Cl := { keep := [0, 1, 7, 8, 9, 10], hl := 2, ad := [], adc := [], bump := [] }
def corbellaw11_StripeRestores_c2 : Cl := { keep := [7, 9, 11], hl := 2, ad := [], adc := [], bump := [] }
def corbellaw11_StripeRestores_x2 : Cl := { keep := [6], hl := 0, ad := [], adc := [], bump := [] }
def corbellaw11_StripeRestores_h : Hint := (.sq .no (.sq .no (.sq .no (.sq .no (.sq .no (.sq (.sq .no (.lp corbellaw11_StripeRestores_c0 corbellaw11_StripeRestores_x0 0 (.sq .no (.ct corbellaw11_StripeRestores_c1 corbellaw11_StripeRestores_x1 1 .no .no)))) (.ct corbellaw11_StripeRestores_c2 corbellaw11_StripeRestores_x2 2 .no .no)))))))
def corbellaw11_StripeRestores_l0_E0 {R : Type} (K : EX → St → Option R) : ByteArray → Bool → List ByteArray → Int → Bool → Int → Int → Bool → List ByteArray → Option R := fun v0 v1 v2 v3 v4 v5 v6 v7 v8 => K (.exit 0) (mkSt 78 [] corbellaw11_StripeRestores_x0.keep [.str v0, .sl .str v1 v2, .int .i64 v3, .bool v4, .own 1 1] [.blk [.int .i64 v5, .int .i64 v6], .lst .str 9 v7 1 v8])
def corbellaw11_StripeRestores_l0_S (parity_282 : ByteArray) (la_283 : Bool) (lb_284 : List ByteArray) (wanting_285 : Int) (wrong_286 : Bool) (i_287 : Int) (ha_288 : Int) (hb_289 : Int) (inN_290 : Bool) (in_291 : List ByteArray) : St := mkSt 78 [] corbellaw11_StripeRestores_c0.keep [.str parity_282, .sl .str la_283 lb_284, .int .i64 wanting_285, .bool wrong_286, .own 1 1, .int .i64 i_287] [.blk [.int .i64 ha_288, .int .i64 hb_289], .lst .str 9 inN_290 1 in_291]
def corbellaw11_StripeRestores_l0_sh : Rd (List AV × List HE) := .pair (.cons .str (.cons (.sl .str) (.cons (.int .i64) (.cons .bool (.cons (.own 1 1) (.cons (.int .i64) Rd.nil)))))) (.cons (.blk (.cons (.int .i64) (.cons (.int .i64) Rd.nil))) (.cons (.lst .str 9 1) Rd.nil))
def corbellaw11_StripeRestores_l0_a {R : Type} (k : Nat) : Alt R := { n := 78, v := [], sh := corbellaw11_StripeRestores_l0_sh, g := fun K x => corbellaw11_StripeRestores_l0 (fun y8 => corbellaw11_StripeRestores_l0_E0 K x.1.1 x.1.2.1.1 x.1.2.1.2 x.1.2.2.1 x.1.2.2.2.1 x.2.1.1 x.2.1.2.1 x.2.2.1.1 y8) k x.1.2.1.2 x.1.2.2.2.1 k x.1.2.2.2.2.2.1 x.2.2.1.2 }
def corbellaw11_StripeRestores_j1_E0 {R : Type} (K : EX → St → Option R) : ByteArray → Bool → List ByteArray → Int → Bool → Int → Int → Int → Bool → List ByteArray → Option R := fun v0 v1 v2 v3 v4 v5 v6 v7 v8 v9 => K .normal (mkSt 78 [] corbellaw11_StripeRestores_x1.keep [.str v0, .sl .str v1 v2, .int .i64 v3, .bool v4, .own 1 1, .int .i64 v5] [.blk [.int .i64 v6, .int .i64 v7], .lst .str 9 v8 1 v9])
def corbellaw11_StripeRestores_j1_S (parity_294 : ByteArray) (la_295 : Bool) (lb_296 : List ByteArray) (wanting_297 : Int) (wrong_298 : Bool) (i_299 : Int) (ha_300 : Int) (hb_301 : Int) (inN_302 : Bool) (in_303 : List ByteArray) : St := mkSt 78 [] corbellaw11_StripeRestores_c1.keep [.str parity_294, .sl .str la_295 lb_296, .int .i64 wanting_297, .bool wrong_298, .own 1 1, .int .i64 i_299] [.blk [.int .i64 ha_300, .int .i64 hb_301], .lst .str 9 inN_302 1 in_303]
def corbellaw11_StripeRestores_j1_sh : Rd (List AV × List HE) := .pair (.cons .str (.cons (.sl .str) (.cons (.int .i64) (.cons .bool (.cons (.own 1 1) (.cons (.int .i64) Rd.nil)))))) (.cons (.blk (.cons (.int .i64) (.cons (.int .i64) Rd.nil))) (.cons (.lst .str 9 1) Rd.nil))
def corbellaw11_StripeRestores_j1_a {R : Type} (k : Nat) : Alt R := { n := 78, v := [], sh := corbellaw11_StripeRestores_j1_sh, g := fun K x => corbellaw11_StripeRestores_j1 (fun y5 => corbellaw11_StripeRestores_j1_E0 K x.1.1 x.1.2.1.1 x.1.2.1.2 x.1.2.2.1 x.1.2.2.2.1 y5 x.2.1.1 x.2.1.2.1 x.2.2.1.1 x.2.2.1.2) k x.1.2.2.2.2.2.1 }
def corbellaw11_StripeRestores_j2_E0 {R : Type} (K : EX → St → Option R) : Bool → Option R := fun v0 => K .ret (mkSt 78 [] corbellaw11_StripeRestores_x2.keep [.bool v0] [])
def corbellaw11_StripeRestores_j2_S (wanting_325 : Int) (p_326 : ByteArray) (ha_327 : Int) (hb_328 : Int) (inN_329 : Bool) (in_330 : List ByteArray) : St := mkSt 78 [] corbellaw11_StripeRestores_c2.keep [.int .i64 wanting_325, .own 1 1, .str p_326] [.blk [.int .i64 ha_327, .int .i64 hb_328], .lst .str 9 inN_329 1 in_330]
def corbellaw11_StripeRestores_j2_sh : Rd (List AV × List HE) := .pair (.cons (.int .i64) (.cons (.own 1 1) (.cons .str Rd.nil))) (.cons (.blk (.cons (.int .i64) (.cons (.int .i64) Rd.nil))) (.cons (.lst .str 9 1) Rd.nil))
def corbellaw11_StripeRestores_j2_a {R : Type} (k : Nat) : Alt R := { n := 78, v := [], sh := corbellaw11_StripeRestores_j2_sh, g := fun K x => corbellaw11_StripeRestores_j2 (corbellaw11_StripeRestores_j2_E0 K) k x.1.1 x.1.2.2.1 x.2.2.1.1 x.2.2.1.2 }
def corbellaw11_StripeRestores_O {R : Type} (k : Nat) : CutK R := cutsO [[corbellaw11_StripeRestores_l0_a k], [corbellaw11_StripeRestores_j1_a k], [corbellaw11_StripeRestores_j2_a k]]
noncomputable def corbellaw11_StripeRestores_b : List Ob := obs (bodyOf Try.f3) corbellaw11_StripeRestores_h
noncomputable def corbellaw11_StripeRestores_I {R : Type} (k : Nat) : InlT R := inone
theorem corbellaw11_StripeRestores_l0_eq {R : Type} (k : Nat) (K : EX → St → Option R) (parity_282 : ByteArray) (la_283 : Bool) (lb_284 : List ByteArray) (wanting_285 : Int) (wrong_286 : Bool) (ha_288 : Int) (hb_289 : Int) (inN_290 : Bool) : ∀ (j : Nat) (i_287 : Int) (in_291 : List ByteArray), corbellaw11_StripeRestores_l0 (fun y8 => corbellaw11_StripeRestores_l0_E0 K parity_282 la_283 lb_284 wanting_285 wrong_286 ha_288 hb_289 inN_290 y8) k lb_284 wrong_286 j i_287 in_291 = iter corbellaw11_StripeRestores_c0 corbellaw11_StripeRestores_x0 (ev tab (corbellaw11_StripeRestores_F k) (inlK tab (corbellaw11_StripeRestores_F k) (corbellaw11_StripeRestores_I k) 0) (corbellaw11_StripeRestores_O k) (obB corbellaw11_StripeRestores_b 0) (obH corbellaw11_StripeRestores_b 0)) j (corbellaw11_StripeRestores_l0_S parity_282 la_283 lb_284 wanting_285 wrong_286 i_287 ha_288 hb_289 inN_290 in_291) K
  | 0, _, _ => rfl
  | j + 1, i_287, in_291 => by
    have e : corbellaw11_StripeRestores_l0 (fun y8 => corbellaw11_StripeRestores_l0_E0 K parity_282 la_283 lb_284 wanting_285 wrong_286 ha_288 hb_289 inN_290 y8) k lb_284 wrong_286 j = fun i_287 in_291 => iter corbellaw11_StripeRestores_c0 corbellaw11_StripeRestores_x0 (ev tab (corbellaw11_StripeRestores_F k) (inlK tab (corbellaw11_StripeRestores_F k) (corbellaw11_StripeRestores_I k) 0) (corbellaw11_StripeRestores_O k) (obB corbellaw11_StripeRestores_b 0) (obH corbellaw11_StripeRestores_b 0)) j (corbellaw11_StripeRestores_l0_S parity_282 la_283 lb_284 wanting_285 wrong_286 i_287 ha_288 hb_289 inN_290 in_291) K := by funext i_287 in_291; exact corbellaw11_StripeRestores_l0_eq k K parity_282 la_283 lb_284 wanting_285 wrong_286 ha_288 hb_289 inN_290 j i_287 in_291
    show corbellaw11_StripeRestores_l0s (corbellaw11_StripeRestores_l0 (fun y8 => corbellaw11_StripeRestores_l0_E0 K parity_282 la_283 lb_284 wanting_285 wrong_286 ha_288 hb_289 inN_290 y8) k lb_284 wrong_286 j) (fun y8 => corbellaw11_StripeRestores_l0_E0 K parity_282 la_283 lb_284 wanting_285 wrong_286 ha_288 hb_289 inN_290 y8) k lb_284 wrong_286 i_287 in_291 = _
    rw [e, iter_succ]; kernel_rfl
theorem corbellaw11_StripeRestores_l0_ok {R : Type} (k : Nat)  : ObOK (R := R) tab (corbellaw11_StripeRestores_F k) (inlK tab (corbellaw11_StripeRestores_F k) (corbellaw11_StripeRestores_I k) 0) (corbellaw11_StripeRestores_O k) (.loop corbellaw11_StripeRestores_c0 corbellaw11_StripeRestores_x0 0 (obB corbellaw11_StripeRestores_b 0) (obH corbellaw11_StripeRestores_b 0)) :=
  loop_ok (l := [corbellaw11_StripeRestores_l0_a k]) (by kernel_rfl) ⟨(fun K x => ⟨k, (corbellaw11_StripeRestores_l0_eq k K x.1.1 x.1.2.1.1 x.1.2.1.2 x.1.2.2.1 x.1.2.2.2.1 x.2.1.1 x.2.1.2.1 x.2.2.1.1 k x.1.2.2.2.2.2.1 x.2.2.1.2).trans (by kernel_rfl)⟩), trivial⟩
theorem corbellaw11_StripeRestores_j1_eq {R : Type} (k : Nat) (K : EX → St → Option R) (parity_294 : ByteArray) (la_295 : Bool) (lb_296 : List ByteArray) (wanting_297 : Int) (wrong_298 : Bool) (i_299 : Int) (ha_300 : Int) (hb_301 : Int) (inN_302 : Bool) (in_303 : List ByteArray) : corbellaw11_StripeRestores_j1 (fun y5 => corbellaw11_StripeRestores_j1_E0 K parity_294 la_295 lb_296 wanting_297 wrong_298 y5 ha_300 hb_301 inN_302 in_303) k i_299 = ev tab (corbellaw11_StripeRestores_F k) (inlK tab (corbellaw11_StripeRestores_F k) (corbellaw11_StripeRestores_I k) 0) (corbellaw11_StripeRestores_O k) (obB corbellaw11_StripeRestores_b 1) (obH corbellaw11_StripeRestores_b 1) (corbellaw11_StripeRestores_j1_S parity_294 la_295 lb_296 wanting_297 wrong_298 i_299 ha_300 hb_301 inN_302 in_303) (fun e st => optb (clean corbellaw11_StripeRestores_x1 st) fun st => K e st) := by kernel_rfl
theorem corbellaw11_StripeRestores_j1_ok {R : Type} (k : Nat)  : ObOK (R := R) tab (corbellaw11_StripeRestores_F k) (inlK tab (corbellaw11_StripeRestores_F k) (corbellaw11_StripeRestores_I k) 0) (corbellaw11_StripeRestores_O k) (.join corbellaw11_StripeRestores_c1 corbellaw11_StripeRestores_x1 1 (obB corbellaw11_StripeRestores_b 1) (obH corbellaw11_StripeRestores_b 1)) :=
  join_ok (l := [corbellaw11_StripeRestores_j1_a k]) (by kernel_rfl) ⟨(fun K x => (corbellaw11_StripeRestores_j1_eq k K x.1.1 x.1.2.1.1 x.1.2.1.2 x.1.2.2.1 x.1.2.2.2.1 x.1.2.2.2.2.2.1 x.2.1.1 x.2.1.2.1 x.2.2.1.1 x.2.2.1.2).trans (by kernel_rfl)), trivial⟩
theorem corbellaw11_StripeRestores_j2_eq {R : Type} (k : Nat) (K : EX → St → Option R) (wanting_325 : Int) (p_326 : ByteArray) (ha_327 : Int) (hb_328 : Int) (inN_329 : Bool) (in_330 : List ByteArray) : corbellaw11_StripeRestores_j2 (corbellaw11_StripeRestores_j2_E0 K) k wanting_325 p_326 inN_329 in_330 = ev tab (corbellaw11_StripeRestores_F k) (inlK tab (corbellaw11_StripeRestores_F k) (corbellaw11_StripeRestores_I k) 0) (corbellaw11_StripeRestores_O k) (obB corbellaw11_StripeRestores_b 2) (obH corbellaw11_StripeRestores_b 2) (corbellaw11_StripeRestores_j2_S wanting_325 p_326 ha_327 hb_328 inN_329 in_330) (fun e st => optb (clean corbellaw11_StripeRestores_x2 st) fun st => K e st) := by kernel_rfl
theorem corbellaw11_StripeRestores_j2_ok {R : Type} (k : Nat)  : ObOK (R := R) tab (corbellaw11_StripeRestores_F k) (inlK tab (corbellaw11_StripeRestores_F k) (corbellaw11_StripeRestores_I k) 0) (corbellaw11_StripeRestores_O k) (.join corbellaw11_StripeRestores_c2 corbellaw11_StripeRestores_x2 2 (obB corbellaw11_StripeRestores_b 2) (obH corbellaw11_StripeRestores_b 2)) :=
  join_ok (l := [corbellaw11_StripeRestores_j2_a k]) (by kernel_rfl) ⟨(fun K x => (corbellaw11_StripeRestores_j2_eq k K x.1.1 x.1.2.2.1 x.2.1.1 x.2.1.2.1 x.2.2.1.1 x.2.2.1.2).trans (by kernel_rfl)), trivial⟩
theorem corbellaw11_StripeRestores_cuts {R : Type} (k : Nat) : ∀ c, Try.f3.body = some c → CutsOK (R := R) tab (corbellaw11_StripeRestores_F k) (inlK tab (corbellaw11_StripeRestores_F k) (corbellaw11_StripeRestores_I k) 0) (corbellaw11_StripeRestores_O k) c corbellaw11_StripeRestores_h :=
  cuts_of (l := [.loop corbellaw11_StripeRestores_c0 corbellaw11_StripeRestores_x0 0 (obB corbellaw11_StripeRestores_b 0) (obH corbellaw11_StripeRestores_b 0), .join corbellaw11_StripeRestores_c1 corbellaw11_StripeRestores_x1 1 (obB corbellaw11_StripeRestores_b 1) (obH corbellaw11_StripeRestores_b 1), .join corbellaw11_StripeRestores_c2 corbellaw11_StripeRestores_x2 2 (obB corbellaw11_StripeRestores_b 2) (obH corbellaw11_StripeRestores_b 2)]) (by kernel_rfl) ⟨corbellaw11_StripeRestores_l0_ok k, corbellaw11_StripeRestores_j1_ok k, corbellaw11_StripeRestores_j2_ok k, trivial⟩
theorem corbellaw11_StripeRestores_iok {R : Type} (k : Nat) : IOK Try.prog tab (corbellaw11_StripeRestores_F k) (corbellaw11_StripeRestores_I (R := R) k) := iok_none
theorem corbellaw11_StripeRestores_ev (k : Nat) (x : (corbellaw11_StripeRestores_p k).τ.den) : evalF tab (corbellaw11_StripeRestores_F k) (corbellaw11_StripeRestores_p k) (corbellaw11_StripeRestores_I k) 0 (corbellaw11_StripeRestores_O k) corbellaw11_StripeRestores_h Try.f3 x = (corbellaw11_StripeRestores_p k).f x := by kernel_rfl
theorem corbellaw11_StripeRestores_ok (k : Nat) : PFOK Try.prog tab 3 (corbellaw11_StripeRestores_p k) := pfok mixed tabOK (corbellaw11_StripeRestores_fok k) Try.func3 (I := corbellaw11_StripeRestores_I k) (d := 0) (corbellaw11_StripeRestores_iok k) (Q := corbellaw11_StripeRestores_O k) (hi := corbellaw11_StripeRestores_h) (corbellaw11_StripeRestores_cuts k) (corbellaw11_StripeRestores_ev k)
end Go.Proofs.Ytbgcfcojepfdbaa.Ev
