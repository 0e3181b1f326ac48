/- tail_View_can, told on plain data. Written by program. -/
import Derived.Test.YtcikcikcjimcjaaEgeom_Good
set_option linter.unusedVariables false
set_option maxRecDepth 1000000
namespace Go.Proofs.Ytcikcikcjimcjaa.Ev
open Go Go.RowKit Go.Proofs
def tail_View_can_i58_2_j1 {R : Type} (e0 : Option R) (e1 : Option R) (k : Nat) (v_24419 : Bool) : Option R :=
  bif v_24419 then
    e0
  else e1
def tail_View_can_i58_2_l0s {R : Type} (rc : Int → Option R) (e0 : Int → Option R) (e1 : Option R) (k : Nat) (sb_24399 : List Int) (v_24400 : Int) (hc_24409 : Int) (v_24401 : Int) : Option R :=
  bif (decide (v_24401 < v_24400)) then
    bif (decide ((0 : Int) ≤ v_24401)) then
      optb (sb_24399[v_24401.toNat]?) fun x_24413 =>
      bif (decide (x_24413 < (0 : Int))) then
        tail_View_can_i58_2_j1 (e0 v_24401) (rc (wrap64 (v_24401 + (1 : Int)))) k true
      else tail_View_can_i58_2_j1 (e0 v_24401) (rc (wrap64 (v_24401 + (1 : Int)))) k (decide (hc_24409 < x_24413))
    else none
  else e1
def tail_View_can_i58_2_l0 {R : Type} (e0 : Int → Option R) (e1 : Option R) (k : Nat) (sb_24399 : List Int) (v_24400 : Int) (hc_24409 : Int) : Nat → Int → Option R
  | 0 => fun _ => none
  | j + 1 => tail_View_can_i58_2_l0s (tail_View_can_i58_2_l0 e0 e1 k sb_24399 v_24400 hc_24409 j) e0 e1 k sb_24399 v_24400 hc_24409
def tail_View_can (k : Nat) (va_24287 : Bool) (vb_24288 : List Int) (vc_24289 : Int) (vd_24290 : Bool) (ve_24291 : List (Int × Int)) (ga_24292 : Int) (gb_24293 : Int) (gc_24294 : Int) (gd_24295 : Int) (ge_24296 : Int) : Option Bool :=
  optb (geom_Good k ga_24292 gb_24293 gc_24294 gd_24295 ge_24296) fun r_24397 =>
  bif r_24397 then
    bif (decide ((lenI vb_24288) = ga_24292)) then
      bif (decide ((-1 : Int) ≤ vc_24289)) then
        bif (decide (vc_24289 < ga_24292)) then
          tail_View_can_i58_2_l0 (fun v_24488 =>
            some (!(decide ((0 : Int) ≤ v_24488)))) (some true) k vb_24288 (lenI vb_24288) gc_24294 k (0 : Int)
        else some false
      else some false
    else some false
  else some false
def tail_View_can_p (k : Nat) : PF := { ps := [(true, 3), (true, 5)], rs := [(false, 1)], τ := (.pair (.pair (.sl (.int .i64)) (.pair (.int .i64) (.sl (.pair (.int .i64) (.int .i64))))) (.pair (.int .i64) (.pair (.int .i64) (.pair (.int .i64) (.pair (.int .i64) (.int .i64)))))), σ := .bool, f := fun x => tail_View_can k x.1.1.1 x.1.1.2 x.1.2.1 x.1.2.2.1 x.1.2.2.2 x.2.1 x.2.2.1 x.2.2.2.1 x.2.2.2.2.1 x.2.2.2.2.2 }
def tail_View_can_F (k : Nat) : PT := fcons 36 (geom_Good_p k) <| fnone
theorem tail_View_can_fok (k : Nat) : FOK Try.prog tab (tail_View_can_F k) := fok_cons (geom_Good_ok k) Try.call36 <| fok_none
def tail_View_can_h : Hint := .no
def tail_View_can_O {R : Type} (k : Nat) : CutK R := cutsO []
def tail_View_can_i41_2_h : Hint := .no
def tail_View_can_i41_2_O {R : Type} (k : Nat) : CutK R := cutsO []
def tail_View_can_i58_2_c0 : Cl := { keep := [0, 1, 7, 8], hl := 2, ad := [], adc := [], bump := [] }
def tail_View_can_i58_2_x0 : Cl := { keep := [4], hl := 2, ad := [], adc := [], bump := [] }
def tail_View_can_i58_2_c1 : Cl := { keep := [0, 1, 5, 7, 8, 16], hl := 2, ad := [], adc := [], bump := [] }
def tail_View_can_i58_2_x1 : Cl := { keep := [0, 1, 4, 7, 8], hl := 2, ad := [], adc := [], bump := [] }
def tail_View_can_i58_2_h : Hint := (.sq .no (.sq (.sq .no (.lp tail_View_can_i58_2_c0 tail_View_can_i58_2_x0 0 (.sq .no (.sq .no (.sq (.sq .no (.ct tail_View_can_i58_2_c1 tail_View_can_i58_2_x1 1 .no .no)) .no))))) .no))
def tail_View_can_i58_2_l0_E0 {R : Type} (K : EX → St → Option R) : Int → Bool → List Int → Int → Bool → List (Int × Int) → Int → Int → Int → Int → Int → Option R := fun v0 v1 v2 v3 v4 v5 v6 v7 v8 v9 v10 => K .ret (mkSt 19 [1, 1] tail_View_can_i58_2_x0.keep [.int .i64 v0] [.blk [.sl (.int .i64) v1 v2, .int .i64 v3, .sl (.pair (.int .i64) (.int .i64)) v4 v5], .blk [.int .i64 v6, .int .i64 v7, .int .i64 v8, .int .i64 v9, .int .i64 v10]])
def tail_View_can_i58_2_l0_E1 {R : Type} (K : EX → St → Option R) : Bool → List Int → Int → Bool → List (Int × Int) → Int → Int → Int → Int → Int → Option R := fun v0 v1 v2 v3 v4 v5 v6 v7 v8 v9 => K (.exit 0) (mkSt 19 [1, 1] tail_View_can_i58_2_x0.keep [.junk] [.blk [.sl (.int .i64) v0 v1, .int .i64 v2, .sl (.pair (.int .i64) (.int .i64)) v3 v4], .blk [.int .i64 v5, .int .i64 v6, .int .i64 v7, .int .i64 v8, .int .i64 v9]])
def tail_View_can_i58_2_l0_S (sa_24398 : Bool) (sb_24399 : List Int) (v_24400 : Int) (v_24401 : Int) (ha_24402 : Bool) (hb_24403 : List Int) (hc_24404 : Int) (hd_24405 : Bool) (he_24406 : List (Int × Int)) (ha_24407 : Int) (hb_24408 : Int) (hc_24409 : Int) (hd_24410 : Int) (he_24411 : Int) : St := mkSt 19 [1, 1] tail_View_can_i58_2_c0.keep [.sl (.int .i64) sa_24398 sb_24399, .fn (.func 63) [] [.ptr 1 0], .int .i64 v_24400, .int .i64 v_24401] [.blk [.sl (.int .i64) ha_24402 hb_24403, .int .i64 hc_24404, .sl (.pair (.int .i64) (.int .i64)) hd_24405 he_24406], .blk [.int .i64 ha_24407, .int .i64 hb_24408, .int .i64 hc_24409, .int .i64 hd_24410, .int .i64 he_24411]]
def tail_View_can_i58_2_l0_sh : Rd (List AV × List HE) := .pair (.cons (.sl (.int .i64)) (.cons (.fn 63 Rd.nil (.cons (.ptr 1 0) Rd.nil)) (.cons (.int .i64) (.cons (.int .i64) Rd.nil)))) (.cons (.blk (.cons (.sl (.int .i64)) (.cons (.int .i64) (.cons (.sl (.pair (.int .i64) (.int .i64))) Rd.nil)))) (.cons (.blk (.cons (.int .i64) (.cons (.int .i64) (.cons (.int .i64) (.cons (.int .i64) (.cons (.int .i64) Rd.nil)))))) Rd.nil))
def tail_View_can_i58_2_l0_a {R : Type} (k : Nat) : Alt R := { n := 19, v := [1, 1], sh := tail_View_can_i58_2_l0_sh, g := fun K x => tail_View_can_i58_2_l0 (fun y0 => tail_View_can_i58_2_l0_E0 K y0 x.2.1.1.1 x.2.1.1.2 x.2.1.2.1 x.2.1.2.2.1.1 x.2.1.2.2.1.2 x.2.2.1.1 x.2.2.1.2.1 x.2.2.1.2.2.1 x.2.2.1.2.2.2.1 x.2.2.1.2.2.2.2.1) (tail_View_can_i58_2_l0_E1 K x.2.1.1.1 x.2.1.1.2 x.2.1.2.1 x.2.1.2.2.1.1 x.2.1.2.2.1.2 x.2.2.1.1 x.2.2.1.2.1 x.2.2.1.2.2.1 x.2.2.1.2.2.2.1 x.2.2.1.2.2.2.2.1) k x.1.1.2 x.1.2.2.1 x.2.2.1.2.2.1 k x.1.2.2.2.1 }
def tail_View_can_i58_2_j1_E0 {R : Type} (K : EX → St → Option R) : Bool → List Int → Int → Int → Int → Bool → List Int → Int → Bool → List (Int × Int) → Int → Int → Int → Int → Int → Option R := fun v0 v1 v2 v3 v4 v5 v6 v7 v8 v9 v10 v11 v12 v13 v14 => K .ret (mkSt 19 [1, 1] tail_View_can_i58_2_x1.keep [.sl (.int .i64) v0 v1, .fn (.func 63) [] [.ptr 1 0], .int .i64 v2, .int .i64 v3, .int .i64 v4] [.blk [.sl (.int .i64) v5 v6, .int .i64 v7, .sl (.pair (.int .i64) (.int .i64)) v8 v9], .blk [.int .i64 v10, .int .i64 v11, .int .i64 v12, .int .i64 v13, .int .i64 v14]])
def tail_View_can_i58_2_j1_E1 {R : Type} (K : EX → St → Option R) : Bool → List Int → Int → Int → Bool → List Int → Int → Bool → List (Int × Int) → Int → Int → Int → Int → Int → Option R := fun v0 v1 v2 v3 v4 v5 v6 v7 v8 v9 v10 v11 v12 v13 => K .normal (mkSt 19 [1, 1] tail_View_can_i58_2_x1.keep [.sl (.int .i64) v0 v1, .fn (.func 63) [] [.ptr 1 0], .junk, .int .i64 v2, .int .i64 v3] [.blk [.sl (.int .i64) v4 v5, .int .i64 v6, .sl (.pair (.int .i64) (.int .i64)) v7 v8], .blk [.int .i64 v9, .int .i64 v10, .int .i64 v11, .int .i64 v12, .int .i64 v13]])
def tail_View_can_i58_2_j1_S (sa_24414 : Bool) (sb_24415 : List Int) (i_24416 : Int) (v_24417 : Int) (v_24418 : Int) (v_24419 : Bool) (ha_24420 : Bool) (hb_24421 : List Int) (hc_24422 : Int) (hd_24423 : Bool) (he_24424 : List (Int × Int)) (ha_24425 : Int) (hb_24426 : Int) (hc_24427 : Int) (hd_24428 : Int) (he_24429 : Int) : St := mkSt 19 [1, 1] tail_View_can_i58_2_c1.keep [.sl (.int .i64) sa_24414 sb_24415, .fn (.func 63) [] [.ptr 1 0], .int .i64 i_24416, .int .i64 v_24417, .int .i64 v_24418, .bool v_24419] [.blk [.sl (.int .i64) ha_24420 hb_24421, .int .i64 hc_24422, .sl (.pair (.int .i64) (.int .i64)) hd_24423 he_24424], .blk [.int .i64 ha_24425, .int .i64 hb_24426, .int .i64 hc_24427, .int .i64 hd_24428, .int .i64 he_24429]]
def tail_View_can_i58_2_j1_sh : Rd (List AV × List HE) := .pair (.cons (.sl (.int .i64)) (.cons (.fn 63 Rd.nil (.cons (.ptr 1 0) Rd.nil)) (.cons (.int .i64) (.cons (.int .i64) (.cons (.int .i64) (.cons .bool Rd.nil)))))) (.cons (.blk (.cons (.sl (.int .i64)) (.cons (.int .i64) (.cons (.sl (.pair (.int .i64) (.int .i64))) Rd.nil)))) (.cons (.blk (.cons (.int .i64) (.cons (.int .i64) (.cons (.int .i64) (.cons (.int .i64) (.cons (.int .i64) Rd.nil)))))) Rd.nil))
def tail_View_can_i58_2_j1_a {R : Type} (k : Nat) : Alt R := { n := 19, v := [1, 1], sh := tail_View_can_i58_2_j1_sh, g := fun K x => tail_View_can_i58_2_j1 (tail_View_can_i58_2_j1_E0 K x.1.1.1 x.1.1.2 x.1.2.2.1 x.1.2.2.2.1 x.1.2.2.2.2.1 x.2.1.1.1 x.2.1.1.2 x.2.1.2.1 x.2.1.2.2.1.1 x.2.1.2.2.1.2 x.2.2.1.1 x.2.2.1.2.1 x.2.2.1.2.2.1 x.2.2.1.2.2.2.1 x.2.2.1.2.2.2.2.1) (tail_View_can_i58_2_j1_E1 K x.1.1.1 x.1.1.2 x.1.2.2.2.1 x.1.2.2.2.2.1 x.2.1.1.1 x.2.1.1.2 x.2.1.2.1 x.2.1.2.2.1.1 x.2.1.2.2.1.2 x.2.2.1.1 x.2.2.1.2.1 x.2.2.1.2.2.1 x.2.2.1.2.2.2.1 x.2.2.1.2.2.2.2.1) k x.1.2.2.2.2.2.1 }
def tail_View_can_i58_2_O {R : Type} (k : Nat) : CutK R := cutsO [[tail_View_can_i58_2_l0_a k], [tail_View_can_i58_2_j1_a k]]
noncomputable def tail_View_can_i58_2_b : List Ob := obs (bodyOf Try.f58) tail_View_can_i58_2_h
def tail_View_can_i63_2_h : Hint := .no
def tail_View_can_i63_2_O {R : Type} (k : Nat) : CutK R := cutsO []
noncomputable def tail_View_can_I {R : Type} (k : Nat) : InlT R := icons 41 2 (tail_View_can_i41_2_h, Try.f41, deepO 2 (tail_View_can_i41_2_O k)) <| icons 58 2 (tail_View_can_i58_2_h, Try.f58, deepO 1 (tail_View_can_i58_2_O k)) <| icons 63 2 (tail_View_can_i63_2_h, Try.f63, deepO 0 (tail_View_can_i63_2_O k)) <| inone
theorem tail_View_can_i58_2_l0_eq {R : Type} (k : Nat) (d : Nat) (K : EX → St → Option R) (sa_24398 : Bool) (sb_24399 : List Int) (v_24400 : Int) (ha_24402 : Bool) (hb_24403 : List Int) (hc_24404 : Int) (hd_24405 : Bool) (he_24406 : List (Int × Int)) (ha_24407 : Int) (hb_24408 : Int) (hc_24409 : Int) (hd_24410 : Int) (he_24411 : Int) : ∀ (j : Nat) (v_24401 : Int), tail_View_can_i58_2_l0 (fun y0 => tail_View_can_i58_2_l0_E0 K y0 ha_24402 hb_24403 hc_24404 hd_24405 he_24406 ha_24407 hb_24408 hc_24409 hd_24410 he_24411) (tail_View_can_i58_2_l0_E1 K ha_24402 hb_24403 hc_24404 hd_24405 he_24406 ha_24407 hb_24408 hc_24409 hd_24410 he_24411) k sb_24399 v_24400 hc_24409 j v_24401 = iter tail_View_can_i58_2_c0 tail_View_can_i58_2_x0 (ev tab (tail_View_can_F k) (inlK tab (tail_View_can_F k) (tail_View_can_I k) (d + 1)) (deepO 1 (tail_View_can_i58_2_O k) (d + 1)) (obB tail_View_can_i58_2_b 0) (obH tail_View_can_i58_2_b 0)) j (tail_View_can_i58_2_l0_S sa_24398 sb_24399 v_24400 v_24401 ha_24402 hb_24403 hc_24404 hd_24405 he_24406 ha_24407 hb_24408 hc_24409 hd_24410 he_24411) K
  | 0, _ => rfl
  | j + 1, v_24401 => by
    have e : tail_View_can_i58_2_l0 (fun y0 => tail_View_can_i58_2_l0_E0 K y0 ha_24402 hb_24403 hc_24404 hd_24405 he_24406 ha_24407 hb_24408 hc_24409 hd_24410 he_24411) (tail_View_can_i58_2_l0_E1 K ha_24402 hb_24403 hc_24404 hd_24405 he_24406 ha_24407 hb_24408 hc_24409 hd_24410 he_24411) k sb_24399 v_24400 hc_24409 j = fun v_24401 => iter tail_View_can_i58_2_c0 tail_View_can_i58_2_x0 (ev tab (tail_View_can_F k) (inlK tab (tail_View_can_F k) (tail_View_can_I k) (d + 1)) (deepO 1 (tail_View_can_i58_2_O k) (d + 1)) (obB tail_View_can_i58_2_b 0) (obH tail_View_can_i58_2_b 0)) j (tail_View_can_i58_2_l0_S sa_24398 sb_24399 v_24400 v_24401 ha_24402 hb_24403 hc_24404 hd_24405 he_24406 ha_24407 hb_24408 hc_24409 hd_24410 he_24411) K := by funext v_24401; exact tail_View_can_i58_2_l0_eq k d K sa_24398 sb_24399 v_24400 ha_24402 hb_24403 hc_24404 hd_24405 he_24406 ha_24407 hb_24408 hc_24409 hd_24410 he_24411 j v_24401
    show tail_View_can_i58_2_l0s (tail_View_can_i58_2_l0 (fun y0 => tail_View_can_i58_2_l0_E0 K y0 ha_24402 hb_24403 hc_24404 hd_24405 he_24406 ha_24407 hb_24408 hc_24409 hd_24410 he_24411) (tail_View_can_i58_2_l0_E1 K ha_24402 hb_24403 hc_24404 hd_24405 he_24406 ha_24407 hb_24408 hc_24409 hd_24410 he_24411) k sb_24399 v_24400 hc_24409 j) (fun y0 => tail_View_can_i58_2_l0_E0 K y0 ha_24402 hb_24403 hc_24404 hd_24405 he_24406 ha_24407 hb_24408 hc_24409 hd_24410 he_24411) (tail_View_can_i58_2_l0_E1 K ha_24402 hb_24403 hc_24404 hd_24405 he_24406 ha_24407 hb_24408 hc_24409 hd_24410 he_24411) k sb_24399 v_24400 hc_24409 v_24401 = _
    rw [e, iter_succ]; kernel_rfl
theorem tail_View_can_i58_2_l0_ok {R : Type} (k : Nat) (d : Nat)  : ObOK (R := R) tab (tail_View_can_F k) (inlK tab (tail_View_can_F k) (tail_View_can_I k) d) (deepO 1 (tail_View_can_i58_2_O k) d) (.loop tail_View_can_i58_2_c0 tail_View_can_i58_2_x0 0 (obB tail_View_can_i58_2_b 0) (obH tail_View_can_i58_2_b 0)) :=
  deep_ob fun hd => by
    obtain ⟨d, rfl⟩ := Nat.exists_eq_add_of_le' hd
    exact loop_ok (l := [tail_View_can_i58_2_l0_a k]) (by kernel_rfl) ⟨(fun K x => ⟨k, (tail_View_can_i58_2_l0_eq k d K x.1.1.1 x.1.1.2 x.1.2.2.1 x.2.1.1.1 x.2.1.1.2 x.2.1.2.1 x.2.1.2.2.1.1 x.2.1.2.2.1.2 x.2.2.1.1 x.2.2.1.2.1 x.2.2.1.2.2.1 x.2.2.1.2.2.2.1 x.2.2.1.2.2.2.2.1 k x.1.2.2.2.1).trans (by kernel_rfl)⟩), trivial⟩
theorem tail_View_can_i58_2_j1_eq {R : Type} (k : Nat) (d : Nat) (K : EX → St → Option R) (sa_24414 : Bool) (sb_24415 : List Int) (i_24416 : Int) (v_24417 : Int) (v_24418 : Int) (v_24419 : Bool) (ha_24420 : Bool) (hb_24421 : List Int) (hc_24422 : Int) (hd_24423 : Bool) (he_24424 : List (Int × Int)) (ha_24425 : Int) (hb_24426 : Int) (hc_24427 : Int) (hd_24428 : Int) (he_24429 : Int) : tail_View_can_i58_2_j1 (tail_View_can_i58_2_j1_E0 K sa_24414 sb_24415 i_24416 v_24417 v_24418 ha_24420 hb_24421 hc_24422 hd_24423 he_24424 ha_24425 hb_24426 hc_24427 hd_24428 he_24429) (tail_View_can_i58_2_j1_E1 K sa_24414 sb_24415 v_24417 v_24418 ha_24420 hb_24421 hc_24422 hd_24423 he_24424 ha_24425 hb_24426 hc_24427 hd_24428 he_24429) k v_24419 = ev tab (tail_View_can_F k) (inlK tab (tail_View_can_F k) (tail_View_can_I k) (d + 1)) (deepO 1 (tail_View_can_i58_2_O k) (d + 1)) (obB tail_View_can_i58_2_b 1) (obH tail_View_can_i58_2_b 1) (tail_View_can_i58_2_j1_S sa_24414 sb_24415 i_24416 v_24417 v_24418 v_24419 ha_24420 hb_24421 hc_24422 hd_24423 he_24424 ha_24425 hb_24426 hc_24427 hd_24428 he_24429) (fun e st => optb (clean tail_View_can_i58_2_x1 st) fun st => K e st) := by kernel_rfl
theorem tail_View_can_i58_2_j1_ok {R : Type} (k : Nat) (d : Nat)  : ObOK (R := R) tab (tail_View_can_F k) (inlK tab (tail_View_can_F k) (tail_View_can_I k) d) (deepO 1 (tail_View_can_i58_2_O k) d) (.join tail_View_can_i58_2_c1 tail_View_can_i58_2_x1 1 (obB tail_View_can_i58_2_b 1) (obH tail_View_can_i58_2_b 1)) :=
  deep_ob fun hd => by
    obtain ⟨d, rfl⟩ := Nat.exists_eq_add_of_le' hd
    exact join_ok (l := [tail_View_can_i58_2_j1_a k]) (by kernel_rfl) ⟨(fun K x => (tail_View_can_i58_2_j1_eq k d K x.1.1.1 x.1.1.2 x.1.2.2.1 x.1.2.2.2.1 x.1.2.2.2.2.1 x.1.2.2.2.2.2.1 x.2.1.1.1 x.2.1.1.2 x.2.1.2.1 x.2.1.2.2.1.1 x.2.1.2.2.1.2 x.2.2.1.1 x.2.2.1.2.1 x.2.2.1.2.2.1 x.2.2.1.2.2.2.1 x.2.2.1.2.2.2.2.1).trans (by kernel_rfl)), trivial⟩
theorem tail_View_can_i58_2_cuts {R : Type} (k : Nat) : ∀ (d : Nat), ∀ c, Try.f58.body = some c → CutsOK (R := R) tab (tail_View_can_F k) (inlK tab (tail_View_can_F k) (tail_View_can_I k) d) (deepO 1 (tail_View_can_i58_2_O k) d) c tail_View_can_i58_2_h :=
  fun d => cuts_of (l := [.loop tail_View_can_i58_2_c0 tail_View_can_i58_2_x0 0 (obB tail_View_can_i58_2_b 0) (obH tail_View_can_i58_2_b 0), .join tail_View_can_i58_2_c1 tail_View_can_i58_2_x1 1 (obB tail_View_can_i58_2_b 1) (obH tail_View_can_i58_2_b 1)]) (by kernel_rfl) ⟨tail_View_can_i58_2_l0_ok k d, tail_View_can_i58_2_j1_ok k d, trivial⟩
theorem tail_View_can_iok {R : Type} (k : Nat) : IOK Try.prog tab (tail_View_can_F k) (tail_View_can_I (R := R) k) := iok_cons Try.func41 Try.call41 (plainO (by kernel_rfl)) <| iok_cons Try.func58 Try.call58 (tail_View_can_i58_2_cuts k) <| iok_cons Try.func63 Try.call63 (plainO (by kernel_rfl)) <| iok_none
theorem tail_View_can_ev (k : Nat) (x : (tail_View_can_p k).τ.den) : evalF tab (tail_View_can_F k) (tail_View_can_p k) (tail_View_can_I k) 3 (tail_View_can_O k) tail_View_can_h Try.f59 x = (tail_View_can_p k).f x := by kernel_rfl
theorem tail_View_can_ok (k : Nat) : PFOK Try.prog tab 59 (tail_View_can_p k) := pfok mixed tabOK (tail_View_can_fok k) Try.func59 (I := tail_View_can_I k) (d := 3) (tail_View_can_iok k) (Q := tail_View_can_O k) (hi := tail_View_can_h) (cuts_of (l := []) (by kernel_rfl) trivial) (tail_View_can_ev k)
end Go.Proofs.Ytcikcikcjimcjaa.Ev
