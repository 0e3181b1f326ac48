/- corbelref12_Can, told on plain data. Written by program. -/
import Derived.Test.YthilffdaofaalaaEcorbelref04_Good
set_option linter.unusedVariables false
set_option maxRecDepth 1000000
namespace Go.Proofs.Ythilffdaofaalaa.Ev
open Go Go.RowKit Go.Proofs
def corbelref12_Can_j0 {R : Type} (e0 : Bool → Option R) (e1 : Option R) (k : Nat) (v_3236 : Bool) : Option R :=
  bif v_3236 then
    e0 false
  else e1
def corbelref12_Can_j2 {R : Type} (e0 : Bool → Option R) (e1 : Option R) (k : Nat) (v_3283 : Bool) : Option R :=
  bif v_3283 then
    e0 false
  else e1
def corbelref12_Can_k2 {R : Type} (rc : Int → Option R) (e0 : Bool → Option R) (e1 : Option R) (k : Nat) : Bool → Option R := fun v_3294 =>
  e0 v_3294
def corbelref12_Can_k3 {R : Type} (rc : Int → Option R) (e0 : Bool → Option R) (e1 : Option R) (k : Nat) (i_3268 : Int) : Option R := 
  rc (wrap64 (i_3268 + (1 : Int)))
def corbelref12_Can_l1s {R : Type} (rc : Int → Option R) (e0 : Bool → Option R) (e1 : Option R) (k : Nat) (gc_3271 : Int) (vb_3275 : List Int) (i_3268 : Int) : Option R :=
  bif (decide (i_3268 < (lenI vb_3275))) then
    bif (decide ((0 : Int) ≤ i_3268)) then
      optb (vb_3275[i_3268.toNat]?) fun x_3281 =>
      bif (decide (x_3281 < (0 : Int))) then
        corbelref12_Can_j2 (corbelref12_Can_k2 rc e0 e1 k) (corbelref12_Can_k3 rc e0 e1 k i_3268) k true
      else bif (decide ((0 : Int) ≤ i_3268)) then
        optb (vb_3275[i_3268.toNat]?) fun x_3317 =>
        corbelref12_Can_j2 (corbelref12_Can_k2 rc e0 e1 k) (corbelref12_Can_k3 rc e0 e1 k i_3268) k (decide (gc_3271 < x_3317))
      else none
    else none
  else e1
def corbelref12_Can_l1 {R : Type} (e0 : Bool → Option R) (e1 : Option R) (k : Nat) (gc_3271 : Int) (vb_3275 : List Int) : Nat → Int → Option R
  | 0 => fun _ => none
  | j + 1 => corbelref12_Can_l1s (corbelref12_Can_l1 e0 e1 k gc_3271 vb_3275 j) e0 e1 k gc_3271 vb_3275
def corbelref12_Can_k0 (k : Nat) : Bool → Option Bool := fun v_3247 =>
  some v_3247
def corbelref12_Can_k1 (k : Nat) (gc_3066 : Int) (vb_3070 : List Int) : Option Bool := 
  corbelref12_Can_l1 (fun v_3318 =>
    some v_3318) (some true) k gc_3066 vb_3070 k (0 : Int)
def corbelref12_Can (k : Nat) (ga_3064 : Int) (gb_3065 : Int) (gc_3066 : Int) (gd_3067 : Int) (ge_3068 : Int) (va_3069 : Bool) (vb_3070 : List Int) (vc_3071 : Int) (vd_3072 : Bool) (ve_3073 : List (Int × Int)) : Option Bool :=
  optb (corbelref04_Good k ga_3064 gb_3065 gc_3066 gd_3067 ge_3068) fun r_3235 =>
  bif (!r_3235) then
    corbelref12_Can_j0 (corbelref12_Can_k0 k) (corbelref12_Can_k1 k gc_3066 vb_3070) k true
  else bif (!(decide ((lenI vb_3070) = ga_3064))) then
    corbelref12_Can_j0 (corbelref12_Can_k0 k) (corbelref12_Can_k1 k gc_3066 vb_3070) k true
  else bif (decide (vc_3071 < (-1 : Int))) then
    corbelref12_Can_j0 (corbelref12_Can_k0 k) (corbelref12_Can_k1 k gc_3066 vb_3070) k true
  else corbelref12_Can_j0 (corbelref12_Can_k0 k) (corbelref12_Can_k1 k gc_3066 vb_3070) k (decide (ga_3064 ≤ vc_3071))
def corbelref12_Can_p (k : Nat) : PF := { ps := [(true, 5), (true, 3)], rs := [(false, 1)], τ := (.pair (.pair (.int .i64) (.pair (.int .i64) (.pair (.int .i64) (.pair (.int .i64) (.int .i64))))) (.pair (.sl (.int .i64)) (.pair (.int .i64) (.sl (.pair (.int .i64) (.int .i64)))))), σ := .bool, f := fun x => corbelref12_Can k x.1.1 x.1.2.1 x.1.2.2.1 x.1.2.2.2.1 x.1.2.2.2.2 x.2.1.1 x.2.1.2 x.2.2.1 x.2.2.2.1 x.2.2.2.2 }
def corbelref12_Can_F (k : Nat) : PT := fcons 21 (corbelref04_Good_p k) <| fnone
theorem corbelref12_Can_fok (k : Nat) : FOK Try.prog tab (corbelref12_Can_F k) := fok_cons (corbelref04_Good_ok k) Try.call21 <| fok_none
def corbelref12_Can_c0 : Cl := { keep := [2, 3, 28], hl := 2, ad := [], adc := [], bump := [] }
def corbelref12_Can_x0 : Cl := { keep := [2, 3, 4], hl := 2, ad := [], adc := [], bump := [] }
def corbelref12_Can_c1 : Cl := { keep := [2, 3, 5], hl := 2, ad := [], adc := [], bump := [] }
def corbelref12_Can_x1 : Cl := { keep := [4], hl := 0, ad := [], adc := [], bump := [] }
def corbelref12_Can_c2 : Cl := { keep := [2, 3, 5, 51], hl := 2, ad := [], adc := [], bump := [] }
def corbelref12_Can_x2 : Cl := { keep := [2, 3, 4, 5], hl := 2, ad := [], adc := [], bump := [] }
def corbelref12_Can_h : Hint := (.sq .no (.sq (.ct corbelref12_Can_c0 corbelref12_Can_x0 0 .no .no) (.sq (.sq .no (.lp corbelref12_Can_c1 corbelref12_Can_x1 1 (.sq .no (.sq (.ct corbelref12_Can_c2 corbelref12_Can_x2 2 .no .no) .no)))) .no)))
def corbelref12_Can_j0_E0 {R : Type} (K : EX → St → Option R) : Bool → Int → Int → Int → Int → Int → Bool → List Int → Int → Bool → List (Int × Int) → Option R := fun v0 v1 v2 v3 v4 v5 v6 v7 v8 v9 v10 => K .ret (mkSt 52 [] corbelref12_Can_x0.keep [.ptr 0 0, .ptr 1 0, .bool v0] [.blk [.int .i64 v1, .int .i64 v2, .int .i64 v3, .int .i64 v4, .int .i64 v5], .blk [.sl (.int .i64) v6 v7, .int .i64 v8, .sl (.pair (.int .i64) (.int .i64)) v9 v10]])
def corbelref12_Can_j0_E1 {R : Type} (K : EX → St → Option R) : Int → Int → Int → Int → Int → Bool → List Int → Int → Bool → List (Int × Int) → Option R := fun v0 v1 v2 v3 v4 v5 v6 v7 v8 v9 => K .normal (mkSt 52 [] corbelref12_Can_x0.keep [.ptr 0 0, .ptr 1 0, .junk] [.blk [.int .i64 v0, .int .i64 v1, .int .i64 v2, .int .i64 v3, .int .i64 v4], .blk [.sl (.int .i64) v5 v6, .int .i64 v7, .sl (.pair (.int .i64) (.int .i64)) v8 v9]])
def corbelref12_Can_j0_S (v_3236 : Bool) (ga_3237 : Int) (gb_3238 : Int) (gc_3239 : Int) (gd_3240 : Int) (ge_3241 : Int) (va_3242 : Bool) (vb_3243 : List Int) (vc_3244 : Int) (vd_3245 : Bool) (ve_3246 : List (Int × Int)) : St := mkSt 52 [] corbelref12_Can_c0.keep [.ptr 0 0, .ptr 1 0, .bool v_3236] [.blk [.int .i64 ga_3237, .int .i64 gb_3238, .int .i64 gc_3239, .int .i64 gd_3240, .int .i64 ge_3241], .blk [.sl (.int .i64) va_3242 vb_3243, .int .i64 vc_3244, .sl (.pair (.int .i64) (.int .i64)) vd_3245 ve_3246]]
def corbelref12_Can_j0_sh : Rd (List AV × List HE) := .pair (.cons (.ptr 0 0) (.cons (.ptr 1 0) (.cons .bool Rd.nil))) (.cons (.blk (.cons (.int .i64) (.cons (.int .i64) (.cons (.int .i64) (.cons (.int .i64) (.cons (.int .i64) Rd.nil)))))) (.cons (.blk (.cons (.sl (.int .i64)) (.cons (.int .i64) (.cons (.sl (.pair (.int .i64) (.int .i64))) Rd.nil)))) Rd.nil))
def corbelref12_Can_j0_a {R : Type} (k : Nat) : Alt R := { n := 52, v := [], sh := corbelref12_Can_j0_sh, g := fun K x => corbelref12_Can_j0 (fun y0 => corbelref12_Can_j0_E0 K y0 x.2.1.1 x.2.1.2.1 x.2.1.2.2.1 x.2.1.2.2.2.1 x.2.1.2.2.2.2.1 x.2.2.1.1.1 x.2.2.1.1.2 x.2.2.1.2.1 x.2.2.1.2.2.1.1 x.2.2.1.2.2.1.2) (corbelref12_Can_j0_E1 K x.2.1.1 x.2.1.2.1 x.2.1.2.2.1 x.2.1.2.2.2.1 x.2.1.2.2.2.2.1 x.2.2.1.1.1 x.2.2.1.1.2 x.2.2.1.2.1 x.2.2.1.2.2.1.1 x.2.2.1.2.2.1.2) k x.1.2.2.1 }
def corbelref12_Can_l1_E0 {R : Type} (K : EX → St → Option R) : Bool → Option R := fun v0 => K .ret (mkSt 52 [] corbelref12_Can_x1.keep [.bool v0] [])
def corbelref12_Can_l1_E1 {R : Type} (K : EX → St → Option R) : Option R := K (.exit 0) (mkSt 52 [] corbelref12_Can_x1.keep [.junk] [])
def corbelref12_Can_l1_S (i_3268 : Int) (ga_3269 : Int) (gb_3270 : Int) (gc_3271 : Int) (gd_3272 : Int) (ge_3273 : Int) (va_3274 : Bool) (vb_3275 : List Int) (vc_3276 : Int) (vd_3277 : Bool) (ve_3278 : List (Int × Int)) : St := mkSt 52 [] corbelref12_Can_c1.keep [.ptr 0 0, .ptr 1 0, .int .i64 i_3268] [.blk [.int .i64 ga_3269, .int .i64 gb_3270, .int .i64 gc_3271, .int .i64 gd_3272, .int .i64 ge_3273], .blk [.sl (.int .i64) va_3274 vb_3275, .int .i64 vc_3276, .sl (.pair (.int .i64) (.int .i64)) vd_3277 ve_3278]]
def corbelref12_Can_l1_sh : Rd (List AV × List HE) := .pair (.cons (.ptr 0 0) (.cons (.ptr 1 0) (.cons (.int .i64) Rd.nil))) (.cons (.blk (.cons (.int .i64) (.cons (.int .i64) (.cons (.int .i64) (.cons (.int .i64) (.cons (.int .i64) Rd.nil)))))) (.cons (.blk (.cons (.sl (.int .i64)) (.cons (.int .i64) (.cons (.sl (.pair (.int .i64) (.int .i64))) Rd.nil)))) Rd.nil))
def corbelref12_Can_l1_a {R : Type} (k : Nat) : Alt R := { n := 52, v := [], sh := corbelref12_Can_l1_sh, g := fun K x => corbelref12_Can_l1 (corbelref12_Can_l1_E0 K) (corbelref12_Can_l1_E1 K) k x.2.1.2.2.1 x.2.2.1.1.2 k x.1.2.2.1 }
def corbelref12_Can_j2_E0 {R : Type} (K : EX → St → Option R) : Bool → Int → Int → Int → Int → Int → Int → Bool → List Int → Int → Bool → List (Int × Int) → Option R := fun v0 v1 v2 v3 v4 v5 v6 v7 v8 v9 v10 v11 => K .ret (mkSt 52 [] corbelref12_Can_x2.keep [.ptr 0 0, .ptr 1 0, .bool v0, .int .i64 v1] [.blk [.int .i64 v2, .int .i64 v3, .int .i64 v4, .int .i64 v5, .int .i64 v6], .blk [.sl (.int .i64) v7 v8, .int .i64 v9, .sl (.pair (.int .i64) (.int .i64)) v10 v11]])
def corbelref12_Can_j2_E1 {R : Type} (K : EX → St → Option R) : Int → Int → Int → Int → Int → Int → Bool → List Int → Int → Bool → List (Int × Int) → Option R := fun v0 v1 v2 v3 v4 v5 v6 v7 v8 v9 v10 => K .normal (mkSt 52 [] corbelref12_Can_x2.keep [.ptr 0 0, .ptr 1 0, .junk, .int .i64 v0] [.blk [.int .i64 v1, .int .i64 v2, .int .i64 v3, .int .i64 v4, .int .i64 v5], .blk [.sl (.int .i64) v6 v7, .int .i64 v8, .sl (.pair (.int .i64) (.int .i64)) v9 v10]])
def corbelref12_Can_j2_S (i_3282 : Int) (v_3283 : Bool) (ga_3284 : Int) (gb_3285 : Int) (gc_3286 : Int) (gd_3287 : Int) (ge_3288 : Int) (va_3289 : Bool) (vb_3290 : List Int) (vc_3291 : Int) (vd_3292 : Bool) (ve_3293 : List (Int × Int)) : St := mkSt 52 [] corbelref12_Can_c2.keep [.ptr 0 0, .ptr 1 0, .int .i64 i_3282, .bool v_3283] [.blk [.int .i64 ga_3284, .int .i64 gb_3285, .int .i64 gc_3286, .int .i64 gd_3287, .int .i64 ge_3288], .blk [.sl (.int .i64) va_3289 vb_3290, .int .i64 vc_3291, .sl (.pair (.int .i64) (.int .i64)) vd_3292 ve_3293]]
def corbelref12_Can_j2_sh : Rd (List AV × List HE) := .pair (.cons (.ptr 0 0) (.cons (.ptr 1 0) (.cons (.int .i64) (.cons .bool Rd.nil)))) (.cons (.blk (.cons (.int .i64) (.cons (.int .i64) (.cons (.int .i64) (.cons (.int .i64) (.cons (.int .i64) Rd.nil)))))) (.cons (.blk (.cons (.sl (.int .i64)) (.cons (.int .i64) (.cons (.sl (.pair (.int .i64) (.int .i64))) Rd.nil)))) Rd.nil))
def corbelref12_Can_j2_a {R : Type} (k : Nat) : Alt R := { n := 52, v := [], sh := corbelref12_Can_j2_sh, g := fun K x => corbelref12_Can_j2 (fun y0 => corbelref12_Can_j2_E0 K y0 x.1.2.2.1 x.2.1.1 x.2.1.2.1 x.2.1.2.2.1 x.2.1.2.2.2.1 x.2.1.2.2.2.2.1 x.2.2.1.1.1 x.2.2.1.1.2 x.2.2.1.2.1 x.2.2.1.2.2.1.1 x.2.2.1.2.2.1.2) (corbelref12_Can_j2_E1 K x.1.2.2.1 x.2.1.1 x.2.1.2.1 x.2.1.2.2.1 x.2.1.2.2.2.1 x.2.1.2.2.2.2.1 x.2.2.1.1.1 x.2.2.1.1.2 x.2.2.1.2.1 x.2.2.1.2.2.1.1 x.2.2.1.2.2.1.2) k x.1.2.2.2.1 }
def corbelref12_Can_O {R : Type} (k : Nat) : CutK R := cutsO [[corbelref12_Can_j0_a k], [corbelref12_Can_l1_a k], [corbelref12_Can_j2_a k]]
noncomputable def corbelref12_Can_b : List Ob := obs (bodyOf Try.f48) corbelref12_Can_h
noncomputable def corbelref12_Can_I {R : Type} (k : Nat) : InlT R := inone
theorem corbelref12_Can_j0_eq {R : Type} (k : Nat) (K : EX → St → Option R) (v_3236 : Bool) (ga_3237 : Int) (gb_3238 : Int) (gc_3239 : Int) (gd_3240 : Int) (ge_3241 : Int) (va_3242 : Bool) (vb_3243 : List Int) (vc_3244 : Int) (vd_3245 : Bool) (ve_3246 : List (Int × Int)) : corbelref12_Can_j0 (fun y0 => corbelref12_Can_j0_E0 K y0 ga_3237 gb_3238 gc_3239 gd_3240 ge_3241 va_3242 vb_3243 vc_3244 vd_3245 ve_3246) (corbelref12_Can_j0_E1 K ga_3237 gb_3238 gc_3239 gd_3240 ge_3241 va_3242 vb_3243 vc_3244 vd_3245 ve_3246) k v_3236 = ev tab (corbelref12_Can_F k) (inlK tab (corbelref12_Can_F k) (corbelref12_Can_I k) 0) (corbelref12_Can_O k) (obB corbelref12_Can_b 0) (obH corbelref12_Can_b 0) (corbelref12_Can_j0_S v_3236 ga_3237 gb_3238 gc_3239 gd_3240 ge_3241 va_3242 vb_3243 vc_3244 vd_3245 ve_3246) (fun e st => optb (clean corbelref12_Can_x0 st) fun st => K e st) := by kernel_rfl
theorem corbelref12_Can_j0_ok {R : Type} (k : Nat)  : ObOK (R := R) tab (corbelref12_Can_F k) (inlK tab (corbelref12_Can_F k) (corbelref12_Can_I k) 0) (corbelref12_Can_O k) (.join corbelref12_Can_c0 corbelref12_Can_x0 0 (obB corbelref12_Can_b 0) (obH corbelref12_Can_b 0)) :=
  join_ok (l := [corbelref12_Can_j0_a k]) (by kernel_rfl) ⟨(fun K x => (corbelref12_Can_j0_eq k K x.1.2.2.1 x.2.1.1 x.2.1.2.1 x.2.1.2.2.1 x.2.1.2.2.2.1 x.2.1.2.2.2.2.1 x.2.2.1.1.1 x.2.2.1.1.2 x.2.2.1.2.1 x.2.2.1.2.2.1.1 x.2.2.1.2.2.1.2).trans (by kernel_rfl)), trivial⟩
theorem corbelref12_Can_l1_eq {R : Type} (k : Nat) (K : EX → St → Option R) (ga_3269 : Int) (gb_3270 : Int) (gc_3271 : Int) (gd_3272 : Int) (ge_3273 : Int) (va_3274 : Bool) (vb_3275 : List Int) (vc_3276 : Int) (vd_3277 : Bool) (ve_3278 : List (Int × Int)) : ∀ (j : Nat) (i_3268 : Int), corbelref12_Can_l1 (corbelref12_Can_l1_E0 K) (corbelref12_Can_l1_E1 K) k gc_3271 vb_3275 j i_3268 = iter corbelref12_Can_c1 corbelref12_Can_x1 (ev tab (corbelref12_Can_F k) (inlK tab (corbelref12_Can_F k) (corbelref12_Can_I k) 0) (corbelref12_Can_O k) (obB corbelref12_Can_b 1) (obH corbelref12_Can_b 1)) j (corbelref12_Can_l1_S i_3268 ga_3269 gb_3270 gc_3271 gd_3272 ge_3273 va_3274 vb_3275 vc_3276 vd_3277 ve_3278) K
  | 0, _ => rfl
  | j + 1, i_3268 => by
    have e : corbelref12_Can_l1 (corbelref12_Can_l1_E0 K) (corbelref12_Can_l1_E1 K) k gc_3271 vb_3275 j = fun i_3268 => iter corbelref12_Can_c1 corbelref12_Can_x1 (ev tab (corbelref12_Can_F k) (inlK tab (corbelref12_Can_F k) (corbelref12_Can_I k) 0) (corbelref12_Can_O k) (obB corbelref12_Can_b 1) (obH corbelref12_Can_b 1)) j (corbelref12_Can_l1_S i_3268 ga_3269 gb_3270 gc_3271 gd_3272 ge_3273 va_3274 vb_3275 vc_3276 vd_3277 ve_3278) K := by funext i_3268; exact corbelref12_Can_l1_eq k K ga_3269 gb_3270 gc_3271 gd_3272 ge_3273 va_3274 vb_3275 vc_3276 vd_3277 ve_3278 j i_3268
    show corbelref12_Can_l1s (corbelref12_Can_l1 (corbelref12_Can_l1_E0 K) (corbelref12_Can_l1_E1 K) k gc_3271 vb_3275 j) (corbelref12_Can_l1_E0 K) (corbelref12_Can_l1_E1 K) k gc_3271 vb_3275 i_3268 = _
    rw [e, iter_succ]; kernel_rfl
theorem corbelref12_Can_l1_ok {R : Type} (k : Nat)  : ObOK (R := R) tab (corbelref12_Can_F k) (inlK tab (corbelref12_Can_F k) (corbelref12_Can_I k) 0) (corbelref12_Can_O k) (.loop corbelref12_Can_c1 corbelref12_Can_x1 1 (obB corbelref12_Can_b 1) (obH corbelref12_Can_b 1)) :=
  loop_ok (l := [corbelref12_Can_l1_a k]) (by kernel_rfl) ⟨(fun K x => ⟨k, (corbelref12_Can_l1_eq k K x.2.1.1 x.2.1.2.1 x.2.1.2.2.1 x.2.1.2.2.2.1 x.2.1.2.2.2.2.1 x.2.2.1.1.1 x.2.2.1.1.2 x.2.2.1.2.1 x.2.2.1.2.2.1.1 x.2.2.1.2.2.1.2 k x.1.2.2.1).trans (by kernel_rfl)⟩), trivial⟩
theorem corbelref12_Can_j2_eq {R : Type} (k : Nat) (K : EX → St → Option R) (i_3282 : Int) (v_3283 : Bool) (ga_3284 : Int) (gb_3285 : Int) (gc_3286 : Int) (gd_3287 : Int) (ge_3288 : Int) (va_3289 : Bool) (vb_3290 : List Int) (vc_3291 : Int) (vd_3292 : Bool) (ve_3293 : List (Int × Int)) : corbelref12_Can_j2 (fun y0 => corbelref12_Can_j2_E0 K y0 i_3282 ga_3284 gb_3285 gc_3286 gd_3287 ge_3288 va_3289 vb_3290 vc_3291 vd_3292 ve_3293) (corbelref12_Can_j2_E1 K i_3282 ga_3284 gb_3285 gc_3286 gd_3287 ge_3288 va_3289 vb_3290 vc_3291 vd_3292 ve_3293) k v_3283 = ev tab (corbelref12_Can_F k) (inlK tab (corbelref12_Can_F k) (corbelref12_Can_I k) 0) (corbelref12_Can_O k) (obB corbelref12_Can_b 2) (obH corbelref12_Can_b 2) (corbelref12_Can_j2_S i_3282 v_3283 ga_3284 gb_3285 gc_3286 gd_3287 ge_3288 va_3289 vb_3290 vc_3291 vd_3292 ve_3293) (fun e st => optb (clean corbelref12_Can_x2 st) fun st => K e st) := by kernel_rfl
theorem corbelref12_Can_j2_ok {R : Type} (k : Nat)  : ObOK (R := R) tab (corbelref12_Can_F k) (inlK tab (corbelref12_Can_F k) (corbelref12_Can_I k) 0) (corbelref12_Can_O k) (.join corbelref12_Can_c2 corbelref12_Can_x2 2 (obB corbelref12_Can_b 2) (obH corbelref12_Can_b 2)) :=
  join_ok (l := [corbelref12_Can_j2_a k]) (by kernel_rfl) ⟨(fun K x => (corbelref12_Can_j2_eq k K x.1.2.2.1 x.1.2.2.2.1 x.2.1.1 x.2.1.2.1 x.2.1.2.2.1 x.2.1.2.2.2.1 x.2.1.2.2.2.2.1 x.2.2.1.1.1 x.2.2.1.1.2 x.2.2.1.2.1 x.2.2.1.2.2.1.1 x.2.2.1.2.2.1.2).trans (by kernel_rfl)), trivial⟩
theorem corbelref12_Can_cuts {R : Type} (k : Nat) : ∀ c, Try.f48.body = some c → CutsOK (R := R) tab (corbelref12_Can_F k) (inlK tab (corbelref12_Can_F k) (corbelref12_Can_I k) 0) (corbelref12_Can_O k) c corbelref12_Can_h :=
  cuts_of (l := [.join corbelref12_Can_c0 corbelref12_Can_x0 0 (obB corbelref12_Can_b 0) (obH corbelref12_Can_b 0), .loop corbelref12_Can_c1 corbelref12_Can_x1 1 (obB corbelref12_Can_b 1) (obH corbelref12_Can_b 1), .join corbelref12_Can_c2 corbelref12_Can_x2 2 (obB corbelref12_Can_b 2) (obH corbelref12_Can_b 2)]) (by kernel_rfl) ⟨corbelref12_Can_j0_ok k, corbelref12_Can_l1_ok k, corbelref12_Can_j2_ok k, trivial⟩
theorem corbelref12_Can_iok {R : Type} (k : Nat) : IOK Try.prog tab (corbelref12_Can_F k) (corbelref12_Can_I (R := R) k) := iok_none
theorem corbelref12_Can_ev (k : Nat) (x : (corbelref12_Can_p k).τ.den) : evalF tab (corbelref12_Can_F k) (corbelref12_Can_p k) (corbelref12_Can_I k) 0 (corbelref12_Can_O k) corbelref12_Can_h Try.f48 x = (corbelref12_Can_p k).f x := by kernel_rfl
theorem corbelref12_Can_ok (k : Nat) : PFOK Try.prog tab 48 (corbelref12_Can_p k) := pfok mixed tabOK (corbelref12_Can_fok k) Try.func48 (I := corbelref12_Can_I k) (d := 0) (corbelref12_Can_iok k) (Q := corbelref12_Can_O k) (hi := corbelref12_Can_h) (corbelref12_Can_cuts k) (corbelref12_Can_ev k)
end Go.Proofs.Ythilffdaofaalaa.Ev
