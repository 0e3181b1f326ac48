/- corbelref12_Can, told on plain data. Written by program. -/
import Derived.Test.YtcikcikcjimcjaaEcorbelref04_Good
set_option linter.unusedVariables false
set_option maxRecDepth 1000000
namespace Go.Proofs.Ytcikcikcjimcjaa.Ev
open Go Go.RowKit Go.Proofs
def corbelref12_Can_j0 {R : Type} (e0 : Bool → Option R) (e1 : Option R) (k : Nat) (v_14420 : Bool) : Option R :=
  bif v_14420 then
    e0 false
  else e1
def corbelref12_Can_j2 {R : Type} (e0 : Bool → Option R) (e1 : Option R) (k : Nat) (v_14467 : Bool) : Option R :=
  bif v_14467 then
    e0 false
  else e1
def corbelref12_Can_k2 {R : Type} (rc : Int → Option R) (e0 : Bool → Option R) (e1 : Option R) (k : Nat) : Bool → Option R := fun v_14478 =>
  e0 v_14478
def corbelref12_Can_k3 {R : Type} (rc : Int → Option R) (e0 : Bool → Option R) (e1 : Option R) (k : Nat) (i_14452 : Int) : Option R := 
  rc (wrap64 (i_14452 + (1 : Int)))
def corbelref12_Can_l1s {R : Type} (rc : Int → Option R) (e0 : Bool → Option R) (e1 : Option R) (k : Nat) (gc_14455 : Int) (vb_14459 : List Int) (i_14452 : Int) : Option R :=
  bif (decide (i_14452 < (lenI vb_14459))) then
    bif (decide ((0 : Int) ≤ i_14452)) then
      optb (vb_14459[i_14452.toNat]?) fun x_14465 =>
      bif (decide (x_14465 < (0 : Int))) then
        corbelref12_Can_j2 (corbelref12_Can_k2 rc e0 e1 k) (corbelref12_Can_k3 rc e0 e1 k i_14452) k true
      else bif (decide ((0 : Int) ≤ i_14452)) then
        optb (vb_14459[i_14452.toNat]?) fun x_14501 =>
        corbelref12_Can_j2 (corbelref12_Can_k2 rc e0 e1 k) (corbelref12_Can_k3 rc e0 e1 k i_14452) k (decide (gc_14455 < x_14501))
      else none
    else none
  else e1
def corbelref12_Can_l1 {R : Type} (e0 : Bool → Option R) (e1 : Option R) (k : Nat) (gc_14455 : Int) (vb_14459 : List Int) : Nat → Int → Option R
  | 0 => fun _ => none
  | j + 1 => corbelref12_Can_l1s (corbelref12_Can_l1 e0 e1 k gc_14455 vb_14459 j) e0 e1 k gc_14455 vb_14459
def corbelref12_Can_k0 (k : Nat) : Bool → Option Bool := fun v_14431 =>
  some v_14431
def corbelref12_Can_k1 (k : Nat) (gc_14250 : Int) (vb_14254 : List Int) : Option Bool := 
  corbelref12_Can_l1 (fun v_14502 =>
    some v_14502) (some true) k gc_14250 vb_14254 k (0 : Int)
def corbelref12_Can (k : Nat) (ga_14248 : Int) (gb_14249 : Int) (gc_14250 : Int) (gd_14251 : Int) (ge_14252 : Int) (va_14253 : Bool) (vb_14254 : List Int) (vc_14255 : Int) (vd_14256 : Bool) (ve_14257 : List (Int × Int)) : Option Bool :=
  optb (corbelref04_Good k ga_14248 gb_14249 gc_14250 gd_14251 ge_14252) fun r_14419 =>
  bif (!r_14419) then
    corbelref12_Can_j0 (corbelref12_Can_k0 k) (corbelref12_Can_k1 k gc_14250 vb_14254) k true
  else bif (!(decide ((lenI vb_14254) = ga_14248))) then
    corbelref12_Can_j0 (corbelref12_Can_k0 k) (corbelref12_Can_k1 k gc_14250 vb_14254) k true
  else bif (decide (vc_14255 < (-1 : Int))) then
    corbelref12_Can_j0 (corbelref12_Can_k0 k) (corbelref12_Can_k1 k gc_14250 vb_14254) k true
  else corbelref12_Can_j0 (corbelref12_Can_k0 k) (corbelref12_Can_k1 k gc_14250 vb_14254) k (decide (ga_14248 ≤ vc_14255))
def corbelref12_Can_p (k : Nat) : PF := { ps := [(true, 5), (true, 3)], rs := [(false, 1)], τ := (.pair (.pair (.int .i64) (.pair (.int .i64) (.pair (.int .i64) (.pair (.int .i64) (.int .i64))))) (.pair (.sl (.int .i64)) (.pair (.int .i64) (.sl (.pair (.int .i64) (.int .i64)))))), σ := .bool, f := fun x => corbelref12_Can k x.1.1 x.1.2.1 x.1.2.2.1 x.1.2.2.2.1 x.1.2.2.2.2 x.2.1.1 x.2.1.2 x.2.2.1 x.2.2.2.1 x.2.2.2.2 }
def corbelref12_Can_F (k : Nat) : PT := fcons 19 (corbelref04_Good_p k) <| fnone
theorem corbelref12_Can_fok (k : Nat) : FOK Try.prog tab (corbelref12_Can_F k) := fok_cons (corbelref04_Good_ok k) Try.call19 <| fok_none
def corbelref12_Can_c0 : Cl := { keep := [2, 3, 28], hl := 2, ad := [], adc := [], bump := [] }
def corbelref12_Can_x0 : Cl := { keep := [2, 3, 4], hl := 2, ad := [], adc := [], bump := [] }
def corbelref12_Can_c1 : Cl := { keep := [2, 3, 5], hl := 2, ad := [], adc := [], bump := [] }
def corbelref12_Can_x1 : Cl := { keep := [4], hl := 0, ad := [], adc := [], bump := [] }
def corbelref12_Can_c2 : Cl := { keep := [2, 3, 5, 51], hl := 2, ad := [], adc := [], bump := [] }
def corbelref12_Can_x2 : Cl := { keep := [2, 3, 4, 5], hl := 2, ad := [], adc := [], bump := [] }
def corbelref12_Can_h : Hint := (.sq .no (.sq (.ct corbelref12_Can_c0 corbelref12_Can_x0 0 .no .no) (.sq (.sq .no (.lp corbelref12_Can_c1 corbelref12_Can_x1 1 (.sq .no (.sq (.ct corbelref12_Can_c2 corbelref12_Can_x2 2 .no .no) .no)))) .no)))
def corbelref12_Can_j0_E0 {R : Type} (K : EX → St → Option R) : Bool → Int → Int → Int → Int → Int → Bool → List Int → Int → Bool → List (Int × Int) → Option R := fun v0 v1 v2 v3 v4 v5 v6 v7 v8 v9 v10 => K .ret (mkSt 52 [] corbelref12_Can_x0.keep [.ptr 0 0, .ptr 1 0, .bool v0] [.blk [.int .i64 v1, .int .i64 v2, .int .i64 v3, .int .i64 v4, .int .i64 v5], .blk [.sl (.int .i64) v6 v7, .int .i64 v8, .sl (.pair (.int .i64) (.int .i64)) v9 v10]])
def corbelref12_Can_j0_E1 {R : Type} (K : EX → St → Option R) : Int → Int → Int → Int → Int → Bool → List Int → Int → Bool → List (Int × Int) → Option R := fun v0 v1 v2 v3 v4 v5 v6 v7 v8 v9 => K .normal (mkSt 52 [] corbelref12_Can_x0.keep [.ptr 0 0, .ptr 1 0, .junk] [.blk [.int .i64 v0, .int .i64 v1, .int .i64 v2, .int .i64 v3, .int .i64 v4], .blk [.sl (.int .i64) v5 v6, .int .i64 v7, .sl (.pair (.int .i64) (.int .i64)) v8 v9]])
def corbelref12_Can_j0_S (v_14420 : Bool) (ga_14421 : Int) (gb_14422 : Int) (gc_14423 : Int) (gd_14424 : Int) (ge_14425 : Int) (va_14426 : Bool) (vb_14427 : List Int) (vc_14428 : Int) (vd_14429 : Bool) (ve_14430 : List (Int × Int)) : St := mkSt 52 [] corbelref12_Can_c0.keep [.ptr 0 0, .ptr 1 0, .bool v_14420] [.blk [.int .i64 ga_14421, .int .i64 gb_14422, .int .i64 gc_14423, .int .i64 gd_14424, .int .i64 ge_14425], .blk [.sl (.int .i64) va_14426 vb_14427, .int .i64 vc_14428, .sl (.pair (.int .i64) (.int .i64)) vd_14429 ve_14430]]
def corbelref12_Can_j0_sh : Rd (List AV × List HE) := .pair (.cons (.ptr 0 0) (.cons (.ptr 1 0) (.cons .bool Rd.nil))) (.cons (.blk (.cons (.int .i64) (.cons (.int .i64) (.cons (.int .i64) (.cons (.int .i64) (.cons (.int .i64) Rd.nil)))))) (.cons (.blk (.cons (.sl (.int .i64)) (.cons (.int .i64) (.cons (.sl (.pair (.int .i64) (.int .i64))) Rd.nil)))) Rd.nil))
def corbelref12_Can_j0_a {R : Type} (k : Nat) : Alt R := { n := 52, v := [], sh := corbelref12_Can_j0_sh, g := fun K x => corbelref12_Can_j0 (fun y0 => corbelref12_Can_j0_E0 K y0 x.2.1.1 x.2.1.2.1 x.2.1.2.2.1 x.2.1.2.2.2.1 x.2.1.2.2.2.2.1 x.2.2.1.1.1 x.2.2.1.1.2 x.2.2.1.2.1 x.2.2.1.2.2.1.1 x.2.2.1.2.2.1.2) (corbelref12_Can_j0_E1 K x.2.1.1 x.2.1.2.1 x.2.1.2.2.1 x.2.1.2.2.2.1 x.2.1.2.2.2.2.1 x.2.2.1.1.1 x.2.2.1.1.2 x.2.2.1.2.1 x.2.2.1.2.2.1.1 x.2.2.1.2.2.1.2) k x.1.2.2.1 }
def corbelref12_Can_l1_E0 {R : Type} (K : EX → St → Option R) : Bool → Option R := fun v0 => K .ret (mkSt 52 [] corbelref12_Can_x1.keep [.bool v0] [])
def corbelref12_Can_l1_E1 {R : Type} (K : EX → St → Option R) : Option R := K (.exit 0) (mkSt 52 [] corbelref12_Can_x1.keep [.junk] [])
def corbelref12_Can_l1_S (i_14452 : Int) (ga_14453 : Int) (gb_14454 : Int) (gc_14455 : Int) (gd_14456 : Int) (ge_14457 : Int) (va_14458 : Bool) (vb_14459 : List Int) (vc_14460 : Int) (vd_14461 : Bool) (ve_14462 : List (Int × Int)) : St := mkSt 52 [] corbelref12_Can_c1.keep [.ptr 0 0, .ptr 1 0, .int .i64 i_14452] [.blk [.int .i64 ga_14453, .int .i64 gb_14454, .int .i64 gc_14455, .int .i64 gd_14456, .int .i64 ge_14457], .blk [.sl (.int .i64) va_14458 vb_14459, .int .i64 vc_14460, .sl (.pair (.int .i64) (.int .i64)) vd_14461 ve_14462]]
def corbelref12_Can_l1_sh : Rd (List AV × List HE) := .pair (.cons (.ptr 0 0) (.cons (.ptr 1 0) (.cons (.int .i64) Rd.nil))) (.cons (.blk (.cons (.int .i64) (.cons (.int .i64) (.cons (.int .i64) (.cons (.int .i64) (.cons (.int .i64) Rd.nil)))))) (.cons (.blk (.cons (.sl (.int .i64)) (.cons (.int .i64) (.cons (.sl (.pair (.int .i64) (.int .i64))) Rd.nil)))) Rd.nil))
def corbelref12_Can_l1_a {R : Type} (k : Nat) : Alt R := { n := 52, v := [], sh := corbelref12_Can_l1_sh, g := fun K x => corbelref12_Can_l1 (corbelref12_Can_l1_E0 K) (corbelref12_Can_l1_E1 K) k x.2.1.2.2.1 x.2.2.1.1.2 k x.1.2.2.1 }
def corbelref12_Can_j2_E0 {R : Type} (K : EX → St → Option R) : Bool → Int → Int → Int → Int → Int → Int → Bool → List Int → Int → Bool → List (Int × Int) → Option R := fun v0 v1 v2 v3 v4 v5 v6 v7 v8 v9 v10 v11 => K .ret (mkSt 52 [] corbelref12_Can_x2.keep [.ptr 0 0, .ptr 1 0, .bool v0, .int .i64 v1] [.blk [.int .i64 v2, .int .i64 v3, .int .i64 v4, .int .i64 v5, .int .i64 v6], .blk [.sl (.int .i64) v7 v8, .int .i64 v9, .sl (.pair (.int .i64) (.int .i64)) v10 v11]])
def corbelref12_Can_j2_E1 {R : Type} (K : EX → St → Option R) : Int → Int → Int → Int → Int → Int → Bool → List Int → Int → Bool → List (Int × Int) → Option R := fun v0 v1 v2 v3 v4 v5 v6 v7 v8 v9 v10 => K .normal (mkSt 52 [] corbelref12_Can_x2.keep [.ptr 0 0, .ptr 1 0, .junk, .int .i64 v0] [.blk [.int .i64 v1, .int .i64 v2, .int .i64 v3, .int .i64 v4, .int .i64 v5], .blk [.sl (.int .i64) v6 v7, .int .i64 v8, .sl (.pair (.int .i64) (.int .i64)) v9 v10]])
def corbelref12_Can_j2_S (i_14466 : Int) (v_14467 : Bool) (ga_14468 : Int) (gb_14469 : Int) (gc_14470 : Int) (gd_14471 : Int) (ge_14472 : Int) (va_14473 : Bool) (vb_14474 : List Int) (vc_14475 : Int) (vd_14476 : Bool) (ve_14477 : List (Int × Int)) : St := mkSt 52 [] corbelref12_Can_c2.keep [.ptr 0 0, .ptr 1 0, .int .i64 i_14466, .bool v_14467] [.blk [.int .i64 ga_14468, .int .i64 gb_14469, .int .i64 gc_14470, .int .i64 gd_14471, .int .i64 ge_14472], .blk [.sl (.int .i64) va_14473 vb_14474, .int .i64 vc_14475, .sl (.pair (.int .i64) (.int .i64)) vd_14476 ve_14477]]
def corbelref12_Can_j2_sh : Rd (List AV × List HE) := .pair (.cons (.ptr 0 0) (.cons (.ptr 1 0) (.cons (.int .i64) (.cons .bool Rd.nil)))) (.cons (.blk (.cons (.int .i64) (.cons (.int .i64) (.cons (.int .i64) (.cons (.int .i64) (.cons (.int .i64) Rd.nil)))))) (.cons (.blk (.cons (.sl (.int .i64)) (.cons (.int .i64) (.cons (.sl (.pair (.int .i64) (.int .i64))) Rd.nil)))) Rd.nil))
def corbelref12_Can_j2_a {R : Type} (k : Nat) : Alt R := { n := 52, v := [], sh := corbelref12_Can_j2_sh, g := fun K x => corbelref12_Can_j2 (fun y0 => corbelref12_Can_j2_E0 K y0 x.1.2.2.1 x.2.1.1 x.2.1.2.1 x.2.1.2.2.1 x.2.1.2.2.2.1 x.2.1.2.2.2.2.1 x.2.2.1.1.1 x.2.2.1.1.2 x.2.2.1.2.1 x.2.2.1.2.2.1.1 x.2.2.1.2.2.1.2) (corbelref12_Can_j2_E1 K x.1.2.2.1 x.2.1.1 x.2.1.2.1 x.2.1.2.2.1 x.2.1.2.2.2.1 x.2.1.2.2.2.2.1 x.2.2.1.1.1 x.2.2.1.1.2 x.2.2.1.2.1 x.2.2.1.2.2.1.1 x.2.2.1.2.2.1.2) k x.1.2.2.2.1 }
def corbelref12_Can_O {R : Type} (k : Nat) : CutK R := cutsO [[corbelref12_Can_j0_a k], [corbelref12_Can_l1_a k], [corbelref12_Can_j2_a k]]
noncomputable def corbelref12_Can_b : List Ob := obs (bodyOf Try.f43) corbelref12_Can_h
noncomputable def corbelref12_Can_I {R : Type} (k : Nat) : InlT R := inone
theorem corbelref12_Can_j0_eq {R : Type} (k : Nat) (K : EX → St → Option R) (v_14420 : Bool) (ga_14421 : Int) (gb_14422 : Int) (gc_14423 : Int) (gd_14424 : Int) (ge_14425 : Int) (va_14426 : Bool) (vb_14427 : List Int) (vc_14428 : Int) (vd_14429 : Bool) (ve_14430 : List (Int × Int)) : corbelref12_Can_j0 (fun y0 => corbelref12_Can_j0_E0 K y0 ga_14421 gb_14422 gc_14423 gd_14424 ge_14425 va_14426 vb_14427 vc_14428 vd_14429 ve_14430) (corbelref12_Can_j0_E1 K ga_14421 gb_14422 gc_14423 gd_14424 ge_14425 va_14426 vb_14427 vc_14428 vd_14429 ve_14430) k v_14420 = ev tab (corbelref12_Can_F k) (inlK tab (corbelref12_Can_F k) (corbelref12_Can_I k) 0) (corbelref12_Can_O k) (obB corbelref12_Can_b 0) (obH corbelref12_Can_b 0) (corbelref12_Can_j0_S v_14420 ga_14421 gb_14422 gc_14423 gd_14424 ge_14425 va_14426 vb_14427 vc_14428 vd_14429 ve_14430) (fun e st => optb (clean corbelref12_Can_x0 st) fun st => K e st) := by kernel_rfl
theorem corbelref12_Can_j0_ok {R : Type} (k : Nat)  : ObOK (R := R) tab (corbelref12_Can_F k) (inlK tab (corbelref12_Can_F k) (corbelref12_Can_I k) 0) (corbelref12_Can_O k) (.join corbelref12_Can_c0 corbelref12_Can_x0 0 (obB corbelref12_Can_b 0) (obH corbelref12_Can_b 0)) :=
  join_ok (l := [corbelref12_Can_j0_a k]) (by kernel_rfl) ⟨(fun K x => (corbelref12_Can_j0_eq k K x.1.2.2.1 x.2.1.1 x.2.1.2.1 x.2.1.2.2.1 x.2.1.2.2.2.1 x.2.1.2.2.2.2.1 x.2.2.1.1.1 x.2.2.1.1.2 x.2.2.1.2.1 x.2.2.1.2.2.1.1 x.2.2.1.2.2.1.2).trans (by kernel_rfl)), trivial⟩
theorem corbelref12_Can_l1_eq {R : Type} (k : Nat) (K : EX → St → Option R) (ga_14453 : Int) (gb_14454 : Int) (gc_14455 : Int) (gd_14456 : Int) (ge_14457 : Int) (va_14458 : Bool) (vb_14459 : List Int) (vc_14460 : Int) (vd_14461 : Bool) (ve_14462 : List (Int × Int)) : ∀ (j : Nat) (i_14452 : Int), corbelref12_Can_l1 (corbelref12_Can_l1_E0 K) (corbelref12_Can_l1_E1 K) k gc_14455 vb_14459 j i_14452 = iter corbelref12_Can_c1 corbelref12_Can_x1 (ev tab (corbelref12_Can_F k) (inlK tab (corbelref12_Can_F k) (corbelref12_Can_I k) 0) (corbelref12_Can_O k) (obB corbelref12_Can_b 1) (obH corbelref12_Can_b 1)) j (corbelref12_Can_l1_S i_14452 ga_14453 gb_14454 gc_14455 gd_14456 ge_14457 va_14458 vb_14459 vc_14460 vd_14461 ve_14462) K
  | 0, _ => rfl
  | j + 1, i_14452 => by
    have e : corbelref12_Can_l1 (corbelref12_Can_l1_E0 K) (corbelref12_Can_l1_E1 K) k gc_14455 vb_14459 j = fun i_14452 => iter corbelref12_Can_c1 corbelref12_Can_x1 (ev tab (corbelref12_Can_F k) (inlK tab (corbelref12_Can_F k) (corbelref12_Can_I k) 0) (corbelref12_Can_O k) (obB corbelref12_Can_b 1) (obH corbelref12_Can_b 1)) j (corbelref12_Can_l1_S i_14452 ga_14453 gb_14454 gc_14455 gd_14456 ge_14457 va_14458 vb_14459 vc_14460 vd_14461 ve_14462) K := by funext i_14452; exact corbelref12_Can_l1_eq k K ga_14453 gb_14454 gc_14455 gd_14456 ge_14457 va_14458 vb_14459 vc_14460 vd_14461 ve_14462 j i_14452
    show corbelref12_Can_l1s (corbelref12_Can_l1 (corbelref12_Can_l1_E0 K) (corbelref12_Can_l1_E1 K) k gc_14455 vb_14459 j) (corbelref12_Can_l1_E0 K) (corbelref12_Can_l1_E1 K) k gc_14455 vb_14459 i_14452 = _
    rw [e, iter_succ]; kernel_rfl
theorem corbelref12_Can_l1_ok {R : Type} (k : Nat)  : ObOK (R := R) tab (corbelref12_Can_F k) (inlK tab (corbelref12_Can_F k) (corbelref12_Can_I k) 0) (corbelref12_Can_O k) (.loop corbelref12_Can_c1 corbelref12_Can_x1 1 (obB corbelref12_Can_b 1) (obH corbelref12_Can_b 1)) :=
  loop_ok (l := [corbelref12_Can_l1_a k]) (by kernel_rfl) ⟨(fun K x => ⟨k, (corbelref12_Can_l1_eq k K x.2.1.1 x.2.1.2.1 x.2.1.2.2.1 x.2.1.2.2.2.1 x.2.1.2.2.2.2.1 x.2.2.1.1.1 x.2.2.1.1.2 x.2.2.1.2.1 x.2.2.1.2.2.1.1 x.2.2.1.2.2.1.2 k x.1.2.2.1).trans (by kernel_rfl)⟩), trivial⟩
theorem corbelref12_Can_j2_eq {R : Type} (k : Nat) (K : EX → St → Option R) (i_14466 : Int) (v_14467 : Bool) (ga_14468 : Int) (gb_14469 : Int) (gc_14470 : Int) (gd_14471 : Int) (ge_14472 : Int) (va_14473 : Bool) (vb_14474 : List Int) (vc_14475 : Int) (vd_14476 : Bool) (ve_14477 : List (Int × Int)) : corbelref12_Can_j2 (fun y0 => corbelref12_Can_j2_E0 K y0 i_14466 ga_14468 gb_14469 gc_14470 gd_14471 ge_14472 va_14473 vb_14474 vc_14475 vd_14476 ve_14477) (corbelref12_Can_j2_E1 K i_14466 ga_14468 gb_14469 gc_14470 gd_14471 ge_14472 va_14473 vb_14474 vc_14475 vd_14476 ve_14477) k v_14467 = ev tab (corbelref12_Can_F k) (inlK tab (corbelref12_Can_F k) (corbelref12_Can_I k) 0) (corbelref12_Can_O k) (obB corbelref12_Can_b 2) (obH corbelref12_Can_b 2) (corbelref12_Can_j2_S i_14466 v_14467 ga_14468 gb_14469 gc_14470 gd_14471 ge_14472 va_14473 vb_14474 vc_14475 vd_14476 ve_14477) (fun e st => optb (clean corbelref12_Can_x2 st) fun st => K e st) := by kernel_rfl
theorem corbelref12_Can_j2_ok {R : Type} (k : Nat)  : ObOK (R := R) tab (corbelref12_Can_F k) (inlK tab (corbelref12_Can_F k) (corbelref12_Can_I k) 0) (corbelref12_Can_O k) (.join corbelref12_Can_c2 corbelref12_Can_x2 2 (obB corbelref12_Can_b 2) (obH corbelref12_Can_b 2)) :=
  join_ok (l := [corbelref12_Can_j2_a k]) (by kernel_rfl) ⟨(fun K x => (corbelref12_Can_j2_eq k K x.1.2.2.1 x.1.2.2.2.1 x.2.1.1 x.2.1.2.1 x.2.1.2.2.1 x.2.1.2.2.2.1 x.2.1.2.2.2.2.1 x.2.2.1.1.1 x.2.2.1.1.2 x.2.2.1.2.1 x.2.2.1.2.2.1.1 x.2.2.1.2.2.1.2).trans (by kernel_rfl)), trivial⟩
theorem corbelref12_Can_cuts {R : Type} (k : Nat) : ∀ c, Try.f43.body = some c → CutsOK (R := R) tab (corbelref12_Can_F k) (inlK tab (corbelref12_Can_F k) (corbelref12_Can_I k) 0) (corbelref12_Can_O k) c corbelref12_Can_h :=
  cuts_of (l := [.join corbelref12_Can_c0 corbelref12_Can_x0 0 (obB corbelref12_Can_b 0) (obH corbelref12_Can_b 0), .loop corbelref12_Can_c1 corbelref12_Can_x1 1 (obB corbelref12_Can_b 1) (obH corbelref12_Can_b 1), .join corbelref12_Can_c2 corbelref12_Can_x2 2 (obB corbelref12_Can_b 2) (obH corbelref12_Can_b 2)]) (by kernel_rfl) ⟨corbelref12_Can_j0_ok k, corbelref12_Can_l1_ok k, corbelref12_Can_j2_ok k, trivial⟩
theorem corbelref12_Can_iok {R : Type} (k : Nat) : IOK Try.prog tab (corbelref12_Can_F k) (corbelref12_Can_I (R := R) k) := iok_none
theorem corbelref12_Can_ev (k : Nat) (x : (corbelref12_Can_p k).τ.den) : evalF tab (corbelref12_Can_F k) (corbelref12_Can_p k) (corbelref12_Can_I k) 0 (corbelref12_Can_O k) corbelref12_Can_h Try.f43 x = (corbelref12_Can_p k).f x := by kernel_rfl
theorem corbelref12_Can_ok (k : Nat) : PFOK Try.prog tab 43 (corbelref12_Can_p k) := pfok mixed tabOK (corbelref12_Can_fok k) Try.func43 (I := corbelref12_Can_I k) (d := 0) (corbelref12_Can_iok k) (Q := corbelref12_Can_O k) (hi := corbelref12_Can_h) (corbelref12_Can_cuts k) (corbelref12_Can_ev k)
end Go.Proofs.Ytcikcikcjimcjaa.Ev
