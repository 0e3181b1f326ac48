/- tail_Length, told on plain data. Written by program. -/
import Derived.Test.YtcikcikcjimcjaaEgeom_Capacity
import Derived.Test.YtcikcikcjimcjaaEtail_Source
set_option linter.unusedVariables false
set_option maxRecDepth 1000000
namespace Go.Proofs.Ytcikcikcjimcjaa.Ev
open Go Go.RowKit Go.Proofs
def tail_Length_l0s {R : Type} (rc : Int → Option R) (e0 : Int → Option R) (k : Nat) (zone_24261 : Int) (ga_24263 : Int) (gb_24264 : Int) (gc_24265 : Int) (gd_24266 : Int) (ge_24267 : Int) (va_24268 : Bool) (vb_24269 : List Int) (vc_24270 : Int) (vd_24271 : Bool) (ve_24272 : List (Int × Int)) (n_24262 : Int) : Option R :=
  optb (geom_Capacity k ga_24263 gb_24264 gc_24265 gd_24266 ge_24267) fun r_24274 =>
  bif (decide (n_24262 < r_24274)) then
    optb (tail_Source k ga_24263 gb_24264 gc_24265 gd_24266 ge_24267 zone_24261 va_24268 vb_24269 vc_24270 vd_24271 ve_24272 n_24262) fun r_25308 =>
    bif (decide (r_25308.1 = (0 : Int))) then
      e0 n_24262
    else rc (wrap64 (n_24262 + (1 : Int)))
  else e0 n_24262
def tail_Length_l0 {R : Type} (e0 : Int → Option R) (k : Nat) (zone_24261 : Int) (ga_24263 : Int) (gb_24264 : Int) (gc_24265 : Int) (gd_24266 : Int) (ge_24267 : Int) (va_24268 : Bool) (vb_24269 : List Int) (vc_24270 : Int) (vd_24271 : Bool) (ve_24272 : List (Int × Int)) : Nat → Int → Option R
  | 0 => fun _ => none
  | j + 1 => tail_Length_l0s (tail_Length_l0 e0 k zone_24261 ga_24263 gb_24264 gc_24265 gd_24266 ge_24267 va_24268 vb_24269 vc_24270 vd_24271 ve_24272 j) e0 k zone_24261 ga_24263 gb_24264 gc_24265 gd_24266 ge_24267 va_24268 vb_24269 vc_24270 vd_24271 ve_24272
def tail_Length (k : Nat) (ga_24250 : Int) (gb_24251 : Int) (gc_24252 : Int) (gd_24253 : Int) (ge_24254 : Int) (zone_24255 : Int) (va_24256 : Bool) (vb_24257 : List Int) (vc_24258 : Int) (vd_24259 : Bool) (ve_24260 : List (Int × Int)) : Option Int :=
  tail_Length_l0 (fun n_25309 =>
    some n_25309) k zone_24255 ga_24250 gb_24251 gc_24252 gd_24253 ge_24254 va_24256 vb_24257 vc_24258 vd_24259 ve_24260 k (0 : Int)
def tail_Length_p (k : Nat) : PF := { ps := [(true, 5), (false, 1), (true, 3)], rs := [(false, 1)], τ := (.pair (.pair (.int .i64) (.pair (.int .i64) (.pair (.int .i64) (.pair (.int .i64) (.int .i64))))) (.pair (.int .i64) (.pair (.sl (.int .i64)) (.pair (.int .i64) (.sl (.pair (.int .i64) (.int .i64))))))), σ := (.int .i64), f := fun x => tail_Length k x.1.1 x.1.2.1 x.1.2.2.1 x.1.2.2.2.1 x.1.2.2.2.2 x.2.1 x.2.2.1.1 x.2.2.1.2 x.2.2.2.1 x.2.2.2.2.1 x.2.2.2.2.2 }
def tail_Length_F (k : Nat) : PT := fcons 25 (geom_Capacity_p k) <| fcons 46 (tail_Source_p k) <| fnone
theorem tail_Length_fok (k : Nat) : FOK Try.prog tab (tail_Length_F k) := fok_cons (geom_Capacity_ok k) Try.call25 <| fok_cons (tail_Source_ok k) Try.call46 <| fok_none
def tail_Length_c0 : Cl := { keep := [1, 3, 5, 7], hl := 2, ad := [], adc := [], bump := [] }
def tail_Length_x0 : Cl := { keep := [7], hl := 0, ad := [], adc := [], bump := [] }
def tail_Length_h : Hint := (.sq .no (.sq .no (.sq (.lp tail_Length_c0 tail_Length_x0 0 .no) .no)))
def tail_Length_l0_E0 {R : Type} (K : EX → St → Option R) : Int → Option R := fun v0 => K (.exit 0) (mkSt 27 [] tail_Length_x0.keep [.int .i64 v0] [])
def tail_Length_l0_S (zone_24261 : Int) (n_24262 : Int) (ga_24263 : Int) (gb_24264 : Int) (gc_24265 : Int) (gd_24266 : Int) (ge_24267 : Int) (va_24268 : Bool) (vb_24269 : List Int) (vc_24270 : Int) (vd_24271 : Bool) (ve_24272 : List (Int × Int)) : St := mkSt 27 [] tail_Length_c0.keep [.int .i64 zone_24261, .ptr 0 0, .ptr 1 0, .int .i64 n_24262] [.blk [.int .i64 ga_24263, .int .i64 gb_24264, .int .i64 gc_24265, .int .i64 gd_24266, .int .i64 ge_24267], .blk [.sl (.int .i64) va_24268 vb_24269, .int .i64 vc_24270, .sl (.pair (.int .i64) (.int .i64)) vd_24271 ve_24272]]
def tail_Length_l0_sh : Rd (List AV × List HE) := .pair (.cons (.int .i64) (.cons (.ptr 0 0) (.cons (.ptr 1 0) (.cons (.int .i64) Rd.nil)))) (.cons (.blk (.cons (.int .i64) (.cons (.int .i64) (.cons (.int .i64) (.cons (.int .i64) (.cons (.int .i64) Rd.nil)))))) (.cons (.blk (.cons (.sl (.int .i64)) (.cons (.int .i64) (.cons (.sl (.pair (.int .i64) (.int .i64))) Rd.nil)))) Rd.nil))
def tail_Length_l0_a {R : Type} (k : Nat) : Alt R := { n := 27, v := [], sh := tail_Length_l0_sh, g := fun K x => tail_Length_l0 (tail_Length_l0_E0 K) k x.1.1 x.2.1.1 x.2.1.2.1 x.2.1.2.2.1 x.2.1.2.2.2.1 x.2.1.2.2.2.2.1 x.2.2.1.1.1 x.2.2.1.1.2 x.2.2.1.2.1 x.2.2.1.2.2.1.1 x.2.2.1.2.2.1.2 k x.1.2.2.2.1 }
def tail_Length_O {R : Type} (k : Nat) : CutK R := cutsO [[tail_Length_l0_a k]]
noncomputable def tail_Length_b : List Ob := obs (bodyOf Try.f27) tail_Length_h
noncomputable def tail_Length_I {R : Type} (k : Nat) : InlT R := inone
theorem tail_Length_l0_eq {R : Type} (k : Nat) (K : EX → St → Option R) (zone_24261 : Int) (ga_24263 : Int) (gb_24264 : Int) (gc_24265 : Int) (gd_24266 : Int) (ge_24267 : Int) (va_24268 : Bool) (vb_24269 : List Int) (vc_24270 : Int) (vd_24271 : Bool) (ve_24272 : List (Int × Int)) : ∀ (j : Nat) (n_24262 : Int), tail_Length_l0 (tail_Length_l0_E0 K) k zone_24261 ga_24263 gb_24264 gc_24265 gd_24266 ge_24267 va_24268 vb_24269 vc_24270 vd_24271 ve_24272 j n_24262 = iter tail_Length_c0 tail_Length_x0 (ev tab (tail_Length_F k) (inlK tab (tail_Length_F k) (tail_Length_I k) 0) (tail_Length_O k) (obB tail_Length_b 0) (obH tail_Length_b 0)) j (tail_Length_l0_S zone_24261 n_24262 ga_24263 gb_24264 gc_24265 gd_24266 ge_24267 va_24268 vb_24269 vc_24270 vd_24271 ve_24272) K
  | 0, _ => rfl
  | j + 1, n_24262 => by
    have e : tail_Length_l0 (tail_Length_l0_E0 K) k zone_24261 ga_24263 gb_24264 gc_24265 gd_24266 ge_24267 va_24268 vb_24269 vc_24270 vd_24271 ve_24272 j = fun n_24262 => iter tail_Length_c0 tail_Length_x0 (ev tab (tail_Length_F k) (inlK tab (tail_Length_F k) (tail_Length_I k) 0) (tail_Length_O k) (obB tail_Length_b 0) (obH tail_Length_b 0)) j (tail_Length_l0_S zone_24261 n_24262 ga_24263 gb_24264 gc_24265 gd_24266 ge_24267 va_24268 vb_24269 vc_24270 vd_24271 ve_24272) K := by funext n_24262; exact tail_Length_l0_eq k K zone_24261 ga_24263 gb_24264 gc_24265 gd_24266 ge_24267 va_24268 vb_24269 vc_24270 vd_24271 ve_24272 j n_24262
    show tail_Length_l0s (tail_Length_l0 (tail_Length_l0_E0 K) k zone_24261 ga_24263 gb_24264 gc_24265 gd_24266 ge_24267 va_24268 vb_24269 vc_24270 vd_24271 ve_24272 j) (tail_Length_l0_E0 K) k zone_24261 ga_24263 gb_24264 gc_24265 gd_24266 ge_24267 va_24268 vb_24269 vc_24270 vd_24271 ve_24272 n_24262 = _
    rw [e, iter_succ]; kernel_rfl
theorem tail_Length_l0_ok {R : Type} (k : Nat)  : ObOK (R := R) tab (tail_Length_F k) (inlK tab (tail_Length_F k) (tail_Length_I k) 0) (tail_Length_O k) (.loop tail_Length_c0 tail_Length_x0 0 (obB tail_Length_b 0) (obH tail_Length_b 0)) :=
  loop_ok (l := [tail_Length_l0_a k]) (by kernel_rfl) ⟨(fun K x => ⟨k, (tail_Length_l0_eq k K x.1.1 x.2.1.1 x.2.1.2.1 x.2.1.2.2.1 x.2.1.2.2.2.1 x.2.1.2.2.2.2.1 x.2.2.1.1.1 x.2.2.1.1.2 x.2.2.1.2.1 x.2.2.1.2.2.1.1 x.2.2.1.2.2.1.2 k x.1.2.2.2.1).trans (by kernel_rfl)⟩), trivial⟩
theorem tail_Length_cuts {R : Type} (k : Nat) : ∀ c, Try.f27.body = some c → CutsOK (R := R) tab (tail_Length_F k) (inlK tab (tail_Length_F k) (tail_Length_I k) 0) (tail_Length_O k) c tail_Length_h :=
  cuts_of (l := [.loop tail_Length_c0 tail_Length_x0 0 (obB tail_Length_b 0) (obH tail_Length_b 0)]) (by kernel_rfl) ⟨tail_Length_l0_ok k, trivial⟩
theorem tail_Length_iok {R : Type} (k : Nat) : IOK Try.prog tab (tail_Length_F k) (tail_Length_I (R := R) k) := iok_none
theorem tail_Length_ev (k : Nat) (x : (tail_Length_p k).τ.den) : evalF tab (tail_Length_F k) (tail_Length_p k) (tail_Length_I k) 0 (tail_Length_O k) tail_Length_h Try.f27 x = (tail_Length_p k).f x := by kernel_rfl
theorem tail_Length_ok (k : Nat) : PFOK Try.prog tab 27 (tail_Length_p k) := pfok mixed tabOK (tail_Length_fok k) Try.func27 (I := tail_Length_I k) (d := 0) (tail_Length_iok k) (Q := tail_Length_O k) (hi := tail_Length_h) (tail_Length_cuts k) (tail_Length_ev k)
end Go.Proofs.Ytcikcikcjimcjaa.Ev
