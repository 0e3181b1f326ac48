/- tail_Length, told on plain data. Written by program. -/
import Derived.Test.YthilffdaofaalaaEgeom_Capacity
import Derived.Test.YthilffdaofaalaaEtail_Source
set_option linter.unusedVariables false
set_option maxRecDepth 1000000
namespace Go.Proofs.Ythilffdaofaalaa.Ev
open Go Go.RowKit Go.Proofs
def tail_Length_l0s {R : Type} (rc : Int → Option R) (e0 : Int → Option R) (k : Nat) (zone_1238 : Int) (ga_1240 : Int) (gb_1241 : Int) (gc_1242 : Int) (gd_1243 : Int) (ge_1244 : Int) (va_1245 : Bool) (vb_1246 : List Int) (vc_1247 : Int) (vd_1248 : Bool) (ve_1249 : List (Int × Int)) (n_1239 : Int) : Option R :=
  optb (geom_Capacity k ga_1240 gb_1241 gc_1242 gd_1243 ge_1244) fun r_1251 =>
  bif (decide (n_1239 < r_1251)) then
    optb (tail_Source k ga_1240 gb_1241 gc_1242 gd_1243 ge_1244 zone_1238 va_1245 vb_1246 vc_1247 vd_1248 ve_1249 n_1239) fun r_1253 =>
    bif (decide (r_1253.1 = (0 : Int))) then
      e0 n_1239
    else rc (wrap64 (n_1239 + (1 : Int)))
  else e0 n_1239
def tail_Length_l0 {R : Type} (e0 : Int → Option R) (k : Nat) (zone_1238 : Int) (ga_1240 : Int) (gb_1241 : Int) (gc_1242 : Int) (gd_1243 : Int) (ge_1244 : Int) (va_1245 : Bool) (vb_1246 : List Int) (vc_1247 : Int) (vd_1248 : Bool) (ve_1249 : List (Int × Int)) : Nat → Int → Option R
  | 0 => fun _ => none
  | j + 1 => tail_Length_l0s (tail_Length_l0 e0 k zone_1238 ga_1240 gb_1241 gc_1242 gd_1243 ge_1244 va_1245 vb_1246 vc_1247 vd_1248 ve_1249 j) e0 k zone_1238 ga_1240 gb_1241 gc_1242 gd_1243 ge_1244 va_1245 vb_1246 vc_1247 vd_1248 ve_1249
def tail_Length (k : Nat) (ga_1227 : Int) (gb_1228 : Int) (gc_1229 : Int) (gd_1230 : Int) (ge_1231 : Int) (zone_1232 : Int) (va_1233 : Bool) (vb_1234 : List Int) (vc_1235 : Int) (vd_1236 : Bool) (ve_1237 : List (Int × Int)) : Option Int :=
  tail_Length_l0 (fun n_1254 =>
    some n_1254) k zone_1232 ga_1227 gb_1228 gc_1229 gd_1230 ge_1231 va_1233 vb_1234 vc_1235 vd_1236 ve_1237 k (0 : Int)
def tail_Length_p (k : Nat) : PF := { ps := [(true, 5), (false, 1), (true, 3)], rs := [(false, 1)], τ := (.pair (.pair (.int .i64) (.pair (.int .i64) (.pair (.int .i64) (.pair (.int .i64) (.int .i64))))) (.pair (.int .i64) (.pair (.sl (.int .i64)) (.pair (.int .i64) (.sl (.pair (.int .i64) (.int .i64))))))), σ := (.int .i64), f := fun x => tail_Length k x.1.1 x.1.2.1 x.1.2.2.1 x.1.2.2.2.1 x.1.2.2.2.2 x.2.1 x.2.2.1.1 x.2.2.1.2 x.2.2.2.1 x.2.2.2.2.1 x.2.2.2.2.2 }
def tail_Length_F (k : Nat) : PT := fcons 22 (geom_Capacity_p k) <| fcons 19 (tail_Source_p k) <| fnone
theorem tail_Length_fok (k : Nat) : FOK Try.prog tab (tail_Length_F k) := fok_cons (geom_Capacity_ok k) Try.call22 <| fok_cons (tail_Source_ok k) Try.call19 <| fok_none
def tail_Length_c0 : Cl := { keep := [1, 3, 5, 7], hl := 2, ad := [], adc := [], bump := [] }
def tail_Length_x0 : Cl := { keep := [7], hl := 0, ad := [], adc := [], bump := [] }
def tail_Length_h : Hint := (.sq .no (.sq .no (.sq (.lp tail_Length_c0 tail_Length_x0 0 .no) .no)))
def tail_Length_l0_E0 {R : Type} (K : EX → St → Option R) : Int → Option R := fun v0 => K (.exit 0) (mkSt 27 [] tail_Length_x0.keep [.int .i64 v0] [])
def tail_Length_l0_S (zone_1238 : Int) (n_1239 : Int) (ga_1240 : Int) (gb_1241 : Int) (gc_1242 : Int) (gd_1243 : Int) (ge_1244 : Int) (va_1245 : Bool) (vb_1246 : List Int) (vc_1247 : Int) (vd_1248 : Bool) (ve_1249 : List (Int × Int)) : St := mkSt 27 [] tail_Length_c0.keep [.int .i64 zone_1238, .ptr 0 0, .ptr 1 0, .int .i64 n_1239] [.blk [.int .i64 ga_1240, .int .i64 gb_1241, .int .i64 gc_1242, .int .i64 gd_1243, .int .i64 ge_1244], .blk [.sl (.int .i64) va_1245 vb_1246, .int .i64 vc_1247, .sl (.pair (.int .i64) (.int .i64)) vd_1248 ve_1249]]
def tail_Length_l0_sh : Rd (List AV × List HE) := .pair (.cons (.int .i64) (.cons (.ptr 0 0) (.cons (.ptr 1 0) (.cons (.int .i64) Rd.nil)))) (.cons (.blk (.cons (.int .i64) (.cons (.int .i64) (.cons (.int .i64) (.cons (.int .i64) (.cons (.int .i64) Rd.nil)))))) (.cons (.blk (.cons (.sl (.int .i64)) (.cons (.int .i64) (.cons (.sl (.pair (.int .i64) (.int .i64))) Rd.nil)))) Rd.nil))
def tail_Length_l0_a {R : Type} (k : Nat) : Alt R := { n := 27, v := [], sh := tail_Length_l0_sh, g := fun K x => tail_Length_l0 (tail_Length_l0_E0 K) k x.1.1 x.2.1.1 x.2.1.2.1 x.2.1.2.2.1 x.2.1.2.2.2.1 x.2.1.2.2.2.2.1 x.2.2.1.1.1 x.2.2.1.1.2 x.2.2.1.2.1 x.2.2.1.2.2.1.1 x.2.2.1.2.2.1.2 k x.1.2.2.2.1 }
def tail_Length_O {R : Type} (k : Nat) : CutK R := cutsO [[tail_Length_l0_a k]]
noncomputable def tail_Length_b : List Ob := obs (bodyOf Try.f17) tail_Length_h
noncomputable def tail_Length_I {R : Type} (k : Nat) : InlT R := inone
theorem tail_Length_l0_eq {R : Type} (k : Nat) (K : EX → St → Option R) (zone_1238 : Int) (ga_1240 : Int) (gb_1241 : Int) (gc_1242 : Int) (gd_1243 : Int) (ge_1244 : Int) (va_1245 : Bool) (vb_1246 : List Int) (vc_1247 : Int) (vd_1248 : Bool) (ve_1249 : List (Int × Int)) : ∀ (j : Nat) (n_1239 : Int), tail_Length_l0 (tail_Length_l0_E0 K) k zone_1238 ga_1240 gb_1241 gc_1242 gd_1243 ge_1244 va_1245 vb_1246 vc_1247 vd_1248 ve_1249 j n_1239 = iter tail_Length_c0 tail_Length_x0 (ev tab (tail_Length_F k) (inlK tab (tail_Length_F k) (tail_Length_I k) 0) (tail_Length_O k) (obB tail_Length_b 0) (obH tail_Length_b 0)) j (tail_Length_l0_S zone_1238 n_1239 ga_1240 gb_1241 gc_1242 gd_1243 ge_1244 va_1245 vb_1246 vc_1247 vd_1248 ve_1249) K
  | 0, _ => rfl
  | j + 1, n_1239 => by
    have e : tail_Length_l0 (tail_Length_l0_E0 K) k zone_1238 ga_1240 gb_1241 gc_1242 gd_1243 ge_1244 va_1245 vb_1246 vc_1247 vd_1248 ve_1249 j = fun n_1239 => iter tail_Length_c0 tail_Length_x0 (ev tab (tail_Length_F k) (inlK tab (tail_Length_F k) (tail_Length_I k) 0) (tail_Length_O k) (obB tail_Length_b 0) (obH tail_Length_b 0)) j (tail_Length_l0_S zone_1238 n_1239 ga_1240 gb_1241 gc_1242 gd_1243 ge_1244 va_1245 vb_1246 vc_1247 vd_1248 ve_1249) K := by funext n_1239; exact tail_Length_l0_eq k K zone_1238 ga_1240 gb_1241 gc_1242 gd_1243 ge_1244 va_1245 vb_1246 vc_1247 vd_1248 ve_1249 j n_1239
    show tail_Length_l0s (tail_Length_l0 (tail_Length_l0_E0 K) k zone_1238 ga_1240 gb_1241 gc_1242 gd_1243 ge_1244 va_1245 vb_1246 vc_1247 vd_1248 ve_1249 j) (tail_Length_l0_E0 K) k zone_1238 ga_1240 gb_1241 gc_1242 gd_1243 ge_1244 va_1245 vb_1246 vc_1247 vd_1248 ve_1249 n_1239 = _
    rw [e, iter_succ]; kernel_rfl
theorem tail_Length_l0_ok {R : Type} (k : Nat)  : ObOK (R := R) tab (tail_Length_F k) (inlK tab (tail_Length_F k) (tail_Length_I k) 0) (tail_Length_O k) (.loop tail_Length_c0 tail_Length_x0 0 (obB tail_Length_b 0) (obH tail_Length_b 0)) :=
  loop_ok (l := [tail_Length_l0_a k]) (by kernel_rfl) ⟨(fun K x => ⟨k, (tail_Length_l0_eq k K x.1.1 x.2.1.1 x.2.1.2.1 x.2.1.2.2.1 x.2.1.2.2.2.1 x.2.1.2.2.2.2.1 x.2.2.1.1.1 x.2.2.1.1.2 x.2.2.1.2.1 x.2.2.1.2.2.1.1 x.2.2.1.2.2.1.2 k x.1.2.2.2.1).trans (by kernel_rfl)⟩), trivial⟩
theorem tail_Length_cuts {R : Type} (k : Nat) : ∀ c, Try.f17.body = some c → CutsOK (R := R) tab (tail_Length_F k) (inlK tab (tail_Length_F k) (tail_Length_I k) 0) (tail_Length_O k) c tail_Length_h :=
  cuts_of (l := [.loop tail_Length_c0 tail_Length_x0 0 (obB tail_Length_b 0) (obH tail_Length_b 0)]) (by kernel_rfl) ⟨tail_Length_l0_ok k, trivial⟩
theorem tail_Length_iok {R : Type} (k : Nat) : IOK Try.prog tab (tail_Length_F k) (tail_Length_I (R := R) k) := iok_none
theorem tail_Length_ev (k : Nat) (x : (tail_Length_p k).τ.den) : evalF tab (tail_Length_F k) (tail_Length_p k) (tail_Length_I k) 0 (tail_Length_O k) tail_Length_h Try.f17 x = (tail_Length_p k).f x := by kernel_rfl
theorem tail_Length_ok (k : Nat) : PFOK Try.prog tab 17 (tail_Length_p k) := pfok mixed tabOK (tail_Length_fok k) Try.func17 (I := tail_Length_I k) (d := 0) (tail_Length_iok k) (Q := tail_Length_O k) (hi := tail_Length_h) (tail_Length_cuts k) (tail_Length_ev k)
end Go.Proofs.Ythilffdaofaalaa.Ev
