/- corbelref04_Drive, told on plain data. Written by program. -/
import Derived.Test.YthilffdaofaalaaEtab
set_option linter.unusedVariables false
set_option maxRecDepth 1000000
namespace Go.Proofs.Ythilffdaofaalaa.Ev
open Go Go.RowKit Go.Proofs
def corbelref04_Drive_j1 {R : Type} (e0 : Int → Option R) (k : Nat) (i_3045 : Int) : Option R :=
  e0 (wrap64 (i_3045 + (1 : Int)))
def corbelref04_Drive_k0 {R : Type} (rc : Int → Int → Option R) (e0 : Int → Option R) (k : Nat) : Int → Int → Option R := fun d_3052 i_3053 =>
  rc d_3052 i_3053
def corbelref04_Drive_l0s {R : Type} (rc : Int → Int → Option R) (e0 : Int → Option R) (k : Nat) (k_3034 : Int) (ga_3037 : Int) (d_3035 : Int) (i_3036 : Int) : Option R :=
  bif (decide (i_3036 ≤ k_3034)) then
    bif (decide ((wrap64 (d_3035 + (1 : Int))) = ga_3037)) then
      corbelref04_Drive_j1 (fun i_3053 => corbelref04_Drive_k0 rc e0 k (0 : Int) i_3053) k i_3036
    else corbelref04_Drive_j1 (fun i_3053 => corbelref04_Drive_k0 rc e0 k (wrap64 (d_3035 + (1 : Int))) i_3053) k i_3036
  else e0 d_3035
def corbelref04_Drive_l0 {R : Type} (e0 : Int → Option R) (k : Nat) (k_3034 : Int) (ga_3037 : Int) : Nat → Int → Int → Option R
  | 0 => fun _ _ => none
  | j + 1 => corbelref04_Drive_l0s (corbelref04_Drive_l0 e0 k k_3034 ga_3037 j) e0 k k_3034 ga_3037
def corbelref04_Drive (k : Nat) (ga_2995 : Int) (gb_2996 : Int) (gc_2997 : Int) (gd_2998 : Int) (ge_2999 : Int) (zone_3000 : Int) (row_3001 : Int) (k_3002 : Int) : Option Int :=
  bif (decide (ga_2995 = (0 : Int))) then
    none
  else corbelref04_Drive_l0 (fun d_3059 =>
    some d_3059) k k_3002 ga_2995 k (Int.tmod (wrap64 (zone_3000 + row_3001)) ga_2995) (0 : Int)
def corbelref04_Drive_p (k : Nat) : PF := { ps := [(true, 5), (false, 1), (false, 1), (false, 1)], rs := [(false, 1)], τ := (.pair (.pair (.int .i64) (.pair (.int .i64) (.pair (.int .i64) (.pair (.int .i64) (.int .i64))))) (.pair (.int .i64) (.pair (.int .i64) (.int .i64)))), σ := (.int .i64), f := fun x => corbelref04_Drive k x.1.1 x.1.2.1 x.1.2.2.1 x.1.2.2.2.1 x.1.2.2.2.2 x.2.1 x.2.2.1 x.2.2.2 }
def corbelref04_Drive_F (k : Nat) : PT := fnone
theorem corbelref04_Drive_fok (k : Nat) : FOK Try.prog tab (corbelref04_Drive_F k) := fok_none
def corbelref04_Drive_c0 : Cl := { keep := [3, 4, 10, 11], hl := 1, ad := [], adc := [], bump := [] }
def corbelref04_Drive_x0 : Cl := { keep := [10], hl := 0, ad := [], adc := [], bump := [] }
def corbelref04_Drive_c1 : Cl := { keep := [3, 4, 10, 11], hl := 1, ad := [], adc := [], bump := [] }
def corbelref04_Drive_x1 : Cl := { keep := [3, 4, 10, 11], hl := 1, ad := [], adc := [], bump := [] }
def corbelref04_Drive_h : Hint := (.sq .no (.sq .no (.sq .no (.sq (.sq .no (.lp corbelref04_Drive_c0 corbelref04_Drive_x0 0 (.sq .no (.ct corbelref04_Drive_c1 corbelref04_Drive_x1 1 .no .no)))) .no))))
def corbelref04_Drive_l0_E0 {R : Type} (K : EX → St → Option R) : Int → Option R := fun v0 => K (.exit 0) (mkSt 31 [] corbelref04_Drive_x0.keep [.int .i64 v0] [])
def corbelref04_Drive_l0_S (k_3034 : Int) (d_3035 : Int) (i_3036 : Int) (ga_3037 : Int) (gb_3038 : Int) (gc_3039 : Int) (gd_3040 : Int) (ge_3041 : Int) : St := mkSt 31 [] corbelref04_Drive_c0.keep [.int .i64 k_3034, .ptr 0 0, .int .i64 d_3035, .int .i64 i_3036] [.blk [.int .i64 ga_3037, .int .i64 gb_3038, .int .i64 gc_3039, .int .i64 gd_3040, .int .i64 ge_3041]]
def corbelref04_Drive_l0_sh : Rd (List AV × List HE) := .pair (.cons (.int .i64) (.cons (.ptr 0 0) (.cons (.int .i64) (.cons (.int .i64) Rd.nil)))) (.cons (.blk (.cons (.int .i64) (.cons (.int .i64) (.cons (.int .i64) (.cons (.int .i64) (.cons (.int .i64) Rd.nil)))))) Rd.nil)
def corbelref04_Drive_l0_a {R : Type} (k : Nat) : Alt R := { n := 31, v := [], sh := corbelref04_Drive_l0_sh, g := fun K x => corbelref04_Drive_l0 (corbelref04_Drive_l0_E0 K) k x.1.1 x.2.1.1 k x.1.2.2.1 x.1.2.2.2.1 }
def corbelref04_Drive_j1_E0 {R : Type} (K : EX → St → Option R) : Int → Int → Int → Int → Int → Int → Int → Int → Option R := fun v0 v1 v2 v3 v4 v5 v6 v7 => K .normal (mkSt 31 [] corbelref04_Drive_x1.keep [.int .i64 v0, .ptr 0 0, .int .i64 v1, .int .i64 v2] [.blk [.int .i64 v3, .int .i64 v4, .int .i64 v5, .int .i64 v6, .int .i64 v7]])
def corbelref04_Drive_j1_S (k_3043 : Int) (d_3044 : Int) (i_3045 : Int) (ga_3046 : Int) (gb_3047 : Int) (gc_3048 : Int) (gd_3049 : Int) (ge_3050 : Int) : St := mkSt 31 [] corbelref04_Drive_c1.keep [.int .i64 k_3043, .ptr 0 0, .int .i64 d_3044, .int .i64 i_3045] [.blk [.int .i64 ga_3046, .int .i64 gb_3047, .int .i64 gc_3048, .int .i64 gd_3049, .int .i64 ge_3050]]
def corbelref04_Drive_j1_sh : Rd (List AV × List HE) := .pair (.cons (.int .i64) (.cons (.ptr 0 0) (.cons (.int .i64) (.cons (.int .i64) Rd.nil)))) (.cons (.blk (.cons (.int .i64) (.cons (.int .i64) (.cons (.int .i64) (.cons (.int .i64) (.cons (.int .i64) Rd.nil)))))) Rd.nil)
def corbelref04_Drive_j1_a {R : Type} (k : Nat) : Alt R := { n := 31, v := [], sh := corbelref04_Drive_j1_sh, g := fun K x => corbelref04_Drive_j1 (fun y2 => corbelref04_Drive_j1_E0 K x.1.1 x.1.2.2.1 y2 x.2.1.1 x.2.1.2.1 x.2.1.2.2.1 x.2.1.2.2.2.1 x.2.1.2.2.2.2.1) k x.1.2.2.2.1 }
def corbelref04_Drive_O {R : Type} (k : Nat) : CutK R := cutsO [[corbelref04_Drive_l0_a k], [corbelref04_Drive_j1_a k]]
noncomputable def corbelref04_Drive_b : List Ob := obs (bodyOf Try.f83) corbelref04_Drive_h
noncomputable def corbelref04_Drive_I {R : Type} (k : Nat) : InlT R := inone
theorem corbelref04_Drive_l0_eq {R : Type} (k : Nat) (K : EX → St → Option R) (k_3034 : Int) (ga_3037 : Int) (gb_3038 : Int) (gc_3039 : Int) (gd_3040 : Int) (ge_3041 : Int) : ∀ (j : Nat) (d_3035 : Int) (i_3036 : Int), corbelref04_Drive_l0 (corbelref04_Drive_l0_E0 K) k k_3034 ga_3037 j d_3035 i_3036 = iter corbelref04_Drive_c0 corbelref04_Drive_x0 (ev tab (corbelref04_Drive_F k) (inlK tab (corbelref04_Drive_F k) (corbelref04_Drive_I k) 0) (corbelref04_Drive_O k) (obB corbelref04_Drive_b 0) (obH corbelref04_Drive_b 0)) j (corbelref04_Drive_l0_S k_3034 d_3035 i_3036 ga_3037 gb_3038 gc_3039 gd_3040 ge_3041) K
  | 0, _, _ => rfl
  | j + 1, d_3035, i_3036 => by
    have e : corbelref04_Drive_l0 (corbelref04_Drive_l0_E0 K) k k_3034 ga_3037 j = fun d_3035 i_3036 => iter corbelref04_Drive_c0 corbelref04_Drive_x0 (ev tab (corbelref04_Drive_F k) (inlK tab (corbelref04_Drive_F k) (corbelref04_Drive_I k) 0) (corbelref04_Drive_O k) (obB corbelref04_Drive_b 0) (obH corbelref04_Drive_b 0)) j (corbelref04_Drive_l0_S k_3034 d_3035 i_3036 ga_3037 gb_3038 gc_3039 gd_3040 ge_3041) K := by funext d_3035 i_3036; exact corbelref04_Drive_l0_eq k K k_3034 ga_3037 gb_3038 gc_3039 gd_3040 ge_3041 j d_3035 i_3036
    show corbelref04_Drive_l0s (corbelref04_Drive_l0 (corbelref04_Drive_l0_E0 K) k k_3034 ga_3037 j) (corbelref04_Drive_l0_E0 K) k k_3034 ga_3037 d_3035 i_3036 = _
    rw [e, iter_succ]; kernel_rfl
theorem corbelref04_Drive_l0_ok {R : Type} (k : Nat)  : ObOK (R := R) tab (corbelref04_Drive_F k) (inlK tab (corbelref04_Drive_F k) (corbelref04_Drive_I k) 0) (corbelref04_Drive_O k) (.loop corbelref04_Drive_c0 corbelref04_Drive_x0 0 (obB corbelref04_Drive_b 0) (obH corbelref04_Drive_b 0)) :=
  loop_ok (l := [corbelref04_Drive_l0_a k]) (by kernel_rfl) ⟨(fun K x => ⟨k, (corbelref04_Drive_l0_eq k K x.1.1 x.2.1.1 x.2.1.2.1 x.2.1.2.2.1 x.2.1.2.2.2.1 x.2.1.2.2.2.2.1 k x.1.2.2.1 x.1.2.2.2.1).trans (by kernel_rfl)⟩), trivial⟩
theorem corbelref04_Drive_j1_eq {R : Type} (k : Nat) (K : EX → St → Option R) (k_3043 : Int) (d_3044 : Int) (i_3045 : Int) (ga_3046 : Int) (gb_3047 : Int) (gc_3048 : Int) (gd_3049 : Int) (ge_3050 : Int) : corbelref04_Drive_j1 (fun y2 => corbelref04_Drive_j1_E0 K k_3043 d_3044 y2 ga_3046 gb_3047 gc_3048 gd_3049 ge_3050) k i_3045 = ev tab (corbelref04_Drive_F k) (inlK tab (corbelref04_Drive_F k) (corbelref04_Drive_I k) 0) (corbelref04_Drive_O k) (obB corbelref04_Drive_b 1) (obH corbelref04_Drive_b 1) (corbelref04_Drive_j1_S k_3043 d_3044 i_3045 ga_3046 gb_3047 gc_3048 gd_3049 ge_3050) (fun e st => optb (clean corbelref04_Drive_x1 st) fun st => K e st) := by kernel_rfl
theorem corbelref04_Drive_j1_ok {R : Type} (k : Nat)  : ObOK (R := R) tab (corbelref04_Drive_F k) (inlK tab (corbelref04_Drive_F k) (corbelref04_Drive_I k) 0) (corbelref04_Drive_O k) (.join corbelref04_Drive_c1 corbelref04_Drive_x1 1 (obB corbelref04_Drive_b 1) (obH corbelref04_Drive_b 1)) :=
  join_ok (l := [corbelref04_Drive_j1_a k]) (by kernel_rfl) ⟨(fun K x => (corbelref04_Drive_j1_eq k K x.1.1 x.1.2.2.1 x.1.2.2.2.1 x.2.1.1 x.2.1.2.1 x.2.1.2.2.1 x.2.1.2.2.2.1 x.2.1.2.2.2.2.1).trans (by kernel_rfl)), trivial⟩
theorem corbelref04_Drive_cuts {R : Type} (k : Nat) : ∀ c, Try.f83.body = some c → CutsOK (R := R) tab (corbelref04_Drive_F k) (inlK tab (corbelref04_Drive_F k) (corbelref04_Drive_I k) 0) (corbelref04_Drive_O k) c corbelref04_Drive_h :=
  cuts_of (l := [.loop corbelref04_Drive_c0 corbelref04_Drive_x0 0 (obB corbelref04_Drive_b 0) (obH corbelref04_Drive_b 0), .join corbelref04_Drive_c1 corbelref04_Drive_x1 1 (obB corbelref04_Drive_b 1) (obH corbelref04_Drive_b 1)]) (by kernel_rfl) ⟨corbelref04_Drive_l0_ok k, corbelref04_Drive_j1_ok k, trivial⟩
theorem corbelref04_Drive_iok {R : Type} (k : Nat) : IOK Try.prog tab (corbelref04_Drive_F k) (corbelref04_Drive_I (R := R) k) := iok_none
theorem corbelref04_Drive_ev (k : Nat) (x : (corbelref04_Drive_p k).τ.den) : evalF tab (corbelref04_Drive_F k) (corbelref04_Drive_p k) (corbelref04_Drive_I k) 0 (corbelref04_Drive_O k) corbelref04_Drive_h Try.f83 x = (corbelref04_Drive_p k).f x := by kernel_rfl
theorem corbelref04_Drive_ok (k : Nat) : PFOK Try.prog tab 83 (corbelref04_Drive_p k) := pfok mixed tabOK (corbelref04_Drive_fok k) Try.func83 (I := corbelref04_Drive_I k) (d := 0) (corbelref04_Drive_iok k) (Q := corbelref04_Drive_O k) (hi := corbelref04_Drive_h) (corbelref04_Drive_cuts k) (corbelref04_Drive_ev k)
end Go.Proofs.Ythilffdaofaalaa.Ev
