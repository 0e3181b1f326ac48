/- corbelref04_Drive, told on plain data. Written by program. -/
import Derived.Test.YtcikcikcjimcjaaEtab
set_option linter.unusedVariables false
set_option maxRecDepth 1000000
namespace Go.Proofs.Ytcikcikcjimcjaa.Ev
open Go Go.RowKit Go.Proofs
def corbelref04_Drive_j1 {R : Type} (e0 : Int → Option R) (k : Nat) (i_7050 : Int) : Option R :=
  e0 (wrap64 (i_7050 + (1 : Int)))
def corbelref04_Drive_k0 {R : Type} (rc : Int → Int → Option R) (e0 : Int → Option R) (k : Nat) : Int → Int → Option R := fun d_7057 i_7058 =>
  rc d_7057 i_7058
def corbelref04_Drive_l0s {R : Type} (rc : Int → Int → Option R) (e0 : Int → Option R) (k : Nat) (k_7039 : Int) (ga_7042 : Int) (d_7040 : Int) (i_7041 : Int) : Option R :=
  bif (decide (i_7041 ≤ k_7039)) then
    bif (decide ((wrap64 (d_7040 + (1 : Int))) = ga_7042)) then
      corbelref04_Drive_j1 (fun i_7058 => corbelref04_Drive_k0 rc e0 k (0 : Int) i_7058) k i_7041
    else corbelref04_Drive_j1 (fun i_7058 => corbelref04_Drive_k0 rc e0 k (wrap64 (d_7040 + (1 : Int))) i_7058) k i_7041
  else e0 d_7040
def corbelref04_Drive_l0 {R : Type} (e0 : Int → Option R) (k : Nat) (k_7039 : Int) (ga_7042 : Int) : Nat → Int → Int → Option R
  | 0 => fun _ _ => none
  | j + 1 => corbelref04_Drive_l0s (corbelref04_Drive_l0 e0 k k_7039 ga_7042 j) e0 k k_7039 ga_7042
def corbelref04_Drive (k : Nat) (ga_7000 : Int) (gb_7001 : Int) (gc_7002 : Int) (gd_7003 : Int) (ge_7004 : Int) (zone_7005 : Int) (row_7006 : Int) (k_7007 : Int) : Option Int :=
  bif (decide (ga_7000 = (0 : Int))) then
    none
  else corbelref04_Drive_l0 (fun d_7064 =>
    some d_7064) k k_7007 ga_7000 k (Int.tmod (wrap64 (zone_7005 + row_7006)) ga_7000) (0 : Int)
def corbelref04_Drive_p (k : Nat) : PF := { ps := [(true, 5), (false, 1), (false, 1), (false, 1)], rs := [(false, 1)], τ := (.pair (.pair (.int .i64) (.pair (.int .i64) (.pair (.int .i64) (.pair (.int .i64) (.int .i64))))) (.pair (.int .i64) (.pair (.int .i64) (.int .i64)))), σ := (.int .i64), f := fun x => corbelref04_Drive k x.1.1 x.1.2.1 x.1.2.2.1 x.1.2.2.2.1 x.1.2.2.2.2 x.2.1 x.2.2.1 x.2.2.2 }
def corbelref04_Drive_F (k : Nat) : PT := fnone
theorem corbelref04_Drive_fok (k : Nat) : FOK Try.prog tab (corbelref04_Drive_F k) := fok_none
def corbelref04_Drive_c0 : Cl := { keep := [3, 4, 10, 11], hl := 1, ad := [], adc := [], bump := [] }
def corbelref04_Drive_x0 : Cl := { keep := [10], hl := 0, ad := [], adc := [], bump := [] }
def corbelref04_Drive_c1 : Cl := { keep := [3, 4, 10, 11], hl := 1, ad := [], adc := [], bump := [] }
def corbelref04_Drive_x1 : Cl := { keep := [3, 4, 10, 11], hl := 1, ad := [], adc := [], bump := [] }
def corbelref04_Drive_h : Hint := (.sq .no (.sq .no (.sq .no (.sq (.sq .no (.lp corbelref04_Drive_c0 corbelref04_Drive_x0 0 (.sq .no (.ct corbelref04_Drive_c1 corbelref04_Drive_x1 1 .no .no)))) .no))))
def corbelref04_Drive_l0_E0 {R : Type} (K : EX → St → Option R) : Int → Option R := fun v0 => K (.exit 0) (mkSt 31 [] corbelref04_Drive_x0.keep [.int .i64 v0] [])
def corbelref04_Drive_l0_S (k_7039 : Int) (d_7040 : Int) (i_7041 : Int) (ga_7042 : Int) (gb_7043 : Int) (gc_7044 : Int) (gd_7045 : Int) (ge_7046 : Int) : St := mkSt 31 [] corbelref04_Drive_c0.keep [.int .i64 k_7039, .ptr 0 0, .int .i64 d_7040, .int .i64 i_7041] [.blk [.int .i64 ga_7042, .int .i64 gb_7043, .int .i64 gc_7044, .int .i64 gd_7045, .int .i64 ge_7046]]
def corbelref04_Drive_l0_sh : Rd (List AV × List HE) := .pair (.cons (.int .i64) (.cons (.ptr 0 0) (.cons (.int .i64) (.cons (.int .i64) Rd.nil)))) (.cons (.blk (.cons (.int .i64) (.cons (.int .i64) (.cons (.int .i64) (.cons (.int .i64) (.cons (.int .i64) Rd.nil)))))) Rd.nil)
def corbelref04_Drive_l0_a {R : Type} (k : Nat) : Alt R := { n := 31, v := [], sh := corbelref04_Drive_l0_sh, g := fun K x => corbelref04_Drive_l0 (corbelref04_Drive_l0_E0 K) k x.1.1 x.2.1.1 k x.1.2.2.1 x.1.2.2.2.1 }
def corbelref04_Drive_j1_E0 {R : Type} (K : EX → St → Option R) : Int → Int → Int → Int → Int → Int → Int → Int → Option R := fun v0 v1 v2 v3 v4 v5 v6 v7 => K .normal (mkSt 31 [] corbelref04_Drive_x1.keep [.int .i64 v0, .ptr 0 0, .int .i64 v1, .int .i64 v2] [.blk [.int .i64 v3, .int .i64 v4, .int .i64 v5, .int .i64 v6, .int .i64 v7]])
def corbelref04_Drive_j1_S (k_7048 : Int) (d_7049 : Int) (i_7050 : Int) (ga_7051 : Int) (gb_7052 : Int) (gc_7053 : Int) (gd_7054 : Int) (ge_7055 : Int) : St := mkSt 31 [] corbelref04_Drive_c1.keep [.int .i64 k_7048, .ptr 0 0, .int .i64 d_7049, .int .i64 i_7050] [.blk [.int .i64 ga_7051, .int .i64 gb_7052, .int .i64 gc_7053, .int .i64 gd_7054, .int .i64 ge_7055]]
def corbelref04_Drive_j1_sh : Rd (List AV × List HE) := .pair (.cons (.int .i64) (.cons (.ptr 0 0) (.cons (.int .i64) (.cons (.int .i64) Rd.nil)))) (.cons (.blk (.cons (.int .i64) (.cons (.int .i64) (.cons (.int .i64) (.cons (.int .i64) (.cons (.int .i64) Rd.nil)))))) Rd.nil)
def corbelref04_Drive_j1_a {R : Type} (k : Nat) : Alt R := { n := 31, v := [], sh := corbelref04_Drive_j1_sh, g := fun K x => corbelref04_Drive_j1 (fun y2 => corbelref04_Drive_j1_E0 K x.1.1 x.1.2.2.1 y2 x.2.1.1 x.2.1.2.1 x.2.1.2.2.1 x.2.1.2.2.2.1 x.2.1.2.2.2.2.1) k x.1.2.2.2.1 }
def corbelref04_Drive_O {R : Type} (k : Nat) : CutK R := cutsO [[corbelref04_Drive_l0_a k], [corbelref04_Drive_j1_a k]]
noncomputable def corbelref04_Drive_b : List Ob := obs (bodyOf Try.f57) corbelref04_Drive_h
noncomputable def corbelref04_Drive_I {R : Type} (k : Nat) : InlT R := inone
theorem corbelref04_Drive_l0_eq {R : Type} (k : Nat) (K : EX → St → Option R) (k_7039 : Int) (ga_7042 : Int) (gb_7043 : Int) (gc_7044 : Int) (gd_7045 : Int) (ge_7046 : Int) : ∀ (j : Nat) (d_7040 : Int) (i_7041 : Int), corbelref04_Drive_l0 (corbelref04_Drive_l0_E0 K) k k_7039 ga_7042 j d_7040 i_7041 = iter corbelref04_Drive_c0 corbelref04_Drive_x0 (ev tab (corbelref04_Drive_F k) (inlK tab (corbelref04_Drive_F k) (corbelref04_Drive_I k) 0) (corbelref04_Drive_O k) (obB corbelref04_Drive_b 0) (obH corbelref04_Drive_b 0)) j (corbelref04_Drive_l0_S k_7039 d_7040 i_7041 ga_7042 gb_7043 gc_7044 gd_7045 ge_7046) K
  | 0, _, _ => rfl
  | j + 1, d_7040, i_7041 => by
    have e : corbelref04_Drive_l0 (corbelref04_Drive_l0_E0 K) k k_7039 ga_7042 j = fun d_7040 i_7041 => iter corbelref04_Drive_c0 corbelref04_Drive_x0 (ev tab (corbelref04_Drive_F k) (inlK tab (corbelref04_Drive_F k) (corbelref04_Drive_I k) 0) (corbelref04_Drive_O k) (obB corbelref04_Drive_b 0) (obH corbelref04_Drive_b 0)) j (corbelref04_Drive_l0_S k_7039 d_7040 i_7041 ga_7042 gb_7043 gc_7044 gd_7045 ge_7046) K := by funext d_7040 i_7041; exact corbelref04_Drive_l0_eq k K k_7039 ga_7042 gb_7043 gc_7044 gd_7045 ge_7046 j d_7040 i_7041
    show corbelref04_Drive_l0s (corbelref04_Drive_l0 (corbelref04_Drive_l0_E0 K) k k_7039 ga_7042 j) (corbelref04_Drive_l0_E0 K) k k_7039 ga_7042 d_7040 i_7041 = _
    rw [e, iter_succ]; kernel_rfl
theorem corbelref04_Drive_l0_ok {R : Type} (k : Nat)  : ObOK (R := R) tab (corbelref04_Drive_F k) (inlK tab (corbelref04_Drive_F k) (corbelref04_Drive_I k) 0) (corbelref04_Drive_O k) (.loop corbelref04_Drive_c0 corbelref04_Drive_x0 0 (obB corbelref04_Drive_b 0) (obH corbelref04_Drive_b 0)) :=
  loop_ok (l := [corbelref04_Drive_l0_a k]) (by kernel_rfl) ⟨(fun K x => ⟨k, (corbelref04_Drive_l0_eq k K x.1.1 x.2.1.1 x.2.1.2.1 x.2.1.2.2.1 x.2.1.2.2.2.1 x.2.1.2.2.2.2.1 k x.1.2.2.1 x.1.2.2.2.1).trans (by kernel_rfl)⟩), trivial⟩
theorem corbelref04_Drive_j1_eq {R : Type} (k : Nat) (K : EX → St → Option R) (k_7048 : Int) (d_7049 : Int) (i_7050 : Int) (ga_7051 : Int) (gb_7052 : Int) (gc_7053 : Int) (gd_7054 : Int) (ge_7055 : Int) : corbelref04_Drive_j1 (fun y2 => corbelref04_Drive_j1_E0 K k_7048 d_7049 y2 ga_7051 gb_7052 gc_7053 gd_7054 ge_7055) k i_7050 = ev tab (corbelref04_Drive_F k) (inlK tab (corbelref04_Drive_F k) (corbelref04_Drive_I k) 0) (corbelref04_Drive_O k) (obB corbelref04_Drive_b 1) (obH corbelref04_Drive_b 1) (corbelref04_Drive_j1_S k_7048 d_7049 i_7050 ga_7051 gb_7052 gc_7053 gd_7054 ge_7055) (fun e st => optb (clean corbelref04_Drive_x1 st) fun st => K e st) := by kernel_rfl
theorem corbelref04_Drive_j1_ok {R : Type} (k : Nat)  : ObOK (R := R) tab (corbelref04_Drive_F k) (inlK tab (corbelref04_Drive_F k) (corbelref04_Drive_I k) 0) (corbelref04_Drive_O k) (.join corbelref04_Drive_c1 corbelref04_Drive_x1 1 (obB corbelref04_Drive_b 1) (obH corbelref04_Drive_b 1)) :=
  join_ok (l := [corbelref04_Drive_j1_a k]) (by kernel_rfl) ⟨(fun K x => (corbelref04_Drive_j1_eq k K x.1.1 x.1.2.2.1 x.1.2.2.2.1 x.2.1.1 x.2.1.2.1 x.2.1.2.2.1 x.2.1.2.2.2.1 x.2.1.2.2.2.2.1).trans (by kernel_rfl)), trivial⟩
theorem corbelref04_Drive_cuts {R : Type} (k : Nat) : ∀ c, Try.f57.body = some c → CutsOK (R := R) tab (corbelref04_Drive_F k) (inlK tab (corbelref04_Drive_F k) (corbelref04_Drive_I k) 0) (corbelref04_Drive_O k) c corbelref04_Drive_h :=
  cuts_of (l := [.loop corbelref04_Drive_c0 corbelref04_Drive_x0 0 (obB corbelref04_Drive_b 0) (obH corbelref04_Drive_b 0), .join corbelref04_Drive_c1 corbelref04_Drive_x1 1 (obB corbelref04_Drive_b 1) (obH corbelref04_Drive_b 1)]) (by kernel_rfl) ⟨corbelref04_Drive_l0_ok k, corbelref04_Drive_j1_ok k, trivial⟩
theorem corbelref04_Drive_iok {R : Type} (k : Nat) : IOK Try.prog tab (corbelref04_Drive_F k) (corbelref04_Drive_I (R := R) k) := iok_none
theorem corbelref04_Drive_ev (k : Nat) (x : (corbelref04_Drive_p k).τ.den) : evalF tab (corbelref04_Drive_F k) (corbelref04_Drive_p k) (corbelref04_Drive_I k) 0 (corbelref04_Drive_O k) corbelref04_Drive_h Try.f57 x = (corbelref04_Drive_p k).f x := by kernel_rfl
theorem corbelref04_Drive_ok (k : Nat) : PFOK Try.prog tab 57 (corbelref04_Drive_p k) := pfok mixed tabOK (corbelref04_Drive_fok k) Try.func57 (I := corbelref04_Drive_I k) (d := 0) (corbelref04_Drive_iok k) (Q := corbelref04_Drive_O k) (hi := corbelref04_Drive_h) (corbelref04_Drive_cuts k) (corbelref04_Drive_ev k)
end Go.Proofs.Ytcikcikcjimcjaa.Ev
