/- corbelref20_Empty, told on plain data. Written by program. -/
import Derived.Test.YtcikcikcjimcjaaEtab
set_option linter.unusedVariables false
set_option maxRecDepth 1000000
namespace Go.Proofs.Ytcikcikcjimcjaa.Ev
open Go Go.RowKit Go.Proofs
def corbelref20_Empty_j1 {R : Type} (e0 : Int → Int → Option R) (k : Nat) (first_1321 : Int) (n_1322 : Int) (i_1323 : Int) (v_1324 : Bool) : Option R :=
  bif v_1324 then
    e0 i_1323 (wrap64 (n_1322 + (1 : Int)))
  else e0 first_1321 n_1322
def corbelref20_Empty_j2 {R : Type} (e0 : Int → Option R) (k : Nat) (i_1334 : Int) : Option R :=
  e0 (wrap64 (i_1334 - (1 : Int)))
def corbelref20_Empty_k0 {R : Type} (rc : Int → Int → Int → Option R) (e0 : Int → Int → Option R) (k : Nat) (i_1312 : Int) : Int → Int → Option R := fun first_1327 n_1328 =>
  corbelref20_Empty_j2 (fun i_1339 =>
    rc first_1327 n_1328 i_1339) k i_1312
def corbelref20_Empty_l0s {R : Type} (rc : Int → Int → Int → Option R) (e0 : Int → Int → Option R) (k : Nat) (lb_1309 : List (Int × (Int × Bool))) (first_1310 : Int) (n_1311 : Int) (i_1312 : Int) : Option R :=
  bif (decide ((0 : Int) ≤ i_1312)) then
    bif (decide ((0 : Int) ≤ i_1312)) then
      optb (lb_1309[i_1312.toNat]?) fun x_1317 =>
      bif (decide (x_1317.1 = (0 : Int))) then
        bif (decide ((0 : Int) ≤ i_1312)) then
          optb (lb_1309[i_1312.toNat]?) fun x_1318 =>
          corbelref20_Empty_j1 (corbelref20_Empty_k0 rc e0 k i_1312) k first_1310 n_1311 i_1312 (!x_1318.2.2)
        else none
      else corbelref20_Empty_j1 (corbelref20_Empty_k0 rc e0 k i_1312) k first_1310 n_1311 i_1312 false
    else none
  else e0 first_1310 n_1311
def corbelref20_Empty_l0 {R : Type} (e0 : Int → Int → Option R) (k : Nat) (lb_1309 : List (Int × (Int × Bool))) : Nat → Int → Int → Int → Option R
  | 0 => fun _ _ _ => none
  | j + 1 => corbelref20_Empty_l0s (corbelref20_Empty_l0 e0 k lb_1309 j) e0 k lb_1309
def corbelref20_Empty (k : Nat) (la_1306 : Bool) (lb_1307 : List (Int × (Int × Bool))) : Option (Int × Int) :=
  corbelref20_Empty_l0 (fun first_1340 n_1341 =>
    some (first_1340, n_1341)) k lb_1307 k (-1 : Int) (0 : Int) (wrap64 ((lenI lb_1307) - (1 : Int)))
def corbelref20_Empty_p (k : Nat) : PF := { ps := [(false, 1)], rs := [(false, 1), (false, 1)], τ := (.sl (.pair (.int .i64) (.pair (.int .i64) .bool))), σ := (.pair (.int .i64) (.int .i64)), f := fun x => corbelref20_Empty k x.1 x.2 }
def corbelref20_Empty_F (k : Nat) : PT := fnone
theorem corbelref20_Empty_fok (k : Nat) : FOK Try.prog tab (corbelref20_Empty_F k) := fok_none
def corbelref20_Empty_c0 : Cl := { keep := [0, 4, 5, 6], hl := 0, ad := [], adc := [], bump := [] }
def corbelref20_Empty_x0 : Cl := { keep := [4, 5], hl := 0, ad := [], adc := [], bump := [] }
def corbelref20_Empty_c1 : Cl := { keep := [0, 4, 5, 6, 27], hl := 0, ad := [], adc := [], bump := [] }
def corbelref20_Empty_x1 : Cl := { keep := [0, 4, 5, 6], hl := 0, ad := [], adc := [], bump := [] }
def corbelref20_Empty_c2 : Cl := { keep := [0, 4, 5, 6], hl := 0, ad := [], adc := [], bump := [] }
def corbelref20_Empty_x2 : Cl := { keep := [0, 4, 5, 6], hl := 0, ad := [], adc := [], bump := [] }
def corbelref20_Empty_h : Hint := (.sq .no (.sq .no (.sq (.sq .no (.lp corbelref20_Empty_c0 corbelref20_Empty_x0 0 (.sq .no (.ct corbelref20_Empty_c2 corbelref20_Empty_x2 2 (.ct corbelref20_Empty_c1 corbelref20_Empty_x1 1 .no .no) .no)))) .no)))
def corbelref20_Empty_l0_E0 {R : Type} (K : EX → St → Option R) : Int → Int → Option R := fun v0 v1 => K (.exit 0) (mkSt 33 [] corbelref20_Empty_x0.keep [.int .i64 v0, .int .i64 v1] [])
def corbelref20_Empty_l0_S (la_1308 : Bool) (lb_1309 : List (Int × (Int × Bool))) (first_1310 : Int) (n_1311 : Int) (i_1312 : Int) : St := mkSt 33 [] corbelref20_Empty_c0.keep [.sl (.pair (.int .i64) (.pair (.int .i64) .bool)) la_1308 lb_1309, .int .i64 first_1310, .int .i64 n_1311, .int .i64 i_1312] []
def corbelref20_Empty_l0_sh : Rd (List AV × List HE) := .pair (.cons (.sl (.pair (.int .i64) (.pair (.int .i64) .bool))) (.cons (.int .i64) (.cons (.int .i64) (.cons (.int .i64) Rd.nil)))) Rd.nil
def corbelref20_Empty_l0_a {R : Type} (k : Nat) : Alt R := { n := 33, v := [], sh := corbelref20_Empty_l0_sh, g := fun K x => corbelref20_Empty_l0 (corbelref20_Empty_l0_E0 K) k x.1.1.2 k x.1.2.1 x.1.2.2.1 x.1.2.2.2.1 }
def corbelref20_Empty_j1_E0 {R : Type} (K : EX → St → Option R) : Bool → List (Int × (Int × Bool)) → Int → Int → Int → Option R := fun v0 v1 v2 v3 v4 => K .normal (mkSt 33 [] corbelref20_Empty_x1.keep [.sl (.pair (.int .i64) (.pair (.int .i64) .bool)) v0 v1, .int .i64 v2, .int .i64 v3, .int .i64 v4] [])
def corbelref20_Empty_j1_S (la_1319 : Bool) (lb_1320 : List (Int × (Int × Bool))) (first_1321 : Int) (n_1322 : Int) (i_1323 : Int) (v_1324 : Bool) : St := mkSt 33 [] corbelref20_Empty_c1.keep [.sl (.pair (.int .i64) (.pair (.int .i64) .bool)) la_1319 lb_1320, .int .i64 first_1321, .int .i64 n_1322, .int .i64 i_1323, .bool v_1324] []
def corbelref20_Empty_j1_sh : Rd (List AV × List HE) := .pair (.cons (.sl (.pair (.int .i64) (.pair (.int .i64) .bool))) (.cons (.int .i64) (.cons (.int .i64) (.cons (.int .i64) (.cons .bool Rd.nil))))) Rd.nil
def corbelref20_Empty_j1_a {R : Type} (k : Nat) : Alt R := { n := 33, v := [], sh := corbelref20_Empty_j1_sh, g := fun K x => corbelref20_Empty_j1 (fun y2 y3 => corbelref20_Empty_j1_E0 K x.1.1.1 x.1.1.2 y2 y3 x.1.2.2.2.1) k x.1.2.1 x.1.2.2.1 x.1.2.2.2.1 x.1.2.2.2.2.1 }
def corbelref20_Empty_j2_E0 {R : Type} (K : EX → St → Option R) : Bool → List (Int × (Int × Bool)) → Int → Int → Int → Option R := fun v0 v1 v2 v3 v4 => K .normal (mkSt 33 [] corbelref20_Empty_x2.keep [.sl (.pair (.int .i64) (.pair (.int .i64) .bool)) v0 v1, .int .i64 v2, .int .i64 v3, .int .i64 v4] [])
def corbelref20_Empty_j2_S (la_1330 : Bool) (lb_1331 : List (Int × (Int × Bool))) (first_1332 : Int) (n_1333 : Int) (i_1334 : Int) : St := mkSt 33 [] corbelref20_Empty_c2.keep [.sl (.pair (.int .i64) (.pair (.int .i64) .bool)) la_1330 lb_1331, .int .i64 first_1332, .int .i64 n_1333, .int .i64 i_1334] []
def corbelref20_Empty_j2_sh : Rd (List AV × List HE) := .pair (.cons (.sl (.pair (.int .i64) (.pair (.int .i64) .bool))) (.cons (.int .i64) (.cons (.int .i64) (.cons (.int .i64) Rd.nil)))) Rd.nil
def corbelref20_Empty_j2_a {R : Type} (k : Nat) : Alt R := { n := 33, v := [], sh := corbelref20_Empty_j2_sh, g := fun K x => corbelref20_Empty_j2 (fun y4 => corbelref20_Empty_j2_E0 K x.1.1.1 x.1.1.2 x.1.2.1 x.1.2.2.1 y4) k x.1.2.2.2.1 }
def corbelref20_Empty_O {R : Type} (k : Nat) : CutK R := cutsO [[corbelref20_Empty_l0_a k], [corbelref20_Empty_j1_a k], [corbelref20_Empty_j2_a k]]
noncomputable def corbelref20_Empty_b : List Ob := obs (bodyOf Try.f34) corbelref20_Empty_h
noncomputable def corbelref20_Empty_I {R : Type} (k : Nat) : InlT R := inone
theorem corbelref20_Empty_l0_eq {R : Type} (k : Nat) (K : EX → St → Option R) (la_1308 : Bool) (lb_1309 : List (Int × (Int × Bool))) : ∀ (j : Nat) (first_1310 : Int) (n_1311 : Int) (i_1312 : Int), corbelref20_Empty_l0 (corbelref20_Empty_l0_E0 K) k lb_1309 j first_1310 n_1311 i_1312 = iter corbelref20_Empty_c0 corbelref20_Empty_x0 (ev tab (corbelref20_Empty_F k) (inlK tab (corbelref20_Empty_F k) (corbelref20_Empty_I k) 0) (corbelref20_Empty_O k) (obB corbelref20_Empty_b 0) (obH corbelref20_Empty_b 0)) j (corbelref20_Empty_l0_S la_1308 lb_1309 first_1310 n_1311 i_1312) K
  | 0, _, _, _ => rfl
  | j + 1, first_1310, n_1311, i_1312 => by
    have e : corbelref20_Empty_l0 (corbelref20_Empty_l0_E0 K) k lb_1309 j = fun first_1310 n_1311 i_1312 => iter corbelref20_Empty_c0 corbelref20_Empty_x0 (ev tab (corbelref20_Empty_F k) (inlK tab (corbelref20_Empty_F k) (corbelref20_Empty_I k) 0) (corbelref20_Empty_O k) (obB corbelref20_Empty_b 0) (obH corbelref20_Empty_b 0)) j (corbelref20_Empty_l0_S la_1308 lb_1309 first_1310 n_1311 i_1312) K := by funext first_1310 n_1311 i_1312; exact corbelref20_Empty_l0_eq k K la_1308 lb_1309 j first_1310 n_1311 i_1312
    show corbelref20_Empty_l0s (corbelref20_Empty_l0 (corbelref20_Empty_l0_E0 K) k lb_1309 j) (corbelref20_Empty_l0_E0 K) k lb_1309 first_1310 n_1311 i_1312 = _
    rw [e, iter_succ]; kernel_rfl
theorem corbelref20_Empty_l0_ok {R : Type} (k : Nat)  : ObOK (R := R) tab (corbelref20_Empty_F k) (inlK tab (corbelref20_Empty_F k) (corbelref20_Empty_I k) 0) (corbelref20_Empty_O k) (.loop corbelref20_Empty_c0 corbelref20_Empty_x0 0 (obB corbelref20_Empty_b 0) (obH corbelref20_Empty_b 0)) :=
  loop_ok (l := [corbelref20_Empty_l0_a k]) (by kernel_rfl) ⟨(fun K x => ⟨k, (corbelref20_Empty_l0_eq k K x.1.1.1 x.1.1.2 k x.1.2.1 x.1.2.2.1 x.1.2.2.2.1).trans (by kernel_rfl)⟩), trivial⟩
theorem corbelref20_Empty_j1_eq {R : Type} (k : Nat) (K : EX → St → Option R) (la_1319 : Bool) (lb_1320 : List (Int × (Int × Bool))) (first_1321 : Int) (n_1322 : Int) (i_1323 : Int) (v_1324 : Bool) : corbelref20_Empty_j1 (fun y2 y3 => corbelref20_Empty_j1_E0 K la_1319 lb_1320 y2 y3 i_1323) k first_1321 n_1322 i_1323 v_1324 = ev tab (corbelref20_Empty_F k) (inlK tab (corbelref20_Empty_F k) (corbelref20_Empty_I k) 0) (corbelref20_Empty_O k) (obB corbelref20_Empty_b 1) (obH corbelref20_Empty_b 1) (corbelref20_Empty_j1_S la_1319 lb_1320 first_1321 n_1322 i_1323 v_1324) (fun e st => optb (clean corbelref20_Empty_x1 st) fun st => K e st) := by kernel_rfl
theorem corbelref20_Empty_j1_ok {R : Type} (k : Nat)  : ObOK (R := R) tab (corbelref20_Empty_F k) (inlK tab (corbelref20_Empty_F k) (corbelref20_Empty_I k) 0) (corbelref20_Empty_O k) (.join corbelref20_Empty_c1 corbelref20_Empty_x1 1 (obB corbelref20_Empty_b 1) (obH corbelref20_Empty_b 1)) :=
  join_ok (l := [corbelref20_Empty_j1_a k]) (by kernel_rfl) ⟨(fun K x => (corbelref20_Empty_j1_eq k K x.1.1.1 x.1.1.2 x.1.2.1 x.1.2.2.1 x.1.2.2.2.1 x.1.2.2.2.2.1).trans (by kernel_rfl)), trivial⟩
theorem corbelref20_Empty_j2_eq {R : Type} (k : Nat) (K : EX → St → Option R) (la_1330 : Bool) (lb_1331 : List (Int × (Int × Bool))) (first_1332 : Int) (n_1333 : Int) (i_1334 : Int) : corbelref20_Empty_j2 (fun y4 => corbelref20_Empty_j2_E0 K la_1330 lb_1331 first_1332 n_1333 y4) k i_1334 = ev tab (corbelref20_Empty_F k) (inlK tab (corbelref20_Empty_F k) (corbelref20_Empty_I k) 0) (corbelref20_Empty_O k) (obB corbelref20_Empty_b 2) (obH corbelref20_Empty_b 2) (corbelref20_Empty_j2_S la_1330 lb_1331 first_1332 n_1333 i_1334) (fun e st => optb (clean corbelref20_Empty_x2 st) fun st => K e st) := by kernel_rfl
theorem corbelref20_Empty_j2_ok {R : Type} (k : Nat)  : ObOK (R := R) tab (corbelref20_Empty_F k) (inlK tab (corbelref20_Empty_F k) (corbelref20_Empty_I k) 0) (corbelref20_Empty_O k) (.join corbelref20_Empty_c2 corbelref20_Empty_x2 2 (obB corbelref20_Empty_b 2) (obH corbelref20_Empty_b 2)) :=
  join_ok (l := [corbelref20_Empty_j2_a k]) (by kernel_rfl) ⟨(fun K x => (corbelref20_Empty_j2_eq k K x.1.1.1 x.1.1.2 x.1.2.1 x.1.2.2.1 x.1.2.2.2.1).trans (by kernel_rfl)), trivial⟩
theorem corbelref20_Empty_cuts {R : Type} (k : Nat) : ∀ c, Try.f34.body = some c → CutsOK (R := R) tab (corbelref20_Empty_F k) (inlK tab (corbelref20_Empty_F k) (corbelref20_Empty_I k) 0) (corbelref20_Empty_O k) c corbelref20_Empty_h :=
  cuts_of (l := [.loop corbelref20_Empty_c0 corbelref20_Empty_x0 0 (obB corbelref20_Empty_b 0) (obH corbelref20_Empty_b 0), .join corbelref20_Empty_c1 corbelref20_Empty_x1 1 (obB corbelref20_Empty_b 1) (obH corbelref20_Empty_b 1), .join corbelref20_Empty_c2 corbelref20_Empty_x2 2 (obB corbelref20_Empty_b 2) (obH corbelref20_Empty_b 2)]) (by kernel_rfl) ⟨corbelref20_Empty_l0_ok k, corbelref20_Empty_j1_ok k, corbelref20_Empty_j2_ok k, trivial⟩
theorem corbelref20_Empty_iok {R : Type} (k : Nat) : IOK Try.prog tab (corbelref20_Empty_F k) (corbelref20_Empty_I (R := R) k) := iok_none
theorem corbelref20_Empty_ev (k : Nat) (x : (corbelref20_Empty_p k).τ.den) : evalF tab (corbelref20_Empty_F k) (corbelref20_Empty_p k) (corbelref20_Empty_I k) 0 (corbelref20_Empty_O k) corbelref20_Empty_h Try.f34 x = (corbelref20_Empty_p k).f x := by kernel_rfl
theorem corbelref20_Empty_ok (k : Nat) : PFOK Try.prog tab 34 (corbelref20_Empty_p k) := pfok mixed tabOK (corbelref20_Empty_fok k) Try.func34 (I := corbelref20_Empty_I k) (d := 0) (corbelref20_Empty_iok k) (Q := corbelref20_Empty_O k) (hi := corbelref20_Empty_h) (corbelref20_Empty_cuts k) (corbelref20_Empty_ev k)
end Go.Proofs.Ytcikcikcjimcjaa.Ev
