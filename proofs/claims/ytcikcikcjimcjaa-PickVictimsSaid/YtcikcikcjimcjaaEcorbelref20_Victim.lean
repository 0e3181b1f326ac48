/- corbelref20_Victim, told on plain data. Written by program. -/
import Derived.Test.YtcikcikcjimcjaaEcorbelref20_better
set_option linter.unusedVariables false
set_option maxRecDepth 1000000
namespace Go.Proofs.Ytcikcikcjimcjaa.Ev
open Go Go.RowKit Go.Proofs
def corbelref20_Victim_j1 {R : Type} (e0 : Int → Option R) (k : Nat) (best_1369 : Int) (i_1370 : Int) (v_1371 : Bool) : Option R :=
  bif v_1371 then
    e0 i_1370
  else e0 best_1369
def corbelref20_Victim_j2 {R : Type} (e0 : Int → Option R) (k : Nat) (i_1379 : Int) : Option R :=
  e0 (wrap64 (i_1379 + (1 : Int)))
def corbelref20_Victim_k0 {R : Type} (rc : Int → Int → Option R) (e0 : Int → Option R) (k : Nat) (i_1348 : Int) : Int → Option R := fun best_1374 =>
  corbelref20_Victim_j2 (fun i_1383 =>
    rc best_1374 i_1383) k i_1348
def corbelref20_Victim_l0s {R : Type} (rc : Int → Int → Option R) (e0 : Int → Option R) (k : Nat) (lb_1346 : List (Int × (Int × Bool))) (best_1347 : Int) (i_1348 : Int) : Option R :=
  bif (decide (i_1348 < (lenI lb_1346))) then
    bif (decide ((0 : Int) ≤ i_1348)) then
      optb (lb_1346[i_1348.toNat]?) fun x_1365 =>
      bif (decide ((0 : Int) < x_1365.1)) then
        bif (decide ((0 : Int) ≤ i_1348)) then
          optb (lb_1346[i_1348.toNat]?) fun x_1366 =>
          bif (!x_1366.2.2) then
            bif (decide (best_1347 < (0 : Int))) then
              corbelref20_Victim_j1 (corbelref20_Victim_k0 rc e0 k i_1348) k best_1347 i_1348 true
            else bif (decide ((0 : Int) ≤ i_1348)) then
              optb (lb_1346[i_1348.toNat]?) fun x_1384 =>
              bif (decide ((0 : Int) ≤ best_1347)) then
                optb (lb_1346[best_1347.toNat]?) fun x_1385 =>
                optb (corbelref20_better k x_1384.1 x_1384.2.1 x_1384.2.2 x_1385.1 x_1385.2.1 x_1385.2.2) fun r_1386 =>
                corbelref20_Victim_j1 (corbelref20_Victim_k0 rc e0 k i_1348) k best_1347 i_1348 r_1386
              else none
            else none
          else corbelref20_Victim_j1 (corbelref20_Victim_k0 rc e0 k i_1348) k best_1347 i_1348 false
        else none
      else corbelref20_Victim_j1 (corbelref20_Victim_k0 rc e0 k i_1348) k best_1347 i_1348 false
    else none
  else e0 best_1347
def corbelref20_Victim_l0 {R : Type} (e0 : Int → Option R) (k : Nat) (lb_1346 : List (Int × (Int × Bool))) : Nat → Int → Int → Option R
  | 0 => fun _ _ => none
  | j + 1 => corbelref20_Victim_l0s (corbelref20_Victim_l0 e0 k lb_1346 j) e0 k lb_1346
def corbelref20_Victim (k : Nat) (la_1343 : Bool) (lb_1344 : List (Int × (Int × Bool))) : Option Int :=
  corbelref20_Victim_l0 (fun best_1387 =>
    some best_1387) k lb_1344 k (-1 : Int) (0 : Int)
def corbelref20_Victim_p (k : Nat) : PF := { ps := [(false, 1)], rs := [(false, 1)], τ := (.sl (.pair (.int .i64) (.pair (.int .i64) .bool))), σ := (.int .i64), f := fun x => corbelref20_Victim k x.1 x.2 }
def corbelref20_Victim_F (k : Nat) : PT := fcons 55 (corbelref20_better_p k) <| fnone
theorem corbelref20_Victim_fok (k : Nat) : FOK Try.prog tab (corbelref20_Victim_F k) := fok_cons (corbelref20_better_ok k) Try.call55 <| fok_none
def corbelref20_Victim_c0 : Cl := { keep := [0, 3, 4], hl := 0, ad := [], adc := [], bump := [] }
def corbelref20_Victim_x0 : Cl := { keep := [3], hl := 0, ad := [], adc := [], bump := [] }
def corbelref20_Victim_c1 : Cl := { keep := [0, 3, 4, 39], hl := 0, ad := [], adc := [], bump := [] }
def corbelref20_Victim_x1 : Cl := { keep := [0, 3, 4], hl := 0, ad := [], adc := [], bump := [] }
def corbelref20_Victim_c2 : Cl := { keep := [0, 3, 4], hl := 0, ad := [], adc := [], bump := [] }
def corbelref20_Victim_x2 : Cl := { keep := [0, 3, 4], hl := 0, ad := [], adc := [], bump := [] }
def corbelref20_Victim_h : Hint := (.sq .no (.sq .no (.sq (.sq .no (.lp corbelref20_Victim_c0 corbelref20_Victim_x0 0 (.sq .no (.ct corbelref20_Victim_c2 corbelref20_Victim_x2 2 (.ct corbelref20_Victim_c1 corbelref20_Victim_x1 1 .no .no) .no)))) .no)))
def corbelref20_Victim_l0_E0 {R : Type} (K : EX → St → Option R) : Int → Option R := fun v0 => K (.exit 0) (mkSt 42 [] corbelref20_Victim_x0.keep [.int .i64 v0] [])
def corbelref20_Victim_l0_S (la_1345 : Bool) (lb_1346 : List (Int × (Int × Bool))) (best_1347 : Int) (i_1348 : Int) : St := mkSt 42 [] corbelref20_Victim_c0.keep [.sl (.pair (.int .i64) (.pair (.int .i64) .bool)) la_1345 lb_1346, .int .i64 best_1347, .int .i64 i_1348] []
def corbelref20_Victim_l0_sh : Rd (List AV × List HE) := .pair (.cons (.sl (.pair (.int .i64) (.pair (.int .i64) .bool))) (.cons (.int .i64) (.cons (.int .i64) Rd.nil))) Rd.nil
def corbelref20_Victim_l0_a {R : Type} (k : Nat) : Alt R := { n := 42, v := [], sh := corbelref20_Victim_l0_sh, g := fun K x => corbelref20_Victim_l0 (corbelref20_Victim_l0_E0 K) k x.1.1.2 k x.1.2.1 x.1.2.2.1 }
def corbelref20_Victim_j1_E0 {R : Type} (K : EX → St → Option R) : Bool → List (Int × (Int × Bool)) → Int → Int → Option R := fun v0 v1 v2 v3 => K .normal (mkSt 42 [] corbelref20_Victim_x1.keep [.sl (.pair (.int .i64) (.pair (.int .i64) .bool)) v0 v1, .int .i64 v2, .int .i64 v3] [])
def corbelref20_Victim_j1_S (la_1367 : Bool) (lb_1368 : List (Int × (Int × Bool))) (best_1369 : Int) (i_1370 : Int) (v_1371 : Bool) : St := mkSt 42 [] corbelref20_Victim_c1.keep [.sl (.pair (.int .i64) (.pair (.int .i64) .bool)) la_1367 lb_1368, .int .i64 best_1369, .int .i64 i_1370, .bool v_1371] []
def corbelref20_Victim_j1_sh : Rd (List AV × List HE) := .pair (.cons (.sl (.pair (.int .i64) (.pair (.int .i64) .bool))) (.cons (.int .i64) (.cons (.int .i64) (.cons .bool Rd.nil)))) Rd.nil
def corbelref20_Victim_j1_a {R : Type} (k : Nat) : Alt R := { n := 42, v := [], sh := corbelref20_Victim_j1_sh, g := fun K x => corbelref20_Victim_j1 (fun y2 => corbelref20_Victim_j1_E0 K x.1.1.1 x.1.1.2 y2 x.1.2.2.1) k x.1.2.1 x.1.2.2.1 x.1.2.2.2.1 }
def corbelref20_Victim_j2_E0 {R : Type} (K : EX → St → Option R) : Bool → List (Int × (Int × Bool)) → Int → Int → Option R := fun v0 v1 v2 v3 => K .normal (mkSt 42 [] corbelref20_Victim_x2.keep [.sl (.pair (.int .i64) (.pair (.int .i64) .bool)) v0 v1, .int .i64 v2, .int .i64 v3] [])
def corbelref20_Victim_j2_S (la_1376 : Bool) (lb_1377 : List (Int × (Int × Bool))) (best_1378 : Int) (i_1379 : Int) : St := mkSt 42 [] corbelref20_Victim_c2.keep [.sl (.pair (.int .i64) (.pair (.int .i64) .bool)) la_1376 lb_1377, .int .i64 best_1378, .int .i64 i_1379] []
def corbelref20_Victim_j2_sh : Rd (List AV × List HE) := .pair (.cons (.sl (.pair (.int .i64) (.pair (.int .i64) .bool))) (.cons (.int .i64) (.cons (.int .i64) Rd.nil))) Rd.nil
def corbelref20_Victim_j2_a {R : Type} (k : Nat) : Alt R := { n := 42, v := [], sh := corbelref20_Victim_j2_sh, g := fun K x => corbelref20_Victim_j2 (fun y3 => corbelref20_Victim_j2_E0 K x.1.1.1 x.1.1.2 x.1.2.1 y3) k x.1.2.2.1 }
def corbelref20_Victim_O {R : Type} (k : Nat) : CutK R := cutsO [[corbelref20_Victim_l0_a k], [corbelref20_Victim_j1_a k], [corbelref20_Victim_j2_a k]]
noncomputable def corbelref20_Victim_b : List Ob := obs (bodyOf Try.f35) corbelref20_Victim_h
noncomputable def corbelref20_Victim_I {R : Type} (k : Nat) : InlT R := inone
theorem corbelref20_Victim_l0_eq {R : Type} (k : Nat) (K : EX → St → Option R) (la_1345 : Bool) (lb_1346 : List (Int × (Int × Bool))) : ∀ (j : Nat) (best_1347 : Int) (i_1348 : Int), corbelref20_Victim_l0 (corbelref20_Victim_l0_E0 K) k lb_1346 j best_1347 i_1348 = iter corbelref20_Victim_c0 corbelref20_Victim_x0 (ev tab (corbelref20_Victim_F k) (inlK tab (corbelref20_Victim_F k) (corbelref20_Victim_I k) 0) (corbelref20_Victim_O k) (obB corbelref20_Victim_b 0) (obH corbelref20_Victim_b 0)) j (corbelref20_Victim_l0_S la_1345 lb_1346 best_1347 i_1348) K
  | 0, _, _ => rfl
  | j + 1, best_1347, i_1348 => by
    have e : corbelref20_Victim_l0 (corbelref20_Victim_l0_E0 K) k lb_1346 j = fun best_1347 i_1348 => iter corbelref20_Victim_c0 corbelref20_Victim_x0 (ev tab (corbelref20_Victim_F k) (inlK tab (corbelref20_Victim_F k) (corbelref20_Victim_I k) 0) (corbelref20_Victim_O k) (obB corbelref20_Victim_b 0) (obH corbelref20_Victim_b 0)) j (corbelref20_Victim_l0_S la_1345 lb_1346 best_1347 i_1348) K := by funext best_1347 i_1348; exact corbelref20_Victim_l0_eq k K la_1345 lb_1346 j best_1347 i_1348
    show corbelref20_Victim_l0s (corbelref20_Victim_l0 (corbelref20_Victim_l0_E0 K) k lb_1346 j) (corbelref20_Victim_l0_E0 K) k lb_1346 best_1347 i_1348 = _
    rw [e, iter_succ]; kernel_rfl
theorem corbelref20_Victim_l0_ok {R : Type} (k : Nat)  : ObOK (R := R) tab (corbelref20_Victim_F k) (inlK tab (corbelref20_Victim_F k) (corbelref20_Victim_I k) 0) (corbelref20_Victim_O k) (.loop corbelref20_Victim_c0 corbelref20_Victim_x0 0 (obB corbelref20_Victim_b 0) (obH corbelref20_Victim_b 0)) :=
  loop_ok (l := [corbelref20_Victim_l0_a k]) (by kernel_rfl) ⟨(fun K x => ⟨k, (corbelref20_Victim_l0_eq k K x.1.1.1 x.1.1.2 k x.1.2.1 x.1.2.2.1).trans (by kernel_rfl)⟩), trivial⟩
theorem corbelref20_Victim_j1_eq {R : Type} (k : Nat) (K : EX → St → Option R) (la_1367 : Bool) (lb_1368 : List (Int × (Int × Bool))) (best_1369 : Int) (i_1370 : Int) (v_1371 : Bool) : corbelref20_Victim_j1 (fun y2 => corbelref20_Victim_j1_E0 K la_1367 lb_1368 y2 i_1370) k best_1369 i_1370 v_1371 = ev tab (corbelref20_Victim_F k) (inlK tab (corbelref20_Victim_F k) (corbelref20_Victim_I k) 0) (corbelref20_Victim_O k) (obB corbelref20_Victim_b 1) (obH corbelref20_Victim_b 1) (corbelref20_Victim_j1_S la_1367 lb_1368 best_1369 i_1370 v_1371) (fun e st => optb (clean corbelref20_Victim_x1 st) fun st => K e st) := by kernel_rfl
theorem corbelref20_Victim_j1_ok {R : Type} (k : Nat)  : ObOK (R := R) tab (corbelref20_Victim_F k) (inlK tab (corbelref20_Victim_F k) (corbelref20_Victim_I k) 0) (corbelref20_Victim_O k) (.join corbelref20_Victim_c1 corbelref20_Victim_x1 1 (obB corbelref20_Victim_b 1) (obH corbelref20_Victim_b 1)) :=
  join_ok (l := [corbelref20_Victim_j1_a k]) (by kernel_rfl) ⟨(fun K x => (corbelref20_Victim_j1_eq k K x.1.1.1 x.1.1.2 x.1.2.1 x.1.2.2.1 x.1.2.2.2.1).trans (by kernel_rfl)), trivial⟩
theorem corbelref20_Victim_j2_eq {R : Type} (k : Nat) (K : EX → St → Option R) (la_1376 : Bool) (lb_1377 : List (Int × (Int × Bool))) (best_1378 : Int) (i_1379 : Int) : corbelref20_Victim_j2 (fun y3 => corbelref20_Victim_j2_E0 K la_1376 lb_1377 best_1378 y3) k i_1379 = ev tab (corbelref20_Victim_F k) (inlK tab (corbelref20_Victim_F k) (corbelref20_Victim_I k) 0) (corbelref20_Victim_O k) (obB corbelref20_Victim_b 2) (obH corbelref20_Victim_b 2) (corbelref20_Victim_j2_S la_1376 lb_1377 best_1378 i_1379) (fun e st => optb (clean corbelref20_Victim_x2 st) fun st => K e st) := by kernel_rfl
theorem corbelref20_Victim_j2_ok {R : Type} (k : Nat)  : ObOK (R := R) tab (corbelref20_Victim_F k) (inlK tab (corbelref20_Victim_F k) (corbelref20_Victim_I k) 0) (corbelref20_Victim_O k) (.join corbelref20_Victim_c2 corbelref20_Victim_x2 2 (obB corbelref20_Victim_b 2) (obH corbelref20_Victim_b 2)) :=
  join_ok (l := [corbelref20_Victim_j2_a k]) (by kernel_rfl) ⟨(fun K x => (corbelref20_Victim_j2_eq k K x.1.1.1 x.1.1.2 x.1.2.1 x.1.2.2.1).trans (by kernel_rfl)), trivial⟩
theorem corbelref20_Victim_cuts {R : Type} (k : Nat) : ∀ c, Try.f35.body = some c → CutsOK (R := R) tab (corbelref20_Victim_F k) (inlK tab (corbelref20_Victim_F k) (corbelref20_Victim_I k) 0) (corbelref20_Victim_O k) c corbelref20_Victim_h :=
  cuts_of (l := [.loop corbelref20_Victim_c0 corbelref20_Victim_x0 0 (obB corbelref20_Victim_b 0) (obH corbelref20_Victim_b 0), .join corbelref20_Victim_c1 corbelref20_Victim_x1 1 (obB corbelref20_Victim_b 1) (obH corbelref20_Victim_b 1), .join corbelref20_Victim_c2 corbelref20_Victim_x2 2 (obB corbelref20_Victim_b 2) (obH corbelref20_Victim_b 2)]) (by kernel_rfl) ⟨corbelref20_Victim_l0_ok k, corbelref20_Victim_j1_ok k, corbelref20_Victim_j2_ok k, trivial⟩
theorem corbelref20_Victim_iok {R : Type} (k : Nat) : IOK Try.prog tab (corbelref20_Victim_F k) (corbelref20_Victim_I (R := R) k) := iok_none
theorem corbelref20_Victim_ev (k : Nat) (x : (corbelref20_Victim_p k).τ.den) : evalF tab (corbelref20_Victim_F k) (corbelref20_Victim_p k) (corbelref20_Victim_I k) 0 (corbelref20_Victim_O k) corbelref20_Victim_h Try.f35 x = (corbelref20_Victim_p k).f x := by kernel_rfl
theorem corbelref20_Victim_ok (k : Nat) : PFOK Try.prog tab 35 (corbelref20_Victim_p k) := pfok mixed tabOK (corbelref20_Victim_fok k) Try.func35 (I := corbelref20_Victim_I k) (d := 0) (corbelref20_Victim_iok k) (Q := corbelref20_Victim_O k) (hi := corbelref20_Victim_h) (corbelref20_Victim_cuts k) (corbelref20_Victim_ev k)
end Go.Proofs.Ytcikcikcjimcjaa.Ev
