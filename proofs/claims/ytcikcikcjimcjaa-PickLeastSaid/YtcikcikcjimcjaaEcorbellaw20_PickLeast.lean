/- corbellaw20_PickLeast, told on plain data. Written by program. -/
import Derived.Test.YtcikcikcjimcjaaEcorbellaw20_speaks
import Derived.Test.YtcikcikcjimcjaaEcorbellaw20_zones
import Derived.Test.YtcikcikcjimcjaaEpick_Victim
set_option linter.unusedVariables false
set_option maxRecDepth 1000000
namespace Go.Proofs.Ytcikcikcjimcjaa.Ev
open Go Go.RowKit Go.Proofs
def corbellaw20_PickLeast_j1 {R : Type} (e0 : Int → Int → Option R) (k : Nat) (sum_1561 : Int) (n_1562 : Int) (i_1563 : Int) (v_1564 : Bool) (a_1566 : List (Int × (Int × Bool))) : Option R :=
  bif v_1564 then
    bif ((decide ((0 : Int) ≤ i_1563)) && (decide (i_1563 < (lenI a_1566)))) then
      optb (a_1566[i_1563.toNat]?) fun x_1568 =>
      e0 (wrap64 (sum_1561 + x_1568.2.1)) (wrap64 (n_1562 + (1 : Int)))
    else none
  else e0 sum_1561 n_1562
def corbellaw20_PickLeast_j2 {R : Type} (e0 : Int → Option R) (k : Nat) (i_1576 : Int) : Option R :=
  e0 (wrap64 (i_1576 + (1 : Int)))
def corbellaw20_PickLeast_k0 {R : Type} (rc : Int → Int → Int → List (Int × (Int × Bool)) → Option R) (e0 : Int → Int → List (Int × (Int × Bool)) → Option R) (k : Nat) (i_1550 : Int) : Int → Int → List (Int × (Int × Bool)) → Option R := fun sum_1569 n_1570 a_1573 =>
  corbellaw20_PickLeast_j2 (fun i_1581 =>
    rc sum_1569 n_1570 i_1581 a_1573) k i_1550
def corbellaw20_PickLeast_l0s {R : Type} (rc : Int → Int → Int → List (Int × (Int × Bool)) → Option R) (e0 : Int → Int → List (Int × (Int × Bool)) → Option R) (k : Nat) (sum_1548 : Int) (n_1549 : Int) (i_1550 : Int) (a_1552 : List (Int × (Int × Bool))) : Option R :=
  bif (decide (i_1550 < (lenI a_1552))) then
    bif ((decide ((0 : Int) ≤ i_1550)) && (decide (i_1550 < (lenI a_1552)))) then
      optb (a_1552[i_1550.toNat]?) fun x_1556 =>
      bif ((decide ((0 : Int) ≤ i_1550)) && (decide (i_1550 < (lenI a_1552)))) then
        optb (a_1552[i_1550.toNat]?) fun x_1557 =>
        let z_1558 := (List.set a_1552 i_1550.toNat (x_1557.1, ((bitop .and .i64 x_1556.2.1 (1023 : Int)), x_1557.2.2)))
        bif ((decide ((0 : Int) ≤ i_1550)) && (decide (i_1550 < (lenI z_1558)))) then
          optb (z_1558[i_1550.toNat]?) fun x_1559 =>
          bif (decide ((0 : Int) < x_1559.1)) then
            bif ((decide ((0 : Int) ≤ i_1550)) && (decide (i_1550 < (lenI z_1558)))) then
              optb (z_1558[i_1550.toNat]?) fun x_1560 =>
              corbellaw20_PickLeast_j1 (fun sum_1569 n_1570 => corbellaw20_PickLeast_k0 rc e0 k i_1550 sum_1569 n_1570 z_1558) k sum_1548 n_1549 i_1550 (!x_1560.2.2) z_1558
            else none
          else corbellaw20_PickLeast_j1 (fun sum_1569 n_1570 => corbellaw20_PickLeast_k0 rc e0 k i_1550 sum_1569 n_1570 z_1558) k sum_1548 n_1549 i_1550 false z_1558
        else none
      else none
    else none
  else e0 sum_1548 n_1549 a_1552
def corbellaw20_PickLeast_l0 {R : Type} (e0 : Int → Int → List (Int × (Int × Bool)) → Option R) (k : Nat) : Nat → Int → Int → Int → List (Int × (Int × Bool)) → Option R
  | 0 => fun _ _ _ _ => none
  | j + 1 => corbellaw20_PickLeast_l0s (corbellaw20_PickLeast_l0 e0 k j) e0 k
def corbellaw20_PickLeast (k : Nat) (la_1390 : Bool) (lb_1391 : List (Int × (Int × Bool))) : Option Bool :=
  optb (corbellaw20_speaks k) fun r_1546 =>
  bif (!r_1546) then
    some false
  else optb (corbellaw20_zones k la_1390 lb_1391) fun r_1547 =>
  corbellaw20_PickLeast_l0 (fun sum_1584 n_1585 a_1587 =>
    optb (pick_Victim k r_1547.1.1 a_1587) fun r_1588 =>
    bif (decide (n_1585 = (0 : Int))) then
      some (decide (r_1588 = (-1 : Int)))
    else bif (decide ((0 : Int) ≤ r_1588)) then
      bif (decide (r_1588 < (lenI a_1587))) then
        bif ((decide ((0 : Int) ≤ r_1588)) && (decide (r_1588 < (lenI a_1587)))) then
          optb (a_1587[r_1588.toNat]?) fun x_1589 =>
          bif (decide ((wrap64 (x_1589.2.1 * n_1585)) ≤ sum_1584)) then
            bif ((decide ((0 : Int) ≤ r_1588)) && (decide (r_1588 < (lenI a_1587)))) then
              optb (a_1587[r_1588.toNat]?) fun x_1591 =>
              bif (decide ((0 : Int) < x_1591.1)) then
                bif ((decide ((0 : Int) ≤ r_1588)) && (decide (r_1588 < (lenI a_1587)))) then
                  optb (a_1587[r_1588.toNat]?) fun x_1592 =>
                  some (!x_1592.2.2)
                else none
              else some false
            else none
          else some false
        else none
      else some false
    else some false) k k (0 : Int) (0 : Int) (0 : Int) r_1547.1.2
def corbellaw20_PickLeast_p (k : Nat) : PF := { ps := [(false, 1)], rs := [(false, 1)], τ := (.sl (.pair (.int .i64) (.pair (.int .i64) .bool))), σ := .bool, f := fun x => corbellaw20_PickLeast k x.1 x.2 }
def corbellaw20_PickLeast_F (k : Nat) : PT := fcons 28 (corbellaw20_speaks_p k) <| fcons 29 (corbellaw20_zones_p k) <| fcons 30 (pick_Victim_p k) <| fnone
theorem corbellaw20_PickLeast_fok (k : Nat) : FOK Try.prog tab (corbellaw20_PickLeast_F k) := fok_cons (corbellaw20_speaks_ok k) Try.call28 <| fok_cons (corbellaw20_zones_ok k) Try.call29 <| fok_cons (pick_Victim_ok k) Try.call30 <| fok_none
def corbellaw20_PickLeast_c0 : Cl := { keep := [3, 5, 6, 7], hl := 1, ad := [], adc := [], bump := [] }
def corbellaw20_PickLeast_x0 : Cl := { keep := [3, 5, 6], hl := 1, ad := [], adc := [], bump := [] }
def corbellaw20_PickLeast_c1 : Cl := { keep := [3, 5, 6, 7, 45], hl := 1, ad := [], adc := [], bump := [] }
def corbellaw20_PickLeast_x1 : Cl := { keep := [3, 5, 6, 7], hl := 1, ad := [], adc := [], bump := [] }
def corbellaw20_PickLeast_c2 : Cl := { keep := [3, 5, 6, 7], hl := 1, ad := [], adc := [], bump := [] }
def corbellaw20_PickLeast_x2 : Cl := { keep := [3, 5, 6, 7], hl := 1, ad := [], adc := [], bump := [] }
def corbellaw20_PickLeast_h : Hint := (.sq .no (.sq .no (.sq .no (.sq .no (.sq (.sq .no (.lp corbellaw20_PickLeast_c0 corbellaw20_PickLeast_x0 0 (.sq .no (.ct corbellaw20_PickLeast_c2 corbellaw20_PickLeast_x2 2 (.sq .no (.ct corbellaw20_PickLeast_c1 corbellaw20_PickLeast_x1 1 .no .no)) .no)))) .no)))))
def corbellaw20_PickLeast_l0_E0 {R : Type} (K : EX → St → Option R) : Int → Int → Bool → List (Int × (Int × Bool)) → Option R := fun v0 v1 v2 v3 => K (.exit 0) (mkSt 96 [] corbellaw20_PickLeast_x0.keep [.own 0 1, .int .i64 v0, .int .i64 v1] [.lst (.pair (.int .i64) (.pair (.int .i64) .bool)) 71 v2 1 v3])
def corbellaw20_PickLeast_l0_S (sum_1548 : Int) (n_1549 : Int) (i_1550 : Int) (aN_1551 : Bool) (a_1552 : List (Int × (Int × Bool))) : St := mkSt 96 [] corbellaw20_PickLeast_c0.keep [.own 0 1, .int .i64 sum_1548, .int .i64 n_1549, .int .i64 i_1550] [.lst (.pair (.int .i64) (.pair (.int .i64) .bool)) 71 aN_1551 1 a_1552]
def corbellaw20_PickLeast_l0_sh : Rd (List AV × List HE) := .pair (.cons (.own 0 1) (.cons (.int .i64) (.cons (.int .i64) (.cons (.int .i64) Rd.nil)))) (.cons (.lst (.pair (.int .i64) (.pair (.int .i64) .bool)) 71 1) Rd.nil)
def corbellaw20_PickLeast_l0_a {R : Type} (k : Nat) : Alt R := { n := 96, v := [], sh := corbellaw20_PickLeast_l0_sh, g := fun K x => corbellaw20_PickLeast_l0 (fun y0 y1 y3 => corbellaw20_PickLeast_l0_E0 K y0 y1 x.2.1.1 y3) k k x.1.2.1 x.1.2.2.1 x.1.2.2.2.1 x.2.1.2 }
def corbellaw20_PickLeast_j1_E0 {R : Type} (K : EX → St → Option R) : Int → Int → Int → Bool → List (Int × (Int × Bool)) → Option R := fun v0 v1 v2 v3 v4 => K .normal (mkSt 96 [] corbellaw20_PickLeast_x1.keep [.own 0 1, .int .i64 v0, .int .i64 v1, .int .i64 v2] [.lst (.pair (.int .i64) (.pair (.int .i64) .bool)) 71 v3 1 v4])
def corbellaw20_PickLeast_j1_S (sum_1561 : Int) (n_1562 : Int) (i_1563 : Int) (v_1564 : Bool) (aN_1565 : Bool) (a_1566 : List (Int × (Int × Bool))) : St := mkSt 96 [] corbellaw20_PickLeast_c1.keep [.own 0 1, .int .i64 sum_1561, .int .i64 n_1562, .int .i64 i_1563, .bool v_1564] [.lst (.pair (.int .i64) (.pair (.int .i64) .bool)) 71 aN_1565 1 a_1566]
def corbellaw20_PickLeast_j1_sh : Rd (List AV × List HE) := .pair (.cons (.own 0 1) (.cons (.int .i64) (.cons (.int .i64) (.cons (.int .i64) (.cons .bool Rd.nil))))) (.cons (.lst (.pair (.int .i64) (.pair (.int .i64) .bool)) 71 1) Rd.nil)
def corbellaw20_PickLeast_j1_a {R : Type} (k : Nat) : Alt R := { n := 96, v := [], sh := corbellaw20_PickLeast_j1_sh, g := fun K x => corbellaw20_PickLeast_j1 (fun y0 y1 => corbellaw20_PickLeast_j1_E0 K y0 y1 x.1.2.2.2.1 x.2.1.1 x.2.1.2) k x.1.2.1 x.1.2.2.1 x.1.2.2.2.1 x.1.2.2.2.2.1 x.2.1.2 }
def corbellaw20_PickLeast_j2_E0 {R : Type} (K : EX → St → Option R) : Int → Int → Int → Bool → List (Int × (Int × Bool)) → Option R := fun v0 v1 v2 v3 v4 => K .normal (mkSt 96 [] corbellaw20_PickLeast_x2.keep [.own 0 1, .int .i64 v0, .int .i64 v1, .int .i64 v2] [.lst (.pair (.int .i64) (.pair (.int .i64) .bool)) 71 v3 1 v4])
def corbellaw20_PickLeast_j2_S (sum_1574 : Int) (n_1575 : Int) (i_1576 : Int) (aN_1577 : Bool) (a_1578 : List (Int × (Int × Bool))) : St := mkSt 96 [] corbellaw20_PickLeast_c2.keep [.own 0 1, .int .i64 sum_1574, .int .i64 n_1575, .int .i64 i_1576] [.lst (.pair (.int .i64) (.pair (.int .i64) .bool)) 71 aN_1577 1 a_1578]
def corbellaw20_PickLeast_j2_sh : Rd (List AV × List HE) := .pair (.cons (.own 0 1) (.cons (.int .i64) (.cons (.int .i64) (.cons (.int .i64) Rd.nil)))) (.cons (.lst (.pair (.int .i64) (.pair (.int .i64) .bool)) 71 1) Rd.nil)
def corbellaw20_PickLeast_j2_a {R : Type} (k : Nat) : Alt R := { n := 96, v := [], sh := corbellaw20_PickLeast_j2_sh, g := fun K x => corbellaw20_PickLeast_j2 (fun y2 => corbellaw20_PickLeast_j2_E0 K x.1.2.1 x.1.2.2.1 y2 x.2.1.1 x.2.1.2) k x.1.2.2.2.1 }
def corbellaw20_PickLeast_O {R : Type} (k : Nat) : CutK R := cutsO [[corbellaw20_PickLeast_l0_a k], [corbellaw20_PickLeast_j1_a k], [corbellaw20_PickLeast_j2_a k]]
noncomputable def corbellaw20_PickLeast_b : List Ob := obs (bodyOf Try.f11) corbellaw20_PickLeast_h
noncomputable def corbellaw20_PickLeast_I {R : Type} (k : Nat) : InlT R := inone
theorem corbellaw20_PickLeast_l0_eq {R : Type} (k : Nat) (K : EX → St → Option R) (aN_1551 : Bool) : ∀ (j : Nat) (sum_1548 : Int) (n_1549 : Int) (i_1550 : Int) (a_1552 : List (Int × (Int × Bool))), corbellaw20_PickLeast_l0 (fun y0 y1 y3 => corbellaw20_PickLeast_l0_E0 K y0 y1 aN_1551 y3) k j sum_1548 n_1549 i_1550 a_1552 = iter corbellaw20_PickLeast_c0 corbellaw20_PickLeast_x0 (ev tab (corbellaw20_PickLeast_F k) (inlK tab (corbellaw20_PickLeast_F k) (corbellaw20_PickLeast_I k) 0) (corbellaw20_PickLeast_O k) (obB corbellaw20_PickLeast_b 0) (obH corbellaw20_PickLeast_b 0)) j (corbellaw20_PickLeast_l0_S sum_1548 n_1549 i_1550 aN_1551 a_1552) K
  | 0, _, _, _, _ => rfl
  | j + 1, sum_1548, n_1549, i_1550, a_1552 => by
    have e : corbellaw20_PickLeast_l0 (fun y0 y1 y3 => corbellaw20_PickLeast_l0_E0 K y0 y1 aN_1551 y3) k j = fun sum_1548 n_1549 i_1550 a_1552 => iter corbellaw20_PickLeast_c0 corbellaw20_PickLeast_x0 (ev tab (corbellaw20_PickLeast_F k) (inlK tab (corbellaw20_PickLeast_F k) (corbellaw20_PickLeast_I k) 0) (corbellaw20_PickLeast_O k) (obB corbellaw20_PickLeast_b 0) (obH corbellaw20_PickLeast_b 0)) j (corbellaw20_PickLeast_l0_S sum_1548 n_1549 i_1550 aN_1551 a_1552) K := by funext sum_1548 n_1549 i_1550 a_1552; exact corbellaw20_PickLeast_l0_eq k K aN_1551 j sum_1548 n_1549 i_1550 a_1552
    show corbellaw20_PickLeast_l0s (corbellaw20_PickLeast_l0 (fun y0 y1 y3 => corbellaw20_PickLeast_l0_E0 K y0 y1 aN_1551 y3) k j) (fun y0 y1 y3 => corbellaw20_PickLeast_l0_E0 K y0 y1 aN_1551 y3) k sum_1548 n_1549 i_1550 a_1552 = _
    rw [e, iter_succ]; kernel_rfl
theorem corbellaw20_PickLeast_l0_ok {R : Type} (k : Nat)  : ObOK (R := R) tab (corbellaw20_PickLeast_F k) (inlK tab (corbellaw20_PickLeast_F k) (corbellaw20_PickLeast_I k) 0) (corbellaw20_PickLeast_O k) (.loop corbellaw20_PickLeast_c0 corbellaw20_PickLeast_x0 0 (obB corbellaw20_PickLeast_b 0) (obH corbellaw20_PickLeast_b 0)) :=
  loop_ok (l := [corbellaw20_PickLeast_l0_a k]) (by kernel_rfl) ⟨(fun K x => ⟨k, (corbellaw20_PickLeast_l0_eq k K x.2.1.1 k x.1.2.1 x.1.2.2.1 x.1.2.2.2.1 x.2.1.2).trans (by kernel_rfl)⟩), trivial⟩
theorem corbellaw20_PickLeast_j1_eq {R : Type} (k : Nat) (K : EX → St → Option R) (sum_1561 : Int) (n_1562 : Int) (i_1563 : Int) (v_1564 : Bool) (aN_1565 : Bool) (a_1566 : List (Int × (Int × Bool))) : corbellaw20_PickLeast_j1 (fun y0 y1 => corbellaw20_PickLeast_j1_E0 K y0 y1 i_1563 aN_1565 a_1566) k sum_1561 n_1562 i_1563 v_1564 a_1566 = ev tab (corbellaw20_PickLeast_F k) (inlK tab (corbellaw20_PickLeast_F k) (corbellaw20_PickLeast_I k) 0) (corbellaw20_PickLeast_O k) (obB corbellaw20_PickLeast_b 1) (obH corbellaw20_PickLeast_b 1) (corbellaw20_PickLeast_j1_S sum_1561 n_1562 i_1563 v_1564 aN_1565 a_1566) (fun e st => optb (clean corbellaw20_PickLeast_x1 st) fun st => K e st) := by kernel_rfl
theorem corbellaw20_PickLeast_j1_ok {R : Type} (k : Nat)  : ObOK (R := R) tab (corbellaw20_PickLeast_F k) (inlK tab (corbellaw20_PickLeast_F k) (corbellaw20_PickLeast_I k) 0) (corbellaw20_PickLeast_O k) (.join corbellaw20_PickLeast_c1 corbellaw20_PickLeast_x1 1 (obB corbellaw20_PickLeast_b 1) (obH corbellaw20_PickLeast_b 1)) :=
  join_ok (l := [corbellaw20_PickLeast_j1_a k]) (by kernel_rfl) ⟨(fun K x => (corbellaw20_PickLeast_j1_eq k K x.1.2.1 x.1.2.2.1 x.1.2.2.2.1 x.1.2.2.2.2.1 x.2.1.1 x.2.1.2).trans (by kernel_rfl)), trivial⟩
theorem corbellaw20_PickLeast_j2_eq {R : Type} (k : Nat) (K : EX → St → Option R) (sum_1574 : Int) (n_1575 : Int) (i_1576 : Int) (aN_1577 : Bool) (a_1578 : List (Int × (Int × Bool))) : corbellaw20_PickLeast_j2 (fun y2 => corbellaw20_PickLeast_j2_E0 K sum_1574 n_1575 y2 aN_1577 a_1578) k i_1576 = ev tab (corbellaw20_PickLeast_F k) (inlK tab (corbellaw20_PickLeast_F k) (corbellaw20_PickLeast_I k) 0) (corbellaw20_PickLeast_O k) (obB corbellaw20_PickLeast_b 2) (obH corbellaw20_PickLeast_b 2) (corbellaw20_PickLeast_j2_S sum_1574 n_1575 i_1576 aN_1577 a_1578) (fun e st => optb (clean corbellaw20_PickLeast_x2 st) fun st => K e st) := by kernel_rfl
theorem corbellaw20_PickLeast_j2_ok {R : Type} (k : Nat)  : ObOK (R := R) tab (corbellaw20_PickLeast_F k) (inlK tab (corbellaw20_PickLeast_F k) (corbellaw20_PickLeast_I k) 0) (corbellaw20_PickLeast_O k) (.join corbellaw20_PickLeast_c2 corbellaw20_PickLeast_x2 2 (obB corbellaw20_PickLeast_b 2) (obH corbellaw20_PickLeast_b 2)) :=
  join_ok (l := [corbellaw20_PickLeast_j2_a k]) (by kernel_rfl) ⟨(fun K x => (corbellaw20_PickLeast_j2_eq k K x.1.2.1 x.1.2.2.1 x.1.2.2.2.1 x.2.1.1 x.2.1.2).trans (by kernel_rfl)), trivial⟩
theorem corbellaw20_PickLeast_cuts {R : Type} (k : Nat) : ∀ c, Try.f11.body = some c → CutsOK (R := R) tab (corbellaw20_PickLeast_F k) (inlK tab (corbellaw20_PickLeast_F k) (corbellaw20_PickLeast_I k) 0) (corbellaw20_PickLeast_O k) c corbellaw20_PickLeast_h :=
  cuts_of (l := [.loop corbellaw20_PickLeast_c0 corbellaw20_PickLeast_x0 0 (obB corbellaw20_PickLeast_b 0) (obH corbellaw20_PickLeast_b 0), .join corbellaw20_PickLeast_c1 corbellaw20_PickLeast_x1 1 (obB corbellaw20_PickLeast_b 1) (obH corbellaw20_PickLeast_b 1), .join corbellaw20_PickLeast_c2 corbellaw20_PickLeast_x2 2 (obB corbellaw20_PickLeast_b 2) (obH corbellaw20_PickLeast_b 2)]) (by kernel_rfl) ⟨corbellaw20_PickLeast_l0_ok k, corbellaw20_PickLeast_j1_ok k, corbellaw20_PickLeast_j2_ok k, trivial⟩
theorem corbellaw20_PickLeast_iok {R : Type} (k : Nat) : IOK Try.prog tab (corbellaw20_PickLeast_F k) (corbellaw20_PickLeast_I (R := R) k) := iok_none
theorem corbellaw20_PickLeast_ev (k : Nat) (x : (corbellaw20_PickLeast_p k).τ.den) : evalF tab (corbellaw20_PickLeast_F k) (corbellaw20_PickLeast_p k) (corbellaw20_PickLeast_I k) 0 (corbellaw20_PickLeast_O k) corbellaw20_PickLeast_h Try.f11 x = (corbellaw20_PickLeast_p k).f x := by kernel_rfl
theorem corbellaw20_PickLeast_ok (k : Nat) : PFOK Try.prog tab 11 (corbellaw20_PickLeast_p k) := pfok mixed tabOK (corbellaw20_PickLeast_fok k) Try.func11 (I := corbellaw20_PickLeast_I k) (d := 0) (corbellaw20_PickLeast_iok k) (Q := corbellaw20_PickLeast_O k) (hi := corbellaw20_PickLeast_h) (corbellaw20_PickLeast_cuts k) (corbellaw20_PickLeast_ev k)
end Go.Proofs.Ytcikcikcjimcjaa.Ev
