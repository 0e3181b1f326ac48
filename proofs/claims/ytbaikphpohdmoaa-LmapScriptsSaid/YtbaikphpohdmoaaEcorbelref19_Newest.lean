/- corbelref19_Newest, told on plain data. Written by program. -/
import Derived.Test.YtbaikphpohdmoaaEtab
set_option linter.unusedVariables false
set_option maxRecDepth 1000000
namespace Go.Proofs.Ytbaikphpohdmoaa.Ev
open Go Go.RowKit Go.Proofs
noncomputable def corbelref19_Newest_j1 {R : Type} (e0 : Int → Option R) (k : Nat) (best_6412 : Int) (i_6413 : Int) (v_6414 : Bool) : Option R :=
  bif v_6414 then
    e0 i_6413
  else e0 best_6412
noncomputable def corbelref19_Newest_j2 {R : Type} (e0 : Int → Option R) (k : Nat) (i_6424 : Int) : Option R :=
  e0 (wrap64 (i_6424 + (1 : Int)))
noncomputable def corbelref19_Newest_k0 {R : Type} (rc : Int → Int → Option R) (e0 : Int → Option R) (k : Nat) (i_6401 : Int) : Int → Option R := fun best_6418 =>
  corbelref19_Newest_j2 (fun i_6429 =>
    rc best_6418 i_6429) k i_6401
noncomputable def corbelref19_Newest_l0s {R : Type} (rc : Int → Int → Option R) (e0 : Int → Option R) (k : Nat) (lb_6398 : List (Int × (Int × (Int × (Int × (Int × Bool)))))) (block_6399 : Int) (best_6400 : Int) (i_6401 : Int) : Option R :=
  bif (decide (i_6401 < (lenI lb_6398))) then
    bif (decide ((0 : Int) ≤ i_6401)) then
      optb (lb_6398[i_6401.toNat]?) fun x_6408 =>
      bif (decide (x_6408.2.2.2.2.1 = block_6399)) then
        bif (decide (best_6400 < (0 : Int))) then
          corbelref19_Newest_j1 (corbelref19_Newest_k0 rc e0 k i_6401) k best_6400 i_6401 true
        else bif (decide ((0 : Int) ≤ i_6401)) then
          optb (lb_6398[i_6401.toNat]?) fun x_6430 =>
          bif (decide ((0 : Int) ≤ best_6400)) then
            optb (lb_6398[best_6400.toNat]?) fun x_6431 =>
            corbelref19_Newest_j1 (corbelref19_Newest_k0 rc e0 k i_6401) k best_6400 i_6401 (decide (x_6431.2.2.2.1 ≤ x_6430.2.2.2.1))
          else none
        else none
      else corbelref19_Newest_j1 (corbelref19_Newest_k0 rc e0 k i_6401) k best_6400 i_6401 false
    else none
  else e0 best_6400
noncomputable def corbelref19_Newest_l0 {R : Type} (e0 : Int → Option R) (k : Nat) (lb_6398 : List (Int × (Int × (Int × (Int × (Int × Bool)))))) (block_6399 : Int) : Nat → Int → Int → Option R
  | 0 => fun _ _ => none
  | j + 1 => corbelref19_Newest_l0s (corbelref19_Newest_l0 e0 k lb_6398 block_6399 j) e0 k lb_6398 block_6399
noncomputable def corbelref19_Newest (k : Nat) (la_6394 : Bool) (lb_6395 : List (Int × (Int × (Int × (Int × (Int × Bool)))))) (block_6396 : Int) : Option Int :=
  corbelref19_Newest_l0 (fun best_6432 =>
    some best_6432) k lb_6395 block_6396 k (-1 : Int) (0 : Int)
noncomputable def corbelref19_Newest_p (k : Nat) : PF := { ps := [(false, 1), (false, 1)], rs := [(false, 1)], τ := (.pair (.sl (.pair (.int .i64) (.pair (.int .i64) (.pair (.int .i64) (.pair (.int .i64) (.pair (.int .i64) .bool)))))) (.int .i64)), σ := (.int .i64), f := fun x => corbelref19_Newest k x.1.1 x.1.2 x.2 }
noncomputable def corbelref19_Newest_F (k : Nat) : PT := fnone
theorem corbelref19_Newest_fok (k : Nat) : FOK Try.prog tab (corbelref19_Newest_F k) := fok_none
noncomputable def corbelref19_Newest_c0 : Cl := { keep := [0, 1, 5, 6], hl := 0, ad := [], adc := [], bump := [] }
noncomputable def corbelref19_Newest_x0 : Cl := { keep := [5], hl := 0, ad := [], adc := [], bump := [] }
noncomputable def corbelref19_Newest_c1 : Cl := { keep := [0, 1, 5, 6, 36], hl := 0, ad := [], adc := [], bump := [] }
noncomputable def corbelref19_Newest_x1 : Cl := { keep := [0, 1, 5, 6], hl := 0, ad := [], adc := [], bump := [] }
noncomputable def corbelref19_Newest_c2 : Cl := { keep := [0, 1, 5, 6], hl := 0, ad := [], adc := [], bump := [] }
noncomputable def corbelref19_Newest_x2 : Cl := { keep := [0, 1, 5, 6], hl := 0, ad := [], adc := [], bump := [] }
noncomputable def corbelref19_Newest_h : Hint := (.sq .no (.sq .no (.sq (.sq .no (.lp corbelref19_Newest_c0 corbelref19_Newest_x0 0 (.sq .no (.ct corbelref19_Newest_c2 corbelref19_Newest_x2 2 (.ct corbelref19_Newest_c1 corbelref19_Newest_x1 1 .no .no) .no)))) .no)))
noncomputable def corbelref19_Newest_l0_E0 {R : Type} (K : EX → St → Option R) : Int → Option R := fun v0 => K (.exit 0) (mkSt 39 [] corbelref19_Newest_x0.keep [.int .i64 v0] [])
noncomputable def corbelref19_Newest_l0_S (la_6397 : Bool) (lb_6398 : List (Int × (Int × (Int × (Int × (Int × Bool)))))) (block_6399 : Int) (best_6400 : Int) (i_6401 : Int) : St := mkSt 39 [] corbelref19_Newest_c0.keep [.sl (.pair (.int .i64) (.pair (.int .i64) (.pair (.int .i64) (.pair (.int .i64) (.pair (.int .i64) .bool))))) la_6397 lb_6398, .int .i64 block_6399, .int .i64 best_6400, .int .i64 i_6401] []
noncomputable def corbelref19_Newest_l0_sh : Rd (List AV × List HE) := .pair (.cons (.sl (.pair (.int .i64) (.pair (.int .i64) (.pair (.int .i64) (.pair (.int .i64) (.pair (.int .i64) .bool)))))) (.cons (.int .i64) (.cons (.int .i64) (.cons (.int .i64) Rd.nil)))) Rd.nil
noncomputable def corbelref19_Newest_l0_a {R : Type} (k : Nat) : Alt R := { n := 39, v := [], sh := corbelref19_Newest_l0_sh, g := fun K x => corbelref19_Newest_l0 (corbelref19_Newest_l0_E0 K) k x.1.1.2 x.1.2.1 k x.1.2.2.1 x.1.2.2.2.1 }
noncomputable def corbelref19_Newest_j1_E0 {R : Type} (K : EX → St → Option R) : Bool → List (Int × (Int × (Int × (Int × (Int × Bool))))) → Int → Int → Int → Option R := fun v0 v1 v2 v3 v4 => K .normal (mkSt 39 [] corbelref19_Newest_x1.keep [.sl (.pair (.int .i64) (.pair (.int .i64) (.pair (.int .i64) (.pair (.int .i64) (.pair (.int .i64) .bool))))) v0 v1, .int .i64 v2, .int .i64 v3, .int .i64 v4] [])
noncomputable def corbelref19_Newest_j1_S (la_6409 : Bool) (lb_6410 : List (Int × (Int × (Int × (Int × (Int × Bool)))))) (block_6411 : Int) (best_6412 : Int) (i_6413 : Int) (v_6414 : Bool) : St := mkSt 39 [] corbelref19_Newest_c1.keep [.sl (.pair (.int .i64) (.pair (.int .i64) (.pair (.int .i64) (.pair (.int .i64) (.pair (.int .i64) .bool))))) la_6409 lb_6410, .int .i64 block_6411, .int .i64 best_6412, .int .i64 i_6413, .bool v_6414] []
noncomputable def corbelref19_Newest_j1_sh : Rd (List AV × List HE) := .pair (.cons (.sl (.pair (.int .i64) (.pair (.int .i64) (.pair (.int .i64) (.pair (.int .i64) (.pair (.int .i64) .bool)))))) (.cons (.int .i64) (.cons (.int .i64) (.cons (.int .i64) (.cons .bool Rd.nil))))) Rd.nil
noncomputable def corbelref19_Newest_j1_a {R : Type} (k : Nat) : Alt R := { n := 39, v := [], sh := corbelref19_Newest_j1_sh, g := fun K x => corbelref19_Newest_j1 (fun y3 => corbelref19_Newest_j1_E0 K x.1.1.1 x.1.1.2 x.1.2.1 y3 x.1.2.2.2.1) k x.1.2.2.1 x.1.2.2.2.1 x.1.2.2.2.2.1 }
noncomputable def corbelref19_Newest_j2_E0 {R : Type} (K : EX → St → Option R) : Bool → List (Int × (Int × (Int × (Int × (Int × Bool))))) → Int → Int → Int → Option R := fun v0 v1 v2 v3 v4 => K .normal (mkSt 39 [] corbelref19_Newest_x2.keep [.sl (.pair (.int .i64) (.pair (.int .i64) (.pair (.int .i64) (.pair (.int .i64) (.pair (.int .i64) .bool))))) v0 v1, .int .i64 v2, .int .i64 v3, .int .i64 v4] [])
noncomputable def corbelref19_Newest_j2_S (la_6420 : Bool) (lb_6421 : List (Int × (Int × (Int × (Int × (Int × Bool)))))) (block_6422 : Int) (best_6423 : Int) (i_6424 : Int) : St := mkSt 39 [] corbelref19_Newest_c2.keep [.sl (.pair (.int .i64) (.pair (.int .i64) (.pair (.int .i64) (.pair (.int .i64) (.pair (.int .i64) .bool))))) la_6420 lb_6421, .int .i64 block_6422, .int .i64 best_6423, .int .i64 i_6424] []
noncomputable def corbelref19_Newest_j2_sh : Rd (List AV × List HE) := .pair (.cons (.sl (.pair (.int .i64) (.pair (.int .i64) (.pair (.int .i64) (.pair (.int .i64) (.pair (.int .i64) .bool)))))) (.cons (.int .i64) (.cons (.int .i64) (.cons (.int .i64) Rd.nil)))) Rd.nil
noncomputable def corbelref19_Newest_j2_a {R : Type} (k : Nat) : Alt R := { n := 39, v := [], sh := corbelref19_Newest_j2_sh, g := fun K x => corbelref19_Newest_j2 (fun y4 => corbelref19_Newest_j2_E0 K x.1.1.1 x.1.1.2 x.1.2.1 x.1.2.2.1 y4) k x.1.2.2.2.1 }
noncomputable def corbelref19_Newest_O {R : Type} (k : Nat) : CutK R := cutsO [[corbelref19_Newest_l0_a k], [corbelref19_Newest_j1_a k], [corbelref19_Newest_j2_a k]]
noncomputable def corbelref19_Newest_b : List Ob := obs (bodyOf Try.f16) corbelref19_Newest_h
noncomputable def corbelref19_Newest_I {R : Type} (k : Nat) : InlT R := inone
theorem corbelref19_Newest_l0_eq {R : Type} (k : Nat) (K : EX → St → Option R) (la_6397 : Bool) (lb_6398 : List (Int × (Int × (Int × (Int × (Int × Bool)))))) (block_6399 : Int) : ∀ (j : Nat) (best_6400 : Int) (i_6401 : Int), corbelref19_Newest_l0 (corbelref19_Newest_l0_E0 K) k lb_6398 block_6399 j best_6400 i_6401 = iter corbelref19_Newest_c0 corbelref19_Newest_x0 (ev tab (corbelref19_Newest_F k) (inlK tab (corbelref19_Newest_F k) (corbelref19_Newest_I k) 0) (corbelref19_Newest_O k) (obB corbelref19_Newest_b 0) (obH corbelref19_Newest_b 0)) j (corbelref19_Newest_l0_S la_6397 lb_6398 block_6399 best_6400 i_6401) K
  | 0, _, _ => rfl
  | j + 1, best_6400, i_6401 => by
    have e : corbelref19_Newest_l0 (corbelref19_Newest_l0_E0 K) k lb_6398 block_6399 j = fun best_6400 i_6401 => iter corbelref19_Newest_c0 corbelref19_Newest_x0 (ev tab (corbelref19_Newest_F k) (inlK tab (corbelref19_Newest_F k) (corbelref19_Newest_I k) 0) (corbelref19_Newest_O k) (obB corbelref19_Newest_b 0) (obH corbelref19_Newest_b 0)) j (corbelref19_Newest_l0_S la_6397 lb_6398 block_6399 best_6400 i_6401) K := by funext best_6400 i_6401; exact corbelref19_Newest_l0_eq k K la_6397 lb_6398 block_6399 j best_6400 i_6401
    show corbelref19_Newest_l0s (corbelref19_Newest_l0 (corbelref19_Newest_l0_E0 K) k lb_6398 block_6399 j) (corbelref19_Newest_l0_E0 K) k lb_6398 block_6399 best_6400 i_6401 = _
    rw [e, iter_succ]; kernel_rfl
theorem corbelref19_Newest_l0_ok {R : Type} (k : Nat)  : ObOK (R := R) tab (corbelref19_Newest_F k) (inlK tab (corbelref19_Newest_F k) (corbelref19_Newest_I k) 0) (corbelref19_Newest_O k) (.loop corbelref19_Newest_c0 corbelref19_Newest_x0 0 (obB corbelref19_Newest_b 0) (obH corbelref19_Newest_b 0)) :=
  loop_ok (l := [corbelref19_Newest_l0_a k]) (by kernel_rfl) ⟨(fun K x => ⟨k, (corbelref19_Newest_l0_eq k K x.1.1.1 x.1.1.2 x.1.2.1 k x.1.2.2.1 x.1.2.2.2.1).trans (by kernel_rfl)⟩), trivial⟩
theorem corbelref19_Newest_j1_eq {R : Type} (k : Nat) (K : EX → St → Option R) (la_6409 : Bool) (lb_6410 : List (Int × (Int × (Int × (Int × (Int × Bool)))))) (block_6411 : Int) (best_6412 : Int) (i_6413 : Int) (v_6414 : Bool) : corbelref19_Newest_j1 (fun y3 => corbelref19_Newest_j1_E0 K la_6409 lb_6410 block_6411 y3 i_6413) k best_6412 i_6413 v_6414 = ev tab (corbelref19_Newest_F k) (inlK tab (corbelref19_Newest_F k) (corbelref19_Newest_I k) 0) (corbelref19_Newest_O k) (obB corbelref19_Newest_b 1) (obH corbelref19_Newest_b 1) (corbelref19_Newest_j1_S la_6409 lb_6410 block_6411 best_6412 i_6413 v_6414) (fun e st => optb (clean corbelref19_Newest_x1 st) fun st => K e st) := by kernel_rfl
theorem corbelref19_Newest_j1_ok {R : Type} (k : Nat)  : ObOK (R := R) tab (corbelref19_Newest_F k) (inlK tab (corbelref19_Newest_F k) (corbelref19_Newest_I k) 0) (corbelref19_Newest_O k) (.join corbelref19_Newest_c1 corbelref19_Newest_x1 1 (obB corbelref19_Newest_b 1) (obH corbelref19_Newest_b 1)) :=
  join_ok (l := [corbelref19_Newest_j1_a k]) (by kernel_rfl) ⟨(fun K x => (corbelref19_Newest_j1_eq k K x.1.1.1 x.1.1.2 x.1.2.1 x.1.2.2.1 x.1.2.2.2.1 x.1.2.2.2.2.1).trans (by kernel_rfl)), trivial⟩
theorem corbelref19_Newest_j2_eq {R : Type} (k : Nat) (K : EX → St → Option R) (la_6420 : Bool) (lb_6421 : List (Int × (Int × (Int × (Int × (Int × Bool)))))) (block_6422 : Int) (best_6423 : Int) (i_6424 : Int) : corbelref19_Newest_j2 (fun y4 => corbelref19_Newest_j2_E0 K la_6420 lb_6421 block_6422 best_6423 y4) k i_6424 = ev tab (corbelref19_Newest_F k) (inlK tab (corbelref19_Newest_F k) (corbelref19_Newest_I k) 0) (corbelref19_Newest_O k) (obB corbelref19_Newest_b 2) (obH corbelref19_Newest_b 2) (corbelref19_Newest_j2_S la_6420 lb_6421 block_6422 best_6423 i_6424) (fun e st => optb (clean corbelref19_Newest_x2 st) fun st => K e st) := by kernel_rfl
theorem corbelref19_Newest_j2_ok {R : Type} (k : Nat)  : ObOK (R := R) tab (corbelref19_Newest_F k) (inlK tab (corbelref19_Newest_F k) (corbelref19_Newest_I k) 0) (corbelref19_Newest_O k) (.join corbelref19_Newest_c2 corbelref19_Newest_x2 2 (obB corbelref19_Newest_b 2) (obH corbelref19_Newest_b 2)) :=
  join_ok (l := [corbelref19_Newest_j2_a k]) (by kernel_rfl) ⟨(fun K x => (corbelref19_Newest_j2_eq k K x.1.1.1 x.1.1.2 x.1.2.1 x.1.2.2.1 x.1.2.2.2.1).trans (by kernel_rfl)), trivial⟩
theorem corbelref19_Newest_cuts {R : Type} (k : Nat) : ∀ c, Try.f16.body = some c → CutsOK (R := R) tab (corbelref19_Newest_F k) (inlK tab (corbelref19_Newest_F k) (corbelref19_Newest_I k) 0) (corbelref19_Newest_O k) c corbelref19_Newest_h :=
  cuts_of (l := [.loop corbelref19_Newest_c0 corbelref19_Newest_x0 0 (obB corbelref19_Newest_b 0) (obH corbelref19_Newest_b 0), .join corbelref19_Newest_c1 corbelref19_Newest_x1 1 (obB corbelref19_Newest_b 1) (obH corbelref19_Newest_b 1), .join corbelref19_Newest_c2 corbelref19_Newest_x2 2 (obB corbelref19_Newest_b 2) (obH corbelref19_Newest_b 2)]) (by kernel_rfl) ⟨corbelref19_Newest_l0_ok k, corbelref19_Newest_j1_ok k, corbelref19_Newest_j2_ok k, trivial⟩
theorem corbelref19_Newest_iok {R : Type} (k : Nat) : IOK Try.prog tab (corbelref19_Newest_F k) (corbelref19_Newest_I (R := R) k) := iok_none
theorem corbelref19_Newest_ev (k : Nat) (x : (corbelref19_Newest_p k).τ.den) : evalF tab (corbelref19_Newest_F k) (corbelref19_Newest_p k) (corbelref19_Newest_I k) 0 (corbelref19_Newest_O k) corbelref19_Newest_h Try.f16 x = (corbelref19_Newest_p k).f x := by kernel_rfl
theorem corbelref19_Newest_ok (k : Nat) : PFOK Try.prog tab 16 (corbelref19_Newest_p k) := pfok mixed tabOK (corbelref19_Newest_fok k) Try.func16 (I := corbelref19_Newest_I k) (d := 0) (corbelref19_Newest_iok k) (Q := corbelref19_Newest_O k) (hi := corbelref19_Newest_h) (corbelref19_Newest_cuts k) (corbelref19_Newest_ev k)
end Go.Proofs.Ytbaikphpohdmoaa.Ev
