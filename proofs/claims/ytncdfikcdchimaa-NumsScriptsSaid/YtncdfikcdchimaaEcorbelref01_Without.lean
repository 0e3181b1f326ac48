/- corbelref01_Without, told on plain data. Written by program. -/
import Derived.Test.YtncdfikcdchimaaEtab
set_option linter.unusedVariables false
set_option maxRecDepth 1000000
namespace Go.Proofs.Ytncdfikcdchimaa.Ev
open Go Go.RowKit Go.Proofs
def corbelref01_Without_j1 {R : Type} (e0 : Int → Option R) (k : Nat) (i_396 : Int) : Option R :=
  e0 (wrap64 (i_396 + (1 : Int)))
def corbelref01_Without_j1b {R : Type} (e0 : Int → Option R) (k : Nat) (i_412 : Int) : Option R :=
  e0 (wrap64 (i_412 + (1 : Int)))
def corbelref01_Without_l0s {R : Type} (rc : Int → List Int → Option R) (e0 : List Int → Option R) (k : Nat) (n_386 : Int) (sb_389 : List Int) (i_387 : Int) (out_391 : List Int) : Option R :=
  bif (decide (i_387 < (lenI sb_389))) then
    bif (decide ((0 : Int) ≤ i_387)) then
      optb (sb_389[i_387.toNat]?) fun x_393 =>
      bif (!(decide (x_393 = n_386))) then
        bif (decide ((0 : Int) ≤ i_387)) then
          optb (sb_389[i_387.toNat]?) fun x_394 =>
          bif (decide (out_391.length + ([x_394] : List Int).length ≤ 1099511627776)) then
            corbelref01_Without_j1 (fun i_404 =>
              rc i_404 (out_391 ++ ([x_394] : List Int))) k i_387
          else none
        else none
      else corbelref01_Without_j1b (fun i_418 =>
        rc i_418 out_391) k i_387
    else none
  else e0 out_391
def corbelref01_Without_l0 {R : Type} (e0 : List Int → Option R) (k : Nat) (n_386 : Int) (sb_389 : List Int) : Nat → Int → List Int → Option R
  | 0 => fun _ _ => none
  | j + 1 => corbelref01_Without_l0s (corbelref01_Without_l0 e0 k n_386 sb_389 j) e0 k n_386 sb_389
def corbelref01_Without (k : Nat) (sa_299 : Bool) (sb_300 : List Int) (n_301 : Int) : Option (Bool × List Int) :=
  corbelref01_Without_l0 (fun out_426 =>
    some (true, out_426)) k n_301 sb_300 k (0 : Int) ([] : List Int)
def corbelref01_Without_p (k : Nat) : PF := { ps := [(true, 1), (false, 1)], rs := [(true, 1)], τ := (.pair (.sl (.int .i64)) (.int .i64)), σ := (.sl (.int .i64)), f := fun x => corbelref01_Without k x.1.1 x.1.2 x.2, fr := [some 3] }
def corbelref01_Without_F (k : Nat) : PT := fnone
theorem corbelref01_Without_fok (k : Nat) : FOK Try.prog tab (corbelref01_Without_F k) := fok_none
def corbelref01_Without_c0 : Cl := { keep := [1, 2, 4, 5, 6], hl := 3, ad := [(5, (.int .i64), 3)], adc := [], bump := [] }
def corbelref01_Without_x0 : Cl := { keep := [4, 5], hl := 3, ad := [], adc := [], bump := [] }
def corbelref01_Without_c1 : Cl := { keep := [1, 2, 4, 5, 6], hl := 4, ad := [], adc := [], bump := [] }
def corbelref01_Without_x1 : Cl := { keep := [1, 2, 4, 5, 6], hl := 4, ad := [], adc := [], bump := [] }
def corbelref01_Without_h : Hint := (.sq .no (.sq .no (.sq (.sq .no (.lp corbelref01_Without_c0 corbelref01_Without_x0 0 (.sq .no (.ct corbelref01_Without_c1 corbelref01_Without_x1 1 .no .no)))) .no)))
def corbelref01_Without_l0_E0 {R : Type} (K : EX → St → Option R) : Bool → List Int → Bool → List Int → Option R := fun v0 v1 v2 v3 => K (.exit 0) (mkSt 31 [] corbelref01_Without_x0.keep [.ptr 1 0, .own 2 1] [.blk [.sl (.int .i64) v0 v1], .blk [.nils], .lst (.int .i64) 3 v2 1 v3])
def corbelref01_Without_l0_S (n_386 : Int) (i_387 : Int) (sa_388 : Bool) (sb_389 : List Int) (outN_390 : Bool) (out_391 : List Int) : St := mkSt 31 [] corbelref01_Without_c0.keep [.int .i64 n_386, .ptr 0 0, .ptr 1 0, .own 2 1, .int .i64 i_387] [.blk [.sl (.int .i64) sa_388 sb_389], .blk [.nils], .lst (.int .i64) 3 outN_390 1 out_391]
def corbelref01_Without_l0_sh : Rd (List AV × List HE) := .pair (.cons (.int .i64) (.cons (.ptr 0 0) (.cons (.ptr 1 0) (.cons (.own 2 1) (.cons (.int .i64) Rd.nil))))) (.cons (.blk (.cons (.sl (.int .i64)) Rd.nil)) (.cons (.blk (.cons .nils Rd.nil)) (.cons (.lst (.int .i64) 3 1) Rd.nil)))
def corbelref01_Without_l0_a {R : Type} (k : Nat) : Alt R := { n := 31, v := [], sh := corbelref01_Without_l0_sh, g := fun K x => corbelref01_Without_l0 (fun y3 => corbelref01_Without_l0_E0 K x.2.1.1.1 x.2.1.1.2 x.2.2.2.1.1 y3) k x.1.1 x.2.1.1.2 k x.1.2.2.2.2.1 x.2.2.2.1.2 }
def corbelref01_Without_j1_E0 {R : Type} (K : EX → St → Option R) : Int → Int → Bool → List Int → Bool → List Int → Bool → List Int → Option R := fun v0 v1 v2 v3 v4 v5 v6 v7 => K .normal (mkSt 31 [] corbelref01_Without_x1.keep [.int .i64 v0, .ptr 0 0, .ptr 1 0, .own 2 1, .int .i64 v1] [.blk [.sl (.int .i64) v2 v3], .blk [.nils], .lst (.int .i64) 3 v4 1 v5, .lst (.int .i64) 3 v6 1 v7])
def corbelref01_Without_j1_S (n_395 : Int) (i_396 : Int) (sa_397 : Bool) (sb_398 : List Int) (outN_399 : Bool) (out_400 : List Int) (hN_401 : Bool) (h_402 : List Int) : St := mkSt 31 [] corbelref01_Without_c1.keep [.int .i64 n_395, .ptr 0 0, .ptr 1 0, .own 2 1, .int .i64 i_396] [.blk [.sl (.int .i64) sa_397 sb_398], .blk [.nils], .lst (.int .i64) 3 outN_399 1 out_400, .lst (.int .i64) 3 hN_401 1 h_402]
def corbelref01_Without_j1_sh : Rd (List AV × List HE) := .pair (.cons (.int .i64) (.cons (.ptr 0 0) (.cons (.ptr 1 0) (.cons (.own 2 1) (.cons (.int .i64) Rd.nil))))) (.cons (.blk (.cons (.sl (.int .i64)) Rd.nil)) (.cons (.blk (.cons .nils Rd.nil)) (.cons (.lst (.int .i64) 3 1) (.cons (.lst (.int .i64) 3 1) Rd.nil))))
def corbelref01_Without_j1_a {R : Type} (k : Nat) : Alt R := { n := 31, v := [], sh := corbelref01_Without_j1_sh, g := fun K x => corbelref01_Without_j1 (fun y1 => corbelref01_Without_j1_E0 K x.1.1 y1 x.2.1.1.1 x.2.1.1.2 x.2.2.2.1.1 x.2.2.2.1.2 x.2.2.2.2.1.1 x.2.2.2.2.1.2) k x.1.2.2.2.2.1 }
def corbelref01_Without_j1b_E0 {R : Type} (K : EX → St → Option R) : Int → Int → Bool → List Int → Bool → List Int → Option R := fun v0 v1 v2 v3 v4 v5 => K .normal (mkSt 31 [] corbelref01_Without_x1.keep [.int .i64 v0, .ptr 0 0, .ptr 1 0, .own 2 1, .int .i64 v1] [.blk [.sl (.int .i64) v2 v3], .blk [.nils], .lst (.int .i64) 3 v4 1 v5])
def corbelref01_Without_j1b_S (n_411 : Int) (i_412 : Int) (sa_413 : Bool) (sb_414 : List Int) (outN_415 : Bool) (out_416 : List Int) : St := mkSt 31 [] corbelref01_Without_c1.keep [.int .i64 n_411, .ptr 0 0, .ptr 1 0, .own 2 1, .int .i64 i_412] [.blk [.sl (.int .i64) sa_413 sb_414], .blk [.nils], .lst (.int .i64) 3 outN_415 1 out_416]
def corbelref01_Without_j1b_sh : Rd (List AV × List HE) := .pair (.cons (.int .i64) (.cons (.ptr 0 0) (.cons (.ptr 1 0) (.cons (.own 2 1) (.cons (.int .i64) Rd.nil))))) (.cons (.blk (.cons (.sl (.int .i64)) Rd.nil)) (.cons (.blk (.cons .nils Rd.nil)) (.cons (.lst (.int .i64) 3 1) Rd.nil)))
def corbelref01_Without_j1b_a {R : Type} (k : Nat) : Alt R := { n := 31, v := [], sh := corbelref01_Without_j1b_sh, g := fun K x => corbelref01_Without_j1b (fun y1 => corbelref01_Without_j1b_E0 K x.1.1 y1 x.2.1.1.1 x.2.1.1.2 x.2.2.2.1.1 x.2.2.2.1.2) k x.1.2.2.2.2.1 }
def corbelref01_Without_O {R : Type} (k : Nat) : CutK R := cutsO [[corbelref01_Without_l0_a k], [corbelref01_Without_j1_a k, corbelref01_Without_j1b_a k]]
noncomputable def corbelref01_Without_b : List Ob := obs (bodyOf Try.f20) corbelref01_Without_h
noncomputable def corbelref01_Without_I {R : Type} (k : Nat) : InlT R := inone
theorem corbelref01_Without_l0_eq {R : Type} (k : Nat) (K : EX → St → Option R) (n_386 : Int) (sa_388 : Bool) (sb_389 : List Int) (outN_390 : Bool) : ∀ (j : Nat) (i_387 : Int) (out_391 : List Int), corbelref01_Without_l0 (fun y3 => corbelref01_Without_l0_E0 K sa_388 sb_389 outN_390 y3) k n_386 sb_389 j i_387 out_391 = iter corbelref01_Without_c0 corbelref01_Without_x0 (ev tab (corbelref01_Without_F k) (inlK tab (corbelref01_Without_F k) (corbelref01_Without_I k) 0) (corbelref01_Without_O k) (obB corbelref01_Without_b 0) (obH corbelref01_Without_b 0)) j (corbelref01_Without_l0_S n_386 i_387 sa_388 sb_389 outN_390 out_391) K
  | 0, _, _ => rfl
  | j + 1, i_387, out_391 => by
    have e : corbelref01_Without_l0 (fun y3 => corbelref01_Without_l0_E0 K sa_388 sb_389 outN_390 y3) k n_386 sb_389 j = fun i_387 out_391 => iter corbelref01_Without_c0 corbelref01_Without_x0 (ev tab (corbelref01_Without_F k) (inlK tab (corbelref01_Without_F k) (corbelref01_Without_I k) 0) (corbelref01_Without_O k) (obB corbelref01_Without_b 0) (obH corbelref01_Without_b 0)) j (corbelref01_Without_l0_S n_386 i_387 sa_388 sb_389 outN_390 out_391) K := by funext i_387 out_391; exact corbelref01_Without_l0_eq k K n_386 sa_388 sb_389 outN_390 j i_387 out_391
    show corbelref01_Without_l0s (corbelref01_Without_l0 (fun y3 => corbelref01_Without_l0_E0 K sa_388 sb_389 outN_390 y3) k n_386 sb_389 j) (fun y3 => corbelref01_Without_l0_E0 K sa_388 sb_389 outN_390 y3) k n_386 sb_389 i_387 out_391 = _
    rw [e, iter_succ]; kernel_rfl
theorem corbelref01_Without_l0_ok {R : Type} (k : Nat)  : ObOK (R := R) tab (corbelref01_Without_F k) (inlK tab (corbelref01_Without_F k) (corbelref01_Without_I k) 0) (corbelref01_Without_O k) (.loop corbelref01_Without_c0 corbelref01_Without_x0 0 (obB corbelref01_Without_b 0) (obH corbelref01_Without_b 0)) :=
  loop_ok (l := [corbelref01_Without_l0_a k]) (by kernel_rfl) ⟨(fun K x => ⟨k, (corbelref01_Without_l0_eq k K x.1.1 x.2.1.1.1 x.2.1.1.2 x.2.2.2.1.1 k x.1.2.2.2.2.1 x.2.2.2.1.2).trans (by kernel_rfl)⟩), trivial⟩
theorem corbelref01_Without_j1_eq {R : Type} (k : Nat) (K : EX → St → Option R) (n_395 : Int) (i_396 : Int) (sa_397 : Bool) (sb_398 : List Int) (outN_399 : Bool) (out_400 : List Int) (hN_401 : Bool) (h_402 : List Int) : corbelref01_Without_j1 (fun y1 => corbelref01_Without_j1_E0 K n_395 y1 sa_397 sb_398 outN_399 out_400 hN_401 h_402) k i_396 = ev tab (corbelref01_Without_F k) (inlK tab (corbelref01_Without_F k) (corbelref01_Without_I k) 0) (corbelref01_Without_O k) (obB corbelref01_Without_b 1) (obH corbelref01_Without_b 1) (corbelref01_Without_j1_S n_395 i_396 sa_397 sb_398 outN_399 out_400 hN_401 h_402) (fun e st => optb (clean corbelref01_Without_x1 st) fun st => K e st) := by kernel_rfl
theorem corbelref01_Without_j1b_eq {R : Type} (k : Nat) (K : EX → St → Option R) (n_411 : Int) (i_412 : Int) (sa_413 : Bool) (sb_414 : List Int) (outN_415 : Bool) (out_416 : List Int) : corbelref01_Without_j1b (fun y1 => corbelref01_Without_j1b_E0 K n_411 y1 sa_413 sb_414 outN_415 out_416) k i_412 = ev tab (corbelref01_Without_F k) (inlK tab (corbelref01_Without_F k) (corbelref01_Without_I k) 0) (corbelref01_Without_O k) (obB corbelref01_Without_b 1) (obH corbelref01_Without_b 1) (corbelref01_Without_j1b_S n_411 i_412 sa_413 sb_414 outN_415 out_416) (fun e st => optb (clean corbelref01_Without_x1 st) fun st => K e st) := by kernel_rfl
theorem corbelref01_Without_j1_ok {R : Type} (k : Nat)  : ObOK (R := R) tab (corbelref01_Without_F k) (inlK tab (corbelref01_Without_F k) (corbelref01_Without_I k) 0) (corbelref01_Without_O k) (.join corbelref01_Without_c1 corbelref01_Without_x1 1 (obB corbelref01_Without_b 1) (obH corbelref01_Without_b 1)) :=
  join_ok (l := [corbelref01_Without_j1_a k, corbelref01_Without_j1b_a k]) (by kernel_rfl) ⟨(fun K x => (corbelref01_Without_j1_eq k K x.1.1 x.1.2.2.2.2.1 x.2.1.1.1 x.2.1.1.2 x.2.2.2.1.1 x.2.2.2.1.2 x.2.2.2.2.1.1 x.2.2.2.2.1.2).trans (by kernel_rfl)), (fun K x => (corbelref01_Without_j1b_eq k K x.1.1 x.1.2.2.2.2.1 x.2.1.1.1 x.2.1.1.2 x.2.2.2.1.1 x.2.2.2.1.2).trans (by kernel_rfl)), trivial⟩
theorem corbelref01_Without_cuts {R : Type} (k : Nat) : ∀ c, Try.f20.body = some c → CutsOK (R := R) tab (corbelref01_Without_F k) (inlK tab (corbelref01_Without_F k) (corbelref01_Without_I k) 0) (corbelref01_Without_O k) c corbelref01_Without_h :=
  cuts_of (l := [.loop corbelref01_Without_c0 corbelref01_Without_x0 0 (obB corbelref01_Without_b 0) (obH corbelref01_Without_b 0), .join corbelref01_Without_c1 corbelref01_Without_x1 1 (obB corbelref01_Without_b 1) (obH corbelref01_Without_b 1)]) (by kernel_rfl) ⟨corbelref01_Without_l0_ok k, corbelref01_Without_j1_ok k, trivial⟩
theorem corbelref01_Without_iok {R : Type} (k : Nat) : IOK Try.prog tab (corbelref01_Without_F k) (corbelref01_Without_I (R := R) k) := iok_none
theorem corbelref01_Without_ev (k : Nat) (x : (corbelref01_Without_p k).τ.den) : evalF tab (corbelref01_Without_F k) (corbelref01_Without_p k) (corbelref01_Without_I k) 0 (corbelref01_Without_O k) corbelref01_Without_h Try.f20 x = (corbelref01_Without_p k).f x := by kernel_rfl
theorem corbelref01_Without_ok (k : Nat) : PFOK Try.prog tab 20 (corbelref01_Without_p k) := pfok mixed tabOK (corbelref01_Without_fok k) Try.func20 (I := corbelref01_Without_I k) (d := 0) (corbelref01_Without_iok k) (Q := corbelref01_Without_O k) (hi := corbelref01_Without_h) (corbelref01_Without_cuts k) (corbelref01_Without_ev k)
end Go.Proofs.Ytncdfikcdchimaa.Ev
