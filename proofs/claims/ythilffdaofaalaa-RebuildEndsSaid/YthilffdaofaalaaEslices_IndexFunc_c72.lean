/- slices_IndexFunc_c72, told on plain data. Written by program. -/
import Derived.Test.YthilffdaofaalaaEtab
set_option linter.unusedVariables false
set_option maxRecDepth 1000000
namespace Go.Proofs.Ythilffdaofaalaa.Ev
open Go Go.RowKit Go.Proofs
def slices_IndexFunc_c72_l0s {R : Type} (rc : Int → Option R) (e0 : Int → Option R) (e1 : Option R) (k : Nat) (sb_2392 : List (Int × (Int × Int))) (f_2393 : Int) (v_2394 : Int) (v_2395 : Int) : Option R :=
  bif (decide (v_2395 < v_2394)) then
    bif (decide ((0 : Int) ≤ v_2395)) then
      optb (sb_2392[v_2395.toNat]?) fun x_2398 =>
      bif (decide (x_2398.1 = f_2393)) then
        e0 v_2395
      else rc (wrap64 (v_2395 + (1 : Int)))
    else none
  else e1
def slices_IndexFunc_c72_l0 {R : Type} (e0 : Int → Option R) (e1 : Option R) (k : Nat) (sb_2392 : List (Int × (Int × Int))) (f_2393 : Int) (v_2394 : Int) : Nat → Int → Option R
  | 0 => fun _ => none
  | j + 1 => slices_IndexFunc_c72_l0s (slices_IndexFunc_c72_l0 e0 e1 k sb_2392 f_2393 v_2394 j) e0 e1 k sb_2392 f_2393 v_2394
def slices_IndexFunc_c72 (k : Nat) (sa_2388 : Bool) (sb_2389 : List (Int × (Int × Int))) (z_2390 : Int) : Option Int :=
  slices_IndexFunc_c72_l0 (fun v_2399 =>
    some v_2399) (some (-1 : Int)) k sb_2389 z_2390 (lenI sb_2389) k (0 : Int)
def slices_IndexFunc_c72_p (k : Nat) : PC := { ps := [(false, 1)], rs := [(false, 1)], τ := (.sl (.pair (.int .i64) (.pair (.int .i64) (.int .i64)))), κ := (.int .i64), σ := (.int .i64), f := fun x z => slices_IndexFunc_c72 k x.1 x.2 z }
def slices_IndexFunc_c72_F (k : Nat) : PT := fnone
theorem slices_IndexFunc_c72_fok (k : Nat) : FOK Try.prog tab (slices_IndexFunc_c72_F k) := fok_none
def slices_IndexFunc_c72_c0 : Cl := { keep := [0, 1, 7, 8], hl := 0, ad := [], adc := [], bump := [] }
def slices_IndexFunc_c72_x0 : Cl := { keep := [4], hl := 0, ad := [], adc := [], bump := [] }
def slices_IndexFunc_c72_h : Hint := (.sq .no (.sq (.sq .no (.lp slices_IndexFunc_c72_c0 slices_IndexFunc_c72_x0 0 .no)) .no))
def slices_IndexFunc_c72_l0_E0 {R : Type} (K : EX → St → Option R) : Int → Option R := fun v0 => K .ret (mkSt 19 [] slices_IndexFunc_c72_x0.keep [.int .i64 v0] [])
def slices_IndexFunc_c72_l0_E1 {R : Type} (K : EX → St → Option R) : Option R := K (.exit 0) (mkSt 19 [] slices_IndexFunc_c72_x0.keep [.junk] [])
def slices_IndexFunc_c72_l0_S (sa_2391 : Bool) (sb_2392 : List (Int × (Int × Int))) (f_2393 : Int) (v_2394 : Int) (v_2395 : Int) : St := mkSt 19 [] slices_IndexFunc_c72_c0.keep [.sl (.pair (.int .i64) (.pair (.int .i64) (.int .i64))) sa_2391 sb_2392, .fn (.func 72) [] [.ro (.int .i64) f_2393 0], .int .i64 v_2394, .int .i64 v_2395] []
def slices_IndexFunc_c72_l0_sh : Rd (List AV × List HE) := .pair (.cons (.sl (.pair (.int .i64) (.pair (.int .i64) (.int .i64)))) (.cons (.fn 72 Rd.nil (.cons (.ro (.int .i64) 0) Rd.nil)) (.cons (.int .i64) (.cons (.int .i64) Rd.nil)))) Rd.nil
def slices_IndexFunc_c72_l0_a {R : Type} (k : Nat) : Alt R := { n := 19, v := [], sh := slices_IndexFunc_c72_l0_sh, g := fun K x => slices_IndexFunc_c72_l0 (slices_IndexFunc_c72_l0_E0 K) (slices_IndexFunc_c72_l0_E1 K) k x.1.1.2 x.1.2.1.2.1 x.1.2.2.1 k x.1.2.2.2.1 }
def slices_IndexFunc_c72_O {R : Type} (k : Nat) : CutK R := cutsO [[slices_IndexFunc_c72_l0_a k]]
noncomputable def slices_IndexFunc_c72_b : List Ob := obs (bodyOf Try.f71) slices_IndexFunc_c72_h
def slices_IndexFunc_c72_i72_0_h : Hint := .no
def slices_IndexFunc_c72_i72_0_O {R : Type} (k : Nat) : CutK R := cutsO []
noncomputable def slices_IndexFunc_c72_I {R : Type} (k : Nat) : InlT R := icons 72 0 (slices_IndexFunc_c72_i72_0_h, Try.f72, deepO 0 (slices_IndexFunc_c72_i72_0_O k)) <| inone
theorem slices_IndexFunc_c72_l0_eq {R : Type} (k : Nat) (K : EX → St → Option R) (sa_2391 : Bool) (sb_2392 : List (Int × (Int × Int))) (f_2393 : Int) (v_2394 : Int) : ∀ (j : Nat) (v_2395 : Int), slices_IndexFunc_c72_l0 (slices_IndexFunc_c72_l0_E0 K) (slices_IndexFunc_c72_l0_E1 K) k sb_2392 f_2393 v_2394 j v_2395 = iter slices_IndexFunc_c72_c0 slices_IndexFunc_c72_x0 (ev tab (slices_IndexFunc_c72_F k) (inlK tab (slices_IndexFunc_c72_F k) (slices_IndexFunc_c72_I k) 1) (slices_IndexFunc_c72_O k) (obB slices_IndexFunc_c72_b 0) (obH slices_IndexFunc_c72_b 0)) j (slices_IndexFunc_c72_l0_S sa_2391 sb_2392 f_2393 v_2394 v_2395) K
  | 0, _ => rfl
  | j + 1, v_2395 => by
    have e : slices_IndexFunc_c72_l0 (slices_IndexFunc_c72_l0_E0 K) (slices_IndexFunc_c72_l0_E1 K) k sb_2392 f_2393 v_2394 j = fun v_2395 => iter slices_IndexFunc_c72_c0 slices_IndexFunc_c72_x0 (ev tab (slices_IndexFunc_c72_F k) (inlK tab (slices_IndexFunc_c72_F k) (slices_IndexFunc_c72_I k) 1) (slices_IndexFunc_c72_O k) (obB slices_IndexFunc_c72_b 0) (obH slices_IndexFunc_c72_b 0)) j (slices_IndexFunc_c72_l0_S sa_2391 sb_2392 f_2393 v_2394 v_2395) K := by funext v_2395; exact slices_IndexFunc_c72_l0_eq k K sa_2391 sb_2392 f_2393 v_2394 j v_2395
    show slices_IndexFunc_c72_l0s (slices_IndexFunc_c72_l0 (slices_IndexFunc_c72_l0_E0 K) (slices_IndexFunc_c72_l0_E1 K) k sb_2392 f_2393 v_2394 j) (slices_IndexFunc_c72_l0_E0 K) (slices_IndexFunc_c72_l0_E1 K) k sb_2392 f_2393 v_2394 v_2395 = _
    rw [e, iter_succ]; kernel_rfl
theorem slices_IndexFunc_c72_l0_ok {R : Type} (k : Nat)  : ObOK (R := R) tab (slices_IndexFunc_c72_F k) (inlK tab (slices_IndexFunc_c72_F k) (slices_IndexFunc_c72_I k) 1) (slices_IndexFunc_c72_O k) (.loop slices_IndexFunc_c72_c0 slices_IndexFunc_c72_x0 0 (obB slices_IndexFunc_c72_b 0) (obH slices_IndexFunc_c72_b 0)) :=
  loop_ok (l := [slices_IndexFunc_c72_l0_a k]) (by kernel_rfl) ⟨(fun K x => ⟨k, (slices_IndexFunc_c72_l0_eq k K x.1.1.1 x.1.1.2 x.1.2.1.2.1 x.1.2.2.1 k x.1.2.2.2.1).trans (by kernel_rfl)⟩), trivial⟩
theorem slices_IndexFunc_c72_cuts {R : Type} (k : Nat) : ∀ c, Try.f71.body = some c → CutsOK (R := R) tab (slices_IndexFunc_c72_F k) (inlK tab (slices_IndexFunc_c72_F k) (slices_IndexFunc_c72_I k) 1) (slices_IndexFunc_c72_O k) c slices_IndexFunc_c72_h :=
  cuts_of (l := [.loop slices_IndexFunc_c72_c0 slices_IndexFunc_c72_x0 0 (obB slices_IndexFunc_c72_b 0) (obH slices_IndexFunc_c72_b 0)]) (by kernel_rfl) ⟨slices_IndexFunc_c72_l0_ok k, trivial⟩
theorem slices_IndexFunc_c72_iok {R : Type} (k : Nat) : IOK Try.prog tab (slices_IndexFunc_c72_F k) (slices_IndexFunc_c72_I (R := R) k) := iok_cons Try.func72 Try.call72 (plainO (by kernel_rfl)) <| iok_none
theorem slices_IndexFunc_c72_ev (k : Nat) (x : (slices_IndexFunc_c72_p k).τ.den) (z : (slices_IndexFunc_c72_p k).κ.den) : evalC tab (slices_IndexFunc_c72_F k) (slices_IndexFunc_c72_p k) 72 (slices_IndexFunc_c72_I k) 1 (slices_IndexFunc_c72_O k) slices_IndexFunc_c72_h Try.f71 x z = (slices_IndexFunc_c72_p k).f x z := by kernel_rfl
theorem slices_IndexFunc_c72_ok (k : Nat) : PCOK Try.prog tab 71 72 (slices_IndexFunc_c72_p k) := pcok mixed tabOK (slices_IndexFunc_c72_fok k) Try.func71 (I := slices_IndexFunc_c72_I k) (d := 1) (slices_IndexFunc_c72_iok k) (Q := slices_IndexFunc_c72_O k) (hi := slices_IndexFunc_c72_h) (slices_IndexFunc_c72_cuts k) (slices_IndexFunc_c72_ev k)
end Go.Proofs.Ythilffdaofaalaa.Ev
