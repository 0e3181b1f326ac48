/- cmp_Or, told on plain data. Written by program. -/
import Derived.Test.YtbaikphpohdmoaaEtab
set_option linter.unusedVariables false
set_option maxRecDepth 1000000
namespace Go.Proofs.Ytbaikphpohdmoaa.Ev
open Go Go.RowKit Go.Proofs
noncomputable def cmp_Or_l0s {R : Type} (rc : Int → Option R) (e0 : Int → Option R) (e1 : Option R) (k : Nat) (zero_16456 : Int) (vb_16458 : List Int) (v_16459 : Int) (v_16460 : Int) : Option R :=
  bif (decide (v_16460 < v_16459)) then
    bif (decide ((0 : Int) ≤ v_16460)) then
      optb (vb_16458[v_16460.toNat]?) fun x_16463 =>
      bif (!(decide (x_16463 = zero_16456))) then
        e0 x_16463
      else rc (wrap64 (v_16460 + (1 : Int)))
    else none
  else e1
noncomputable def cmp_Or_l0 {R : Type} (e0 : Int → Option R) (e1 : Option R) (k : Nat) (zero_16456 : Int) (vb_16458 : List Int) (v_16459 : Int) : Nat → Int → Option R
  | 0 => fun _ => none
  | j + 1 => cmp_Or_l0s (cmp_Or_l0 e0 e1 k zero_16456 vb_16458 v_16459 j) e0 e1 k zero_16456 vb_16458 v_16459
noncomputable def cmp_Or (k : Nat) (valsa_16454 : Bool) (valsb_16455 : List Int) : Option Int :=
  cmp_Or_l0 (fun v_16464 =>
    some v_16464) (some (0 : Int)) k (0 : Int) valsb_16455 (lenI valsb_16455) k (0 : Int)
noncomputable def cmp_Or_p (k : Nat) : PF := { ps := [(false, 1)], rs := [(false, 1)], τ := (.sl (.int .i64)), σ := (.int .i64), f := fun x => cmp_Or k x.1 x.2 }
noncomputable def cmp_Or_F (k : Nat) : PT := fnone
theorem cmp_Or_fok (k : Nat) : FOK Try.prog tab (cmp_Or_F k) := fok_none
noncomputable def cmp_Or_c0 : Cl := { keep := [3, 6, 7, 8], hl := 0, ad := [], adc := [], bump := [] }
noncomputable def cmp_Or_x0 : Cl := { keep := [2, 3], hl := 0, ad := [], adc := [], bump := [] }
noncomputable def cmp_Or_h : Hint := (.sq .no (.sq .no (.sq (.sq .no (.lp cmp_Or_c0 cmp_Or_x0 0 .no)) .no)))
noncomputable def cmp_Or_l0_E0 {R : Type} (K : EX → St → Option R) : Int → Int → Option R := fun v0 v1 => K .ret (mkSt 18 [] cmp_Or_x0.keep [.int .i64 v0, .int .i64 v1] [])
noncomputable def cmp_Or_l0_E1 {R : Type} (K : EX → St → Option R) : Int → Option R := fun v0 => K (.exit 0) (mkSt 18 [] cmp_Or_x0.keep [.junk, .int .i64 v0] [])
noncomputable def cmp_Or_l0_S (zero_16456 : Int) (va_16457 : Bool) (vb_16458 : List Int) (v_16459 : Int) (v_16460 : Int) : St := mkSt 18 [] cmp_Or_c0.keep [.int .i64 zero_16456, .sl (.int .i64) va_16457 vb_16458, .int .i64 v_16459, .int .i64 v_16460] []
noncomputable def cmp_Or_l0_sh : Rd (List AV × List HE) := .pair (.cons (.int .i64) (.cons (.sl (.int .i64)) (.cons (.int .i64) (.cons (.int .i64) Rd.nil)))) Rd.nil
noncomputable def cmp_Or_l0_a {R : Type} (k : Nat) : Alt R := { n := 18, v := [], sh := cmp_Or_l0_sh, g := fun K x => cmp_Or_l0 (fun y0 => cmp_Or_l0_E0 K y0 x.1.1) (cmp_Or_l0_E1 K x.1.1) k x.1.1 x.1.2.1.2 x.1.2.2.1 k x.1.2.2.2.1 }
noncomputable def cmp_Or_O {R : Type} (k : Nat) : CutK R := cutsO [[cmp_Or_l0_a k]]
noncomputable def cmp_Or_b : List Ob := obs (bodyOf Try.f35) cmp_Or_h
noncomputable def cmp_Or_I {R : Type} (k : Nat) : InlT R := inone
theorem cmp_Or_l0_eq {R : Type} (k : Nat) (K : EX → St → Option R) (zero_16456 : Int) (va_16457 : Bool) (vb_16458 : List Int) (v_16459 : Int) : ∀ (j : Nat) (v_16460 : Int), cmp_Or_l0 (fun y0 => cmp_Or_l0_E0 K y0 zero_16456) (cmp_Or_l0_E1 K zero_16456) k zero_16456 vb_16458 v_16459 j v_16460 = iter cmp_Or_c0 cmp_Or_x0 (ev tab (cmp_Or_F k) (inlK tab (cmp_Or_F k) (cmp_Or_I k) 0) (cmp_Or_O k) (obB cmp_Or_b 0) (obH cmp_Or_b 0)) j (cmp_Or_l0_S zero_16456 va_16457 vb_16458 v_16459 v_16460) K
  | 0, _ => rfl
  | j + 1, v_16460 => by
    have e : cmp_Or_l0 (fun y0 => cmp_Or_l0_E0 K y0 zero_16456) (cmp_Or_l0_E1 K zero_16456) k zero_16456 vb_16458 v_16459 j = fun v_16460 => iter cmp_Or_c0 cmp_Or_x0 (ev tab (cmp_Or_F k) (inlK tab (cmp_Or_F k) (cmp_Or_I k) 0) (cmp_Or_O k) (obB cmp_Or_b 0) (obH cmp_Or_b 0)) j (cmp_Or_l0_S zero_16456 va_16457 vb_16458 v_16459 v_16460) K := by funext v_16460; exact cmp_Or_l0_eq k K zero_16456 va_16457 vb_16458 v_16459 j v_16460
    show cmp_Or_l0s (cmp_Or_l0 (fun y0 => cmp_Or_l0_E0 K y0 zero_16456) (cmp_Or_l0_E1 K zero_16456) k zero_16456 vb_16458 v_16459 j) (fun y0 => cmp_Or_l0_E0 K y0 zero_16456) (cmp_Or_l0_E1 K zero_16456) k zero_16456 vb_16458 v_16459 v_16460 = _
    rw [e, iter_succ]; kernel_rfl
theorem cmp_Or_l0_ok {R : Type} (k : Nat)  : ObOK (R := R) tab (cmp_Or_F k) (inlK tab (cmp_Or_F k) (cmp_Or_I k) 0) (cmp_Or_O k) (.loop cmp_Or_c0 cmp_Or_x0 0 (obB cmp_Or_b 0) (obH cmp_Or_b 0)) :=
  loop_ok (l := [cmp_Or_l0_a k]) (by kernel_rfl) ⟨(fun K x => ⟨k, (cmp_Or_l0_eq k K x.1.1 x.1.2.1.1 x.1.2.1.2 x.1.2.2.1 k x.1.2.2.2.1).trans (by kernel_rfl)⟩), trivial⟩
theorem cmp_Or_cuts {R : Type} (k : Nat) : ∀ c, Try.f35.body = some c → CutsOK (R := R) tab (cmp_Or_F k) (inlK tab (cmp_Or_F k) (cmp_Or_I k) 0) (cmp_Or_O k) c cmp_Or_h :=
  cuts_of (l := [.loop cmp_Or_c0 cmp_Or_x0 0 (obB cmp_Or_b 0) (obH cmp_Or_b 0)]) (by kernel_rfl) ⟨cmp_Or_l0_ok k, trivial⟩
theorem cmp_Or_iok {R : Type} (k : Nat) : IOK Try.prog tab (cmp_Or_F k) (cmp_Or_I (R := R) k) := iok_none
theorem cmp_Or_ev (k : Nat) (x : (cmp_Or_p k).τ.den) : evalF tab (cmp_Or_F k) (cmp_Or_p k) (cmp_Or_I k) 0 (cmp_Or_O k) cmp_Or_h Try.f35 x = (cmp_Or_p k).f x := by kernel_rfl
theorem cmp_Or_ok (k : Nat) : PFOK Try.prog tab 35 (cmp_Or_p k) := pfok mixed tabOK (cmp_Or_fok k) Try.func35 (I := cmp_Or_I k) (d := 0) (cmp_Or_iok k) (Q := cmp_Or_O k) (hi := cmp_Or_h) (cmp_Or_cuts k) (cmp_Or_ev k)
end Go.Proofs.Ytbaikphpohdmoaa.Ev
