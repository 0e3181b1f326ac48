/- xor_load, told on plain data. Written by program. -/
import Derived.Test.YtdmcfpnegbfgiaaDoorEtab
set_option linter.unusedVariables false
set_option maxRecDepth 1000000
namespace Go.Proofs.YtdmcfpnegbfgiaaDoor.Ev
open Go Go.RowKit Go.Proofs
def xor_load_l0s {R : Type} (rc : Int → Int → Option R) (e0 : Int → Option R) (k : Nat) (s_402 : ByteArray) (at_403 : Int) (w_404 : Int) (v_405 : Int) : Option R :=
  bif (decide (v_405 < (8 : Int))) then
    bif ((decide ((0 : Int) ≤ (wrap64 (at_403 + v_405)))) && (decide ((wrap64 (at_403 + v_405)) < (sizeI s_402)))) then
      bif (decide ((wrap64 ((8 : Int) * v_405)) < (0 : Int))) then
        none
      else rc (bitop .or .u64 w_404 (shlv .u64 (IntKind.u64.wrap (bt s_402 (wrap64 (at_403 + v_405)))) (wrap64 ((8 : Int) * v_405)))) (wrap64 (v_405 + (1 : Int)))
    else none
  else e0 w_404
def xor_load_l0 {R : Type} (e0 : Int → Option R) (k : Nat) (s_402 : ByteArray) (at_403 : Int) : Nat → Int → Int → Option R
  | 0 => fun _ _ => none
  | j + 1 => xor_load_l0s (xor_load_l0 e0 k s_402 at_403 j) e0 k s_402 at_403
def xor_load (k : Nat) (s_400 : ByteArray) (at_401 : Int) : Option Int :=
  xor_load_l0 (fun w_410 =>
    some w_410) k s_400 at_401 k (0 : Int) (0 : Int)
def xor_load_p (k : Nat) : PF := { ps := [(false, 1), (false, 1)], rs := [(false, 1)], τ := (.pair .str (.int .i64)), σ := (.int .u64), f := fun x => xor_load k x.1 x.2 }
def xor_load_F (k : Nat) : PT := fnone
theorem xor_load_fok (k : Nat) : FOK Tryd.prog tab (xor_load_F k) := fok_none
def xor_load_c0 : Cl := { keep := [0, 1, 5, 7], hl := 0, ad := [], adc := [], bump := [] }
def xor_load_x0 : Cl := { keep := [5], hl := 0, ad := [], adc := [], bump := [] }
def xor_load_h : Hint := (.sq .no (.sq .no (.sq (.sq .no (.lp xor_load_c0 xor_load_x0 0 .no)) .no)))
def xor_load_l0_E0 {R : Type} (K : EX → St → Option R) : Int → Option R := fun v0 => K (.exit 0) (mkSt 23 [] xor_load_x0.keep [.int .u64 v0] [])
def xor_load_l0_S (s_402 : ByteArray) (at_403 : Int) (w_404 : Int) (v_405 : Int) : St := mkSt 23 [] xor_load_c0.keep [.str s_402, .int .i64 at_403, .int .u64 w_404, .int .i64 v_405] []
def xor_load_l0_sh : Rd (List AV × List HE) := .pair (.cons .str (.cons (.int .i64) (.cons (.int .u64) (.cons (.int .i64) Rd.nil)))) Rd.nil
def xor_load_l0_a {R : Type} (k : Nat) : Alt R := { n := 23, v := [], sh := xor_load_l0_sh, g := fun K x => xor_load_l0 (xor_load_l0_E0 K) k x.1.1 x.1.2.1 k x.1.2.2.1 x.1.2.2.2.1 }
def xor_load_O {R : Type} (k : Nat) : CutK R := cutsO [[xor_load_l0_a k]]
noncomputable def xor_load_b : List Ob := obs (bodyOf Tryd.f28) xor_load_h
noncomputable def xor_load_I {R : Type} (k : Nat) : InlT R := inone
theorem xor_load_l0_eq {R : Type} (k : Nat) (K : EX → St → Option R) (s_402 : ByteArray) (at_403 : Int) : ∀ (j : Nat) (w_404 : Int) (v_405 : Int), xor_load_l0 (xor_load_l0_E0 K) k s_402 at_403 j w_404 v_405 = iter xor_load_c0 xor_load_x0 (ev tab (xor_load_F k) (inlK tab (xor_load_F k) (xor_load_I k) 0) (xor_load_O k) (obB xor_load_b 0) (obH xor_load_b 0)) j (xor_load_l0_S s_402 at_403 w_404 v_405) K
  | 0, _, _ => rfl
  | j + 1, w_404, v_405 => by
    have e : xor_load_l0 (xor_load_l0_E0 K) k s_402 at_403 j = fun w_404 v_405 => iter xor_load_c0 xor_load_x0 (ev tab (xor_load_F k) (inlK tab (xor_load_F k) (xor_load_I k) 0) (xor_load_O k) (obB xor_load_b 0) (obH xor_load_b 0)) j (xor_load_l0_S s_402 at_403 w_404 v_405) K := by funext w_404 v_405; exact xor_load_l0_eq k K s_402 at_403 j w_404 v_405
    show xor_load_l0s (xor_load_l0 (xor_load_l0_E0 K) k s_402 at_403 j) (xor_load_l0_E0 K) k s_402 at_403 w_404 v_405 = _
    rw [e, iter_succ]; kernel_rfl
theorem xor_load_l0_ok {R : Type} (k : Nat)  : ObOK (R := R) tab (xor_load_F k) (inlK tab (xor_load_F k) (xor_load_I k) 0) (xor_load_O k) (.loop xor_load_c0 xor_load_x0 0 (obB xor_load_b 0) (obH xor_load_b 0)) :=
  loop_ok (l := [xor_load_l0_a k]) (by kernel_rfl) ⟨(fun K x => ⟨k, (xor_load_l0_eq k K x.1.1 x.1.2.1 k x.1.2.2.1 x.1.2.2.2.1).trans (by kernel_rfl)⟩), trivial⟩
theorem xor_load_cuts {R : Type} (k : Nat) : ∀ c, Tryd.f28.body = some c → CutsOK (R := R) tab (xor_load_F k) (inlK tab (xor_load_F k) (xor_load_I k) 0) (xor_load_O k) c xor_load_h :=
  cuts_of (l := [.loop xor_load_c0 xor_load_x0 0 (obB xor_load_b 0) (obH xor_load_b 0)]) (by kernel_rfl) ⟨xor_load_l0_ok k, trivial⟩
theorem xor_load_iok {R : Type} (k : Nat) : IOK Tryd.prog tab (xor_load_F k) (xor_load_I (R := R) k) := iok_none
theorem xor_load_ev (k : Nat) (x : (xor_load_p k).τ.den) : evalF tab (xor_load_F k) (xor_load_p k) (xor_load_I k) 0 (xor_load_O k) xor_load_h Tryd.f28 x = (xor_load_p k).f x := by kernel_rfl
theorem xor_load_ok (k : Nat) : PFOK Tryd.prog tab 28 (xor_load_p k) := pfok mixed tabOK (xor_load_fok k) Tryd.func28 (I := xor_load_I k) (d := 0) (xor_load_iok k) (Q := xor_load_O k) (hi := xor_load_h) (xor_load_cuts k) (xor_load_ev k)
end Go.Proofs.YtdmcfpnegbfgiaaDoor.Ev
