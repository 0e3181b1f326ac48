/- xor_load, told on plain data. Written by program. -/
import Derived.Test.YtbgcfcojepfdbaaEtab
set_option linter.unusedVariables false
set_option maxRecDepth 1000000
namespace Go.Proofs.Ytbgcfcojepfdbaa.Ev
open Go Go.RowKit Go.Proofs
def xor_load_l0s {R : Type} (rc : Int → Int → Option R) (e0 : Int → Option R) (k : Nat) (s_322 : ByteArray) (at_323 : Int) (w_324 : Int) (v_325 : Int) : Option R :=
  bif (decide (v_325 < (8 : Int))) then
    bif ((decide ((0 : Int) ≤ (wrap64 (at_323 + v_325)))) && (decide ((wrap64 (at_323 + v_325)) < (sizeI s_322)))) then
      bif (decide ((wrap64 ((8 : Int) * v_325)) < (0 : Int))) then
        none
      else rc (bitop .or .u64 w_324 (shlv .u64 (IntKind.u64.wrap (bt s_322 (wrap64 (at_323 + v_325)))) (wrap64 ((8 : Int) * v_325)))) (wrap64 (v_325 + (1 : Int)))
    else none
  else e0 w_324
def xor_load_l0 {R : Type} (e0 : Int → Option R) (k : Nat) (s_322 : ByteArray) (at_323 : Int) : Nat → Int → Int → Option R
  | 0 => fun _ _ => none
  | j + 1 => xor_load_l0s (xor_load_l0 e0 k s_322 at_323 j) e0 k s_322 at_323
def xor_load (k : Nat) (s_320 : ByteArray) (at_321 : Int) : Option Int :=
  xor_load_l0 (fun w_330 =>
    some w_330) k s_320 at_321 k (0 : Int) (0 : Int)
def xor_load_p (k : Nat) : PF := { ps := [(false, 1), (false, 1)], rs := [(false, 1)], τ := (.pair .str (.int .i64)), σ := (.int .u64), f := fun x => xor_load k x.1 x.2 }
def xor_load_F (k : Nat) : PT := fnone
theorem xor_load_fok (k : Nat) : FOK Try.prog tab (xor_load_F k) := fok_none
def xor_load_c0 : Cl := { keep := [0, 1, 5, 7], hl := 0, ad := [], adc := [], bump := [] }
def xor_load_x0 : Cl := { keep := [5], hl := 0, ad := [], adc := [], bump := [] }
def xor_load_h : Hint := (.sq .no (.sq .no (.sq (.sq .no (.lp xor_load_c0 xor_load_x0 0 .no)) .no)))
def xor_load_l0_E0 {R : Type} (K : EX → St → Option R) : Int → Option R := fun v0 => K (.exit 0) (mkSt 23 [] xor_load_x0.keep [.int .u64 v0] [])
def xor_load_l0_S (s_322 : ByteArray) (at_323 : Int) (w_324 : Int) (v_325 : Int) : St := mkSt 23 [] xor_load_c0.keep [.str s_322, .int .i64 at_323, .int .u64 w_324, .int .i64 v_325] []
def xor_load_l0_sh : Rd (List AV × List HE) := .pair (.cons .str (.cons (.int .i64) (.cons (.int .u64) (.cons (.int .i64) Rd.nil)))) Rd.nil
def xor_load_l0_a {R : Type} (k : Nat) : Alt R := { n := 23, v := [], sh := xor_load_l0_sh, g := fun K x => xor_load_l0 (xor_load_l0_E0 K) k x.1.1 x.1.2.1 k x.1.2.2.1 x.1.2.2.2.1 }
def xor_load_O {R : Type} (k : Nat) : CutK R := cutsO [[xor_load_l0_a k]]
noncomputable def xor_load_b : List Ob := obs (bodyOf Try.f63) xor_load_h
noncomputable def xor_load_I {R : Type} (k : Nat) : InlT R := inone
theorem xor_load_l0_eq {R : Type} (k : Nat) (K : EX → St → Option R) (s_322 : ByteArray) (at_323 : Int) : ∀ (j : Nat) (w_324 : Int) (v_325 : Int), xor_load_l0 (xor_load_l0_E0 K) k s_322 at_323 j w_324 v_325 = iter xor_load_c0 xor_load_x0 (ev tab (xor_load_F k) (inlK tab (xor_load_F k) (xor_load_I k) 0) (xor_load_O k) (obB xor_load_b 0) (obH xor_load_b 0)) j (xor_load_l0_S s_322 at_323 w_324 v_325) K
  | 0, _, _ => rfl
  | j + 1, w_324, v_325 => by
    have e : xor_load_l0 (xor_load_l0_E0 K) k s_322 at_323 j = fun w_324 v_325 => iter xor_load_c0 xor_load_x0 (ev tab (xor_load_F k) (inlK tab (xor_load_F k) (xor_load_I k) 0) (xor_load_O k) (obB xor_load_b 0) (obH xor_load_b 0)) j (xor_load_l0_S s_322 at_323 w_324 v_325) K := by funext w_324 v_325; exact xor_load_l0_eq k K s_322 at_323 j w_324 v_325
    show xor_load_l0s (xor_load_l0 (xor_load_l0_E0 K) k s_322 at_323 j) (xor_load_l0_E0 K) k s_322 at_323 w_324 v_325 = _
    rw [e, iter_succ]; kernel_rfl
theorem xor_load_l0_ok {R : Type} (k : Nat)  : ObOK (R := R) tab (xor_load_F k) (inlK tab (xor_load_F k) (xor_load_I k) 0) (xor_load_O k) (.loop xor_load_c0 xor_load_x0 0 (obB xor_load_b 0) (obH xor_load_b 0)) :=
  loop_ok (l := [xor_load_l0_a k]) (by kernel_rfl) ⟨(fun K x => ⟨k, (xor_load_l0_eq k K x.1.1 x.1.2.1 k x.1.2.2.1 x.1.2.2.2.1).trans (by kernel_rfl)⟩), trivial⟩
theorem xor_load_cuts {R : Type} (k : Nat) : ∀ c, Try.f63.body = some c → CutsOK (R := R) tab (xor_load_F k) (inlK tab (xor_load_F k) (xor_load_I k) 0) (xor_load_O k) c xor_load_h :=
  cuts_of (l := [.loop xor_load_c0 xor_load_x0 0 (obB xor_load_b 0) (obH xor_load_b 0)]) (by kernel_rfl) ⟨xor_load_l0_ok k, trivial⟩
theorem xor_load_iok {R : Type} (k : Nat) : IOK Try.prog tab (xor_load_F k) (xor_load_I (R := R) k) := iok_none
theorem xor_load_ev (k : Nat) (x : (xor_load_p k).τ.den) : evalF tab (xor_load_F k) (xor_load_p k) (xor_load_I k) 0 (xor_load_O k) xor_load_h Try.f63 x = (xor_load_p k).f x := by kernel_rfl
theorem xor_load_ok (k : Nat) : PFOK Try.prog tab 63 (xor_load_p k) := pfok mixed tabOK (xor_load_fok k) Try.func63 (I := xor_load_I k) (d := 0) (xor_load_iok k) (Q := xor_load_O k) (hi := xor_load_h) (xor_load_cuts k) (xor_load_ev k)
end Go.Proofs.Ytbgcfcojepfdbaa.Ev
