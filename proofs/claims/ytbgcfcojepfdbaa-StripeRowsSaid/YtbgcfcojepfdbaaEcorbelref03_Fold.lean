/- corbelref03_Fold, told on plain data. Written by program. -/
import Derived.Test.YtbgcfcojepfdbaaEcorbelref03_Add
set_option linter.unusedVariables false
set_option maxRecDepth 1000000
namespace Go.Proofs.Ytbgcfcojepfdbaa.Ev
open Go Go.RowKit Go.Proofs
def corbelref03_Fold_l0s {R : Type} (rc : ByteArray → Int → Option R) (e0 : ByteArray → Option R) (k : Nat) (lb_1089 : List ByteArray) (s_1090 : ByteArray) (i_1091 : Int) : Option R :=
  bif (decide (i_1091 < (lenI lb_1089))) then
    bif (decide ((0 : Int) ≤ i_1091)) then
      optb (lb_1089[i_1091.toNat]?) fun x_1434 =>
      optb (corbelref03_Add k s_1090 x_1434) fun r_1435 =>
      rc r_1435 (wrap64 (i_1091 + (1 : Int)))
    else none
  else e0 s_1090
def corbelref03_Fold_l0 {R : Type} (e0 : ByteArray → Option R) (k : Nat) (lb_1089 : List ByteArray) : Nat → ByteArray → Int → Option R
  | 0 => fun _ _ => none
  | j + 1 => corbelref03_Fold_l0s (corbelref03_Fold_l0 e0 k lb_1089 j) e0 k lb_1089
def corbelref03_Fold (k : Nat) (la_1086 : Bool) (lb_1087 : List ByteArray) : Option ByteArray :=
  corbelref03_Fold_l0 (fun s_1436 =>
    some s_1436) k lb_1087 k (⟨#[]⟩ : ByteArray) (0 : Int)
def corbelref03_Fold_p (k : Nat) : PF := { ps := [(false, 1)], rs := [(false, 1)], τ := (.sl .str), σ := .str, f := fun x => corbelref03_Fold k x.1 x.2 }
def corbelref03_Fold_F (k : Nat) : PT := fcons 46 (corbelref03_Add_p k) <| fnone
theorem corbelref03_Fold_fok (k : Nat) : FOK Try.prog tab (corbelref03_Fold_F k) := fok_cons (corbelref03_Add_ok k) Try.call46 <| fok_none
def corbelref03_Fold_c0 : Cl := { keep := [0, 3, 4], hl := 0, ad := [], adc := [], bump := [] }
def corbelref03_Fold_x0 : Cl := { keep := [3], hl := 0, ad := [], adc := [], bump := [] }
def corbelref03_Fold_h : Hint := (.sq .no (.sq .no (.sq (.sq .no (.lp corbelref03_Fold_c0 corbelref03_Fold_x0 0 .no)) .no)))
def corbelref03_Fold_l0_E0 {R : Type} (K : EX → St → Option R) : ByteArray → Option R := fun v0 => K (.exit 0) (mkSt 18 [] corbelref03_Fold_x0.keep [.str v0] [])
def corbelref03_Fold_l0_S (la_1088 : Bool) (lb_1089 : List ByteArray) (s_1090 : ByteArray) (i_1091 : Int) : St := mkSt 18 [] corbelref03_Fold_c0.keep [.sl .str la_1088 lb_1089, .str s_1090, .int .i64 i_1091] []
def corbelref03_Fold_l0_sh : Rd (List AV × List HE) := .pair (.cons (.sl .str) (.cons .str (.cons (.int .i64) Rd.nil))) Rd.nil
def corbelref03_Fold_l0_a {R : Type} (k : Nat) : Alt R := { n := 18, v := [], sh := corbelref03_Fold_l0_sh, g := fun K x => corbelref03_Fold_l0 (corbelref03_Fold_l0_E0 K) k x.1.1.2 k x.1.2.1 x.1.2.2.1 }
def corbelref03_Fold_O {R : Type} (k : Nat) : CutK R := cutsO [[corbelref03_Fold_l0_a k]]
noncomputable def corbelref03_Fold_b : List Ob := obs (bodyOf Try.f48) corbelref03_Fold_h
noncomputable def corbelref03_Fold_I {R : Type} (k : Nat) : InlT R := inone
theorem corbelref03_Fold_l0_eq {R : Type} (k : Nat) (K : EX → St → Option R) (la_1088 : Bool) (lb_1089 : List ByteArray) : ∀ (j : Nat) (s_1090 : ByteArray) (i_1091 : Int), corbelref03_Fold_l0 (corbelref03_Fold_l0_E0 K) k lb_1089 j s_1090 i_1091 = iter corbelref03_Fold_c0 corbelref03_Fold_x0 (ev tab (corbelref03_Fold_F k) (inlK tab (corbelref03_Fold_F k) (corbelref03_Fold_I k) 0) (corbelref03_Fold_O k) (obB corbelref03_Fold_b 0) (obH corbelref03_Fold_b 0)) j (corbelref03_Fold_l0_S la_1088 lb_1089 s_1090 i_1091) K
  | 0, _, _ => rfl
  | j + 1, s_1090, i_1091 => by
    have e : corbelref03_Fold_l0 (corbelref03_Fold_l0_E0 K) k lb_1089 j = fun s_1090 i_1091 => iter corbelref03_Fold_c0 corbelref03_Fold_x0 (ev tab (corbelref03_Fold_F k) (inlK tab (corbelref03_Fold_F k) (corbelref03_Fold_I k) 0) (corbelref03_Fold_O k) (obB corbelref03_Fold_b 0) (obH corbelref03_Fold_b 0)) j (corbelref03_Fold_l0_S la_1088 lb_1089 s_1090 i_1091) K := by funext s_1090 i_1091; exact corbelref03_Fold_l0_eq k K la_1088 lb_1089 j s_1090 i_1091
    show corbelref03_Fold_l0s (corbelref03_Fold_l0 (corbelref03_Fold_l0_E0 K) k lb_1089 j) (corbelref03_Fold_l0_E0 K) k lb_1089 s_1090 i_1091 = _
    rw [e, iter_succ]; kernel_rfl
theorem corbelref03_Fold_l0_ok {R : Type} (k : Nat)  : ObOK (R := R) tab (corbelref03_Fold_F k) (inlK tab (corbelref03_Fold_F k) (corbelref03_Fold_I k) 0) (corbelref03_Fold_O k) (.loop corbelref03_Fold_c0 corbelref03_Fold_x0 0 (obB corbelref03_Fold_b 0) (obH corbelref03_Fold_b 0)) :=
  loop_ok (l := [corbelref03_Fold_l0_a k]) (by kernel_rfl) ⟨(fun K x => ⟨k, (corbelref03_Fold_l0_eq k K x.1.1.1 x.1.1.2 k x.1.2.1 x.1.2.2.1).trans (by kernel_rfl)⟩), trivial⟩
theorem corbelref03_Fold_cuts {R : Type} (k : Nat) : ∀ c, Try.f48.body = some c → CutsOK (R := R) tab (corbelref03_Fold_F k) (inlK tab (corbelref03_Fold_F k) (corbelref03_Fold_I k) 0) (corbelref03_Fold_O k) c corbelref03_Fold_h :=
  cuts_of (l := [.loop corbelref03_Fold_c0 corbelref03_Fold_x0 0 (obB corbelref03_Fold_b 0) (obH corbelref03_Fold_b 0)]) (by kernel_rfl) ⟨corbelref03_Fold_l0_ok k, trivial⟩
theorem corbelref03_Fold_iok {R : Type} (k : Nat) : IOK Try.prog tab (corbelref03_Fold_F k) (corbelref03_Fold_I (R := R) k) := iok_none
theorem corbelref03_Fold_ev (k : Nat) (x : (corbelref03_Fold_p k).τ.den) : evalF tab (corbelref03_Fold_F k) (corbelref03_Fold_p k) (corbelref03_Fold_I k) 0 (corbelref03_Fold_O k) corbelref03_Fold_h Try.f48 x = (corbelref03_Fold_p k).f x := by kernel_rfl
theorem corbelref03_Fold_ok (k : Nat) : PFOK Try.prog tab 48 (corbelref03_Fold_p k) := pfok mixed tabOK (corbelref03_Fold_fok k) Try.func48 (I := corbelref03_Fold_I k) (d := 0) (corbelref03_Fold_iok k) (Q := corbelref03_Fold_O k) (hi := corbelref03_Fold_h) (corbelref03_Fold_cuts k) (corbelref03_Fold_ev k)
end Go.Proofs.Ytbgcfcojepfdbaa.Ev
