/- corbelref23_Text, told on plain data. Written by program. -/
import Derived.Test.YtiolpmgphkakeaaEtab
set_option linter.unusedVariables false
set_option maxRecDepth 1000000
namespace Go.Proofs.Ytiolpmgphkakeaa.Ev
open Go Go.RowKit Go.Proofs
noncomputable def corbelref23_Text_l0s {R : Type} (rc : ByteArray → Int → Option R) (e0 : ByteArray → Option R) (k : Nat) (lb_0 : List ByteArray) (s_1 : ByteArray) (i_2 : Int) : Option R :=
  bif (decide (i_2 < (lenI lb_0))) then
    bif (decide ((0 : Int) ≤ i_2)) then
      optb (lb_0[i_2.toNat]?) fun x_3 =>
      bif (decide (s_1.size + x_3.size ≤ 4611686018427387904)) then
        rc (s_1 ++ x_3) (wrap64 (i_2 + (1 : Int)))
      else none
    else none
  else e0 s_1
noncomputable def corbelref23_Text_l0 {R : Type} (e0 : ByteArray → Option R) (k : Nat) (lb_0 : List ByteArray) : Nat → ByteArray → Int → Option R
  | 0 => fun _ _ => none
  | j + 1 => corbelref23_Text_l0s (corbelref23_Text_l0 e0 k lb_0 j) e0 k lb_0
noncomputable def corbelref23_Text (k : Nat) (la_4 : Bool) (lb_5 : List ByteArray) : Option ByteArray :=
  corbelref23_Text_l0 (fun s_6 =>
    some s_6) k lb_5 k (⟨#[]⟩ : ByteArray) (0 : Int)
noncomputable def corbelref23_Text_p (k : Nat) : PF := { ps := [(false, 1)], rs := [(false, 1)], τ := (.sl .str), σ := .str, f := fun x => corbelref23_Text k x.1 x.2 }
noncomputable def corbelref23_Text_F (k : Nat) : PT := fnone
theorem corbelref23_Text_fok (k : Nat) : FOK Try.prog tab (corbelref23_Text_F k) := fok_none
noncomputable def corbelref23_Text_c0 : Cl := { keep := [0, 3, 4], hl := 0, ad := [], adc := [], bump := [] }
noncomputable def corbelref23_Text_x0 : Cl := { keep := [3], hl := 0, ad := [], adc := [], bump := [] }
noncomputable def corbelref23_Text_h : Hint := (.sq .no (.sq .no (.sq (.sq .no (.lp corbelref23_Text_c0 corbelref23_Text_x0 0 .no)) .no)))
noncomputable def corbelref23_Text_l0_E0 {R : Type} (K : EX → St → Option R) : ByteArray → Option R := fun v0 => K (.exit 0) (mkSt 18 [] corbelref23_Text_x0.keep [.str v0] [])
noncomputable def corbelref23_Text_l0_S (la_7 : Bool) (lb_0 : List ByteArray) (s_1 : ByteArray) (i_2 : Int) : St := mkSt 18 [] corbelref23_Text_c0.keep [.sl .str la_7 lb_0, .str s_1, .int .i64 i_2] []
noncomputable def corbelref23_Text_l0_sh : Rd (List AV × List HE) := .pair (.cons (.sl .str) (.cons .str (.cons (.int .i64) Rd.nil))) Rd.nil
noncomputable def corbelref23_Text_l0_a {R : Type} (k : Nat) : Alt R := { n := 18, v := [], sh := corbelref23_Text_l0_sh, g := fun K x => corbelref23_Text_l0 (corbelref23_Text_l0_E0 K) k x.1.1.2 k x.1.2.1 x.1.2.2.1 }
noncomputable def corbelref23_Text_O {R : Type} (k : Nat) : CutK R := cutsO [[corbelref23_Text_l0_a k]]
noncomputable def corbelref23_Text_b : List Ob := obs (bodyOf Try.f20) corbelref23_Text_h
noncomputable def corbelref23_Text_I {R : Type} (k : Nat) : InlT R := inone
theorem corbelref23_Text_l0_eq {R : Type} (k : Nat) (K : EX → St → Option R) (la_7 : Bool) (lb_0 : List ByteArray) : ∀ (j : Nat) (s_1 : ByteArray) (i_2 : Int), corbelref23_Text_l0 (corbelref23_Text_l0_E0 K) k lb_0 j s_1 i_2 = iter corbelref23_Text_c0 corbelref23_Text_x0 (ev tab (corbelref23_Text_F k) (inlK tab (corbelref23_Text_F k) (corbelref23_Text_I k) 0) (corbelref23_Text_O k) (obB corbelref23_Text_b 0) (obH corbelref23_Text_b 0)) j (corbelref23_Text_l0_S la_7 lb_0 s_1 i_2) K
  | 0, _, _ => rfl
  | j + 1, s_1, i_2 => by
    have e : corbelref23_Text_l0 (corbelref23_Text_l0_E0 K) k lb_0 j = fun s_1 i_2 => iter corbelref23_Text_c0 corbelref23_Text_x0 (ev tab (corbelref23_Text_F k) (inlK tab (corbelref23_Text_F k) (corbelref23_Text_I k) 0) (corbelref23_Text_O k) (obB corbelref23_Text_b 0) (obH corbelref23_Text_b 0)) j (corbelref23_Text_l0_S la_7 lb_0 s_1 i_2) K := by funext s_1 i_2; exact corbelref23_Text_l0_eq k K la_7 lb_0 j s_1 i_2
    show corbelref23_Text_l0s (corbelref23_Text_l0 (corbelref23_Text_l0_E0 K) k lb_0 j) (corbelref23_Text_l0_E0 K) k lb_0 s_1 i_2 = _
    rw [e, iter_succ]; kernel_rfl
theorem corbelref23_Text_l0_ok {R : Type} (k : Nat)  : ObOK (R := R) tab (corbelref23_Text_F k) (inlK tab (corbelref23_Text_F k) (corbelref23_Text_I k) 0) (corbelref23_Text_O k) (.loop corbelref23_Text_c0 corbelref23_Text_x0 0 (obB corbelref23_Text_b 0) (obH corbelref23_Text_b 0)) :=
  loop_ok (l := [corbelref23_Text_l0_a k]) (by kernel_rfl) ⟨(fun K x => ⟨k, (corbelref23_Text_l0_eq k K x.1.1.1 x.1.1.2 k x.1.2.1 x.1.2.2.1).trans (by kernel_rfl)⟩), trivial⟩
theorem corbelref23_Text_cuts {R : Type} (k : Nat) : ∀ c, Try.f20.body = some c → CutsOK (R := R) tab (corbelref23_Text_F k) (inlK tab (corbelref23_Text_F k) (corbelref23_Text_I k) 0) (corbelref23_Text_O k) c corbelref23_Text_h :=
  cuts_of (l := [.loop corbelref23_Text_c0 corbelref23_Text_x0 0 (obB corbelref23_Text_b 0) (obH corbelref23_Text_b 0)]) (by kernel_rfl) ⟨corbelref23_Text_l0_ok k, trivial⟩
theorem corbelref23_Text_iok {R : Type} (k : Nat) : IOK Try.prog tab (corbelref23_Text_F k) (corbelref23_Text_I (R := R) k) := iok_none
theorem corbelref23_Text_ev (k : Nat) (x : (corbelref23_Text_p k).τ.den) : evalF tab (corbelref23_Text_F k) (corbelref23_Text_p k) (corbelref23_Text_I k) 0 (corbelref23_Text_O k) corbelref23_Text_h Try.f20 x = (corbelref23_Text_p k).f x := by kernel_rfl
theorem corbelref23_Text_ok (k : Nat) : PFOK Try.prog tab 20 (corbelref23_Text_p k) := pfok mixed tabOK (corbelref23_Text_fok k) Try.func20 (I := corbelref23_Text_I k) (d := 0) (corbelref23_Text_iok k) (Q := corbelref23_Text_O k) (hi := corbelref23_Text_h) (corbelref23_Text_cuts k) (corbelref23_Text_ev k)
end Go.Proofs.Ytiolpmgphkakeaa.Ev
