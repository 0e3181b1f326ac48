/- corbelref01_Next, told on plain data. Written by program. -/
import Derived.Test.YtncdfikcdchimaaEtab
set_option linter.unusedVariables false
set_option maxRecDepth 1000000
namespace Go.Proofs.Ytncdfikcdchimaa.Ev
open Go Go.RowKit Go.Proofs
def corbelref01_Next_l0s {R : Type} (rc : Int → Option R) (e0 : Int → Option R) (e1 : Option R) (k : Nat) (from_5685 : Int) (sb_5688 : List Int) (i_5686 : Int) : Option R :=
  bif (decide (i_5686 < (lenI sb_5688))) then
    bif (decide ((0 : Int) ≤ i_5686)) then
      optb (sb_5688[i_5686.toNat]?) fun x_5692 =>
      bif (decide (from_5685 ≤ x_5692)) then
        bif (decide ((0 : Int) ≤ i_5686)) then
          optb (sb_5688[i_5686.toNat]?) fun x_5693 =>
          e0 x_5693
        else none
      else rc (wrap64 (i_5686 + (1 : Int)))
    else none
  else e1
def corbelref01_Next_l0 {R : Type} (e0 : Int → Option R) (e1 : Option R) (k : Nat) (from_5685 : Int) (sb_5688 : List Int) : Nat → Int → Option R
  | 0 => fun _ => none
  | j + 1 => corbelref01_Next_l0s (corbelref01_Next_l0 e0 e1 k from_5685 sb_5688 j) e0 e1 k from_5685 sb_5688
def corbelref01_Next (k : Nat) (sa_5682 : Bool) (sb_5683 : List Int) (from_5684 : Int) : Option Int :=
  corbelref01_Next_l0 (fun v_5694 =>
    some v_5694) (some (-1 : Int)) k from_5684 sb_5683 k (0 : Int)
def corbelref01_Next_p (k : Nat) : PF := { ps := [(true, 1), (false, 1)], rs := [(false, 1)], τ := (.pair (.sl (.int .i64)) (.int .i64)), σ := (.int .i64), f := fun x => corbelref01_Next k x.1.1 x.1.2 x.2 }
def corbelref01_Next_F (k : Nat) : PT := fnone
theorem corbelref01_Next_fok (k : Nat) : FOK Try.prog tab (corbelref01_Next_F k) := fok_none
def corbelref01_Next_c0 : Cl := { keep := [1, 2, 5], hl := 1, ad := [], adc := [], bump := [] }
def corbelref01_Next_x0 : Cl := { keep := [4], hl := 0, ad := [], adc := [], bump := [] }
def corbelref01_Next_h : Hint := (.sq .no (.sq (.sq .no (.lp corbelref01_Next_c0 corbelref01_Next_x0 0 .no)) .no))
def corbelref01_Next_l0_E0 {R : Type} (K : EX → St → Option R) : Int → Option R := fun v0 => K .ret (mkSt 25 [] corbelref01_Next_x0.keep [.int .i64 v0] [])
def corbelref01_Next_l0_E1 {R : Type} (K : EX → St → Option R) : Option R := K (.exit 0) (mkSt 25 [] corbelref01_Next_x0.keep [.junk] [])
def corbelref01_Next_l0_S (from_5685 : Int) (i_5686 : Int) (sa_5687 : Bool) (sb_5688 : List Int) : St := mkSt 25 [] corbelref01_Next_c0.keep [.int .i64 from_5685, .ptr 0 0, .int .i64 i_5686] [.blk [.sl (.int .i64) sa_5687 sb_5688]]
def corbelref01_Next_l0_sh : Rd (List AV × List HE) := .pair (.cons (.int .i64) (.cons (.ptr 0 0) (.cons (.int .i64) Rd.nil))) (.cons (.blk (.cons (.sl (.int .i64)) Rd.nil)) Rd.nil)
def corbelref01_Next_l0_a {R : Type} (k : Nat) : Alt R := { n := 25, v := [], sh := corbelref01_Next_l0_sh, g := fun K x => corbelref01_Next_l0 (corbelref01_Next_l0_E0 K) (corbelref01_Next_l0_E1 K) k x.1.1 x.2.1.1.2 k x.1.2.2.1 }
def corbelref01_Next_O {R : Type} (k : Nat) : CutK R := cutsO [[corbelref01_Next_l0_a k]]
noncomputable def corbelref01_Next_b : List Ob := obs (bodyOf Try.f26) corbelref01_Next_h
noncomputable def corbelref01_Next_I {R : Type} (k : Nat) : InlT R := inone
theorem corbelref01_Next_l0_eq {R : Type} (k : Nat) (K : EX → St → Option R) (from_5685 : Int) (sa_5687 : Bool) (sb_5688 : List Int) : ∀ (j : Nat) (i_5686 : Int), corbelref01_Next_l0 (corbelref01_Next_l0_E0 K) (corbelref01_Next_l0_E1 K) k from_5685 sb_5688 j i_5686 = iter corbelref01_Next_c0 corbelref01_Next_x0 (ev tab (corbelref01_Next_F k) (inlK tab (corbelref01_Next_F k) (corbelref01_Next_I k) 0) (corbelref01_Next_O k) (obB corbelref01_Next_b 0) (obH corbelref01_Next_b 0)) j (corbelref01_Next_l0_S from_5685 i_5686 sa_5687 sb_5688) K
  | 0, _ => rfl
  | j + 1, i_5686 => by
    have e : corbelref01_Next_l0 (corbelref01_Next_l0_E0 K) (corbelref01_Next_l0_E1 K) k from_5685 sb_5688 j = fun i_5686 => iter corbelref01_Next_c0 corbelref01_Next_x0 (ev tab (corbelref01_Next_F k) (inlK tab (corbelref01_Next_F k) (corbelref01_Next_I k) 0) (corbelref01_Next_O k) (obB corbelref01_Next_b 0) (obH corbelref01_Next_b 0)) j (corbelref01_Next_l0_S from_5685 i_5686 sa_5687 sb_5688) K := by funext i_5686; exact corbelref01_Next_l0_eq k K from_5685 sa_5687 sb_5688 j i_5686
    show corbelref01_Next_l0s (corbelref01_Next_l0 (corbelref01_Next_l0_E0 K) (corbelref01_Next_l0_E1 K) k from_5685 sb_5688 j) (corbelref01_Next_l0_E0 K) (corbelref01_Next_l0_E1 K) k from_5685 sb_5688 i_5686 = _
    rw [e, iter_succ]; kernel_rfl
theorem corbelref01_Next_l0_ok {R : Type} (k : Nat)  : ObOK (R := R) tab (corbelref01_Next_F k) (inlK tab (corbelref01_Next_F k) (corbelref01_Next_I k) 0) (corbelref01_Next_O k) (.loop corbelref01_Next_c0 corbelref01_Next_x0 0 (obB corbelref01_Next_b 0) (obH corbelref01_Next_b 0)) :=
  loop_ok (l := [corbelref01_Next_l0_a k]) (by kernel_rfl) ⟨(fun K x => ⟨k, (corbelref01_Next_l0_eq k K x.1.1 x.2.1.1.1 x.2.1.1.2 k x.1.2.2.1).trans (by kernel_rfl)⟩), trivial⟩
theorem corbelref01_Next_cuts {R : Type} (k : Nat) : ∀ c, Try.f26.body = some c → CutsOK (R := R) tab (corbelref01_Next_F k) (inlK tab (corbelref01_Next_F k) (corbelref01_Next_I k) 0) (corbelref01_Next_O k) c corbelref01_Next_h :=
  cuts_of (l := [.loop corbelref01_Next_c0 corbelref01_Next_x0 0 (obB corbelref01_Next_b 0) (obH corbelref01_Next_b 0)]) (by kernel_rfl) ⟨corbelref01_Next_l0_ok k, trivial⟩
theorem corbelref01_Next_iok {R : Type} (k : Nat) : IOK Try.prog tab (corbelref01_Next_F k) (corbelref01_Next_I (R := R) k) := iok_none
theorem corbelref01_Next_ev (k : Nat) (x : (corbelref01_Next_p k).τ.den) : evalF tab (corbelref01_Next_F k) (corbelref01_Next_p k) (corbelref01_Next_I k) 0 (corbelref01_Next_O k) corbelref01_Next_h Try.f26 x = (corbelref01_Next_p k).f x := by kernel_rfl
theorem corbelref01_Next_ok (k : Nat) : PFOK Try.prog tab 26 (corbelref01_Next_p k) := pfok mixed tabOK (corbelref01_Next_fok k) Try.func26 (I := corbelref01_Next_I k) (d := 0) (corbelref01_Next_iok k) (Q := corbelref01_Next_O k) (hi := corbelref01_Next_h) (corbelref01_Next_cuts k) (corbelref01_Next_ev k)
end Go.Proofs.Ytncdfikcdchimaa.Ev
