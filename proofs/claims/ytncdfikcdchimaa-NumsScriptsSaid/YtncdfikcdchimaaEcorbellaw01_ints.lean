/- corbellaw01_ints, told on plain data. Written by program. -/
import Derived.Test.YtncdfikcdchimaaEtab
set_option linter.unusedVariables false
set_option maxRecDepth 1000000
namespace Go.Proofs.Ytncdfikcdchimaa.Ev
open Go Go.RowKit Go.Proofs
def corbellaw01_ints_l0s {R : Type} (rc : Int → Option R) (e0 : Bool → Option R) (e1 : Option R) (k : Nat) (ab_5671 : List Int) (bb_5673 : List Int) (i_5674 : Int) : Option R :=
  bif (decide (i_5674 < (lenI ab_5671))) then
    bif (decide ((0 : Int) ≤ i_5674)) then
      optb (ab_5671[i_5674.toNat]?) fun x_5679 =>
      bif (decide ((0 : Int) ≤ i_5674)) then
        optb (bb_5673[i_5674.toNat]?) fun x_5680 =>
        bif (!(decide (x_5679 = x_5680))) then
          e0 false
        else rc (wrap64 (i_5674 + (1 : Int)))
      else none
    else none
  else e1
def corbellaw01_ints_l0 {R : Type} (e0 : Bool → Option R) (e1 : Option R) (k : Nat) (ab_5671 : List Int) (bb_5673 : List Int) : Nat → Int → Option R
  | 0 => fun _ => none
  | j + 1 => corbellaw01_ints_l0s (corbellaw01_ints_l0 e0 e1 k ab_5671 bb_5673 j) e0 e1 k ab_5671 bb_5673
def corbellaw01_ints (k : Nat) (aa_5664 : Bool) (ab_5665 : List Int) (ba_5666 : Bool) (bb_5667 : List Int) : Option Bool :=
  bif (!(decide ((lenI ab_5665) = (lenI bb_5667)))) then
    some false
  else corbellaw01_ints_l0 (fun v_5681 =>
    some v_5681) (some true) k ab_5665 bb_5667 k (0 : Int)
def corbellaw01_ints_p (k : Nat) : PF := { ps := [(false, 1), (false, 1)], rs := [(false, 1)], τ := (.pair (.sl (.int .i64)) (.sl (.int .i64))), σ := .bool, f := fun x => corbellaw01_ints k x.1.1 x.1.2 x.2.1 x.2.2 }
def corbellaw01_ints_F (k : Nat) : PT := fnone
theorem corbellaw01_ints_fok (k : Nat) : FOK Try.prog tab (corbellaw01_ints_F k) := fok_none
def corbellaw01_ints_c0 : Cl := { keep := [0, 1, 5], hl := 0, ad := [], adc := [], bump := [] }
def corbellaw01_ints_x0 : Cl := { keep := [4], hl := 0, ad := [], adc := [], bump := [] }
def corbellaw01_ints_h : Hint := (.sq .no (.sq .no (.sq (.sq .no (.lp corbellaw01_ints_c0 corbellaw01_ints_x0 0 .no)) .no)))
def corbellaw01_ints_l0_E0 {R : Type} (K : EX → St → Option R) : Bool → Option R := fun v0 => K .ret (mkSt 26 [] corbellaw01_ints_x0.keep [.bool v0] [])
def corbellaw01_ints_l0_E1 {R : Type} (K : EX → St → Option R) : Option R := K (.exit 0) (mkSt 26 [] corbellaw01_ints_x0.keep [.junk] [])
def corbellaw01_ints_l0_S (aa_5670 : Bool) (ab_5671 : List Int) (ba_5672 : Bool) (bb_5673 : List Int) (i_5674 : Int) : St := mkSt 26 [] corbellaw01_ints_c0.keep [.sl (.int .i64) aa_5670 ab_5671, .sl (.int .i64) ba_5672 bb_5673, .int .i64 i_5674] []
def corbellaw01_ints_l0_sh : Rd (List AV × List HE) := .pair (.cons (.sl (.int .i64)) (.cons (.sl (.int .i64)) (.cons (.int .i64) Rd.nil))) Rd.nil
def corbellaw01_ints_l0_a {R : Type} (k : Nat) : Alt R := { n := 26, v := [], sh := corbellaw01_ints_l0_sh, g := fun K x => corbellaw01_ints_l0 (corbellaw01_ints_l0_E0 K) (corbellaw01_ints_l0_E1 K) k x.1.1.2 x.1.2.1.2 k x.1.2.2.1 }
def corbellaw01_ints_O {R : Type} (k : Nat) : CutK R := cutsO [[corbellaw01_ints_l0_a k]]
noncomputable def corbellaw01_ints_b : List Ob := obs (bodyOf Try.f24) corbellaw01_ints_h
noncomputable def corbellaw01_ints_I {R : Type} (k : Nat) : InlT R := inone
theorem corbellaw01_ints_l0_eq {R : Type} (k : Nat) (K : EX → St → Option R) (aa_5670 : Bool) (ab_5671 : List Int) (ba_5672 : Bool) (bb_5673 : List Int) : ∀ (j : Nat) (i_5674 : Int), corbellaw01_ints_l0 (corbellaw01_ints_l0_E0 K) (corbellaw01_ints_l0_E1 K) k ab_5671 bb_5673 j i_5674 = iter corbellaw01_ints_c0 corbellaw01_ints_x0 (ev tab (corbellaw01_ints_F k) (inlK tab (corbellaw01_ints_F k) (corbellaw01_ints_I k) 0) (corbellaw01_ints_O k) (obB corbellaw01_ints_b 0) (obH corbellaw01_ints_b 0)) j (corbellaw01_ints_l0_S aa_5670 ab_5671 ba_5672 bb_5673 i_5674) K
  | 0, _ => rfl
  | j + 1, i_5674 => by
    have e : corbellaw01_ints_l0 (corbellaw01_ints_l0_E0 K) (corbellaw01_ints_l0_E1 K) k ab_5671 bb_5673 j = fun i_5674 => iter corbellaw01_ints_c0 corbellaw01_ints_x0 (ev tab (corbellaw01_ints_F k) (inlK tab (corbellaw01_ints_F k) (corbellaw01_ints_I k) 0) (corbellaw01_ints_O k) (obB corbellaw01_ints_b 0) (obH corbellaw01_ints_b 0)) j (corbellaw01_ints_l0_S aa_5670 ab_5671 ba_5672 bb_5673 i_5674) K := by funext i_5674; exact corbellaw01_ints_l0_eq k K aa_5670 ab_5671 ba_5672 bb_5673 j i_5674
    show corbellaw01_ints_l0s (corbellaw01_ints_l0 (corbellaw01_ints_l0_E0 K) (corbellaw01_ints_l0_E1 K) k ab_5671 bb_5673 j) (corbellaw01_ints_l0_E0 K) (corbellaw01_ints_l0_E1 K) k ab_5671 bb_5673 i_5674 = _
    rw [e, iter_succ]; kernel_rfl
theorem corbellaw01_ints_l0_ok {R : Type} (k : Nat)  : ObOK (R := R) tab (corbellaw01_ints_F k) (inlK tab (corbellaw01_ints_F k) (corbellaw01_ints_I k) 0) (corbellaw01_ints_O k) (.loop corbellaw01_ints_c0 corbellaw01_ints_x0 0 (obB corbellaw01_ints_b 0) (obH corbellaw01_ints_b 0)) :=
  loop_ok (l := [corbellaw01_ints_l0_a k]) (by kernel_rfl) ⟨(fun K x => ⟨k, (corbellaw01_ints_l0_eq k K x.1.1.1 x.1.1.2 x.1.2.1.1 x.1.2.1.2 k x.1.2.2.1).trans (by kernel_rfl)⟩), trivial⟩
theorem corbellaw01_ints_cuts {R : Type} (k : Nat) : ∀ c, Try.f24.body = some c → CutsOK (R := R) tab (corbellaw01_ints_F k) (inlK tab (corbellaw01_ints_F k) (corbellaw01_ints_I k) 0) (corbellaw01_ints_O k) c corbellaw01_ints_h :=
  cuts_of (l := [.loop corbellaw01_ints_c0 corbellaw01_ints_x0 0 (obB corbellaw01_ints_b 0) (obH corbellaw01_ints_b 0)]) (by kernel_rfl) ⟨corbellaw01_ints_l0_ok k, trivial⟩
theorem corbellaw01_ints_iok {R : Type} (k : Nat) : IOK Try.prog tab (corbellaw01_ints_F k) (corbellaw01_ints_I (R := R) k) := iok_none
theorem corbellaw01_ints_ev (k : Nat) (x : (corbellaw01_ints_p k).τ.den) : evalF tab (corbellaw01_ints_F k) (corbellaw01_ints_p k) (corbellaw01_ints_I k) 0 (corbellaw01_ints_O k) corbellaw01_ints_h Try.f24 x = (corbellaw01_ints_p k).f x := by kernel_rfl
theorem corbellaw01_ints_ok (k : Nat) : PFOK Try.prog tab 24 (corbellaw01_ints_p k) := pfok mixed tabOK (corbellaw01_ints_fok k) Try.func24 (I := corbellaw01_ints_I k) (d := 0) (corbellaw01_ints_iok k) (Q := corbellaw01_ints_O k) (hi := corbellaw01_ints_h) (corbellaw01_ints_cuts k) (corbellaw01_ints_ev k)
end Go.Proofs.Ytncdfikcdchimaa.Ev
