/- slices_Max, told on plain data. Written by program. -/
import Derived.Test.YtbaikphpohdmoaaEtab
set_option linter.unusedVariables false
set_option maxRecDepth 1000000
namespace Go.Proofs.Ytbaikphpohdmoaa.Ev
open Go Go.RowKit Go.Proofs
def slices_Max_l0s {R : Type} (rc : Int → Int → Option R) (e0 : Int → Option R) (k : Nat) (xb_0 : List Int) (m_1 : Int) (i_2 : Int) : Option R :=
  bif (decide (i_2 < (lenI xb_0))) then
    bif (decide ((0 : Int) ≤ i_2)) then
      optb (xb_0[i_2.toNat]?) fun x_3 =>
      rc (bif (decide (x_3 > m_1)) then x_3 else m_1) (wrap64 (i_2 + (1 : Int)))
    else none
  else e0 m_1
def slices_Max_l0 {R : Type} (e0 : Int → Option R) (k : Nat) (xb_0 : List Int) : Nat → Int → Int → Option R
  | 0 => fun _ _ => none
  | j + 1 => slices_Max_l0s (slices_Max_l0 e0 k xb_0 j) e0 k xb_0
def slices_Max (k : Nat) (xa_4 : Bool) (xb_5 : List Int) : Option Int :=
  bif (decide ((lenI xb_5) < (1 : Int))) then
    none
  else optb (xb_5[(0 : Int).toNat]?) fun x_6 =>
  slices_Max_l0 (fun m_7 =>
    some m_7) k xb_5 k x_6 (1 : Int)
def slices_Max_p (k : Nat) : PF := { ps := [(false, 1)], rs := [(false, 1)], τ := (.sl (.int .i64)), σ := (.int .i64), f := fun x => slices_Max k x.1 x.2 }
def slices_Max_F (k : Nat) : PT := fnone
theorem slices_Max_fok (k : Nat) : FOK Try.prog tab (slices_Max_F k) := fok_none
def slices_Max_c0 : Cl := { keep := [0, 3, 4], hl := 0, ad := [], adc := [], bump := [] }
def slices_Max_x0 : Cl := { keep := [3], hl := 0, ad := [], adc := [], bump := [] }
def slices_Max_h : Hint := (.sq .no (.sq .no (.sq .no (.sq (.sq .no (.lp slices_Max_c0 slices_Max_x0 0 .no)) .no))))
def slices_Max_l0_E0 {R : Type} (K : EX → St → Option R) : Int → Option R := fun v0 => K (.exit 0) (mkSt 25 [] slices_Max_x0.keep [.int .i64 v0] [])
def slices_Max_l0_S (xa_8 : Bool) (xb_0 : List Int) (m_1 : Int) (i_2 : Int) : St := mkSt 25 [] slices_Max_c0.keep [.sl (.int .i64) xa_8 xb_0, .int .i64 m_1, .int .i64 i_2] []
def slices_Max_l0_sh : Rd (List AV × List HE) := .pair (.cons (.sl (.int .i64)) (.cons (.int .i64) (.cons (.int .i64) Rd.nil))) Rd.nil
def slices_Max_l0_a {R : Type} (k : Nat) : Alt R := { n := 25, v := [], sh := slices_Max_l0_sh, g := fun K x => slices_Max_l0 (slices_Max_l0_E0 K) k x.1.1.2 k x.1.2.1 x.1.2.2.1 }
def slices_Max_O {R : Type} (k : Nat) : CutK R := cutsO [[slices_Max_l0_a k]]
noncomputable def slices_Max_b : List Ob := obs (bodyOf Try.f53) slices_Max_h
noncomputable def slices_Max_I {R : Type} (k : Nat) : InlT R := inone
theorem slices_Max_l0_eq {R : Type} (k : Nat) (K : EX → St → Option R) (xa_8 : Bool) (xb_0 : List Int) : ∀ (j : Nat) (m_1 : Int) (i_2 : Int), slices_Max_l0 (slices_Max_l0_E0 K) k xb_0 j m_1 i_2 = iter slices_Max_c0 slices_Max_x0 (ev tab (slices_Max_F k) (inlK tab (slices_Max_F k) (slices_Max_I k) 0) (slices_Max_O k) (obB slices_Max_b 0) (obH slices_Max_b 0)) j (slices_Max_l0_S xa_8 xb_0 m_1 i_2) K
  | 0, _, _ => rfl
  | j + 1, m_1, i_2 => by
    have e : slices_Max_l0 (slices_Max_l0_E0 K) k xb_0 j = fun m_1 i_2 => iter slices_Max_c0 slices_Max_x0 (ev tab (slices_Max_F k) (inlK tab (slices_Max_F k) (slices_Max_I k) 0) (slices_Max_O k) (obB slices_Max_b 0) (obH slices_Max_b 0)) j (slices_Max_l0_S xa_8 xb_0 m_1 i_2) K := by funext m_1 i_2; exact slices_Max_l0_eq k K xa_8 xb_0 j m_1 i_2
    show slices_Max_l0s (slices_Max_l0 (slices_Max_l0_E0 K) k xb_0 j) (slices_Max_l0_E0 K) k xb_0 m_1 i_2 = _
    rw [e, iter_succ]; kernel_rfl
theorem slices_Max_l0_ok {R : Type} (k : Nat)  : ObOK (R := R) tab (slices_Max_F k) (inlK tab (slices_Max_F k) (slices_Max_I k) 0) (slices_Max_O k) (.loop slices_Max_c0 slices_Max_x0 0 (obB slices_Max_b 0) (obH slices_Max_b 0)) :=
  loop_ok (l := [slices_Max_l0_a k]) (by kernel_rfl) ⟨(fun K x => ⟨k, (slices_Max_l0_eq k K x.1.1.1 x.1.1.2 k x.1.2.1 x.1.2.2.1).trans (by kernel_rfl)⟩), trivial⟩
theorem slices_Max_cuts {R : Type} (k : Nat) : ∀ c, Try.f53.body = some c → CutsOK (R := R) tab (slices_Max_F k) (inlK tab (slices_Max_F k) (slices_Max_I k) 0) (slices_Max_O k) c slices_Max_h :=
  cuts_of (l := [.loop slices_Max_c0 slices_Max_x0 0 (obB slices_Max_b 0) (obH slices_Max_b 0)]) (by kernel_rfl) ⟨slices_Max_l0_ok k, trivial⟩
theorem slices_Max_iok {R : Type} (k : Nat) : IOK Try.prog tab (slices_Max_F k) (slices_Max_I (R := R) k) := iok_none
theorem slices_Max_ev (k : Nat) (x : (slices_Max_p k).τ.den) : evalF tab (slices_Max_F k) (slices_Max_p k) (slices_Max_I k) 0 (slices_Max_O k) slices_Max_h Try.f53 x = (slices_Max_p k).f x := by kernel_rfl
theorem slices_Max_ok (k : Nat) : PFOK Try.prog tab 53 (slices_Max_p k) := pfok mixed tabOK (slices_Max_fok k) Try.func53 (I := slices_Max_I k) (d := 0) (slices_Max_iok k) (Q := slices_Max_O k) (hi := slices_Max_h) (slices_Max_cuts k) (slices_Max_ev k)
end Go.Proofs.Ytbaikphpohdmoaa.Ev
