/- corbellaw20_zones, told on plain data. Written by program. -/
import Derived.Test.YtcikcikcjimcjaaEtab
set_option linter.unusedVariables false
set_option maxRecDepth 1000000
namespace Go.Proofs.Ytcikcikcjimcjaa.Ev
open Go Go.RowKit Go.Proofs
def corbellaw20_zones_l0s {R : Type} (rc : Int → List (Int × (Int × Bool)) → List (Int × (Int × Bool)) → Option R) (e0 : List (Int × (Int × Bool)) → List (Int × (Int × Bool)) → Option R) (k : Nat) (lb_1124 : List (Int × (Int × Bool))) (i_1125 : Int) (a_1127 : List (Int × (Int × Bool))) (b_1129 : List (Int × (Int × Bool))) : Option R :=
  bif (decide (i_1125 < (lenI lb_1124))) then
    bif (decide (i_1125 < (200 : Int))) then
      bif (decide ((0 : Int) ≤ i_1125)) then
        optb (lb_1124[i_1125.toNat]?) fun x_1134 =>
        bif (decide (a_1127.length + ([(x_1134.1, (x_1134.2.1, x_1134.2.2))] : List (Int × (Int × Bool))).length ≤ 1099511627776)) then
          bif (decide ((0 : Int) ≤ i_1125)) then
            optb (lb_1124[i_1125.toNat]?) fun x_1136 =>
            bif (decide (b_1129.length + ([(x_1136.1, (x_1136.2.1, x_1136.2.2))] : List (Int × (Int × Bool))).length ≤ 1099511627776)) then
              rc (wrap64 (i_1125 + (1 : Int))) (a_1127 ++ ([(x_1134.1, (x_1134.2.1, x_1134.2.2))] : List (Int × (Int × Bool)))) (b_1129 ++ ([(x_1136.1, (x_1136.2.1, x_1136.2.2))] : List (Int × (Int × Bool))))
            else none
          else none
        else none
      else none
    else e0 a_1127 b_1129
  else e0 a_1127 b_1129
def corbellaw20_zones_l0 {R : Type} (e0 : List (Int × (Int × Bool)) → List (Int × (Int × Bool)) → Option R) (k : Nat) (lb_1124 : List (Int × (Int × Bool))) : Nat → Int → List (Int × (Int × Bool)) → List (Int × (Int × Bool)) → Option R
  | 0 => fun _ _ _ => none
  | j + 1 => corbellaw20_zones_l0s (corbellaw20_zones_l0 e0 k lb_1124 j) e0 k lb_1124
def corbellaw20_zones (k : Nat) (la_1099 : Bool) (lb_1100 : List (Int × (Int × Bool))) : Option ((Bool × List (Int × (Int × Bool))) × (Bool × List (Int × (Int × Bool)))) :=
  corbellaw20_zones_l0 (fun a_1139 b_1141 =>
    some ((true, a_1139), (true, b_1141))) k lb_1100 k (0 : Int) ([] : List (Int × (Int × Bool))) ([] : List (Int × (Int × Bool)))
def corbellaw20_zones_p (k : Nat) : PF := { ps := [(false, 1)], rs := [(false, 1), (false, 1)], τ := (.sl (.pair (.int .i64) (.pair (.int .i64) .bool))), σ := (.pair (.sl (.pair (.int .i64) (.pair (.int .i64) .bool))) (.sl (.pair (.int .i64) (.pair (.int .i64) .bool)))), f := fun x => corbellaw20_zones k x.1 x.2, fr := [some 71, some 102] }
def corbellaw20_zones_F (k : Nat) : PT := fnone
theorem corbellaw20_zones_fok (k : Nat) : FOK Try.prog tab (corbellaw20_zones_F k) := fok_none
def corbellaw20_zones_c0 : Cl := { keep := [0, 4, 5, 6], hl := 2, ad := [(4, (.pair (.int .i64) (.pair (.int .i64) .bool)), 71), (5, (.pair (.int .i64) (.pair (.int .i64) .bool)), 102)], adc := [], bump := [] }
def corbellaw20_zones_x0 : Cl := { keep := [4, 5], hl := 2, ad := [], adc := [], bump := [] }
def corbellaw20_zones_h : Hint := (.sq .no (.sq .no (.sq .no (.sq (.sq .no (.lp corbellaw20_zones_c0 corbellaw20_zones_x0 0 .no)) .no))))
def corbellaw20_zones_l0_E0 {R : Type} (K : EX → St → Option R) : Bool → List (Int × (Int × Bool)) → Bool → List (Int × (Int × Bool)) → Option R := fun v0 v1 v2 v3 => K (.exit 0) (mkSt 33 [] corbellaw20_zones_x0.keep [.own 0 1, .own 1 1] [.lst (.pair (.int .i64) (.pair (.int .i64) .bool)) 71 v0 1 v1, .lst (.pair (.int .i64) (.pair (.int .i64) .bool)) 102 v2 1 v3])
def corbellaw20_zones_l0_S (la_1123 : Bool) (lb_1124 : List (Int × (Int × Bool))) (i_1125 : Int) (aN_1126 : Bool) (a_1127 : List (Int × (Int × Bool))) (bN_1128 : Bool) (b_1129 : List (Int × (Int × Bool))) : St := mkSt 33 [] corbellaw20_zones_c0.keep [.sl (.pair (.int .i64) (.pair (.int .i64) .bool)) la_1123 lb_1124, .own 0 1, .own 1 1, .int .i64 i_1125] [.lst (.pair (.int .i64) (.pair (.int .i64) .bool)) 71 aN_1126 1 a_1127, .lst (.pair (.int .i64) (.pair (.int .i64) .bool)) 102 bN_1128 1 b_1129]
def corbellaw20_zones_l0_sh : Rd (List AV × List HE) := .pair (.cons (.sl (.pair (.int .i64) (.pair (.int .i64) .bool))) (.cons (.own 0 1) (.cons (.own 1 1) (.cons (.int .i64) Rd.nil)))) (.cons (.lst (.pair (.int .i64) (.pair (.int .i64) .bool)) 71 1) (.cons (.lst (.pair (.int .i64) (.pair (.int .i64) .bool)) 102 1) Rd.nil))
def corbellaw20_zones_l0_a {R : Type} (k : Nat) : Alt R := { n := 33, v := [], sh := corbellaw20_zones_l0_sh, g := fun K x => corbellaw20_zones_l0 (fun y1 y3 => corbellaw20_zones_l0_E0 K x.2.1.1 y1 x.2.2.1.1 y3) k x.1.1.2 k x.1.2.2.2.1 x.2.1.2 x.2.2.1.2 }
def corbellaw20_zones_O {R : Type} (k : Nat) : CutK R := cutsO [[corbellaw20_zones_l0_a k]]
noncomputable def corbellaw20_zones_b : List Ob := obs (bodyOf Try.f29) corbellaw20_zones_h
noncomputable def corbellaw20_zones_I {R : Type} (k : Nat) : InlT R := inone
theorem corbellaw20_zones_l0_eq {R : Type} (k : Nat) (K : EX → St → Option R) (la_1123 : Bool) (lb_1124 : List (Int × (Int × Bool))) (aN_1126 : Bool) (bN_1128 : Bool) : ∀ (j : Nat) (i_1125 : Int) (a_1127 : List (Int × (Int × Bool))) (b_1129 : List (Int × (Int × Bool))), corbellaw20_zones_l0 (fun y1 y3 => corbellaw20_zones_l0_E0 K aN_1126 y1 bN_1128 y3) k lb_1124 j i_1125 a_1127 b_1129 = iter corbellaw20_zones_c0 corbellaw20_zones_x0 (ev tab (corbellaw20_zones_F k) (inlK tab (corbellaw20_zones_F k) (corbellaw20_zones_I k) 0) (corbellaw20_zones_O k) (obB corbellaw20_zones_b 0) (obH corbellaw20_zones_b 0)) j (corbellaw20_zones_l0_S la_1123 lb_1124 i_1125 aN_1126 a_1127 bN_1128 b_1129) K
  | 0, _, _, _ => rfl
  | j + 1, i_1125, a_1127, b_1129 => by
    have e : corbellaw20_zones_l0 (fun y1 y3 => corbellaw20_zones_l0_E0 K aN_1126 y1 bN_1128 y3) k lb_1124 j = fun i_1125 a_1127 b_1129 => iter corbellaw20_zones_c0 corbellaw20_zones_x0 (ev tab (corbellaw20_zones_F k) (inlK tab (corbellaw20_zones_F k) (corbellaw20_zones_I k) 0) (corbellaw20_zones_O k) (obB corbellaw20_zones_b 0) (obH corbellaw20_zones_b 0)) j (corbellaw20_zones_l0_S la_1123 lb_1124 i_1125 aN_1126 a_1127 bN_1128 b_1129) K := by funext i_1125 a_1127 b_1129; exact corbellaw20_zones_l0_eq k K la_1123 lb_1124 aN_1126 bN_1128 j i_1125 a_1127 b_1129
    show corbellaw20_zones_l0s (corbellaw20_zones_l0 (fun y1 y3 => corbellaw20_zones_l0_E0 K aN_1126 y1 bN_1128 y3) k lb_1124 j) (fun y1 y3 => corbellaw20_zones_l0_E0 K aN_1126 y1 bN_1128 y3) k lb_1124 i_1125 a_1127 b_1129 = _
    rw [e, iter_succ]; kernel_rfl
theorem corbellaw20_zones_l0_ok {R : Type} (k : Nat)  : ObOK (R := R) tab (corbellaw20_zones_F k) (inlK tab (corbellaw20_zones_F k) (corbellaw20_zones_I k) 0) (corbellaw20_zones_O k) (.loop corbellaw20_zones_c0 corbellaw20_zones_x0 0 (obB corbellaw20_zones_b 0) (obH corbellaw20_zones_b 0)) :=
  loop_ok (l := [corbellaw20_zones_l0_a k]) (by kernel_rfl) ⟨(fun K x => ⟨k, (corbellaw20_zones_l0_eq k K x.1.1.1 x.1.1.2 x.2.1.1 x.2.2.1.1 k x.1.2.2.2.1 x.2.1.2 x.2.2.1.2).trans (by kernel_rfl)⟩), trivial⟩
theorem corbellaw20_zones_cuts {R : Type} (k : Nat) : ∀ c, Try.f29.body = some c → CutsOK (R := R) tab (corbellaw20_zones_F k) (inlK tab (corbellaw20_zones_F k) (corbellaw20_zones_I k) 0) (corbellaw20_zones_O k) c corbellaw20_zones_h :=
  cuts_of (l := [.loop corbellaw20_zones_c0 corbellaw20_zones_x0 0 (obB corbellaw20_zones_b 0) (obH corbellaw20_zones_b 0)]) (by kernel_rfl) ⟨corbellaw20_zones_l0_ok k, trivial⟩
theorem corbellaw20_zones_iok {R : Type} (k : Nat) : IOK Try.prog tab (corbellaw20_zones_F k) (corbellaw20_zones_I (R := R) k) := iok_none
theorem corbellaw20_zones_ev (k : Nat) (x : (corbellaw20_zones_p k).τ.den) : evalF tab (corbellaw20_zones_F k) (corbellaw20_zones_p k) (corbellaw20_zones_I k) 0 (corbellaw20_zones_O k) corbellaw20_zones_h Try.f29 x = (corbellaw20_zones_p k).f x := by kernel_rfl
theorem corbellaw20_zones_ok (k : Nat) : PFOK Try.prog tab 29 (corbellaw20_zones_p k) := pfok mixed tabOK (corbellaw20_zones_fok k) Try.func29 (I := corbellaw20_zones_I k) (d := 0) (corbellaw20_zones_iok k) (Q := corbellaw20_zones_O k) (hi := corbellaw20_zones_h) (corbellaw20_zones_cuts k) (corbellaw20_zones_ev k)
end Go.Proofs.Ytcikcikcjimcjaa.Ev
