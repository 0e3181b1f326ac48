/- corbeltop_content, told on plain data. Written by program. -/
import Derived.Test.YtibdnfknokkadaaDoorEtab
set_option linter.unusedVariables false
set_option maxRecDepth 1000000
namespace Go.Proofs.YtibdnfknokkadaaDoor.Ev
open Go Go.RowKit Go.Proofs
noncomputable def corbeltop_content_l0s {R : Type} (rc : Int → List Int → Option R) (e0 : List Int → Option R) (k : Nat) (zone_0 : Int) (b_1 : Int) (i_2 : Int) (s_3 : List Int) : Option R :=
  bif (decide (i_2 < (64 : Int))) then
    bif ((decide ((0 : Int) ≤ i_2)) && (decide (i_2 < (lenI s_3)))) then
      optb (s_3[i_2.toNat]?) fun x_4 =>
      rc (wrap64 (i_2 + (1 : Int))) (List.set s_3 i_2.toNat (IntKind.u8.wrap (wrap64 ((wrap64 ((wrap64 ((wrap64 (zone_0 * (31 : Int))) + (wrap64 (b_1 * (7 : Int))))) + (wrap64 (i_2 * b_1)))) + i_2))))
    else none
  else e0 s_3
noncomputable def corbeltop_content_l0 {R : Type} (e0 : List Int → Option R) (k : Nat) (zone_0 : Int) (b_1 : Int) : Nat → Int → List Int → Option R
  | 0 => fun _ _ => none
  | j + 1 => corbeltop_content_l0s (corbeltop_content_l0 e0 k zone_0 b_1 j) e0 k zone_0 b_1
noncomputable def corbeltop_content (k : Nat) (zone_5 : Int) (b_6 : Int) : Option ByteArray :=
  corbeltop_content_l0 (fun s_7 =>
    some (bytesOf s_7)) k zone_5 b_6 k (0 : Int) (List.replicate (64 : Int).toNat (Ty.zero (.int .u8)))
noncomputable def corbeltop_content_p (k : Nat) : PF := { ps := [(false, 1), (false, 1)], rs := [(false, 1)], τ := (.pair (.int .i64) (.int .i64)), σ := .str, f := fun x => corbeltop_content k x.1 x.2 }
noncomputable def corbeltop_content_F (k : Nat) : PT := fnone
theorem corbeltop_content_fok (k : Nat) : FOK Tryd.prog tab (corbeltop_content_F k) := fok_none
noncomputable def corbeltop_content_c0 : Cl := { keep := [0, 1, 5, 6], hl := 1, ad := [], adc := [], bump := [] }
noncomputable def corbeltop_content_x0 : Cl := { keep := [5], hl := 1, ad := [], adc := [], bump := [] }
noncomputable def corbeltop_content_h : Hint := (.sq .no (.sq .no (.sq (.sq .no (.lp corbeltop_content_c0 corbeltop_content_x0 0 .no)) .no)))
noncomputable def corbeltop_content_l0_E0 {R : Type} (K : EX → St → Option R) : Bool → List Int → Option R := fun v0 v1 => K (.exit 0) (mkSt 29 [] corbeltop_content_x0.keep [.own 0 1] [.lst (.int .u8) 5 v0 1 v1])
noncomputable def corbeltop_content_l0_S (zone_0 : Int) (b_1 : Int) (i_2 : Int) (sN_8 : Bool) (s_3 : List Int) : St := mkSt 29 [] corbeltop_content_c0.keep [.int .i64 zone_0, .int .i64 b_1, .own 0 1, .int .i64 i_2] [.lst (.int .u8) 5 sN_8 1 s_3]
noncomputable def corbeltop_content_l0_sh : Rd (List AV × List HE) := .pair (.cons (.int .i64) (.cons (.int .i64) (.cons (.own 0 1) (.cons (.int .i64) Rd.nil)))) (.cons (.lst (.int .u8) 5 1) Rd.nil)
noncomputable def corbeltop_content_l0_a {R : Type} (k : Nat) : Alt R := { n := 29, v := [], sh := corbeltop_content_l0_sh, g := fun K x => corbeltop_content_l0 (fun y1 => corbeltop_content_l0_E0 K x.2.1.1 y1) k x.1.1 x.1.2.1 k x.1.2.2.2.1 x.2.1.2 }
noncomputable def corbeltop_content_O {R : Type} (k : Nat) : CutK R := cutsO [[corbeltop_content_l0_a k]]
noncomputable def corbeltop_content_b : List Ob := obs (bodyOf Tryd.f6) corbeltop_content_h
noncomputable def corbeltop_content_I {R : Type} (k : Nat) : InlT R := inone
theorem corbeltop_content_l0_eq {R : Type} (k : Nat) (K : EX → St → Option R) (zone_0 : Int) (b_1 : Int) (sN_8 : Bool) : ∀ (j : Nat) (i_2 : Int) (s_3 : List Int), corbeltop_content_l0 (fun y1 => corbeltop_content_l0_E0 K sN_8 y1) k zone_0 b_1 j i_2 s_3 = iter corbeltop_content_c0 corbeltop_content_x0 (ev tab (corbeltop_content_F k) (inlK tab (corbeltop_content_F k) (corbeltop_content_I k) 0) (corbeltop_content_O k) (obB corbeltop_content_b 0) (obH corbeltop_content_b 0)) j (corbeltop_content_l0_S zone_0 b_1 i_2 sN_8 s_3) K
  | 0, _, _ => rfl
  | j + 1, i_2, s_3 => by
    have e : corbeltop_content_l0 (fun y1 => corbeltop_content_l0_E0 K sN_8 y1) k zone_0 b_1 j = fun i_2 s_3 => iter corbeltop_content_c0 corbeltop_content_x0 (ev tab (corbeltop_content_F k) (inlK tab (corbeltop_content_F k) (corbeltop_content_I k) 0) (corbeltop_content_O k) (obB corbeltop_content_b 0) (obH corbeltop_content_b 0)) j (corbeltop_content_l0_S zone_0 b_1 i_2 sN_8 s_3) K := by funext i_2 s_3; exact corbeltop_content_l0_eq k K zone_0 b_1 sN_8 j i_2 s_3
    show corbeltop_content_l0s (corbeltop_content_l0 (fun y1 => corbeltop_content_l0_E0 K sN_8 y1) k zone_0 b_1 j) (fun y1 => corbeltop_content_l0_E0 K sN_8 y1) k zone_0 b_1 i_2 s_3 = _
    rw [e, iter_succ]; kernel_rfl
theorem corbeltop_content_l0_ok {R : Type} (k : Nat)  : ObOK (R := R) tab (corbeltop_content_F k) (inlK tab (corbeltop_content_F k) (corbeltop_content_I k) 0) (corbeltop_content_O k) (.loop corbeltop_content_c0 corbeltop_content_x0 0 (obB corbeltop_content_b 0) (obH corbeltop_content_b 0)) :=
  loop_ok (l := [corbeltop_content_l0_a k]) (by kernel_rfl) ⟨(fun K x => ⟨k, (corbeltop_content_l0_eq k K x.1.1 x.1.2.1 x.2.1.1 k x.1.2.2.2.1 x.2.1.2).trans (by kernel_rfl)⟩), trivial⟩
theorem corbeltop_content_cuts {R : Type} (k : Nat) : ∀ c, Tryd.f6.body = some c → CutsOK (R := R) tab (corbeltop_content_F k) (inlK tab (corbeltop_content_F k) (corbeltop_content_I k) 0) (corbeltop_content_O k) c corbeltop_content_h :=
  cuts_of (l := [.loop corbeltop_content_c0 corbeltop_content_x0 0 (obB corbeltop_content_b 0) (obH corbeltop_content_b 0)]) (by kernel_rfl) ⟨corbeltop_content_l0_ok k, trivial⟩
theorem corbeltop_content_iok {R : Type} (k : Nat) : IOK Tryd.prog tab (corbeltop_content_F k) (corbeltop_content_I (R := R) k) := iok_none
theorem corbeltop_content_ev (k : Nat) (x : (corbeltop_content_p k).τ.den) : evalF tab (corbeltop_content_F k) (corbeltop_content_p k) (corbeltop_content_I k) 0 (corbeltop_content_O k) corbeltop_content_h Tryd.f6 x = (corbeltop_content_p k).f x := by kernel_rfl
theorem corbeltop_content_ok (k : Nat) : PFOK Tryd.prog tab 6 (corbeltop_content_p k) := pfok mixed tabOK (corbeltop_content_fok k) Tryd.func6 (I := corbeltop_content_I k) (d := 0) (corbeltop_content_iok k) (Q := corbeltop_content_O k) (hi := corbeltop_content_h) (corbeltop_content_cuts k) (corbeltop_content_ev k)
end Go.Proofs.YtibdnfknokkadaaDoor.Ev
