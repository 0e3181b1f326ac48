/- corbeltop_content, told on plain data. Written by program. -/
import Derived.Test.YtdmcfpnegbfgiaaDoorEtab
set_option linter.unusedVariables false
set_option maxRecDepth 1000000
namespace Go.Proofs.YtdmcfpnegbfgiaaDoor.Ev
open Go Go.RowKit Go.Proofs
def corbeltop_content_l0s {R : Type} (rc : Int → List Int → Option R) (e0 : List Int → Option R) (k : Nat) (zone_1453 : Int) (b_1454 : Int) (i_1455 : Int) (s_1457 : List Int) : Option R :=
  bif (decide (i_1455 < (64 : Int))) then
    bif ((decide ((0 : Int) ≤ i_1455)) && (decide (i_1455 < (lenI s_1457)))) then
      optb (s_1457[i_1455.toNat]?) fun x_1464 =>
      rc (wrap64 (i_1455 + (1 : Int))) (List.set s_1457 i_1455.toNat (IntKind.u8.wrap (wrap64 ((wrap64 ((wrap64 ((wrap64 (zone_1453 * (31 : Int))) + (wrap64 (b_1454 * (7 : Int))))) + (wrap64 (i_1455 * b_1454)))) + i_1455))))
    else none
  else e0 s_1457
def corbeltop_content_l0 {R : Type} (e0 : List Int → Option R) (k : Nat) (zone_1453 : Int) (b_1454 : Int) : Nat → Int → List Int → Option R
  | 0 => fun _ _ => none
  | j + 1 => corbeltop_content_l0s (corbeltop_content_l0 e0 k zone_1453 b_1454 j) e0 k zone_1453 b_1454
def corbeltop_content (k : Nat) (zone_1435 : Int) (b_1436 : Int) : Option ByteArray :=
  corbeltop_content_l0 (fun s_1467 =>
    some (bytesOf s_1467)) k zone_1435 b_1436 k (0 : Int) (List.replicate (64 : Int).toNat (Ty.zero (.int .u8)))
def corbeltop_content_p (k : Nat) : PF := { ps := [(false, 1), (false, 1)], rs := [(false, 1)], τ := (.pair (.int .i64) (.int .i64)), σ := .str, f := fun x => corbeltop_content k x.1 x.2 }
def corbeltop_content_F (k : Nat) : PT := fnone
theorem corbeltop_content_fok (k : Nat) : FOK Tryd.prog tab (corbeltop_content_F k) := fok_none
def corbeltop_content_c0 : Cl := { keep := [0, 1, 5, 6], hl := 1, ad := [], adc := [], bump := [] }
def corbeltop_content_x0 : Cl := { keep := [5], hl := 1, ad := [], adc := [], bump := [] }
def corbeltop_content_h : Hint := (.sq .no (.sq .no (.sq (.sq .no (.lp corbeltop_content_c0 corbeltop_content_x0 0 .no)) .no)))
def corbeltop_content_l0_E0 {R : Type} (K : EX → St → Option R) : Bool → List Int → Option R := fun v0 v1 => K (.exit 0) (mkSt 29 [] corbeltop_content_x0.keep [.own 0 1] [.lst (.int .u8) 5 v0 1 v1])
def corbeltop_content_l0_S (zone_1453 : Int) (b_1454 : Int) (i_1455 : Int) (sN_1456 : Bool) (s_1457 : List Int) : St := mkSt 29 [] corbeltop_content_c0.keep [.int .i64 zone_1453, .int .i64 b_1454, .own 0 1, .int .i64 i_1455] [.lst (.int .u8) 5 sN_1456 1 s_1457]
def corbeltop_content_l0_sh : Rd (List AV × List HE) := .pair (.cons (.int .i64) (.cons (.int .i64) (.cons (.own 0 1) (.cons (.int .i64) Rd.nil)))) (.cons (.lst (.int .u8) 5 1) Rd.nil)
def corbeltop_content_l0_a {R : Type} (k : Nat) : Alt R := { n := 29, v := [], sh := corbeltop_content_l0_sh, g := fun K x => corbeltop_content_l0 (fun y1 => corbeltop_content_l0_E0 K x.2.1.1 y1) k x.1.1 x.1.2.1 k x.1.2.2.2.1 x.2.1.2 }
def corbeltop_content_O {R : Type} (k : Nat) : CutK R := cutsO [[corbeltop_content_l0_a k]]
noncomputable def corbeltop_content_b : List Ob := obs (bodyOf Tryd.f18) corbeltop_content_h
noncomputable def corbeltop_content_I {R : Type} (k : Nat) : InlT R := inone
theorem corbeltop_content_l0_eq {R : Type} (k : Nat) (K : EX → St → Option R) (zone_1453 : Int) (b_1454 : Int) (sN_1456 : Bool) : ∀ (j : Nat) (i_1455 : Int) (s_1457 : List Int), corbeltop_content_l0 (fun y1 => corbeltop_content_l0_E0 K sN_1456 y1) k zone_1453 b_1454 j i_1455 s_1457 = iter corbeltop_content_c0 corbeltop_content_x0 (ev tab (corbeltop_content_F k) (inlK tab (corbeltop_content_F k) (corbeltop_content_I k) 0) (corbeltop_content_O k) (obB corbeltop_content_b 0) (obH corbeltop_content_b 0)) j (corbeltop_content_l0_S zone_1453 b_1454 i_1455 sN_1456 s_1457) K
  | 0, _, _ => rfl
  | j + 1, i_1455, s_1457 => by
    have e : corbeltop_content_l0 (fun y1 => corbeltop_content_l0_E0 K sN_1456 y1) k zone_1453 b_1454 j = fun i_1455 s_1457 => iter corbeltop_content_c0 corbeltop_content_x0 (ev tab (corbeltop_content_F k) (inlK tab (corbeltop_content_F k) (corbeltop_content_I k) 0) (corbeltop_content_O k) (obB corbeltop_content_b 0) (obH corbeltop_content_b 0)) j (corbeltop_content_l0_S zone_1453 b_1454 i_1455 sN_1456 s_1457) K := by funext i_1455 s_1457; exact corbeltop_content_l0_eq k K zone_1453 b_1454 sN_1456 j i_1455 s_1457
    show corbeltop_content_l0s (corbeltop_content_l0 (fun y1 => corbeltop_content_l0_E0 K sN_1456 y1) k zone_1453 b_1454 j) (fun y1 => corbeltop_content_l0_E0 K sN_1456 y1) k zone_1453 b_1454 i_1455 s_1457 = _
    rw [e, iter_succ]; kernel_rfl
theorem corbeltop_content_l0_ok {R : Type} (k : Nat)  : ObOK (R := R) tab (corbeltop_content_F k) (inlK tab (corbeltop_content_F k) (corbeltop_content_I k) 0) (corbeltop_content_O k) (.loop corbeltop_content_c0 corbeltop_content_x0 0 (obB corbeltop_content_b 0) (obH corbeltop_content_b 0)) :=
  loop_ok (l := [corbeltop_content_l0_a k]) (by kernel_rfl) ⟨(fun K x => ⟨k, (corbeltop_content_l0_eq k K x.1.1 x.1.2.1 x.2.1.1 k x.1.2.2.2.1 x.2.1.2).trans (by kernel_rfl)⟩), trivial⟩
theorem corbeltop_content_cuts {R : Type} (k : Nat) : ∀ c, Tryd.f18.body = some c → CutsOK (R := R) tab (corbeltop_content_F k) (inlK tab (corbeltop_content_F k) (corbeltop_content_I k) 0) (corbeltop_content_O k) c corbeltop_content_h :=
  cuts_of (l := [.loop corbeltop_content_c0 corbeltop_content_x0 0 (obB corbeltop_content_b 0) (obH corbeltop_content_b 0)]) (by kernel_rfl) ⟨corbeltop_content_l0_ok k, trivial⟩
theorem corbeltop_content_iok {R : Type} (k : Nat) : IOK Tryd.prog tab (corbeltop_content_F k) (corbeltop_content_I (R := R) k) := iok_none
theorem corbeltop_content_ev (k : Nat) (x : (corbeltop_content_p k).τ.den) : evalF tab (corbeltop_content_F k) (corbeltop_content_p k) (corbeltop_content_I k) 0 (corbeltop_content_O k) corbeltop_content_h Tryd.f18 x = (corbeltop_content_p k).f x := by kernel_rfl
theorem corbeltop_content_ok (k : Nat) : PFOK Tryd.prog tab 18 (corbeltop_content_p k) := pfok mixed tabOK (corbeltop_content_fok k) Tryd.func18 (I := corbeltop_content_I k) (d := 0) (corbeltop_content_iok k) (Q := corbeltop_content_O k) (hi := corbeltop_content_h) (corbeltop_content_cuts k) (corbeltop_content_ev k)
end Go.Proofs.YtdmcfpnegbfgiaaDoor.Ev
