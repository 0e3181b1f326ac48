/- slices_Repeat, told on plain data. Written by program. -/
import Derived.Test.YtcikcikcjimcjaaEmath_bits_Mul
set_option linter.unusedVariables false
set_option maxRecDepth 1000000
namespace Go.Proofs.Ytcikcikcjimcjaa.Ev
open Go Go.RowKit Go.Proofs
def slices_Repeat_j0 {R : Type} (e0 : Option R) (k : Nat) (v_115 : Bool) : Option R :=
  bif v_115 then
    none
  else e0
def slices_Repeat_l1s {R : Type} (rc : Int → List Int → Option R) (e0 : List Int → Option R) (k : Nat) (n_121 : Int) (newslice_123 : List Int) : Option R :=
  bif (decide (n_121 < (lenI newslice_123))) then
    bif (((decide ((0 : Int) ≤ n_121)) && (decide (n_121 ≤ (lenI newslice_123)))) && (decide (((0 : Int) + (lenI newslice_123)) ≤ (lenI newslice_123)))) then
      bif ((decide ((0 : Int) ≤ n_121)) && (decide (((0 : Int) + n_121) ≤ (lenI newslice_123)))) then
        rc (wrap64 (n_121 + (lenI (List.take ((lenI newslice_123) - n_121).toNat (List.take (n_121 - (0 : Int)).toNat (List.drop (0 : Int).toNat newslice_123)))))) (lay newslice_123 ((0 : Int) + n_121).toNat (List.take ((lenI newslice_123) - n_121).toNat (List.take (n_121 - (0 : Int)).toNat (List.drop (0 : Int).toNat newslice_123))))
      else none
    else none
  else e0 newslice_123
def slices_Repeat_l1 {R : Type} (e0 : List Int → Option R) (k : Nat) : Nat → Int → List Int → Option R
  | 0 => fun _ _ => none
  | j + 1 => slices_Repeat_l1s (slices_Repeat_l1 e0 k j) e0 k
def slices_Repeat_k0 (k : Nat) (xb_80 : List Int) : Int → Option (Bool × List Int) := fun lo_118 =>
  bif (((decide ((0 : Int) ≤ (wrap64 lo_118))) && (decide ((wrap64 lo_118) ≤ (wrap64 lo_118)))) && (decide ((wrap64 lo_118) ≤ (1099511627776 : Int)))) then
    let z_119 := (List.replicate (wrap64 lo_118).toNat (Ty.zero (.int .i64)))
    slices_Repeat_l1 (fun newslice_127 =>
      some (false, newslice_127)) k k (lenI (List.take (lenI z_119).toNat xb_80)) (lay z_119 (0 : Int).toNat (List.take (lenI z_119).toNat xb_80))
  else none
def slices_Repeat (k : Nat) (xa_79 : Bool) (xb_80 : List Int) (count_81 : Int) : Option (Bool × List Int) :=
  bif (decide (count_81 < (0 : Int))) then
    none
  else optb (math_bits_Mul k (IntKind.u64.wrap (lenI xb_80)) (IntKind.u64.wrap count_81)) fun r_110 =>
  bif (decide ((0 : Int) < r_110.1)) then
    slices_Repeat_j0 (slices_Repeat_k0 k xb_80 r_110.2) k true
  else slices_Repeat_j0 (slices_Repeat_k0 k xb_80 r_110.2) k (decide ((9223372036854775807 : Int) < r_110.2))
def slices_Repeat_p (k : Nat) : PF := { ps := [(false, 1), (false, 1)], rs := [(false, 1)], τ := (.pair (.sl (.int .i64)) (.int .i64)), σ := (.sl (.int .i64)), f := fun x => slices_Repeat k x.1.1 x.1.2 x.2, fr := [some 3] }
def slices_Repeat_F (k : Nat) : PT := fcons 62 (math_bits_Mul_p k) <| fbase [] true
theorem slices_Repeat_fok (k : Nat) : FOK Try.prog tab (slices_Repeat_F k) := fok_cons (math_bits_Mul_ok k) Try.call62 <| fok_base
def slices_Repeat_c0 : Cl := { keep := [0, 6, 26], hl := 0, ad := [], adc := [], bump := [] }
def slices_Repeat_x0 : Cl := { keep := [0, 6], hl := 0, ad := [], adc := [], bump := [] }
def slices_Repeat_c1 : Cl := { keep := [7, 8], hl := 1, ad := [], adc := [], bump := [] }
def slices_Repeat_x1 : Cl := { keep := [7], hl := 1, ad := [], adc := [], bump := [] }
def slices_Repeat_h : Hint := (.sq .no (.sq .no (.sq .no (.sq (.ct slices_Repeat_c0 slices_Repeat_x0 0 .no .no) (.sq .no (.sq .no (.sq (.lp slices_Repeat_c1 slices_Repeat_x1 1 .no) .no)))))))
def slices_Repeat_j0_E0 {R : Type} (K : EX → St → Option R) : Bool → List Int → Int → Option R := fun v0 v1 v2 => K .normal (mkSt 48 [] slices_Repeat_x0.keep [.sl (.int .i64) v0 v1, .int .u64 v2] [])
def slices_Repeat_j0_S (xa_112 : Bool) (xb_113 : List Int) (lo_114 : Int) (v_115 : Bool) : St := mkSt 48 [] slices_Repeat_c0.keep [.sl (.int .i64) xa_112 xb_113, .int .u64 lo_114, .bool v_115] []
def slices_Repeat_j0_sh : Rd (List AV × List HE) := .pair (.cons (.sl (.int .i64)) (.cons (.int .u64) (.cons .bool Rd.nil))) Rd.nil
def slices_Repeat_j0_a {R : Type} (k : Nat) : Alt R := { n := 48, v := [], sh := slices_Repeat_j0_sh, g := fun K x => slices_Repeat_j0 (slices_Repeat_j0_E0 K x.1.1.1 x.1.1.2 x.1.2.1) k x.1.2.2.1 }
def slices_Repeat_l1_E0 {R : Type} (K : EX → St → Option R) : Bool → List Int → Option R := fun v0 v1 => K (.exit 0) (mkSt 48 [] slices_Repeat_x1.keep [.own 0 1] [.lst (.int .i64) 3 v0 1 v1])
def slices_Repeat_l1_S (n_121 : Int) (newsliceN_122 : Bool) (newslice_123 : List Int) : St := mkSt 48 [] slices_Repeat_c1.keep [.own 0 1, .int .i64 n_121] [.lst (.int .i64) 3 newsliceN_122 1 newslice_123]
def slices_Repeat_l1_sh : Rd (List AV × List HE) := .pair (.cons (.own 0 1) (.cons (.int .i64) Rd.nil)) (.cons (.lst (.int .i64) 3 1) Rd.nil)
def slices_Repeat_l1_a {R : Type} (k : Nat) : Alt R := { n := 48, v := [], sh := slices_Repeat_l1_sh, g := fun K x => slices_Repeat_l1 (fun y1 => slices_Repeat_l1_E0 K x.2.1.1 y1) k k x.1.2.1 x.2.1.2 }
def slices_Repeat_O {R : Type} (k : Nat) : CutK R := cutsO [[slices_Repeat_j0_a k], [slices_Repeat_l1_a k]]
noncomputable def slices_Repeat_b : List Ob := obs (bodyOf Try.f53) slices_Repeat_h
noncomputable def slices_Repeat_I {R : Type} (k : Nat) : InlT R := inone
theorem slices_Repeat_j0_eq {R : Type} (k : Nat) (K : EX → St → Option R) (xa_112 : Bool) (xb_113 : List Int) (lo_114 : Int) (v_115 : Bool) : slices_Repeat_j0 (slices_Repeat_j0_E0 K xa_112 xb_113 lo_114) k v_115 = ev tab (slices_Repeat_F k) (inlK tab (slices_Repeat_F k) (slices_Repeat_I k) 0) (slices_Repeat_O k) (obB slices_Repeat_b 0) (obH slices_Repeat_b 0) (slices_Repeat_j0_S xa_112 xb_113 lo_114 v_115) (fun e st => optb (clean slices_Repeat_x0 st) fun st => K e st) := by kernel_rfl
theorem slices_Repeat_j0_ok {R : Type} (k : Nat)  : ObOK (R := R) tab (slices_Repeat_F k) (inlK tab (slices_Repeat_F k) (slices_Repeat_I k) 0) (slices_Repeat_O k) (.join slices_Repeat_c0 slices_Repeat_x0 0 (obB slices_Repeat_b 0) (obH slices_Repeat_b 0)) :=
  join_ok (l := [slices_Repeat_j0_a k]) (by kernel_rfl) ⟨(fun K x => (slices_Repeat_j0_eq k K x.1.1.1 x.1.1.2 x.1.2.1 x.1.2.2.1).trans (by kernel_rfl)), trivial⟩
theorem slices_Repeat_l1_eq {R : Type} (k : Nat) (K : EX → St → Option R) (newsliceN_122 : Bool) : ∀ (j : Nat) (n_121 : Int) (newslice_123 : List Int), slices_Repeat_l1 (fun y1 => slices_Repeat_l1_E0 K newsliceN_122 y1) k j n_121 newslice_123 = iter slices_Repeat_c1 slices_Repeat_x1 (ev tab (slices_Repeat_F k) (inlK tab (slices_Repeat_F k) (slices_Repeat_I k) 0) (slices_Repeat_O k) (obB slices_Repeat_b 1) (obH slices_Repeat_b 1)) j (slices_Repeat_l1_S n_121 newsliceN_122 newslice_123) K
  | 0, _, _ => rfl
  | j + 1, n_121, newslice_123 => by
    have e : slices_Repeat_l1 (fun y1 => slices_Repeat_l1_E0 K newsliceN_122 y1) k j = fun n_121 newslice_123 => iter slices_Repeat_c1 slices_Repeat_x1 (ev tab (slices_Repeat_F k) (inlK tab (slices_Repeat_F k) (slices_Repeat_I k) 0) (slices_Repeat_O k) (obB slices_Repeat_b 1) (obH slices_Repeat_b 1)) j (slices_Repeat_l1_S n_121 newsliceN_122 newslice_123) K := by funext n_121 newslice_123; exact slices_Repeat_l1_eq k K newsliceN_122 j n_121 newslice_123
    show slices_Repeat_l1s (slices_Repeat_l1 (fun y1 => slices_Repeat_l1_E0 K newsliceN_122 y1) k j) (fun y1 => slices_Repeat_l1_E0 K newsliceN_122 y1) k n_121 newslice_123 = _
    rw [e, iter_succ]; kernel_rfl
theorem slices_Repeat_l1_ok {R : Type} (k : Nat)  : ObOK (R := R) tab (slices_Repeat_F k) (inlK tab (slices_Repeat_F k) (slices_Repeat_I k) 0) (slices_Repeat_O k) (.loop slices_Repeat_c1 slices_Repeat_x1 1 (obB slices_Repeat_b 1) (obH slices_Repeat_b 1)) :=
  loop_ok (l := [slices_Repeat_l1_a k]) (by kernel_rfl) ⟨(fun K x => ⟨k, (slices_Repeat_l1_eq k K x.2.1.1 k x.1.2.1 x.2.1.2).trans (by kernel_rfl)⟩), trivial⟩
theorem slices_Repeat_cuts {R : Type} (k : Nat) : ∀ c, Try.f53.body = some c → CutsOK (R := R) tab (slices_Repeat_F k) (inlK tab (slices_Repeat_F k) (slices_Repeat_I k) 0) (slices_Repeat_O k) c slices_Repeat_h :=
  cuts_of (l := [.join slices_Repeat_c0 slices_Repeat_x0 0 (obB slices_Repeat_b 0) (obH slices_Repeat_b 0), .loop slices_Repeat_c1 slices_Repeat_x1 1 (obB slices_Repeat_b 1) (obH slices_Repeat_b 1)]) (by kernel_rfl) ⟨slices_Repeat_j0_ok k, slices_Repeat_l1_ok k, trivial⟩
theorem slices_Repeat_iok {R : Type} (k : Nat) : IOK Try.prog tab (slices_Repeat_F k) (slices_Repeat_I (R := R) k) := iok_none
theorem slices_Repeat_ev (k : Nat) (x : (slices_Repeat_p k).τ.den) : evalF tab (slices_Repeat_F k) (slices_Repeat_p k) (slices_Repeat_I k) 0 (slices_Repeat_O k) slices_Repeat_h Try.f53 x = (slices_Repeat_p k).f x := by kernel_rfl
theorem slices_Repeat_ok (k : Nat) : PFOK Try.prog tab 53 (slices_Repeat_p k) := pfok mixed tabOK (slices_Repeat_fok k) Try.func53 (I := slices_Repeat_I k) (d := 0) (slices_Repeat_iok k) (Q := slices_Repeat_O k) (hi := slices_Repeat_h) (slices_Repeat_cuts k) (slices_Repeat_ev k)
end Go.Proofs.Ytcikcikcjimcjaa.Ev
