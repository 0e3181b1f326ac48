/- slices_Repeat, told on plain data. Written by program. -/
import Derived.Test.YtiolpmgphkakeaaEmath_bits_Mul
set_option linter.unusedVariables false
set_option maxRecDepth 1000000
namespace Go.Proofs.Ytiolpmgphkakeaa.Ev
open Go Go.RowKit Go.Proofs
def slices_Repeat_j0 {R : Type} (e0 : Option R) (k : Nat) (v_120 : Bool) : Option R :=
  bif v_120 then
    none
  else e0
def slices_Repeat_l1s {R : Type} (rc : Int → List ByteArray → Option R) (e0 : List ByteArray → Option R) (k : Nat) (n_126 : Int) (newslice_128 : List ByteArray) : Option R :=
  bif (decide (n_126 < (lenI newslice_128))) then
    bif (((decide ((0 : Int) ≤ n_126)) && (decide (n_126 ≤ (lenI newslice_128)))) && (decide (((0 : Int) + (lenI newslice_128)) ≤ (lenI newslice_128)))) then
      bif ((decide ((0 : Int) ≤ n_126)) && (decide (((0 : Int) + n_126) ≤ (lenI newslice_128)))) then
        rc (wrap64 (n_126 + (lenI (List.take ((lenI newslice_128) - n_126).toNat (List.take (n_126 - (0 : Int)).toNat (List.drop (0 : Int).toNat newslice_128)))))) (lay newslice_128 ((0 : Int) + n_126).toNat (List.take ((lenI newslice_128) - n_126).toNat (List.take (n_126 - (0 : Int)).toNat (List.drop (0 : Int).toNat newslice_128))))
      else none
    else none
  else e0 newslice_128
def slices_Repeat_l1 {R : Type} (e0 : List ByteArray → Option R) (k : Nat) : Nat → Int → List ByteArray → Option R
  | 0 => fun _ _ => none
  | j + 1 => slices_Repeat_l1s (slices_Repeat_l1 e0 k j) e0 k
def slices_Repeat_k0 (k : Nat) (xb_85 : List ByteArray) : Int → Option (Bool × List ByteArray) := fun lo_123 =>
  bif (((decide ((0 : Int) ≤ (wrap64 lo_123))) && (decide ((wrap64 lo_123) ≤ (wrap64 lo_123)))) && (decide ((wrap64 lo_123) ≤ (1099511627776 : Int)))) then
    let z_124 := (List.replicate (wrap64 lo_123).toNat (Ty.zero .str))
    slices_Repeat_l1 (fun newslice_132 =>
      some (false, newslice_132)) k k (lenI (List.take (lenI z_124).toNat xb_85)) (lay z_124 (0 : Int).toNat (List.take (lenI z_124).toNat xb_85))
  else none
def slices_Repeat (k : Nat) (xa_84 : Bool) (xb_85 : List ByteArray) (count_86 : Int) : Option (Bool × List ByteArray) :=
  bif (decide (count_86 < (0 : Int))) then
    none
  else optb (math_bits_Mul k (IntKind.u64.wrap (lenI xb_85)) (IntKind.u64.wrap count_86)) fun r_115 =>
  bif (decide ((0 : Int) < r_115.1)) then
    slices_Repeat_j0 (slices_Repeat_k0 k xb_85 r_115.2) k true
  else slices_Repeat_j0 (slices_Repeat_k0 k xb_85 r_115.2) k (decide ((9223372036854775807 : Int) < r_115.2))
def slices_Repeat_p (k : Nat) : PF := { ps := [(false, 1), (false, 1)], rs := [(false, 1)], τ := (.pair (.sl .str) (.int .i64)), σ := (.sl .str), f := fun x => slices_Repeat k x.1.1 x.1.2 x.2, fr := [some 9] }
def slices_Repeat_F (k : Nat) : PT := fcons 56 (math_bits_Mul_p k) <| fbase [] true
theorem slices_Repeat_fok (k : Nat) : FOK Try.prog tab (slices_Repeat_F k) := fok_cons (math_bits_Mul_ok k) Try.call56 <| fok_base
def slices_Repeat_c0 : Cl := { keep := [0, 6, 26], hl := 0, ad := [], adc := [], bump := [] }
def slices_Repeat_x0 : Cl := { keep := [0, 6], hl := 0, ad := [], adc := [], bump := [] }
def slices_Repeat_c1 : Cl := { keep := [7, 8], hl := 1, ad := [], adc := [], bump := [] }
def slices_Repeat_x1 : Cl := { keep := [7], hl := 1, ad := [], adc := [], bump := [] }
def slices_Repeat_h : Hint := (.sq .no (.sq .no (.sq .no (.sq (.ct slices_Repeat_c0 slices_Repeat_x0 0 .no .no) (.sq .no (.sq .no (.sq (.lp slices_Repeat_c1 slices_Repeat_x1 1 .no) .no)))))))
def slices_Repeat_j0_E0 {R : Type} (K : EX → St → Option R) : Bool → List ByteArray → Int → Option R := fun v0 v1 v2 => K .normal (mkSt 48 [] slices_Repeat_x0.keep [.sl .str v0 v1, .int .u64 v2] [])
def slices_Repeat_j0_S (xa_117 : Bool) (xb_118 : List ByteArray) (lo_119 : Int) (v_120 : Bool) : St := mkSt 48 [] slices_Repeat_c0.keep [.sl .str xa_117 xb_118, .int .u64 lo_119, .bool v_120] []
def slices_Repeat_j0_sh : Rd (List AV × List HE) := .pair (.cons (.sl .str) (.cons (.int .u64) (.cons .bool Rd.nil))) Rd.nil
def slices_Repeat_j0_a {R : Type} (k : Nat) : Alt R := { n := 48, v := [], sh := slices_Repeat_j0_sh, g := fun K x => slices_Repeat_j0 (slices_Repeat_j0_E0 K x.1.1.1 x.1.1.2 x.1.2.1) k x.1.2.2.1 }
def slices_Repeat_l1_E0 {R : Type} (K : EX → St → Option R) : Bool → List ByteArray → Option R := fun v0 v1 => K (.exit 0) (mkSt 48 [] slices_Repeat_x1.keep [.own 0 1] [.lst .str 9 v0 1 v1])
def slices_Repeat_l1_S (n_126 : Int) (newsliceN_127 : Bool) (newslice_128 : List ByteArray) : St := mkSt 48 [] slices_Repeat_c1.keep [.own 0 1, .int .i64 n_126] [.lst .str 9 newsliceN_127 1 newslice_128]
def slices_Repeat_l1_sh : Rd (List AV × List HE) := .pair (.cons (.own 0 1) (.cons (.int .i64) Rd.nil)) (.cons (.lst .str 9 1) Rd.nil)
def slices_Repeat_l1_a {R : Type} (k : Nat) : Alt R := { n := 48, v := [], sh := slices_Repeat_l1_sh, g := fun K x => slices_Repeat_l1 (fun y1 => slices_Repeat_l1_E0 K x.2.1.1 y1) k k x.1.2.1 x.2.1.2 }
def slices_Repeat_O {R : Type} (k : Nat) : CutK R := cutsO [[slices_Repeat_j0_a k], [slices_Repeat_l1_a k]]
noncomputable def slices_Repeat_b : List Ob := obs (bodyOf Try.f31) slices_Repeat_h
noncomputable def slices_Repeat_I {R : Type} (k : Nat) : InlT R := inone
theorem slices_Repeat_j0_eq {R : Type} (k : Nat) (K : EX → St → Option R) (xa_117 : Bool) (xb_118 : List ByteArray) (lo_119 : Int) (v_120 : Bool) : slices_Repeat_j0 (slices_Repeat_j0_E0 K xa_117 xb_118 lo_119) k v_120 = ev tab (slices_Repeat_F k) (inlK tab (slices_Repeat_F k) (slices_Repeat_I k) 0) (slices_Repeat_O k) (obB slices_Repeat_b 0) (obH slices_Repeat_b 0) (slices_Repeat_j0_S xa_117 xb_118 lo_119 v_120) (fun e st => optb (clean slices_Repeat_x0 st) fun st => K e st) := by kernel_rfl
theorem slices_Repeat_j0_ok {R : Type} (k : Nat)  : ObOK (R := R) tab (slices_Repeat_F k) (inlK tab (slices_Repeat_F k) (slices_Repeat_I k) 0) (slices_Repeat_O k) (.join slices_Repeat_c0 slices_Repeat_x0 0 (obB slices_Repeat_b 0) (obH slices_Repeat_b 0)) :=
  join_ok (l := [slices_Repeat_j0_a k]) (by kernel_rfl) ⟨(fun K x => (slices_Repeat_j0_eq k K x.1.1.1 x.1.1.2 x.1.2.1 x.1.2.2.1).trans (by kernel_rfl)), trivial⟩
theorem slices_Repeat_l1_eq {R : Type} (k : Nat) (K : EX → St → Option R) (newsliceN_127 : Bool) : ∀ (j : Nat) (n_126 : Int) (newslice_128 : List ByteArray), slices_Repeat_l1 (fun y1 => slices_Repeat_l1_E0 K newsliceN_127 y1) k j n_126 newslice_128 = iter slices_Repeat_c1 slices_Repeat_x1 (ev tab (slices_Repeat_F k) (inlK tab (slices_Repeat_F k) (slices_Repeat_I k) 0) (slices_Repeat_O k) (obB slices_Repeat_b 1) (obH slices_Repeat_b 1)) j (slices_Repeat_l1_S n_126 newsliceN_127 newslice_128) K
  | 0, _, _ => rfl
  | j + 1, n_126, newslice_128 => by
    have e : slices_Repeat_l1 (fun y1 => slices_Repeat_l1_E0 K newsliceN_127 y1) k j = fun n_126 newslice_128 => iter slices_Repeat_c1 slices_Repeat_x1 (ev tab (slices_Repeat_F k) (inlK tab (slices_Repeat_F k) (slices_Repeat_I k) 0) (slices_Repeat_O k) (obB slices_Repeat_b 1) (obH slices_Repeat_b 1)) j (slices_Repeat_l1_S n_126 newsliceN_127 newslice_128) K := by funext n_126 newslice_128; exact slices_Repeat_l1_eq k K newsliceN_127 j n_126 newslice_128
    show slices_Repeat_l1s (slices_Repeat_l1 (fun y1 => slices_Repeat_l1_E0 K newsliceN_127 y1) k j) (fun y1 => slices_Repeat_l1_E0 K newsliceN_127 y1) k n_126 newslice_128 = _
    rw [e, iter_succ]; kernel_rfl
theorem slices_Repeat_l1_ok {R : Type} (k : Nat)  : ObOK (R := R) tab (slices_Repeat_F k) (inlK tab (slices_Repeat_F k) (slices_Repeat_I k) 0) (slices_Repeat_O k) (.loop slices_Repeat_c1 slices_Repeat_x1 1 (obB slices_Repeat_b 1) (obH slices_Repeat_b 1)) :=
  loop_ok (l := [slices_Repeat_l1_a k]) (by kernel_rfl) ⟨(fun K x => ⟨k, (slices_Repeat_l1_eq k K x.2.1.1 k x.1.2.1 x.2.1.2).trans (by kernel_rfl)⟩), trivial⟩
theorem slices_Repeat_cuts {R : Type} (k : Nat) : ∀ c, Try.f31.body = some c → CutsOK (R := R) tab (slices_Repeat_F k) (inlK tab (slices_Repeat_F k) (slices_Repeat_I k) 0) (slices_Repeat_O k) c slices_Repeat_h :=
  cuts_of (l := [.join slices_Repeat_c0 slices_Repeat_x0 0 (obB slices_Repeat_b 0) (obH slices_Repeat_b 0), .loop slices_Repeat_c1 slices_Repeat_x1 1 (obB slices_Repeat_b 1) (obH slices_Repeat_b 1)]) (by kernel_rfl) ⟨slices_Repeat_j0_ok k, slices_Repeat_l1_ok k, trivial⟩
theorem slices_Repeat_iok {R : Type} (k : Nat) : IOK Try.prog tab (slices_Repeat_F k) (slices_Repeat_I (R := R) k) := iok_none
theorem slices_Repeat_ev (k : Nat) (x : (slices_Repeat_p k).τ.den) : evalF tab (slices_Repeat_F k) (slices_Repeat_p k) (slices_Repeat_I k) 0 (slices_Repeat_O k) slices_Repeat_h Try.f31 x = (slices_Repeat_p k).f x := by kernel_rfl
theorem slices_Repeat_ok (k : Nat) : PFOK Try.prog tab 31 (slices_Repeat_p k) := pfok mixed tabOK (slices_Repeat_fok k) Try.func31 (I := slices_Repeat_I k) (d := 0) (slices_Repeat_iok k) (Q := slices_Repeat_O k) (hi := slices_Repeat_h) (slices_Repeat_cuts k) (slices_Repeat_ev k)
end Go.Proofs.Ytiolpmgphkakeaa.Ev
