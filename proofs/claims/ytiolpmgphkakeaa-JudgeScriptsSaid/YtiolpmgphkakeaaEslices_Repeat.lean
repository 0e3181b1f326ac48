/- slices_Repeat, told on plain data. Written by program. -/
import Derived.Test.YtiolpmgphkakeaaEmath_bits_Mul
set_option linter.unusedVariables false
set_option maxRecDepth 1000000
namespace Go.Proofs.Ytiolpmgphkakeaa.Ev
open Go Go.RowKit Go.Proofs
noncomputable def slices_Repeat_l1s {R : Type} (rc : Int → List ByteArray → Option R) (e0 : List ByteArray → Option R) (k : Nat) (n_162 : Int) (newslice_164 : List ByteArray) : Option R :=
  bif (decide (n_162 < (lenI newslice_164))) then
    bif (((decide ((0 : Int) ≤ n_162)) && (decide (n_162 ≤ (lenI newslice_164)))) && (decide (((0 : Int) + (lenI newslice_164)) ≤ (lenI newslice_164)))) then
      bif ((decide ((0 : Int) ≤ n_162)) && (decide (((0 : Int) + n_162) ≤ (lenI newslice_164)))) then
        rc (wrap64 (n_162 + (lenI (List.take ((lenI newslice_164) - n_162).toNat (List.take (n_162 - (0 : Int)).toNat (List.drop (0 : Int).toNat newslice_164)))))) (lay newslice_164 ((0 : Int) + n_162).toNat (List.take ((lenI newslice_164) - n_162).toNat (List.take (n_162 - (0 : Int)).toNat (List.drop (0 : Int).toNat newslice_164))))
      else none
    else none
  else e0 newslice_164
noncomputable def slices_Repeat_l1 {R : Type} (e0 : List ByteArray → Option R) (k : Nat) : Nat → Int → List ByteArray → Option R
  | 0 => fun _ _ => none
  | j + 1 => slices_Repeat_l1s (slices_Repeat_l1 e0 k j) e0 k
noncomputable def slices_Repeat_j0 {R : Type} (e0 : List ByteArray → Option R) (k : Nat) (n_159 : Int) (newslice_161 : List ByteArray) : Option R :=
  slices_Repeat_l1 (fun newslice_168 =>
    e0 newslice_168) k k n_159 newslice_161
noncomputable def slices_Repeat (k : Nat) (xa_99 : Bool) (xb_100 : List ByteArray) (count_101 : Int) : Option (Bool × List ByteArray) :=
  bif (decide (count_101 < (0 : Int))) then
    none
  else optb (math_bits_Mul k (IntKind.u64.wrap (lenI xb_100)) (IntKind.u64.wrap count_101)) fun r_154 =>
  bif (decide ((0 : Int) < r_154.1)) then
    none
  else bif (decide ((9223372036854775807 : Int) < r_154.2)) then
    none
  else bif (((decide ((0 : Int) ≤ (wrap64 r_154.2))) && (decide ((wrap64 r_154.2) ≤ (wrap64 r_154.2)))) && (decide ((wrap64 r_154.2) ≤ (1099511627776 : Int)))) then
    let z_157 := (List.replicate (wrap64 r_154.2).toNat (Ty.zero .str))
    slices_Repeat_j0 (fun v_170 =>
      some (false, v_170)) k (lenI (List.take (lenI z_157).toNat xb_100)) (lay z_157 (0 : Int).toNat (List.take (lenI z_157).toNat xb_100))
  else none
noncomputable def slices_Repeat_p (k : Nat) : PF := { ps := [(false, 1), (false, 1)], rs := [(false, 1)], τ := (.pair (.sl .str) (.int .i64)), σ := (.sl .str), f := fun x => slices_Repeat k x.1.1 x.1.2 x.2, fr := [some 9] }
noncomputable def slices_Repeat_F (k : Nat) : PT := fcons 56 (math_bits_Mul_p k) <| fbase [] true
theorem slices_Repeat_fok (k : Nat) : FOK Try.prog tab (slices_Repeat_F k) := fok_cons (math_bits_Mul_ok k) Try.call56 <| fok_base
noncomputable def slices_Repeat_c0 : Cl := { keep := [7, 8], hl := 1, ad := [], adc := [], bump := [] }
noncomputable def slices_Repeat_x0 : Cl := { keep := [4], hl := 1, ad := [], adc := [], bump := [] }
noncomputable def slices_Repeat_c1 : Cl := { keep := [7, 8], hl := 1, ad := [], adc := [], bump := [] }
noncomputable def slices_Repeat_x1 : Cl := { keep := [7], hl := 1, ad := [], adc := [], bump := [] }
noncomputable def slices_Repeat_h : Hint := (.sq .no (.sq .no (.sq .no (.sq .no (.sq .no (.ct slices_Repeat_c0 slices_Repeat_x0 0 .no (.sq (.lp slices_Repeat_c1 slices_Repeat_x1 1 .no) .no)))))))
noncomputable def slices_Repeat_j0_E0 {R : Type} (K : EX → St → Option R) : Bool → List ByteArray → Option R := fun v0 v1 => K .ret (mkSt 48 [] slices_Repeat_x0.keep [.own 0 1] [.lst .str 9 v0 1 v1])
noncomputable def slices_Repeat_j0_S (n_159 : Int) (newsliceN_160 : Bool) (newslice_161 : List ByteArray) : St := mkSt 48 [] slices_Repeat_c0.keep [.own 0 1, .int .i64 n_159] [.lst .str 9 newsliceN_160 1 newslice_161]
noncomputable def slices_Repeat_j0_sh : Rd (List AV × List HE) := .pair (.cons (.own 0 1) (.cons (.int .i64) Rd.nil)) (.cons (.lst .str 9 1) Rd.nil)
noncomputable def slices_Repeat_j0_a {R : Type} (k : Nat) : Alt R := { n := 48, v := [], sh := slices_Repeat_j0_sh, g := fun K x => slices_Repeat_j0 (fun y1 => slices_Repeat_j0_E0 K x.2.1.1 y1) k x.1.2.1 x.2.1.2 }
noncomputable def slices_Repeat_l1_E0 {R : Type} (K : EX → St → Option R) : Bool → List ByteArray → Option R := fun v0 v1 => K (.exit 0) (mkSt 48 [] slices_Repeat_x1.keep [.own 0 1] [.lst .str 9 v0 1 v1])
noncomputable def slices_Repeat_l1_S (n_162 : Int) (newsliceN_163 : Bool) (newslice_164 : List ByteArray) : St := mkSt 48 [] slices_Repeat_c1.keep [.own 0 1, .int .i64 n_162] [.lst .str 9 newsliceN_163 1 newslice_164]
noncomputable def slices_Repeat_l1_sh : Rd (List AV × List HE) := .pair (.cons (.own 0 1) (.cons (.int .i64) Rd.nil)) (.cons (.lst .str 9 1) Rd.nil)
noncomputable def slices_Repeat_l1_a {R : Type} (k : Nat) : Alt R := { n := 48, v := [], sh := slices_Repeat_l1_sh, g := fun K x => slices_Repeat_l1 (fun y1 => slices_Repeat_l1_E0 K x.2.1.1 y1) k k x.1.2.1 x.2.1.2 }
noncomputable def slices_Repeat_O {R : Type} (k : Nat) : CutK R := cutsO [[slices_Repeat_j0_a k], [slices_Repeat_l1_a k]]
noncomputable def slices_Repeat_b : List Ob := obs (bodyOf Try.f31) slices_Repeat_h
noncomputable def slices_Repeat_I {R : Type} (k : Nat) : InlT R := inone
theorem slices_Repeat_j0_eq {R : Type} (k : Nat) (K : EX → St → Option R) (n_159 : Int) (newsliceN_160 : Bool) (newslice_161 : List ByteArray) : slices_Repeat_j0 (fun y1 => slices_Repeat_j0_E0 K newsliceN_160 y1) k n_159 newslice_161 = ev tab (slices_Repeat_F k) (inlK tab (slices_Repeat_F k) (slices_Repeat_I k) 0) (slices_Repeat_O k) (obB slices_Repeat_b 0) (obH slices_Repeat_b 0) (slices_Repeat_j0_S n_159 newsliceN_160 newslice_161) (fun e st => optb (clean slices_Repeat_x0 st) fun st => K e st) := by kernel_rfl
theorem slices_Repeat_j0_ok {R : Type} (k : Nat)  : ObOK (R := R) tab (slices_Repeat_F k) (inlK tab (slices_Repeat_F k) (slices_Repeat_I k) 0) (slices_Repeat_O k) (.join slices_Repeat_c0 slices_Repeat_x0 0 (obB slices_Repeat_b 0) (obH slices_Repeat_b 0)) :=
  join_ok (l := [slices_Repeat_j0_a k]) (by kernel_rfl) ⟨(fun K x => (slices_Repeat_j0_eq k K x.1.2.1 x.2.1.1 x.2.1.2).trans (by kernel_rfl)), trivial⟩
theorem slices_Repeat_l1_eq {R : Type} (k : Nat) (K : EX → St → Option R) (newsliceN_163 : Bool) : ∀ (j : Nat) (n_162 : Int) (newslice_164 : List ByteArray), slices_Repeat_l1 (fun y1 => slices_Repeat_l1_E0 K newsliceN_163 y1) k j n_162 newslice_164 = iter slices_Repeat_c1 slices_Repeat_x1 (ev tab (slices_Repeat_F k) (inlK tab (slices_Repeat_F k) (slices_Repeat_I k) 0) (slices_Repeat_O k) (obB slices_Repeat_b 1) (obH slices_Repeat_b 1)) j (slices_Repeat_l1_S n_162 newsliceN_163 newslice_164) K
  | 0, _, _ => rfl
  | j + 1, n_162, newslice_164 => by
    have e : slices_Repeat_l1 (fun y1 => slices_Repeat_l1_E0 K newsliceN_163 y1) k j = fun n_162 newslice_164 => iter slices_Repeat_c1 slices_Repeat_x1 (ev tab (slices_Repeat_F k) (inlK tab (slices_Repeat_F k) (slices_Repeat_I k) 0) (slices_Repeat_O k) (obB slices_Repeat_b 1) (obH slices_Repeat_b 1)) j (slices_Repeat_l1_S n_162 newsliceN_163 newslice_164) K := by funext n_162 newslice_164; exact slices_Repeat_l1_eq k K newsliceN_163 j n_162 newslice_164
    show slices_Repeat_l1s (slices_Repeat_l1 (fun y1 => slices_Repeat_l1_E0 K newsliceN_163 y1) k j) (fun y1 => slices_Repeat_l1_E0 K newsliceN_163 y1) k n_162 newslice_164 = _
    rw [e, iter_succ]; kernel_rfl
theorem slices_Repeat_l1_ok {R : Type} (k : Nat)  : ObOK (R := R) tab (slices_Repeat_F k) (inlK tab (slices_Repeat_F k) (slices_Repeat_I k) 0) (slices_Repeat_O k) (.loop slices_Repeat_c1 slices_Repeat_x1 1 (obB slices_Repeat_b 1) (obH slices_Repeat_b 1)) :=
  loop_ok (l := [slices_Repeat_l1_a k]) (by kernel_rfl) ⟨(fun K x => ⟨k, (slices_Repeat_l1_eq k K x.2.1.1 k x.1.2.1 x.2.1.2).trans (by kernel_rfl)⟩), trivial⟩
theorem slices_Repeat_cuts {R : Type} (k : Nat) : ∀ c, Try.f31.body = some c → CutsOK (R := R) tab (slices_Repeat_F k) (inlK tab (slices_Repeat_F k) (slices_Repeat_I k) 0) (slices_Repeat_O k) c slices_Repeat_h :=
  cuts_of (l := [.join slices_Repeat_c0 slices_Repeat_x0 0 (obB slices_Repeat_b 0) (obH slices_Repeat_b 0), .loop slices_Repeat_c1 slices_Repeat_x1 1 (obB slices_Repeat_b 1) (obH slices_Repeat_b 1)]) (by kernel_rfl) ⟨slices_Repeat_j0_ok k, slices_Repeat_l1_ok k, trivial⟩
theorem slices_Repeat_iok {R : Type} (k : Nat) : IOK Try.prog tab (slices_Repeat_F k) (slices_Repeat_I (R := R) k) := iok_none
theorem slices_Repeat_ev (k : Nat) (x : (slices_Repeat_p k).τ.den) : evalF tab (slices_Repeat_F k) (slices_Repeat_p k) (slices_Repeat_I k) 0 (slices_Repeat_O k) slices_Repeat_h Try.f31 x = (slices_Repeat_p k).f x := by kernel_rfl
theorem slices_Repeat_ok (k : Nat) : PFOK Try.prog tab 31 (slices_Repeat_p k) := pfok mixed tabOK (slices_Repeat_fok k) Try.func31 (I := slices_Repeat_I k) (d := 0) (slices_Repeat_iok k) (Q := slices_Repeat_O k) (hi := slices_Repeat_h) (slices_Repeat_cuts k) (slices_Repeat_ev k)
end Go.Proofs.Ytiolpmgphkakeaa.Ev
