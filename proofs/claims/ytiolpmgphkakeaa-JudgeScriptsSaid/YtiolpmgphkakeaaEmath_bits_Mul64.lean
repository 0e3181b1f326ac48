/- math_bits_Mul64, told on plain data. Written by program. -/
import Derived.Test.YtiolpmgphkakeaaEtab
set_option linter.unusedVariables false
set_option maxRecDepth 1000000
namespace Go.Proofs.Ytiolpmgphkakeaa.Ev
open Go Go.RowKit Go.Proofs
noncomputable def math_bits_Mul64_j0 {R : Type} (e0 : Int → Int → Option R) (k : Nat) (x_19 : Int) (y_20 : Int) (x0_21 : Int) (x1_22 : Int) (y1_23 : Int) (w1_24 : Int) (w2_25 : Int) : Option R :=
  e0 (IntKind.u64.wrap ((IntKind.u64.wrap ((IntKind.u64.wrap (x1_22 * y1_23)) + w2_25)) + (shrv .u64 (IntKind.u64.wrap (w1_24 + (IntKind.u64.wrap (x0_21 * y1_23)))) (32 : Int)))) (IntKind.u64.wrap (x_19 * y_20))
noncomputable def math_bits_Mul64 (k : Nat) (x_11 : Int) (y_12 : Int) : Option (Int × Int) :=
  let z_18 := (IntKind.u64.wrap ((IntKind.u64.wrap ((shrv .u64 x_11 (32 : Int)) * (bitop .and .u64 y_12 (4294967295 : Int)))) + (shrv .u64 (IntKind.u64.wrap ((bitop .and .u64 x_11 (4294967295 : Int)) * (bitop .and .u64 y_12 (4294967295 : Int)))) (32 : Int))))
  math_bits_Mul64_j0 (fun hi_29 lo_30 =>
    some (hi_29, lo_30)) k x_11 y_12 (bitop .and .u64 x_11 (4294967295 : Int)) (shrv .u64 x_11 (32 : Int)) (shrv .u64 y_12 (32 : Int)) (bitop .and .u64 z_18 (4294967295 : Int)) (shrv .u64 z_18 (32 : Int))
noncomputable def math_bits_Mul64_p (k : Nat) : PF := { ps := [(false, 1), (false, 1)], rs := [(false, 1), (false, 1)], τ := (.pair (.int .u64) (.int .u64)), σ := (.pair (.int .u64) (.int .u64)), f := fun x => math_bits_Mul64 k x.1 x.2 }
noncomputable def math_bits_Mul64_F (k : Nat) : PT := fnone
theorem math_bits_Mul64_fok (k : Nat) : FOK Try.prog tab (math_bits_Mul64_F k) := fok_none
noncomputable def math_bits_Mul64_c0 : Cl := { keep := [0, 1, 6, 7, 9, 12, 13], hl := 0, ad := [], adc := [], bump := [] }
noncomputable def math_bits_Mul64_x0 : Cl := { keep := [4, 5], hl := 0, ad := [], adc := [], bump := [] }
noncomputable def math_bits_Mul64_h : Hint := (.sq .no (.sq .no (.sq .no (.sq .no (.sq .no (.sq .no (.sq .no (.sq .no (.ct math_bits_Mul64_c0 math_bits_Mul64_x0 0 .no .no)))))))))
noncomputable def math_bits_Mul64_j0_E0 {R : Type} (K : EX → St → Option R) : Int → Int → Option R := fun v0 v1 => K .ret (mkSt 51 [] math_bits_Mul64_x0.keep [.int .u64 v0, .int .u64 v1] [])
noncomputable def math_bits_Mul64_j0_S (x_19 : Int) (y_20 : Int) (x0_21 : Int) (x1_22 : Int) (y1_23 : Int) (w1_24 : Int) (w2_25 : Int) : St := mkSt 51 [] math_bits_Mul64_c0.keep [.int .u64 x_19, .int .u64 y_20, .int .u64 x0_21, .int .u64 x1_22, .int .u64 y1_23, .int .u64 w1_24, .int .u64 w2_25] []
noncomputable def math_bits_Mul64_j0_sh : Rd (List AV × List HE) := .pair (.cons (.int .u64) (.cons (.int .u64) (.cons (.int .u64) (.cons (.int .u64) (.cons (.int .u64) (.cons (.int .u64) (.cons (.int .u64) Rd.nil))))))) Rd.nil
noncomputable def math_bits_Mul64_j0_a {R : Type} (k : Nat) : Alt R := { n := 51, v := [], sh := math_bits_Mul64_j0_sh, g := fun K x => math_bits_Mul64_j0 (math_bits_Mul64_j0_E0 K) k x.1.1 x.1.2.1 x.1.2.2.1 x.1.2.2.2.1 x.1.2.2.2.2.1 x.1.2.2.2.2.2.1 x.1.2.2.2.2.2.2.1 }
noncomputable def math_bits_Mul64_O {R : Type} (k : Nat) : CutK R := cutsO [[math_bits_Mul64_j0_a k]]
noncomputable def math_bits_Mul64_b : List Ob := obs (bodyOf Try.f71) math_bits_Mul64_h
noncomputable def math_bits_Mul64_I {R : Type} (k : Nat) : InlT R := inone
theorem math_bits_Mul64_j0_eq {R : Type} (k : Nat) (K : EX → St → Option R) (x_19 : Int) (y_20 : Int) (x0_21 : Int) (x1_22 : Int) (y1_23 : Int) (w1_24 : Int) (w2_25 : Int) : math_bits_Mul64_j0 (math_bits_Mul64_j0_E0 K) k x_19 y_20 x0_21 x1_22 y1_23 w1_24 w2_25 = ev tab (math_bits_Mul64_F k) (inlK tab (math_bits_Mul64_F k) (math_bits_Mul64_I k) 0) (math_bits_Mul64_O k) (obB math_bits_Mul64_b 0) (obH math_bits_Mul64_b 0) (math_bits_Mul64_j0_S x_19 y_20 x0_21 x1_22 y1_23 w1_24 w2_25) (fun e st => optb (clean math_bits_Mul64_x0 st) fun st => K e st) := by kernel_rfl
theorem math_bits_Mul64_j0_ok {R : Type} (k : Nat)  : ObOK (R := R) tab (math_bits_Mul64_F k) (inlK tab (math_bits_Mul64_F k) (math_bits_Mul64_I k) 0) (math_bits_Mul64_O k) (.join math_bits_Mul64_c0 math_bits_Mul64_x0 0 (obB math_bits_Mul64_b 0) (obH math_bits_Mul64_b 0)) :=
  join_ok (l := [math_bits_Mul64_j0_a k]) (by kernel_rfl) ⟨(fun K x => (math_bits_Mul64_j0_eq k K x.1.1 x.1.2.1 x.1.2.2.1 x.1.2.2.2.1 x.1.2.2.2.2.1 x.1.2.2.2.2.2.1 x.1.2.2.2.2.2.2.1).trans (by kernel_rfl)), trivial⟩
theorem math_bits_Mul64_cuts {R : Type} (k : Nat) : ∀ c, Try.f71.body = some c → CutsOK (R := R) tab (math_bits_Mul64_F k) (inlK tab (math_bits_Mul64_F k) (math_bits_Mul64_I k) 0) (math_bits_Mul64_O k) c math_bits_Mul64_h :=
  cuts_of (l := [.join math_bits_Mul64_c0 math_bits_Mul64_x0 0 (obB math_bits_Mul64_b 0) (obH math_bits_Mul64_b 0)]) (by kernel_rfl) ⟨math_bits_Mul64_j0_ok k, trivial⟩
theorem math_bits_Mul64_iok {R : Type} (k : Nat) : IOK Try.prog tab (math_bits_Mul64_F k) (math_bits_Mul64_I (R := R) k) := iok_none
theorem math_bits_Mul64_ev (k : Nat) (x : (math_bits_Mul64_p k).τ.den) : evalF tab (math_bits_Mul64_F k) (math_bits_Mul64_p k) (math_bits_Mul64_I k) 0 (math_bits_Mul64_O k) math_bits_Mul64_h Try.f71 x = (math_bits_Mul64_p k).f x := by kernel_rfl
theorem math_bits_Mul64_ok (k : Nat) : PFOK Try.prog tab 71 (math_bits_Mul64_p k) := pfok mixed tabOK (math_bits_Mul64_fok k) Try.func71 (I := math_bits_Mul64_I k) (d := 0) (math_bits_Mul64_iok k) (Q := math_bits_Mul64_O k) (hi := math_bits_Mul64_h) (math_bits_Mul64_cuts k) (math_bits_Mul64_ev k)
end Go.Proofs.Ytiolpmgphkakeaa.Ev
