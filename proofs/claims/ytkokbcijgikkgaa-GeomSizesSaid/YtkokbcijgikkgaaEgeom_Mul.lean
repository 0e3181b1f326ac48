/- geom_Mul, told on plain data. Written by program. -/
import Derived.Test.YtkokbcijgikkgaaEtab
set_option linter.unusedVariables false
set_option maxRecDepth 1000000
namespace Go.Proofs.Ytkokbcijgikkgaa.Ev
open Go Go.RowKit Go.Proofs
def geom_Mul_j0 {R : Type} (e0 : Int → Int → Int → Bool → Option R) (e1 : Int → Int → Option R) (k : Nat) (v_78 : Int) (v_79 : Int) (v_80 : Bool) : Option R :=
  bif v_80 then
    e0 v_78 v_79 (0 : Int) false
  else e1 v_78 v_79
def geom_Mul_j1 {R : Type} (e0 : Int → Bool → Option R) (k : Nat) (v_87 : Int) (v_88 : Int) : Option R :=
  e0 (wrap64 (v_87 * v_88)) true
def geom_Mul_k0 (k : Nat) : Int → Int → Int → Bool → Option (Int × Bool) := fun v_81 v_82 v_83 v_84 =>
  some (v_83, v_84)
def geom_Mul_k1 (k : Nat) : Int → Int → Option (Int × Bool) := fun v_85 v_86 =>
  geom_Mul_j1 (fun v_89 v_90 =>
    some (v_89, v_90)) k v_85 v_86
def geom_Mul (k : Nat) (a0 : Int) (a1 : Int) : Option (Int × Bool) :=
  bif (decide (a0 < (0 : Int))) then
    geom_Mul_j0 (geom_Mul_k0 k) (geom_Mul_k1 k) k a0 a1 true
  else bif (decide (a1 < (0 : Int))) then
    geom_Mul_j0 (geom_Mul_k0 k) (geom_Mul_k1 k) k a0 a1 true
  else bif (decide ((0 : Int) < a0)) then
    bif (decide (a0 = (0 : Int))) then
      none
    else geom_Mul_j0 (geom_Mul_k0 k) (geom_Mul_k1 k) k a0 a1 (decide ((wrap64 (Int.tdiv (4611686018427387904 : Int) a0)) < a1))
  else geom_Mul_j0 (geom_Mul_k0 k) (geom_Mul_k1 k) k a0 a1 false
def geom_Mul_p (k : Nat) : PF := { ps := [(false, 1), (false, 1)], rs := [(false, 1), (false, 1)], τ := (.pair (.int .i64) (.int .i64)), σ := (.pair (.int .i64) .bool), f := fun x => geom_Mul k x.1 x.2 }
def geom_Mul_F (k : Nat) : PT := fnone
theorem geom_Mul_fok (k : Nat) : FOK Try.prog (geom_Mul_F k) := fok_none
def geom_Mul_c0 : Cl := { keep := [0, 1, 21], hl := 0, ad := [], adc := [], bump := [] }
def geom_Mul_x0 : Cl := { keep := [0, 1, 4, 5], hl := 0, ad := [], adc := [], bump := [] }
def geom_Mul_c1 : Cl := { keep := [0, 1], hl := 0, ad := [], adc := [], bump := [] }
def geom_Mul_x1 : Cl := { keep := [4, 5], hl := 0, ad := [], adc := [], bump := [] }
def geom_Mul_h : Hint := (.sq .no (.ct geom_Mul_c1 geom_Mul_x1 1 (.ct geom_Mul_c0 geom_Mul_x0 0 .no .no) .no))
def geom_Mul_j0_E0 {R : Type} (K : EX → St → Option R) : Int → Int → Int → Bool → Option R := fun v0 v1 v2 v3 => K .ret (mkSt 25 [] geom_Mul_x0.keep [.int .i64 v0, .int .i64 v1, .int .i64 v2, .bool v3] [])
def geom_Mul_j0_E1 {R : Type} (K : EX → St → Option R) : Int → Int → Option R := fun v0 v1 => K .normal (mkSt 25 [] geom_Mul_x0.keep [.int .i64 v0, .int .i64 v1, .junk, .junk] [])
def geom_Mul_j0_S (v_78 : Int) (v_79 : Int) (v_80 : Bool) : St := mkSt 25 [] geom_Mul_c0.keep [.int .i64 v_78, .int .i64 v_79, .bool v_80] []
def geom_Mul_j0_sh : Rd (List AV × List HE) := .pair (.cons (.int .i64) (.cons (.int .i64) (.cons .bool Rd.nil))) Rd.nil
def geom_Mul_j0_a {R : Type} (k : Nat) : Alt R := { n := 25, v := [], sh := geom_Mul_j0_sh, g := fun K x => geom_Mul_j0 (geom_Mul_j0_E0 K) (geom_Mul_j0_E1 K) k x.1.1 x.1.2.1 x.1.2.2.1 }
def geom_Mul_j1_E0 {R : Type} (K : EX → St → Option R) : Int → Bool → Option R := fun v0 v1 => K .ret (mkSt 25 [] geom_Mul_x1.keep [.int .i64 v0, .bool v1] [])
def geom_Mul_j1_S (v_87 : Int) (v_88 : Int) : St := mkSt 25 [] geom_Mul_c1.keep [.int .i64 v_87, .int .i64 v_88] []
def geom_Mul_j1_sh : Rd (List AV × List HE) := .pair (.cons (.int .i64) (.cons (.int .i64) Rd.nil)) Rd.nil
def geom_Mul_j1_a {R : Type} (k : Nat) : Alt R := { n := 25, v := [], sh := geom_Mul_j1_sh, g := fun K x => geom_Mul_j1 (geom_Mul_j1_E0 K) k x.1.1 x.1.2.1 }
def geom_Mul_O {R : Type} (k : Nat) : CutK R := cutsO [[geom_Mul_j0_a k], [geom_Mul_j1_a k]]
noncomputable def geom_Mul_b : List Ob := obs (bodyOf Try.f24) geom_Mul_h
noncomputable def geom_Mul_I {R : Type} (k : Nat) : InlT R := inone
theorem geom_Mul_j0_eq {R : Type} (k : Nat) (K : EX → St → Option R) (v_78 : Int) (v_79 : Int) (v_80 : Bool) : geom_Mul_j0 (geom_Mul_j0_E0 K) (geom_Mul_j0_E1 K) k v_78 v_79 v_80 = ev tab (geom_Mul_F k) (inlK tab (geom_Mul_F k) (geom_Mul_I k) 0) (geom_Mul_O k) (obB geom_Mul_b 0) (obH geom_Mul_b 0) (geom_Mul_j0_S v_78 v_79 v_80) (fun e st => optb (clean geom_Mul_x0 st) fun st => K e st) := by kernel_rfl
theorem geom_Mul_j0_ok {R : Type} (k : Nat)  : ObOK (R := R) tab (geom_Mul_F k) (inlK tab (geom_Mul_F k) (geom_Mul_I k) 0) (geom_Mul_O k) (.join geom_Mul_c0 geom_Mul_x0 0 (obB geom_Mul_b 0) (obH geom_Mul_b 0)) :=
  join_ok (l := [geom_Mul_j0_a k]) (by kernel_rfl) ⟨(fun K x => (geom_Mul_j0_eq k K x.1.1 x.1.2.1 x.1.2.2.1).trans (by kernel_rfl)), trivial⟩
theorem geom_Mul_j1_eq {R : Type} (k : Nat) (K : EX → St → Option R) (v_87 : Int) (v_88 : Int) : geom_Mul_j1 (geom_Mul_j1_E0 K) k v_87 v_88 = ev tab (geom_Mul_F k) (inlK tab (geom_Mul_F k) (geom_Mul_I k) 0) (geom_Mul_O k) (obB geom_Mul_b 1) (obH geom_Mul_b 1) (geom_Mul_j1_S v_87 v_88) (fun e st => optb (clean geom_Mul_x1 st) fun st => K e st) := by kernel_rfl
theorem geom_Mul_j1_ok {R : Type} (k : Nat)  : ObOK (R := R) tab (geom_Mul_F k) (inlK tab (geom_Mul_F k) (geom_Mul_I k) 0) (geom_Mul_O k) (.join geom_Mul_c1 geom_Mul_x1 1 (obB geom_Mul_b 1) (obH geom_Mul_b 1)) :=
  join_ok (l := [geom_Mul_j1_a k]) (by kernel_rfl) ⟨(fun K x => (geom_Mul_j1_eq k K x.1.1 x.1.2.1).trans (by kernel_rfl)), trivial⟩
theorem geom_Mul_cuts {R : Type} (k : Nat) : ∀ c, Try.f24.body = some c → CutsOK (R := R) tab (geom_Mul_F k) (inlK tab (geom_Mul_F k) (geom_Mul_I k) 0) (geom_Mul_O k) c geom_Mul_h :=
  cuts_of (l := [.join geom_Mul_c0 geom_Mul_x0 0 (obB geom_Mul_b 0) (obH geom_Mul_b 0), .join geom_Mul_c1 geom_Mul_x1 1 (obB geom_Mul_b 1) (obH geom_Mul_b 1)]) (by kernel_rfl) ⟨geom_Mul_j0_ok k, geom_Mul_j1_ok k, trivial⟩
theorem geom_Mul_iok {R : Type} (k : Nat) : IOK Try.prog tab (geom_Mul_F k) (geom_Mul_I (R := R) k) := iok_none
theorem geom_Mul_ev (k : Nat) (x : (geom_Mul_p k).τ.den) : evalF tab (geom_Mul_F k) (geom_Mul_p k) (geom_Mul_I k) 0 (geom_Mul_O k) geom_Mul_h Try.f24 x = (geom_Mul_p k).f x := by kernel_rfl
theorem geom_Mul_ok (k : Nat) : PFOK Try.prog 24 (geom_Mul_p k) := pfok mixed tabOK (geom_Mul_fok k) Try.func24 (I := geom_Mul_I k) (d := 0) (geom_Mul_iok k) (Q := geom_Mul_O k) (hi := geom_Mul_h) (geom_Mul_cuts k) (geom_Mul_ev k)
end Go.Proofs.Ytkokbcijgikkgaa.Ev
