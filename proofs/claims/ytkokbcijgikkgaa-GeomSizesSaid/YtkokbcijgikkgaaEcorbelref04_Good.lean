/- corbelref04_Good, told on plain data. Written by program. -/
import Derived.Test.YtkokbcijgikkgaaEtab
set_option linter.unusedVariables false
set_option maxRecDepth 1000000
namespace Go.Proofs.Ytkokbcijgikkgaa.Ev
open Go Go.RowKit Go.Proofs
def corbelref04_Good_j0 {R : Type} (e0 : Bool → Int → Int → Int → Int → Int → Option R) (e1 : Int → Int → Int → Int → Int → Option R) (k : Nat) (v_104 : Bool) (v_105 : Int) (v_106 : Int) (v_107 : Int) (v_108 : Int) (v_109 : Int) : Option R :=
  bif v_104 then
    e0 false v_105 v_106 v_107 v_108 v_109
  else e1 v_105 v_106 v_107 v_108 v_109
def corbelref04_Good_k0 (k : Nat) : Bool → Int → Int → Int → Int → Int → Option Bool := fun v_110 v_111 v_112 v_113 v_114 v_115 =>
  some v_110
def corbelref04_Good_k1 (k : Nat) : Int → Int → Int → Int → Int → Option Bool := fun v_116 v_117 v_118 v_119 v_120 =>
  bif (decide ((0 : Int) < v_119)) then
    bif (decide (v_119 ≤ v_120)) then
      some (decide (v_120 ≤ v_117))
    else some false
  else some false
def corbelref04_Good (k : Nat) (a0 : Int) (a1 : Int) (a2 : Int) (a3 : Int) (a4 : Int) : Option Bool :=
  bif (decide (a0 < (3 : Int))) then
    corbelref04_Good_j0 (corbelref04_Good_k0 k) (corbelref04_Good_k1 k) k true a0 a1 a2 a3 a4
  else bif (decide ((16 : Int) < a0)) then
    corbelref04_Good_j0 (corbelref04_Good_k0 k) (corbelref04_Good_k1 k) k true a0 a1 a2 a3 a4
  else bif (decide (a1 < (5 : Int))) then
    corbelref04_Good_j0 (corbelref04_Good_k0 k) (corbelref04_Good_k1 k) k true a0 a1 a2 a3 a4
  else bif (decide ((64 : Int) < a1)) then
    corbelref04_Good_j0 (corbelref04_Good_k0 k) (corbelref04_Good_k1 k) k true a0 a1 a2 a3 a4
  else bif (decide (a2 < (4 : Int))) then
    corbelref04_Good_j0 (corbelref04_Good_k0 k) (corbelref04_Good_k1 k) k true a0 a1 a2 a3 a4
  else corbelref04_Good_j0 (corbelref04_Good_k0 k) (corbelref04_Good_k1 k) k (decide ((256 : Int) < a2)) a0 a1 a2 a3 a4
def corbelref04_Good_p (k : Nat) : PF := { ps := [(true, 5)], rs := [(false, 1)], τ := (.pair (.int .i64) (.pair (.int .i64) (.pair (.int .i64) (.pair (.int .i64) (.int .i64))))), σ := .bool, f := fun x => corbelref04_Good k x.1 x.2.1 x.2.2.1 x.2.2.2.1 x.2.2.2.2 }
def corbelref04_Good_F (k : Nat) : PT := fnone
theorem corbelref04_Good_fok (k : Nat) : FOK Try.prog (corbelref04_Good_F k) := fok_none
def corbelref04_Good_c0 : Cl := { keep := [1, 30], hl := 1, ad := [], adc := [], bump := [] }
def corbelref04_Good_x0 : Cl := { keep := [1, 2], hl := 1, ad := [], adc := [], bump := [] }
def corbelref04_Good_h : Hint := (.sq .no (.sq (.ct corbelref04_Good_c0 corbelref04_Good_x0 0 .no .no) .no))
def corbelref04_Good_j0_E0 {R : Type} (K : EX → St → Option R) : Bool → Int → Int → Int → Int → Int → Option R := fun v0 v1 v2 v3 v4 v5 => K .ret (mkSt 48 [] corbelref04_Good_x0.keep [.ptr 0 0, .bool v0] [.blk [.int .i64 v1, .int .i64 v2, .int .i64 v3, .int .i64 v4, .int .i64 v5]])
def corbelref04_Good_j0_E1 {R : Type} (K : EX → St → Option R) : Int → Int → Int → Int → Int → Option R := fun v0 v1 v2 v3 v4 => K .normal (mkSt 48 [] corbelref04_Good_x0.keep [.ptr 0 0, .junk] [.blk [.int .i64 v0, .int .i64 v1, .int .i64 v2, .int .i64 v3, .int .i64 v4]])
def corbelref04_Good_j0_S (v_104 : Bool) (v_105 : Int) (v_106 : Int) (v_107 : Int) (v_108 : Int) (v_109 : Int) : St := mkSt 48 [] corbelref04_Good_c0.keep [.ptr 0 0, .bool v_104] [.blk [.int .i64 v_105, .int .i64 v_106, .int .i64 v_107, .int .i64 v_108, .int .i64 v_109]]
def corbelref04_Good_j0_sh : Rd (List AV × List HE) := .pair (.cons (.ptr 0 0) (.cons .bool Rd.nil)) (.cons (.blk (.cons (.int .i64) (.cons (.int .i64) (.cons (.int .i64) (.cons (.int .i64) (.cons (.int .i64) Rd.nil)))))) Rd.nil)
def corbelref04_Good_j0_a {R : Type} (k : Nat) : Alt R := { n := 48, v := [], sh := corbelref04_Good_j0_sh, g := fun K x => corbelref04_Good_j0 (corbelref04_Good_j0_E0 K) (corbelref04_Good_j0_E1 K) k x.1.2.1 x.2.1.1 x.2.1.2.1 x.2.1.2.2.1 x.2.1.2.2.2.1 x.2.1.2.2.2.2.1 }
def corbelref04_Good_O {R : Type} (k : Nat) : CutK R := cutsO [[corbelref04_Good_j0_a k]]
noncomputable def corbelref04_Good_b : List Ob := obs (bodyOf Try.f21) corbelref04_Good_h
noncomputable def corbelref04_Good_I {R : Type} (k : Nat) : InlT R := inone
theorem corbelref04_Good_j0_eq {R : Type} (k : Nat) (K : EX → St → Option R) (v_104 : Bool) (v_105 : Int) (v_106 : Int) (v_107 : Int) (v_108 : Int) (v_109 : Int) : corbelref04_Good_j0 (corbelref04_Good_j0_E0 K) (corbelref04_Good_j0_E1 K) k v_104 v_105 v_106 v_107 v_108 v_109 = ev tab (corbelref04_Good_F k) (inlK tab (corbelref04_Good_F k) (corbelref04_Good_I k) 0) (corbelref04_Good_O k) (obB corbelref04_Good_b 0) (obH corbelref04_Good_b 0) (corbelref04_Good_j0_S v_104 v_105 v_106 v_107 v_108 v_109) (fun e st => optb (clean corbelref04_Good_x0 st) fun st => K e st) := by kernel_rfl
theorem corbelref04_Good_j0_ok {R : Type} (k : Nat)  : ObOK (R := R) tab (corbelref04_Good_F k) (inlK tab (corbelref04_Good_F k) (corbelref04_Good_I k) 0) (corbelref04_Good_O k) (.join corbelref04_Good_c0 corbelref04_Good_x0 0 (obB corbelref04_Good_b 0) (obH corbelref04_Good_b 0)) :=
  join_ok (l := [corbelref04_Good_j0_a k]) (by kernel_rfl) ⟨(fun K x => (corbelref04_Good_j0_eq k K x.1.2.1 x.2.1.1 x.2.1.2.1 x.2.1.2.2.1 x.2.1.2.2.2.1 x.2.1.2.2.2.2.1).trans (by kernel_rfl)), trivial⟩
theorem corbelref04_Good_cuts {R : Type} (k : Nat) : ∀ c, Try.f21.body = some c → CutsOK (R := R) tab (corbelref04_Good_F k) (inlK tab (corbelref04_Good_F k) (corbelref04_Good_I k) 0) (corbelref04_Good_O k) c corbelref04_Good_h :=
  cuts_of (l := [.join corbelref04_Good_c0 corbelref04_Good_x0 0 (obB corbelref04_Good_b 0) (obH corbelref04_Good_b 0)]) (by kernel_rfl) ⟨corbelref04_Good_j0_ok k, trivial⟩
theorem corbelref04_Good_iok {R : Type} (k : Nat) : IOK Try.prog tab (corbelref04_Good_F k) (corbelref04_Good_I (R := R) k) := iok_none
theorem corbelref04_Good_ev (k : Nat) (x : (corbelref04_Good_p k).τ.den) : evalF tab (corbelref04_Good_F k) (corbelref04_Good_p k) (corbelref04_Good_I k) 0 (corbelref04_Good_O k) corbelref04_Good_h Try.f21 x = (corbelref04_Good_p k).f x := by kernel_rfl
theorem corbelref04_Good_ok (k : Nat) : PFOK Try.prog 21 (corbelref04_Good_p k) := pfok mixed tabOK (corbelref04_Good_fok k) Try.func21 (I := corbelref04_Good_I k) (d := 0) (corbelref04_Good_iok k) (Q := corbelref04_Good_O k) (hi := corbelref04_Good_h) (corbelref04_Good_cuts k) (corbelref04_Good_ev k)
end Go.Proofs.Ytkokbcijgikkgaa.Ev
