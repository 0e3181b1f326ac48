/- corbelref04_Good, told on plain data. Written by program. -/
import Derived.Test.YtbaikphpohdmoaaEtab
set_option linter.unusedVariables false
set_option maxRecDepth 1000000
namespace Go.Proofs.Ytbaikphpohdmoaa.Ev
open Go Go.RowKit Go.Proofs
def corbelref04_Good_j0 {R : Type} (e0 : Bool → Option R) (e1 : Option R) (k : Nat) (v_741 : Bool) : Option R :=
  bif v_741 then
    e0 false
  else e1
def corbelref04_Good_k0 (k : Nat) : Bool → Option Bool := fun v_747 =>
  some v_747
def corbelref04_Good_k1 (k : Nat) (gb_731 : Int) (gd_733 : Int) (ge_734 : Int) : Option Bool := 
  bif (decide ((0 : Int) < gd_733)) then
    bif (decide (gd_733 ≤ ge_734)) then
      some (decide (ge_734 ≤ gb_731))
    else some false
  else some false
def corbelref04_Good (k : Nat) (ga_730 : Int) (gb_731 : Int) (gc_732 : Int) (gd_733 : Int) (ge_734 : Int) : Option Bool :=
  bif (decide (ga_730 < (3 : Int))) then
    corbelref04_Good_j0 (corbelref04_Good_k0 k) (corbelref04_Good_k1 k gb_731 gd_733 ge_734) k true
  else bif (decide ((16 : Int) < ga_730)) then
    corbelref04_Good_j0 (corbelref04_Good_k0 k) (corbelref04_Good_k1 k gb_731 gd_733 ge_734) k true
  else bif (decide (gb_731 < (5 : Int))) then
    corbelref04_Good_j0 (corbelref04_Good_k0 k) (corbelref04_Good_k1 k gb_731 gd_733 ge_734) k true
  else bif (decide ((64 : Int) < gb_731)) then
    corbelref04_Good_j0 (corbelref04_Good_k0 k) (corbelref04_Good_k1 k gb_731 gd_733 ge_734) k true
  else bif (decide (gc_732 < (4 : Int))) then
    corbelref04_Good_j0 (corbelref04_Good_k0 k) (corbelref04_Good_k1 k gb_731 gd_733 ge_734) k true
  else corbelref04_Good_j0 (corbelref04_Good_k0 k) (corbelref04_Good_k1 k gb_731 gd_733 ge_734) k (decide ((256 : Int) < gc_732))
def corbelref04_Good_p (k : Nat) : PF := { ps := [(true, 5)], rs := [(false, 1)], τ := (.pair (.int .i64) (.pair (.int .i64) (.pair (.int .i64) (.pair (.int .i64) (.int .i64))))), σ := .bool, f := fun x => corbelref04_Good k x.1 x.2.1 x.2.2.1 x.2.2.2.1 x.2.2.2.2 }
def corbelref04_Good_F (k : Nat) : PT := fnone
theorem corbelref04_Good_fok (k : Nat) : FOK Try.prog tab (corbelref04_Good_F k) := fok_none
def corbelref04_Good_c0 : Cl := { keep := [1, 30], hl := 1, ad := [], adc := [], bump := [] }
def corbelref04_Good_x0 : Cl := { keep := [1, 2], hl := 1, ad := [], adc := [], bump := [] }
def corbelref04_Good_h : Hint := (.sq .no (.sq (.ct corbelref04_Good_c0 corbelref04_Good_x0 0 .no .no) .no))
def corbelref04_Good_j0_E0 {R : Type} (K : EX → St → Option R) : Bool → Int → Int → Int → Int → Int → Option R := fun v0 v1 v2 v3 v4 v5 => K .ret (mkSt 48 [] corbelref04_Good_x0.keep [.ptr 0 0, .bool v0] [.blk [.int .i64 v1, .int .i64 v2, .int .i64 v3, .int .i64 v4, .int .i64 v5]])
def corbelref04_Good_j0_E1 {R : Type} (K : EX → St → Option R) : Int → Int → Int → Int → Int → Option R := fun v0 v1 v2 v3 v4 => K .normal (mkSt 48 [] corbelref04_Good_x0.keep [.ptr 0 0, .junk] [.blk [.int .i64 v0, .int .i64 v1, .int .i64 v2, .int .i64 v3, .int .i64 v4]])
def corbelref04_Good_j0_S (v_741 : Bool) (ga_742 : Int) (gb_743 : Int) (gc_744 : Int) (gd_745 : Int) (ge_746 : Int) : St := mkSt 48 [] corbelref04_Good_c0.keep [.ptr 0 0, .bool v_741] [.blk [.int .i64 ga_742, .int .i64 gb_743, .int .i64 gc_744, .int .i64 gd_745, .int .i64 ge_746]]
def corbelref04_Good_j0_sh : Rd (List AV × List HE) := .pair (.cons (.ptr 0 0) (.cons .bool Rd.nil)) (.cons (.blk (.cons (.int .i64) (.cons (.int .i64) (.cons (.int .i64) (.cons (.int .i64) (.cons (.int .i64) Rd.nil)))))) Rd.nil)
def corbelref04_Good_j0_a {R : Type} (k : Nat) : Alt R := { n := 48, v := [], sh := corbelref04_Good_j0_sh, g := fun K x => corbelref04_Good_j0 (fun y0 => corbelref04_Good_j0_E0 K y0 x.2.1.1 x.2.1.2.1 x.2.1.2.2.1 x.2.1.2.2.2.1 x.2.1.2.2.2.2.1) (corbelref04_Good_j0_E1 K x.2.1.1 x.2.1.2.1 x.2.1.2.2.1 x.2.1.2.2.2.1 x.2.1.2.2.2.2.1) k x.1.2.1 }
def corbelref04_Good_O {R : Type} (k : Nat) : CutK R := cutsO [[corbelref04_Good_j0_a k]]
noncomputable def corbelref04_Good_b : List Ob := obs (bodyOf Try.f28) corbelref04_Good_h
noncomputable def corbelref04_Good_I {R : Type} (k : Nat) : InlT R := inone
theorem corbelref04_Good_j0_eq {R : Type} (k : Nat) (K : EX → St → Option R) (v_741 : Bool) (ga_742 : Int) (gb_743 : Int) (gc_744 : Int) (gd_745 : Int) (ge_746 : Int) : corbelref04_Good_j0 (fun y0 => corbelref04_Good_j0_E0 K y0 ga_742 gb_743 gc_744 gd_745 ge_746) (corbelref04_Good_j0_E1 K ga_742 gb_743 gc_744 gd_745 ge_746) k v_741 = ev tab (corbelref04_Good_F k) (inlK tab (corbelref04_Good_F k) (corbelref04_Good_I k) 0) (corbelref04_Good_O k) (obB corbelref04_Good_b 0) (obH corbelref04_Good_b 0) (corbelref04_Good_j0_S v_741 ga_742 gb_743 gc_744 gd_745 ge_746) (fun e st => optb (clean corbelref04_Good_x0 st) fun st => K e st) := by kernel_rfl
theorem corbelref04_Good_j0_ok {R : Type} (k : Nat)  : ObOK (R := R) tab (corbelref04_Good_F k) (inlK tab (corbelref04_Good_F k) (corbelref04_Good_I k) 0) (corbelref04_Good_O k) (.join corbelref04_Good_c0 corbelref04_Good_x0 0 (obB corbelref04_Good_b 0) (obH corbelref04_Good_b 0)) :=
  join_ok (l := [corbelref04_Good_j0_a k]) (by kernel_rfl) ⟨(fun K x => (corbelref04_Good_j0_eq k K x.1.2.1 x.2.1.1 x.2.1.2.1 x.2.1.2.2.1 x.2.1.2.2.2.1 x.2.1.2.2.2.2.1).trans (by kernel_rfl)), trivial⟩
theorem corbelref04_Good_cuts {R : Type} (k : Nat) : ∀ c, Try.f28.body = some c → CutsOK (R := R) tab (corbelref04_Good_F k) (inlK tab (corbelref04_Good_F k) (corbelref04_Good_I k) 0) (corbelref04_Good_O k) c corbelref04_Good_h :=
  cuts_of (l := [.join corbelref04_Good_c0 corbelref04_Good_x0 0 (obB corbelref04_Good_b 0) (obH corbelref04_Good_b 0)]) (by kernel_rfl) ⟨corbelref04_Good_j0_ok k, trivial⟩
theorem corbelref04_Good_iok {R : Type} (k : Nat) : IOK Try.prog tab (corbelref04_Good_F k) (corbelref04_Good_I (R := R) k) := iok_none
theorem corbelref04_Good_ev (k : Nat) (x : (corbelref04_Good_p k).τ.den) : evalF tab (corbelref04_Good_F k) (corbelref04_Good_p k) (corbelref04_Good_I k) 0 (corbelref04_Good_O k) corbelref04_Good_h Try.f28 x = (corbelref04_Good_p k).f x := by kernel_rfl
theorem corbelref04_Good_ok (k : Nat) : PFOK Try.prog tab 28 (corbelref04_Good_p k) := pfok mixed tabOK (corbelref04_Good_fok k) Try.func28 (I := corbelref04_Good_I k) (d := 0) (corbelref04_Good_iok k) (Q := corbelref04_Good_O k) (hi := corbelref04_Good_h) (corbelref04_Good_cuts k) (corbelref04_Good_ev k)
end Go.Proofs.Ytbaikphpohdmoaa.Ev
