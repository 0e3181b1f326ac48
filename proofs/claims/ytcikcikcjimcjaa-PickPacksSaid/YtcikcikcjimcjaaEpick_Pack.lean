/- pick_Pack, told on plain data. Written by program. -/
import Derived.Test.YtcikcikcjimcjaaEtab
set_option linter.unusedVariables false
set_option maxRecDepth 1000000
namespace Go.Proofs.Ytcikcikcjimcjaa.Ev
open Go Go.RowKit Go.Proofs
def pick_Pack_j0 {R : Type} (e0 : Int → Option R) (e1 : Option R) (k : Nat) (v_165 : Bool) : Option R :=
  bif v_165 then
    e0 (0 : Int)
  else e1
def pick_Pack_k0 (k : Nat) : Int → Option Int := fun v_168 =>
  some v_168
def pick_Pack_k1 (k : Nat) (trims_162 : Int) (writes_161 : Int) : Option Int := 
  some (wrap64 (writes_161 + (wrap64 (Int.tdiv (wrap64 ((wrap64 ((wrap64 (writes_161 + trims_162)) + (6 : Int))) - (1 : Int))) (6 : Int)))))
def pick_Pack (k : Nat) (writes_161 : Int) (trims_162 : Int) : Option Int :=
  bif (decide (writes_161 < (0 : Int))) then
    pick_Pack_j0 (pick_Pack_k0 k) (pick_Pack_k1 k trims_162 writes_161) k true
  else bif (decide (trims_162 < (0 : Int))) then
    pick_Pack_j0 (pick_Pack_k0 k) (pick_Pack_k1 k trims_162 writes_161) k true
  else bif (decide ((1048576 : Int) < writes_161)) then
    pick_Pack_j0 (pick_Pack_k0 k) (pick_Pack_k1 k trims_162 writes_161) k true
  else pick_Pack_j0 (pick_Pack_k0 k) (pick_Pack_k1 k trims_162 writes_161) k (decide ((1048576 : Int) < trims_162))
def pick_Pack_p (k : Nat) : PF := { ps := [(false, 1), (false, 1)], rs := [(false, 1)], τ := (.pair (.int .i64) (.int .i64)), σ := (.int .i64), f := fun x => pick_Pack k x.1 x.2 }
def pick_Pack_F (k : Nat) : PT := fnone
theorem pick_Pack_fok (k : Nat) : FOK Try.prog tab (pick_Pack_F k) := fok_none
def pick_Pack_c0 : Cl := { keep := [0, 1, 18], hl := 0, ad := [], adc := [], bump := [] }
def pick_Pack_x0 : Cl := { keep := [0, 1, 4], hl := 0, ad := [], adc := [], bump := [] }
def pick_Pack_h : Hint := (.sq .no (.sq (.ct pick_Pack_c0 pick_Pack_x0 0 .no .no) .no))
def pick_Pack_j0_E0 {R : Type} (K : EX → St → Option R) : Int → Int → Int → Option R := fun v0 v1 v2 => K .ret (mkSt 27 [] pick_Pack_x0.keep [.int .i64 v0, .int .i64 v1, .int .i64 v2] [])
def pick_Pack_j0_E1 {R : Type} (K : EX → St → Option R) : Int → Int → Option R := fun v0 v1 => K .normal (mkSt 27 [] pick_Pack_x0.keep [.int .i64 v0, .int .i64 v1, .junk] [])
def pick_Pack_j0_S (writes_163 : Int) (trims_164 : Int) (v_165 : Bool) : St := mkSt 27 [] pick_Pack_c0.keep [.int .i64 writes_163, .int .i64 trims_164, .bool v_165] []
def pick_Pack_j0_sh : Rd (List AV × List HE) := .pair (.cons (.int .i64) (.cons (.int .i64) (.cons .bool Rd.nil))) Rd.nil
def pick_Pack_j0_a {R : Type} (k : Nat) : Alt R := { n := 27, v := [], sh := pick_Pack_j0_sh, g := fun K x => pick_Pack_j0 (fun y2 => pick_Pack_j0_E0 K x.1.1 x.1.2.1 y2) (pick_Pack_j0_E1 K x.1.1 x.1.2.1) k x.1.2.2.1 }
def pick_Pack_O {R : Type} (k : Nat) : CutK R := cutsO [[pick_Pack_j0_a k]]
noncomputable def pick_Pack_b : List Ob := obs (bodyOf Try.f31) pick_Pack_h
noncomputable def pick_Pack_I {R : Type} (k : Nat) : InlT R := inone
theorem pick_Pack_j0_eq {R : Type} (k : Nat) (K : EX → St → Option R) (writes_163 : Int) (trims_164 : Int) (v_165 : Bool) : pick_Pack_j0 (fun y2 => pick_Pack_j0_E0 K writes_163 trims_164 y2) (pick_Pack_j0_E1 K writes_163 trims_164) k v_165 = ev tab (pick_Pack_F k) (inlK tab (pick_Pack_F k) (pick_Pack_I k) 0) (pick_Pack_O k) (obB pick_Pack_b 0) (obH pick_Pack_b 0) (pick_Pack_j0_S writes_163 trims_164 v_165) (fun e st => optb (clean pick_Pack_x0 st) fun st => K e st) := by kernel_rfl
theorem pick_Pack_j0_ok {R : Type} (k : Nat)  : ObOK (R := R) tab (pick_Pack_F k) (inlK tab (pick_Pack_F k) (pick_Pack_I k) 0) (pick_Pack_O k) (.join pick_Pack_c0 pick_Pack_x0 0 (obB pick_Pack_b 0) (obH pick_Pack_b 0)) :=
  join_ok (l := [pick_Pack_j0_a k]) (by kernel_rfl) ⟨(fun K x => (pick_Pack_j0_eq k K x.1.1 x.1.2.1 x.1.2.2.1).trans (by kernel_rfl)), trivial⟩
theorem pick_Pack_cuts {R : Type} (k : Nat) : ∀ c, Try.f31.body = some c → CutsOK (R := R) tab (pick_Pack_F k) (inlK tab (pick_Pack_F k) (pick_Pack_I k) 0) (pick_Pack_O k) c pick_Pack_h :=
  cuts_of (l := [.join pick_Pack_c0 pick_Pack_x0 0 (obB pick_Pack_b 0) (obH pick_Pack_b 0)]) (by kernel_rfl) ⟨pick_Pack_j0_ok k, trivial⟩
theorem pick_Pack_iok {R : Type} (k : Nat) : IOK Try.prog tab (pick_Pack_F k) (pick_Pack_I (R := R) k) := iok_none
theorem pick_Pack_ev (k : Nat) (x : (pick_Pack_p k).τ.den) : evalF tab (pick_Pack_F k) (pick_Pack_p k) (pick_Pack_I k) 0 (pick_Pack_O k) pick_Pack_h Try.f31 x = (pick_Pack_p k).f x := by kernel_rfl
theorem pick_Pack_ok (k : Nat) : PFOK Try.prog tab 31 (pick_Pack_p k) := pfok mixed tabOK (pick_Pack_fok k) Try.func31 (I := pick_Pack_I k) (d := 0) (pick_Pack_iok k) (Q := pick_Pack_O k) (hi := pick_Pack_h) (pick_Pack_cuts k) (pick_Pack_ev k)
end Go.Proofs.Ytcikcikcjimcjaa.Ev
