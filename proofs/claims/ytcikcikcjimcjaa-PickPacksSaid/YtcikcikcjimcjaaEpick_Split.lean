/- pick_Split, told on plain data. Written by program. -/
import Derived.Test.YtcikcikcjimcjaaEslices_Repeat
set_option linter.unusedVariables false
set_option maxRecDepth 1000000
namespace Go.Proofs.Ytcikcikcjimcjaa.Ev
open Go Go.RowKit Go.Proofs
def pick_Split_j0 {R : Type} (e0 : Option R) (e1 : Option R) (k : Nat) (v_146 : Bool) : Option R :=
  bif v_146 then
    e0
  else e1
def pick_Split_j1 {R : Type} (e0 : Option R) (k : Nat) : Option R :=
  e0
def pick_Split_k0 (k : Nat) : Option (Bool × List Int) := 
  some (true, ([] : List Int))
def pick_Split_k2 (k : Nat) : Bool → List Int → Option (Bool × List Int) := fun vN_158 v_159 =>
  some (vN_158, v_159)
def pick_Split_k1 (k : Nat) (n_3 : Int) : Option (Bool × List Int) := 
  optb (slices_Repeat k false ([(6 : Int)] : List Int) (wrap64 (Int.tdiv n_3 (6 : Int)))) fun r_149 =>
  bif (decide ((0 : Int) < (Int.tmod n_3 (6 : Int)))) then
    bif (decide (r_149.2.length + ([(Int.tmod n_3 (6 : Int))] : List Int).length ≤ 1099511627776)) then
      pick_Split_j1 (pick_Split_k2 k r_149.1 (r_149.2 ++ ([(Int.tmod n_3 (6 : Int))] : List Int))) k
    else none
  else pick_Split_j1 (pick_Split_k2 k r_149.1 r_149.2) k
def pick_Split (k : Nat) (n_3 : Int) : Option (Bool × List Int) :=
  bif (decide (n_3 < (1 : Int))) then
    pick_Split_j0 (pick_Split_k0 k) (pick_Split_k1 k n_3) k true
  else pick_Split_j0 (pick_Split_k0 k) (pick_Split_k1 k n_3) k (decide ((1048576 : Int) < n_3))
def pick_Split_p (k : Nat) : PF := { ps := [(false, 1)], rs := [(false, 1)], τ := (.int .i64), σ := (.sl (.int .i64)), f := fun x => pick_Split k x, fr := [some 3] }
def pick_Split_F (k : Nat) : PT := fcons 53 (slices_Repeat_p k) <| fnone
theorem pick_Split_fok (k : Nat) : FOK Try.prog tab (pick_Split_F k) := fok_cons (slices_Repeat_ok k) Try.call53 <| fok_none
def pick_Split_c0 : Cl := { keep := [0, 10], hl := 0, ad := [], adc := [], bump := [] }
def pick_Split_x0 : Cl := { keep := [0, 2], hl := 0, ad := [], adc := [], bump := [] }
def pick_Split_c1 : Cl := { keep := [3], hl := 2, ad := [], adc := [], bump := [] }
def pick_Split_x1 : Cl := { keep := [2], hl := 2, ad := [], adc := [], bump := [] }
def pick_Split_h : Hint := (.sq .no (.sq (.ct pick_Split_c0 pick_Split_x0 0 .no .no) (.sq .no (.ct pick_Split_c1 pick_Split_x1 1 .no .no))))
def pick_Split_j0_E0 {R : Type} (K : EX → St → Option R) : Int → Option R := fun v0 => K .ret (mkSt 24 [] pick_Split_x0.keep [.int .i64 v0, .nils] [])
def pick_Split_j0_E1 {R : Type} (K : EX → St → Option R) : Int → Option R := fun v0 => K .normal (mkSt 24 [] pick_Split_x0.keep [.int .i64 v0, .junk] [])
def pick_Split_j0_S (n_145 : Int) (v_146 : Bool) : St := mkSt 24 [] pick_Split_c0.keep [.int .i64 n_145, .bool v_146] []
def pick_Split_j0_sh : Rd (List AV × List HE) := .pair (.cons (.int .i64) (.cons .bool Rd.nil)) Rd.nil
def pick_Split_j0_a {R : Type} (k : Nat) : Alt R := { n := 24, v := [], sh := pick_Split_j0_sh, g := fun K x => pick_Split_j0 (pick_Split_j0_E0 K x.1.1) (pick_Split_j0_E1 K x.1.1) k x.1.2.1 }
def pick_Split_j1_E0 {R : Type} (K : EX → St → Option R) : Bool → List Int → Bool → List Int → Option R := fun v0 v1 v2 v3 => K .ret (mkSt 24 [] pick_Split_x1.keep [.own 1 1] [.lst (.int .i64) 3 v0 1 v1, .lst (.int .i64) 3 v2 1 v3])
def pick_Split_j1_S (hN_152 : Bool) (h_153 : List Int) (outN_154 : Bool) (out_155 : List Int) : St := mkSt 24 [] pick_Split_c1.keep [.own 1 1] [.lst (.int .i64) 3 hN_152 1 h_153, .lst (.int .i64) 3 outN_154 1 out_155]
def pick_Split_j1_sh : Rd (List AV × List HE) := .pair (.cons (.own 1 1) Rd.nil) (.cons (.lst (.int .i64) 3 1) (.cons (.lst (.int .i64) 3 1) Rd.nil))
def pick_Split_j1_a {R : Type} (k : Nat) : Alt R := { n := 24, v := [], sh := pick_Split_j1_sh, g := fun K x => pick_Split_j1 (pick_Split_j1_E0 K x.2.1.1 x.2.1.2 x.2.2.1.1 x.2.2.1.2) k }
def pick_Split_O {R : Type} (k : Nat) : CutK R := cutsO [[pick_Split_j0_a k], [pick_Split_j1_a k]]
noncomputable def pick_Split_b : List Ob := obs (bodyOf Try.f32) pick_Split_h
noncomputable def pick_Split_I {R : Type} (k : Nat) : InlT R := inone
theorem pick_Split_j0_eq {R : Type} (k : Nat) (K : EX → St → Option R) (n_145 : Int) (v_146 : Bool) : pick_Split_j0 (pick_Split_j0_E0 K n_145) (pick_Split_j0_E1 K n_145) k v_146 = ev tab (pick_Split_F k) (inlK tab (pick_Split_F k) (pick_Split_I k) 0) (pick_Split_O k) (obB pick_Split_b 0) (obH pick_Split_b 0) (pick_Split_j0_S n_145 v_146) (fun e st => optb (clean pick_Split_x0 st) fun st => K e st) := by kernel_rfl
theorem pick_Split_j0_ok {R : Type} (k : Nat)  : ObOK (R := R) tab (pick_Split_F k) (inlK tab (pick_Split_F k) (pick_Split_I k) 0) (pick_Split_O k) (.join pick_Split_c0 pick_Split_x0 0 (obB pick_Split_b 0) (obH pick_Split_b 0)) :=
  join_ok (l := [pick_Split_j0_a k]) (by kernel_rfl) ⟨(fun K x => (pick_Split_j0_eq k K x.1.1 x.1.2.1).trans (by kernel_rfl)), trivial⟩
theorem pick_Split_j1_eq {R : Type} (k : Nat) (K : EX → St → Option R) (hN_152 : Bool) (h_153 : List Int) (outN_154 : Bool) (out_155 : List Int) : pick_Split_j1 (pick_Split_j1_E0 K hN_152 h_153 outN_154 out_155) k = ev tab (pick_Split_F k) (inlK tab (pick_Split_F k) (pick_Split_I k) 0) (pick_Split_O k) (obB pick_Split_b 1) (obH pick_Split_b 1) (pick_Split_j1_S hN_152 h_153 outN_154 out_155) (fun e st => optb (clean pick_Split_x1 st) fun st => K e st) := by kernel_rfl
theorem pick_Split_j1_ok {R : Type} (k : Nat)  : ObOK (R := R) tab (pick_Split_F k) (inlK tab (pick_Split_F k) (pick_Split_I k) 0) (pick_Split_O k) (.join pick_Split_c1 pick_Split_x1 1 (obB pick_Split_b 1) (obH pick_Split_b 1)) :=
  join_ok (l := [pick_Split_j1_a k]) (by kernel_rfl) ⟨(fun K x => (pick_Split_j1_eq k K x.2.1.1 x.2.1.2 x.2.2.1.1 x.2.2.1.2).trans (by kernel_rfl)), trivial⟩
theorem pick_Split_cuts {R : Type} (k : Nat) : ∀ c, Try.f32.body = some c → CutsOK (R := R) tab (pick_Split_F k) (inlK tab (pick_Split_F k) (pick_Split_I k) 0) (pick_Split_O k) c pick_Split_h :=
  cuts_of (l := [.join pick_Split_c0 pick_Split_x0 0 (obB pick_Split_b 0) (obH pick_Split_b 0), .join pick_Split_c1 pick_Split_x1 1 (obB pick_Split_b 1) (obH pick_Split_b 1)]) (by kernel_rfl) ⟨pick_Split_j0_ok k, pick_Split_j1_ok k, trivial⟩
theorem pick_Split_iok {R : Type} (k : Nat) : IOK Try.prog tab (pick_Split_F k) (pick_Split_I (R := R) k) := iok_none
theorem pick_Split_ev (k : Nat) (x : (pick_Split_p k).τ.den) : evalF tab (pick_Split_F k) (pick_Split_p k) (pick_Split_I k) 0 (pick_Split_O k) pick_Split_h Try.f32 x = (pick_Split_p k).f x := by kernel_rfl
theorem pick_Split_ok (k : Nat) : PFOK Try.prog tab 32 (pick_Split_p k) := pfok mixed tabOK (pick_Split_fok k) Try.func32 (I := pick_Split_I k) (d := 0) (pick_Split_iok k) (Q := pick_Split_O k) (hi := pick_Split_h) (pick_Split_cuts k) (pick_Split_ev k)
end Go.Proofs.Ytcikcikcjimcjaa.Ev
