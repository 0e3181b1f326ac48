/- geom_Back, told on plain data. Written by program. -/
import Derived.Test.YthilffdaofaalaaEgeom_Parity
import Derived.Test.YthilffdaofaalaaEgeom_within
set_option linter.unusedVariables false
set_option maxRecDepth 1000000
namespace Go.Proofs.Ythilffdaofaalaa.Ev
open Go Go.RowKit Go.Proofs
def geom_Back_j0 {R : Type} (e0 : Int → Bool → Option R) (e1 : Option R) (k : Nat) (v_10636 : Bool) : Option R :=
  bif v_10636 then
    e0 (0 : Int) false
  else e1
def geom_Back_j1 {R : Type} (e0 : Int → Bool → Option R) (k : Nat) (row_10660 : Int) (drive_10661 : Int) (p_10662 : Int) (ga_10663 : Int) : Option R :=
  bif (decide (ga_10663 = (0 : Int))) then
    none
  else e0 (wrap64 ((wrap64 (row_10660 * (wrap64 (ga_10663 - (1 : Int))))) + (Int.tmod (wrap64 ((wrap64 ((wrap64 (drive_10661 - p_10662)) - (1 : Int))) + ga_10663)) ga_10663))) true
def geom_Back_k0 (k : Nat) : Int → Bool → Int → Option (Int × Bool) := fun v_10644 v_10645 p_10646 =>
  some (v_10644, v_10645)
def geom_Back_k1 (k : Nat) (drive_10540 : Int) (ga_10533 : Int) (row_10539 : Int) : Int → Option (Int × Bool) := fun p_10654 =>
  geom_Back_j1 (fun v_10671 v_10672 =>
    some (v_10671, v_10672)) k row_10539 drive_10540 p_10654 ga_10533
def geom_Back (k : Nat) (ga_10533 : Int) (gb_10534 : Int) (gc_10535 : Int) (gd_10536 : Int) (ge_10537 : Int) (zone_10538 : Int) (row_10539 : Int) (drive_10540 : Int) : Option (Int × Bool) :=
  optb (geom_Parity k ga_10533 gb_10534 gc_10535 gd_10536 ge_10537 zone_10538 row_10539) fun r_10632 =>
  bif (decide (r_10632 < (0 : Int))) then
    geom_Back_j0 (fun v_10644 v_10645 => geom_Back_k0 k v_10644 v_10645 r_10632) (geom_Back_k1 k drive_10540 ga_10533 row_10539 r_10632) k true
  else bif (decide (r_10632 = drive_10540)) then
    geom_Back_j0 (fun v_10644 v_10645 => geom_Back_k0 k v_10644 v_10645 r_10632) (geom_Back_k1 k drive_10540 ga_10533 row_10539 r_10632) k true
  else optb (geom_within k drive_10540 (0 : Int) (wrap64 (ga_10533 - (1 : Int)))) fun r_10673 =>
  geom_Back_j0 (fun v_10644 v_10645 => geom_Back_k0 k v_10644 v_10645 r_10632) (geom_Back_k1 k drive_10540 ga_10533 row_10539 r_10632) k (!r_10673)
def geom_Back_p (k : Nat) : PF := { ps := [(true, 5), (false, 1), (false, 1), (false, 1)], rs := [(false, 1), (false, 1)], τ := (.pair (.pair (.int .i64) (.pair (.int .i64) (.pair (.int .i64) (.pair (.int .i64) (.int .i64))))) (.pair (.int .i64) (.pair (.int .i64) (.int .i64)))), σ := (.pair (.int .i64) .bool), f := fun x => geom_Back k x.1.1 x.1.2.1 x.1.2.2.1 x.1.2.2.2.1 x.1.2.2.2.2 x.2.1 x.2.2.1 x.2.2.2 }
def geom_Back_F (k : Nat) : PT := fcons 53 (geom_Parity_p k) <| fcons 58 (geom_within_p k) <| fnone
theorem geom_Back_fok (k : Nat) : FOK Try.prog tab (geom_Back_F k) := fok_cons (geom_Parity_ok k) Try.call53 <| fok_cons (geom_within_ok k) Try.call58 <| fok_none
def geom_Back_c0 : Cl := { keep := [2, 3, 4, 10, 29], hl := 1, ad := [], adc := [], bump := [] }
def geom_Back_x0 : Cl := { keep := [2, 3, 4, 8, 9, 10], hl := 1, ad := [], adc := [], bump := [] }
def geom_Back_c1 : Cl := { keep := [2, 3, 4, 10], hl := 1, ad := [], adc := [], bump := [] }
def geom_Back_x1 : Cl := { keep := [8, 9], hl := 0, ad := [], adc := [], bump := [] }
def geom_Back_h : Hint := (.sq .no (.sq .no (.ct geom_Back_c1 geom_Back_x1 1 (.ct geom_Back_c0 geom_Back_x0 0 .no .no) .no)))
def geom_Back_j0_E0 {R : Type} (K : EX → St → Option R) : Int → Int → Int → Bool → Int → Int → Int → Int → Int → Int → Option R := fun v0 v1 v2 v3 v4 v5 v6 v7 v8 v9 => K .ret (mkSt 46 [] geom_Back_x0.keep [.int .i64 v0, .int .i64 v1, .ptr 0 0, .int .i64 v2, .bool v3, .int .i64 v4] [.blk [.int .i64 v5, .int .i64 v6, .int .i64 v7, .int .i64 v8, .int .i64 v9]])
def geom_Back_j0_E1 {R : Type} (K : EX → St → Option R) : Int → Int → Int → Int → Int → Int → Int → Int → Option R := fun v0 v1 v2 v3 v4 v5 v6 v7 => K .normal (mkSt 46 [] geom_Back_x0.keep [.int .i64 v0, .int .i64 v1, .ptr 0 0, .junk, .junk, .int .i64 v2] [.blk [.int .i64 v3, .int .i64 v4, .int .i64 v5, .int .i64 v6, .int .i64 v7]])
def geom_Back_j0_S (row_10633 : Int) (drive_10634 : Int) (p_10635 : Int) (v_10636 : Bool) (ga_10637 : Int) (gb_10638 : Int) (gc_10639 : Int) (gd_10640 : Int) (ge_10641 : Int) : St := mkSt 46 [] geom_Back_c0.keep [.int .i64 row_10633, .int .i64 drive_10634, .ptr 0 0, .int .i64 p_10635, .bool v_10636] [.blk [.int .i64 ga_10637, .int .i64 gb_10638, .int .i64 gc_10639, .int .i64 gd_10640, .int .i64 ge_10641]]
def geom_Back_j0_sh : Rd (List AV × List HE) := .pair (.cons (.int .i64) (.cons (.int .i64) (.cons (.ptr 0 0) (.cons (.int .i64) (.cons .bool Rd.nil))))) (.cons (.blk (.cons (.int .i64) (.cons (.int .i64) (.cons (.int .i64) (.cons (.int .i64) (.cons (.int .i64) Rd.nil)))))) Rd.nil)
def geom_Back_j0_a {R : Type} (k : Nat) : Alt R := { n := 46, v := [], sh := geom_Back_j0_sh, g := fun K x => geom_Back_j0 (fun y2 y3 => geom_Back_j0_E0 K x.1.1 x.1.2.1 y2 y3 x.1.2.2.2.1 x.2.1.1 x.2.1.2.1 x.2.1.2.2.1 x.2.1.2.2.2.1 x.2.1.2.2.2.2.1) (geom_Back_j0_E1 K x.1.1 x.1.2.1 x.1.2.2.2.1 x.2.1.1 x.2.1.2.1 x.2.1.2.2.1 x.2.1.2.2.2.1 x.2.1.2.2.2.2.1) k x.1.2.2.2.2.1 }
def geom_Back_j1_E0 {R : Type} (K : EX → St → Option R) : Int → Bool → Option R := fun v0 v1 => K .ret (mkSt 46 [] geom_Back_x1.keep [.int .i64 v0, .bool v1] [])
def geom_Back_j1_S (row_10660 : Int) (drive_10661 : Int) (p_10662 : Int) (ga_10663 : Int) (gb_10664 : Int) (gc_10665 : Int) (gd_10666 : Int) (ge_10667 : Int) : St := mkSt 46 [] geom_Back_c1.keep [.int .i64 row_10660, .int .i64 drive_10661, .ptr 0 0, .int .i64 p_10662] [.blk [.int .i64 ga_10663, .int .i64 gb_10664, .int .i64 gc_10665, .int .i64 gd_10666, .int .i64 ge_10667]]
def geom_Back_j1_sh : Rd (List AV × List HE) := .pair (.cons (.int .i64) (.cons (.int .i64) (.cons (.ptr 0 0) (.cons (.int .i64) Rd.nil)))) (.cons (.blk (.cons (.int .i64) (.cons (.int .i64) (.cons (.int .i64) (.cons (.int .i64) (.cons (.int .i64) Rd.nil)))))) Rd.nil)
def geom_Back_j1_a {R : Type} (k : Nat) : Alt R := { n := 46, v := [], sh := geom_Back_j1_sh, g := fun K x => geom_Back_j1 (geom_Back_j1_E0 K) k x.1.1 x.1.2.1 x.1.2.2.2.1 x.2.1.1 }
def geom_Back_O {R : Type} (k : Nat) : CutK R := cutsO [[geom_Back_j0_a k], [geom_Back_j1_a k]]
noncomputable def geom_Back_b : List Ob := obs (bodyOf Try.f37) geom_Back_h
noncomputable def geom_Back_I {R : Type} (k : Nat) : InlT R := inone
theorem geom_Back_j0_eq {R : Type} (k : Nat) (K : EX → St → Option R) (row_10633 : Int) (drive_10634 : Int) (p_10635 : Int) (v_10636 : Bool) (ga_10637 : Int) (gb_10638 : Int) (gc_10639 : Int) (gd_10640 : Int) (ge_10641 : Int) : geom_Back_j0 (fun y2 y3 => geom_Back_j0_E0 K row_10633 drive_10634 y2 y3 p_10635 ga_10637 gb_10638 gc_10639 gd_10640 ge_10641) (geom_Back_j0_E1 K row_10633 drive_10634 p_10635 ga_10637 gb_10638 gc_10639 gd_10640 ge_10641) k v_10636 = ev tab (geom_Back_F k) (inlK tab (geom_Back_F k) (geom_Back_I k) 0) (geom_Back_O k) (obB geom_Back_b 0) (obH geom_Back_b 0) (geom_Back_j0_S row_10633 drive_10634 p_10635 v_10636 ga_10637 gb_10638 gc_10639 gd_10640 ge_10641) (fun e st => optb (clean geom_Back_x0 st) fun st => K e st) := by kernel_rfl
theorem geom_Back_j0_ok {R : Type} (k : Nat)  : ObOK (R := R) tab (geom_Back_F k) (inlK tab (geom_Back_F k) (geom_Back_I k) 0) (geom_Back_O k) (.join geom_Back_c0 geom_Back_x0 0 (obB geom_Back_b 0) (obH geom_Back_b 0)) :=
  join_ok (l := [geom_Back_j0_a k]) (by kernel_rfl) ⟨(fun K x => (geom_Back_j0_eq k K x.1.1 x.1.2.1 x.1.2.2.2.1 x.1.2.2.2.2.1 x.2.1.1 x.2.1.2.1 x.2.1.2.2.1 x.2.1.2.2.2.1 x.2.1.2.2.2.2.1).trans (by kernel_rfl)), trivial⟩
theorem geom_Back_j1_eq {R : Type} (k : Nat) (K : EX → St → Option R) (row_10660 : Int) (drive_10661 : Int) (p_10662 : Int) (ga_10663 : Int) (gb_10664 : Int) (gc_10665 : Int) (gd_10666 : Int) (ge_10667 : Int) : geom_Back_j1 (geom_Back_j1_E0 K) k row_10660 drive_10661 p_10662 ga_10663 = ev tab (geom_Back_F k) (inlK tab (geom_Back_F k) (geom_Back_I k) 0) (geom_Back_O k) (obB geom_Back_b 1) (obH geom_Back_b 1) (geom_Back_j1_S row_10660 drive_10661 p_10662 ga_10663 gb_10664 gc_10665 gd_10666 ge_10667) (fun e st => optb (clean geom_Back_x1 st) fun st => K e st) := by kernel_rfl
theorem geom_Back_j1_ok {R : Type} (k : Nat)  : ObOK (R := R) tab (geom_Back_F k) (inlK tab (geom_Back_F k) (geom_Back_I k) 0) (geom_Back_O k) (.join geom_Back_c1 geom_Back_x1 1 (obB geom_Back_b 1) (obH geom_Back_b 1)) :=
  join_ok (l := [geom_Back_j1_a k]) (by kernel_rfl) ⟨(fun K x => (geom_Back_j1_eq k K x.1.1 x.1.2.1 x.1.2.2.2.1 x.2.1.1 x.2.1.2.1 x.2.1.2.2.1 x.2.1.2.2.2.1 x.2.1.2.2.2.2.1).trans (by kernel_rfl)), trivial⟩
theorem geom_Back_cuts {R : Type} (k : Nat) : ∀ c, Try.f37.body = some c → CutsOK (R := R) tab (geom_Back_F k) (inlK tab (geom_Back_F k) (geom_Back_I k) 0) (geom_Back_O k) c geom_Back_h :=
  cuts_of (l := [.join geom_Back_c0 geom_Back_x0 0 (obB geom_Back_b 0) (obH geom_Back_b 0), .join geom_Back_c1 geom_Back_x1 1 (obB geom_Back_b 1) (obH geom_Back_b 1)]) (by kernel_rfl) ⟨geom_Back_j0_ok k, geom_Back_j1_ok k, trivial⟩
theorem geom_Back_iok {R : Type} (k : Nat) : IOK Try.prog tab (geom_Back_F k) (geom_Back_I (R := R) k) := iok_none
theorem geom_Back_ev (k : Nat) (x : (geom_Back_p k).τ.den) : evalF tab (geom_Back_F k) (geom_Back_p k) (geom_Back_I k) 0 (geom_Back_O k) geom_Back_h Try.f37 x = (geom_Back_p k).f x := by kernel_rfl
theorem geom_Back_ok (k : Nat) : PFOK Try.prog tab 37 (geom_Back_p k) := pfok mixed tabOK (geom_Back_fok k) Try.func37 (I := geom_Back_I k) (d := 0) (geom_Back_iok k) (Q := geom_Back_O k) (hi := geom_Back_h) (geom_Back_cuts k) (geom_Back_ev k)
end Go.Proofs.Ythilffdaofaalaa.Ev
