/- geom_Back, told on plain data. Written by program. -/
import Derived.Test.YtcikcikcjimcjaaEgeom_Parity
import Derived.Test.YtcikcikcjimcjaaEgeom_within
set_option linter.unusedVariables false
set_option maxRecDepth 1000000
namespace Go.Proofs.Ytcikcikcjimcjaa.Ev
open Go Go.RowKit Go.Proofs
def geom_Back_j0 {R : Type} (e0 : Int → Bool → Option R) (e1 : Option R) (k : Nat) (v_1778 : Bool) : Option R :=
  bif v_1778 then
    e0 (0 : Int) false
  else e1
def geom_Back_j1 {R : Type} (e0 : Int → Bool → Option R) (k : Nat) (row_1802 : Int) (drive_1803 : Int) (p_1804 : Int) (ga_1805 : Int) : Option R :=
  bif (decide (ga_1805 = (0 : Int))) then
    none
  else e0 (wrap64 ((wrap64 (row_1802 * (wrap64 (ga_1805 - (1 : Int))))) + (Int.tmod (wrap64 ((wrap64 ((wrap64 (drive_1803 - p_1804)) - (1 : Int))) + ga_1805)) ga_1805))) true
def geom_Back_k0 (k : Nat) : Int → Bool → Int → Option (Int × Bool) := fun v_1786 v_1787 p_1788 =>
  some (v_1786, v_1787)
def geom_Back_k1 (k : Nat) (drive_1702 : Int) (ga_1695 : Int) (row_1701 : Int) : Int → Option (Int × Bool) := fun p_1796 =>
  geom_Back_j1 (fun v_1813 v_1814 =>
    some (v_1813, v_1814)) k row_1701 drive_1702 p_1796 ga_1695
def geom_Back (k : Nat) (ga_1695 : Int) (gb_1696 : Int) (gc_1697 : Int) (gd_1698 : Int) (ge_1699 : Int) (zone_1700 : Int) (row_1701 : Int) (drive_1702 : Int) : Option (Int × Bool) :=
  optb (geom_Parity k ga_1695 gb_1696 gc_1697 gd_1698 ge_1699 zone_1700 row_1701) fun r_1774 =>
  bif (decide (r_1774 < (0 : Int))) then
    geom_Back_j0 (fun v_1786 v_1787 => geom_Back_k0 k v_1786 v_1787 r_1774) (geom_Back_k1 k drive_1702 ga_1695 row_1701 r_1774) k true
  else bif (decide (r_1774 = drive_1702)) then
    geom_Back_j0 (fun v_1786 v_1787 => geom_Back_k0 k v_1786 v_1787 r_1774) (geom_Back_k1 k drive_1702 ga_1695 row_1701 r_1774) k true
  else optb (geom_within k drive_1702 (0 : Int) (wrap64 (ga_1695 - (1 : Int)))) fun r_1815 =>
  geom_Back_j0 (fun v_1786 v_1787 => geom_Back_k0 k v_1786 v_1787 r_1774) (geom_Back_k1 k drive_1702 ga_1695 row_1701 r_1774) k (!r_1815)
def geom_Back_p (k : Nat) : PF := { ps := [(true, 5), (false, 1), (false, 1), (false, 1)], rs := [(false, 1), (false, 1)], τ := (.pair (.pair (.int .i64) (.pair (.int .i64) (.pair (.int .i64) (.pair (.int .i64) (.int .i64))))) (.pair (.int .i64) (.pair (.int .i64) (.int .i64)))), σ := (.pair (.int .i64) .bool), f := fun x => geom_Back k x.1.1 x.1.2.1 x.1.2.2.1 x.1.2.2.2.1 x.1.2.2.2.2 x.2.1 x.2.2.1 x.2.2.2 }
def geom_Back_F (k : Nat) : PT := fcons 26 (geom_Parity_p k) <| fcons 56 (geom_within_p k) <| fnone
theorem geom_Back_fok (k : Nat) : FOK Try.prog tab (geom_Back_F k) := fok_cons (geom_Parity_ok k) Try.call26 <| fok_cons (geom_within_ok k) Try.call56 <| fok_none
def geom_Back_c0 : Cl := { keep := [2, 3, 4, 10, 29], hl := 1, ad := [], adc := [], bump := [] }
def geom_Back_x0 : Cl := { keep := [2, 3, 4, 8, 9, 10], hl := 1, ad := [], adc := [], bump := [] }
def geom_Back_c1 : Cl := { keep := [2, 3, 4, 10], hl := 1, ad := [], adc := [], bump := [] }
def geom_Back_x1 : Cl := { keep := [8, 9], hl := 0, ad := [], adc := [], bump := [] }
def geom_Back_h : Hint := (.sq .no (.sq .no (.ct geom_Back_c1 geom_Back_x1 1 (.ct geom_Back_c0 geom_Back_x0 0 .no .no) .no)))
def geom_Back_j0_E0 {R : Type} (K : EX → St → Option R) : Int → Int → Int → Bool → Int → Int → Int → Int → Int → Int → Option R := fun v0 v1 v2 v3 v4 v5 v6 v7 v8 v9 => K .ret (mkSt 46 [] geom_Back_x0.keep [.int .i64 v0, .int .i64 v1, .ptr 0 0, .int .i64 v2, .bool v3, .int .i64 v4] [.blk [.int .i64 v5, .int .i64 v6, .int .i64 v7, .int .i64 v8, .int .i64 v9]])
def geom_Back_j0_E1 {R : Type} (K : EX → St → Option R) : Int → Int → Int → Int → Int → Int → Int → Int → Option R := fun v0 v1 v2 v3 v4 v5 v6 v7 => K .normal (mkSt 46 [] geom_Back_x0.keep [.int .i64 v0, .int .i64 v1, .ptr 0 0, .junk, .junk, .int .i64 v2] [.blk [.int .i64 v3, .int .i64 v4, .int .i64 v5, .int .i64 v6, .int .i64 v7]])
def geom_Back_j0_S (row_1775 : Int) (drive_1776 : Int) (p_1777 : Int) (v_1778 : Bool) (ga_1779 : Int) (gb_1780 : Int) (gc_1781 : Int) (gd_1782 : Int) (ge_1783 : Int) : St := mkSt 46 [] geom_Back_c0.keep [.int .i64 row_1775, .int .i64 drive_1776, .ptr 0 0, .int .i64 p_1777, .bool v_1778] [.blk [.int .i64 ga_1779, .int .i64 gb_1780, .int .i64 gc_1781, .int .i64 gd_1782, .int .i64 ge_1783]]
def geom_Back_j0_sh : Rd (List AV × List HE) := .pair (.cons (.int .i64) (.cons (.int .i64) (.cons (.ptr 0 0) (.cons (.int .i64) (.cons .bool Rd.nil))))) (.cons (.blk (.cons (.int .i64) (.cons (.int .i64) (.cons (.int .i64) (.cons (.int .i64) (.cons (.int .i64) Rd.nil)))))) Rd.nil)
def geom_Back_j0_a {R : Type} (k : Nat) : Alt R := { n := 46, v := [], sh := geom_Back_j0_sh, g := fun K x => geom_Back_j0 (fun y2 y3 => geom_Back_j0_E0 K x.1.1 x.1.2.1 y2 y3 x.1.2.2.2.1 x.2.1.1 x.2.1.2.1 x.2.1.2.2.1 x.2.1.2.2.2.1 x.2.1.2.2.2.2.1) (geom_Back_j0_E1 K x.1.1 x.1.2.1 x.1.2.2.2.1 x.2.1.1 x.2.1.2.1 x.2.1.2.2.1 x.2.1.2.2.2.1 x.2.1.2.2.2.2.1) k x.1.2.2.2.2.1 }
def geom_Back_j1_E0 {R : Type} (K : EX → St → Option R) : Int → Bool → Option R := fun v0 v1 => K .ret (mkSt 46 [] geom_Back_x1.keep [.int .i64 v0, .bool v1] [])
def geom_Back_j1_S (row_1802 : Int) (drive_1803 : Int) (p_1804 : Int) (ga_1805 : Int) (gb_1806 : Int) (gc_1807 : Int) (gd_1808 : Int) (ge_1809 : Int) : St := mkSt 46 [] geom_Back_c1.keep [.int .i64 row_1802, .int .i64 drive_1803, .ptr 0 0, .int .i64 p_1804] [.blk [.int .i64 ga_1805, .int .i64 gb_1806, .int .i64 gc_1807, .int .i64 gd_1808, .int .i64 ge_1809]]
def geom_Back_j1_sh : Rd (List AV × List HE) := .pair (.cons (.int .i64) (.cons (.int .i64) (.cons (.ptr 0 0) (.cons (.int .i64) Rd.nil)))) (.cons (.blk (.cons (.int .i64) (.cons (.int .i64) (.cons (.int .i64) (.cons (.int .i64) (.cons (.int .i64) Rd.nil)))))) Rd.nil)
def geom_Back_j1_a {R : Type} (k : Nat) : Alt R := { n := 46, v := [], sh := geom_Back_j1_sh, g := fun K x => geom_Back_j1 (geom_Back_j1_E0 K) k x.1.1 x.1.2.1 x.1.2.2.2.1 x.2.1.1 }
def geom_Back_O {R : Type} (k : Nat) : CutK R := cutsO [[geom_Back_j0_a k], [geom_Back_j1_a k]]
noncomputable def geom_Back_b : List Ob := obs (bodyOf Try.f40) geom_Back_h
noncomputable def geom_Back_I {R : Type} (k : Nat) : InlT R := inone
theorem geom_Back_j0_eq {R : Type} (k : Nat) (K : EX → St → Option R) (row_1775 : Int) (drive_1776 : Int) (p_1777 : Int) (v_1778 : Bool) (ga_1779 : Int) (gb_1780 : Int) (gc_1781 : Int) (gd_1782 : Int) (ge_1783 : Int) : geom_Back_j0 (fun y2 y3 => geom_Back_j0_E0 K row_1775 drive_1776 y2 y3 p_1777 ga_1779 gb_1780 gc_1781 gd_1782 ge_1783) (geom_Back_j0_E1 K row_1775 drive_1776 p_1777 ga_1779 gb_1780 gc_1781 gd_1782 ge_1783) k v_1778 = ev tab (geom_Back_F k) (inlK tab (geom_Back_F k) (geom_Back_I k) 0) (geom_Back_O k) (obB geom_Back_b 0) (obH geom_Back_b 0) (geom_Back_j0_S row_1775 drive_1776 p_1777 v_1778 ga_1779 gb_1780 gc_1781 gd_1782 ge_1783) (fun e st => optb (clean geom_Back_x0 st) fun st => K e st) := by kernel_rfl
theorem geom_Back_j0_ok {R : Type} (k : Nat)  : ObOK (R := R) tab (geom_Back_F k) (inlK tab (geom_Back_F k) (geom_Back_I k) 0) (geom_Back_O k) (.join geom_Back_c0 geom_Back_x0 0 (obB geom_Back_b 0) (obH geom_Back_b 0)) :=
  join_ok (l := [geom_Back_j0_a k]) (by kernel_rfl) ⟨(fun K x => (geom_Back_j0_eq k K x.1.1 x.1.2.1 x.1.2.2.2.1 x.1.2.2.2.2.1 x.2.1.1 x.2.1.2.1 x.2.1.2.2.1 x.2.1.2.2.2.1 x.2.1.2.2.2.2.1).trans (by kernel_rfl)), trivial⟩
theorem geom_Back_j1_eq {R : Type} (k : Nat) (K : EX → St → Option R) (row_1802 : Int) (drive_1803 : Int) (p_1804 : Int) (ga_1805 : Int) (gb_1806 : Int) (gc_1807 : Int) (gd_1808 : Int) (ge_1809 : Int) : geom_Back_j1 (geom_Back_j1_E0 K) k row_1802 drive_1803 p_1804 ga_1805 = ev tab (geom_Back_F k) (inlK tab (geom_Back_F k) (geom_Back_I k) 0) (geom_Back_O k) (obB geom_Back_b 1) (obH geom_Back_b 1) (geom_Back_j1_S row_1802 drive_1803 p_1804 ga_1805 gb_1806 gc_1807 gd_1808 ge_1809) (fun e st => optb (clean geom_Back_x1 st) fun st => K e st) := by kernel_rfl
theorem geom_Back_j1_ok {R : Type} (k : Nat)  : ObOK (R := R) tab (geom_Back_F k) (inlK tab (geom_Back_F k) (geom_Back_I k) 0) (geom_Back_O k) (.join geom_Back_c1 geom_Back_x1 1 (obB geom_Back_b 1) (obH geom_Back_b 1)) :=
  join_ok (l := [geom_Back_j1_a k]) (by kernel_rfl) ⟨(fun K x => (geom_Back_j1_eq k K x.1.1 x.1.2.1 x.1.2.2.2.1 x.2.1.1 x.2.1.2.1 x.2.1.2.2.1 x.2.1.2.2.2.1 x.2.1.2.2.2.2.1).trans (by kernel_rfl)), trivial⟩
theorem geom_Back_cuts {R : Type} (k : Nat) : ∀ c, Try.f40.body = some c → CutsOK (R := R) tab (geom_Back_F k) (inlK tab (geom_Back_F k) (geom_Back_I k) 0) (geom_Back_O k) c geom_Back_h :=
  cuts_of (l := [.join geom_Back_c0 geom_Back_x0 0 (obB geom_Back_b 0) (obH geom_Back_b 0), .join geom_Back_c1 geom_Back_x1 1 (obB geom_Back_b 1) (obH geom_Back_b 1)]) (by kernel_rfl) ⟨geom_Back_j0_ok k, geom_Back_j1_ok k, trivial⟩
theorem geom_Back_iok {R : Type} (k : Nat) : IOK Try.prog tab (geom_Back_F k) (geom_Back_I (R := R) k) := iok_none
theorem geom_Back_ev (k : Nat) (x : (geom_Back_p k).τ.den) : evalF tab (geom_Back_F k) (geom_Back_p k) (geom_Back_I k) 0 (geom_Back_O k) geom_Back_h Try.f40 x = (geom_Back_p k).f x := by kernel_rfl
theorem geom_Back_ok (k : Nat) : PFOK Try.prog tab 40 (geom_Back_p k) := pfok mixed tabOK (geom_Back_fok k) Try.func40 (I := geom_Back_I k) (d := 0) (geom_Back_iok k) (Q := geom_Back_O k) (hi := geom_Back_h) (geom_Back_cuts k) (geom_Back_ev k)
end Go.Proofs.Ytcikcikcjimcjaa.Ev
