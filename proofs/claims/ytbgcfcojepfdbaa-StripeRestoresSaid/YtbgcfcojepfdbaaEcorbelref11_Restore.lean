/- corbelref11_Restore, told on plain data. Written by program. -/
import Derived.Test.YtbgcfcojepfdbaaEtab
set_option linter.unusedVariables false
set_option maxRecDepth 1000000
namespace Go.Proofs.Ytbgcfcojepfdbaa.Ev
open Go Go.RowKit Go.Proofs
def corbelref11_Restore_j0 {R : Type} (e0 : ByteArray → Int → Option R) (e1 : Option R) (k : Nat) (v_1715 : Bool) : Option R :=
  bif v_1715 then
    e0 (⟨#[]⟩ : ByteArray) (1 : Int)
  else e1
def corbelref11_Restore_j3 {R : Type} (e0 : Int → Option R) (k : Nat) (i_1735 : Int) : Option R :=
  e0 (wrap64 (i_1735 + (1 : Int)))
def corbelref11_Restore_l2s {R : Type} (rc : Int → List Int → Option R) (e0 : List Int → Option R) (k : Nat) (lb_1748 : List ByteArray) (i_1750 : Int) (k_1751 : Int) (out_1753 : List Int) : Option R :=
  bif (decide (k_1751 < (64 : Int))) then
    bif ((decide ((0 : Int) ≤ k_1751)) && (decide (k_1751 < (lenI out_1753)))) then
      optb (out_1753[k_1751.toNat]?) fun x_1758 =>
      bif (decide ((0 : Int) ≤ i_1750)) then
        optb (lb_1748[i_1750.toNat]?) fun x_1759 =>
        bif ((decide ((0 : Int) ≤ k_1751)) && (decide (k_1751 < (sizeI x_1759)))) then
          bif ((decide ((0 : Int) ≤ k_1751)) && (decide (k_1751 < (lenI out_1753)))) then
            optb (out_1753[k_1751.toNat]?) fun x_1760 =>
            rc (wrap64 (k_1751 + (1 : Int))) (List.set out_1753 k_1751.toNat (bitop .xor .u8 x_1758 (bt x_1759 k_1751)))
          else none
        else none
      else none
    else none
  else e0 out_1753
def corbelref11_Restore_l2 {R : Type} (e0 : List Int → Option R) (k : Nat) (lb_1748 : List ByteArray) (i_1750 : Int) : Nat → Int → List Int → Option R
  | 0 => fun _ _ => none
  | j + 1 => corbelref11_Restore_l2s (corbelref11_Restore_l2 e0 k lb_1748 i_1750 j) e0 k lb_1748 i_1750
def corbelref11_Restore_k2 {R : Type} (rc : Int → List Int → Option R) (e0 : ByteArray → Int → List Int → Option R) (e1 : List Int → Option R) (k : Nat) : Int → List Int → Option R := fun i_1741 out_1743 =>
  rc i_1741 out_1743
def corbelref11_Restore_l1s {R : Type} (rc : Int → List Int → Option R) (e0 : ByteArray → Int → List Int → Option R) (e1 : List Int → Option R) (k : Nat) (lb_1727 : List ByteArray) (w_1728 : Int) (i_1729 : Int) (out_1731 : List Int) : Option R :=
  bif (decide (i_1729 < (lenI lb_1727))) then
    bif (decide (i_1729 = w_1728)) then
      corbelref11_Restore_j3 (fun i_1741 => corbelref11_Restore_k2 rc e0 e1 k i_1741 out_1731) k i_1729
    else bif (decide ((0 : Int) ≤ i_1729)) then
      optb (lb_1727[i_1729.toNat]?) fun x_1746 =>
      bif (!(decide ((sizeI x_1746) = (64 : Int)))) then
        e0 (⟨#[]⟩ : ByteArray) (1 : Int) out_1731
      else corbelref11_Restore_l2 (fun out_1767 =>
        corbelref11_Restore_j3 (fun i_1741 => corbelref11_Restore_k2 rc e0 e1 k i_1741 out_1767) k i_1729) k lb_1727 i_1729 k (0 : Int) out_1731
    else none
  else e1 out_1731
def corbelref11_Restore_l1 {R : Type} (e0 : ByteArray → Int → List Int → Option R) (e1 : List Int → Option R) (k : Nat) (lb_1727 : List ByteArray) (w_1728 : Int) : Nat → Int → List Int → Option R
  | 0 => fun _ _ => none
  | j + 1 => corbelref11_Restore_l1s (corbelref11_Restore_l1 e0 e1 k lb_1727 w_1728 j) e0 e1 k lb_1727 w_1728
def corbelref11_Restore_k0 (k : Nat) : ByteArray → Int → Option (ByteArray × Int) := fun v_1720 v_1721 =>
  some (v_1720, v_1721)
def corbelref11_Restore_k1 (k : Nat) (lb_1514 : List ByteArray) (parity_1512 : ByteArray) (w_1515 : Int) : Option (ByteArray × Int) := 
  bif (decide (parity_1512.size ≤ 1099511627776)) then
    corbelref11_Restore_l1 (fun v_1768 v_1769 out_1771 =>
      some (v_1768, v_1769)) (fun out_1773 =>
      some ((bytesOf out_1773), (0 : Int))) k lb_1514 w_1515 k (0 : Int) (intsOf parity_1512)
  else none
def corbelref11_Restore (k : Nat) (parity_1512 : ByteArray) (la_1513 : Bool) (lb_1514 : List ByteArray) (w_1515 : Int) : Option (ByteArray × Int) :=
  bif (decide (w_1515 < (0 : Int))) then
    corbelref11_Restore_j0 (corbelref11_Restore_k0 k) (corbelref11_Restore_k1 k lb_1514 parity_1512 w_1515) k true
  else bif (decide ((lenI lb_1514) ≤ w_1515)) then
    corbelref11_Restore_j0 (corbelref11_Restore_k0 k) (corbelref11_Restore_k1 k lb_1514 parity_1512 w_1515) k true
  else corbelref11_Restore_j0 (corbelref11_Restore_k0 k) (corbelref11_Restore_k1 k lb_1514 parity_1512 w_1515) k (!(decide ((sizeI parity_1512) = (64 : Int))))
def corbelref11_Restore_p (k : Nat) : PF := { ps := [(false, 1), (false, 1), (false, 1)], rs := [(false, 1), (false, 1)], τ := (.pair .str (.pair (.sl .str) (.int .i64))), σ := (.pair .str (.int .i64)), f := fun x => corbelref11_Restore k x.1 x.2.1.1 x.2.1.2 x.2.2 }
def corbelref11_Restore_F (k : Nat) : PT := fbase [(9, 57)] false
theorem corbelref11_Restore_fok (k : Nat) : FOK Try.prog tab (corbelref11_Restore_F k) := fok_base
def corbelref11_Restore_c0 : Cl := { keep := [0, 1, 2, 23], hl := 0, ad := [], adc := [], bump := [] }
def corbelref11_Restore_x0 : Cl := { keep := [0, 1, 2, 6, 7], hl := 0, ad := [], adc := [], bump := [] }
def corbelref11_Restore_c1 : Cl := { keep := [1, 2, 8, 9], hl := 1, ad := [], adc := [], bump := [] }
def corbelref11_Restore_x1 : Cl := { keep := [6, 7, 8], hl := 1, ad := [], adc := [], bump := [] }
def corbelref11_Restore_c2 : Cl := { keep := [1, 2, 8, 9, 10], hl := 1, ad := [], adc := [], bump := [] }
def corbelref11_Restore_x2 : Cl := { keep := [1, 2, 8, 9], hl := 1, ad := [], adc := [], bump := [] }
def corbelref11_Restore_c3 : Cl := { keep := [1, 2, 8, 9], hl := 1, ad := [], adc := [], bump := [] }
def corbelref11_Restore_x3 : Cl := { keep := [1, 2, 8, 9], hl := 1, ad := [], adc := [], bump := [] }
def corbelref11_Restore_h : Hint := (.sq .no (.sq (.ct corbelref11_Restore_c0 corbelref11_Restore_x0 0 .no .no) (.sq .no (.sq (.sq .no (.lp corbelref11_Restore_c1 corbelref11_Restore_x1 1 (.sq .no (.ct corbelref11_Restore_c3 corbelref11_Restore_x3 3 (.sq .no (.sq .no (.sq .no (.lp corbelref11_Restore_c2 corbelref11_Restore_x2 2 .no)))) .no)))) .no))))
def corbelref11_Restore_j0_E0 {R : Type} (K : EX → St → Option R) : ByteArray → Bool → List ByteArray → Int → ByteArray → Int → Option R := fun v0 v1 v2 v3 v4 v5 => K .ret (mkSt 59 [] corbelref11_Restore_x0.keep [.str v0, .sl .str v1 v2, .int .i64 v3, .str v4, .int .i64 v5] [])
def corbelref11_Restore_j0_E1 {R : Type} (K : EX → St → Option R) : ByteArray → Bool → List ByteArray → Int → Option R := fun v0 v1 v2 v3 => K .normal (mkSt 59 [] corbelref11_Restore_x0.keep [.str v0, .sl .str v1 v2, .int .i64 v3, .junk, .junk] [])
def corbelref11_Restore_j0_S (parity_1711 : ByteArray) (la_1712 : Bool) (lb_1713 : List ByteArray) (w_1714 : Int) (v_1715 : Bool) : St := mkSt 59 [] corbelref11_Restore_c0.keep [.str parity_1711, .sl .str la_1712 lb_1713, .int .i64 w_1714, .bool v_1715] []
def corbelref11_Restore_j0_sh : Rd (List AV × List HE) := .pair (.cons .str (.cons (.sl .str) (.cons (.int .i64) (.cons .bool Rd.nil)))) Rd.nil
def corbelref11_Restore_j0_a {R : Type} (k : Nat) : Alt R := { n := 59, v := [], sh := corbelref11_Restore_j0_sh, g := fun K x => corbelref11_Restore_j0 (fun y4 y5 => corbelref11_Restore_j0_E0 K x.1.1 x.1.2.1.1 x.1.2.1.2 x.1.2.2.1 y4 y5) (corbelref11_Restore_j0_E1 K x.1.1 x.1.2.1.1 x.1.2.1.2 x.1.2.2.1) k x.1.2.2.2.1 }
def corbelref11_Restore_l1_E0 {R : Type} (K : EX → St → Option R) : ByteArray → Int → Bool → List Int → Option R := fun v0 v1 v2 v3 => K .ret (mkSt 59 [] corbelref11_Restore_x1.keep [.str v0, .int .i64 v1, .own 0 1] [.lst (.int .u8) 1099511627781 v2 1 v3])
def corbelref11_Restore_l1_E1 {R : Type} (K : EX → St → Option R) : Bool → List Int → Option R := fun v0 v1 => K (.exit 0) (mkSt 59 [] corbelref11_Restore_x1.keep [.junk, .junk, .own 0 1] [.lst (.int .u8) 1099511627781 v0 1 v1])
def corbelref11_Restore_l1_S (la_1726 : Bool) (lb_1727 : List ByteArray) (w_1728 : Int) (i_1729 : Int) (outN_1730 : Bool) (out_1731 : List Int) : St := mkSt 59 [] corbelref11_Restore_c1.keep [.sl .str la_1726 lb_1727, .int .i64 w_1728, .own 0 1, .int .i64 i_1729] [.lst (.int .u8) 1099511627781 outN_1730 1 out_1731]
def corbelref11_Restore_l1_sh : Rd (List AV × List HE) := .pair (.cons (.sl .str) (.cons (.int .i64) (.cons (.own 0 1) (.cons (.int .i64) Rd.nil)))) (.cons (.lst (.int .u8) 1099511627781 1) Rd.nil)
def corbelref11_Restore_l1_a {R : Type} (k : Nat) : Alt R := { n := 59, v := [], sh := corbelref11_Restore_l1_sh, g := fun K x => corbelref11_Restore_l1 (fun y0 y1 y3 => corbelref11_Restore_l1_E0 K y0 y1 x.2.1.1 y3) (fun y1 => corbelref11_Restore_l1_E1 K x.2.1.1 y1) k x.1.1.2 x.1.2.1 k x.1.2.2.2.1 x.2.1.2 }
def corbelref11_Restore_l2_E0 {R : Type} (K : EX → St → Option R) : Bool → List ByteArray → Int → Int → Bool → List Int → Option R := fun v0 v1 v2 v3 v4 v5 => K (.exit 2) (mkSt 59 [] corbelref11_Restore_x2.keep [.sl .str v0 v1, .int .i64 v2, .own 0 1, .int .i64 v3] [.lst (.int .u8) 1099511627781 v4 1 v5])
def corbelref11_Restore_l2_S (la_1747 : Bool) (lb_1748 : List ByteArray) (w_1749 : Int) (i_1750 : Int) (k_1751 : Int) (outN_1752 : Bool) (out_1753 : List Int) : St := mkSt 59 [] corbelref11_Restore_c2.keep [.sl .str la_1747 lb_1748, .int .i64 w_1749, .own 0 1, .int .i64 i_1750, .int .i64 k_1751] [.lst (.int .u8) 1099511627781 outN_1752 1 out_1753]
def corbelref11_Restore_l2_sh : Rd (List AV × List HE) := .pair (.cons (.sl .str) (.cons (.int .i64) (.cons (.own 0 1) (.cons (.int .i64) (.cons (.int .i64) Rd.nil))))) (.cons (.lst (.int .u8) 1099511627781 1) Rd.nil)
def corbelref11_Restore_l2_a {R : Type} (k : Nat) : Alt R := { n := 59, v := [], sh := corbelref11_Restore_l2_sh, g := fun K x => corbelref11_Restore_l2 (fun y5 => corbelref11_Restore_l2_E0 K x.1.1.1 x.1.1.2 x.1.2.1 x.1.2.2.2.1 x.2.1.1 y5) k x.1.1.2 x.1.2.2.2.1 k x.1.2.2.2.2.1 x.2.1.2 }
def corbelref11_Restore_j3_E0 {R : Type} (K : EX → St → Option R) : Bool → List ByteArray → Int → Int → Bool → List Int → Option R := fun v0 v1 v2 v3 v4 v5 => K .normal (mkSt 59 [] corbelref11_Restore_x3.keep [.sl .str v0 v1, .int .i64 v2, .own 0 1, .int .i64 v3] [.lst (.int .u8) 1099511627781 v4 1 v5])
def corbelref11_Restore_j3_S (la_1732 : Bool) (lb_1733 : List ByteArray) (w_1734 : Int) (i_1735 : Int) (outN_1736 : Bool) (out_1737 : List Int) : St := mkSt 59 [] corbelref11_Restore_c3.keep [.sl .str la_1732 lb_1733, .int .i64 w_1734, .own 0 1, .int .i64 i_1735] [.lst (.int .u8) 1099511627781 outN_1736 1 out_1737]
def corbelref11_Restore_j3_sh : Rd (List AV × List HE) := .pair (.cons (.sl .str) (.cons (.int .i64) (.cons (.own 0 1) (.cons (.int .i64) Rd.nil)))) (.cons (.lst (.int .u8) 1099511627781 1) Rd.nil)
def corbelref11_Restore_j3_a {R : Type} (k : Nat) : Alt R := { n := 59, v := [], sh := corbelref11_Restore_j3_sh, g := fun K x => corbelref11_Restore_j3 (fun y3 => corbelref11_Restore_j3_E0 K x.1.1.1 x.1.1.2 x.1.2.1 y3 x.2.1.1 x.2.1.2) k x.1.2.2.2.1 }
def corbelref11_Restore_O {R : Type} (k : Nat) : CutK R := cutsO [[corbelref11_Restore_j0_a k], [corbelref11_Restore_l1_a k], [corbelref11_Restore_l2_a k], [corbelref11_Restore_j3_a k]]
noncomputable def corbelref11_Restore_b : List Ob := obs (bodyOf Try.f13) corbelref11_Restore_h
noncomputable def corbelref11_Restore_I {R : Type} (k : Nat) : InlT R := inone
theorem corbelref11_Restore_j0_eq {R : Type} (k : Nat) (K : EX → St → Option R) (parity_1711 : ByteArray) (la_1712 : Bool) (lb_1713 : List ByteArray) (w_1714 : Int) (v_1715 : Bool) : corbelref11_Restore_j0 (fun y4 y5 => corbelref11_Restore_j0_E0 K parity_1711 la_1712 lb_1713 w_1714 y4 y5) (corbelref11_Restore_j0_E1 K parity_1711 la_1712 lb_1713 w_1714) k v_1715 = ev tab (corbelref11_Restore_F k) (inlK tab (corbelref11_Restore_F k) (corbelref11_Restore_I k) 0) (corbelref11_Restore_O k) (obB corbelref11_Restore_b 0) (obH corbelref11_Restore_b 0) (corbelref11_Restore_j0_S parity_1711 la_1712 lb_1713 w_1714 v_1715) (fun e st => optb (clean corbelref11_Restore_x0 st) fun st => K e st) := by kernel_rfl
theorem corbelref11_Restore_j0_ok {R : Type} (k : Nat)  : ObOK (R := R) tab (corbelref11_Restore_F k) (inlK tab (corbelref11_Restore_F k) (corbelref11_Restore_I k) 0) (corbelref11_Restore_O k) (.join corbelref11_Restore_c0 corbelref11_Restore_x0 0 (obB corbelref11_Restore_b 0) (obH corbelref11_Restore_b 0)) :=
  join_ok (l := [corbelref11_Restore_j0_a k]) (by kernel_rfl) ⟨(fun K x => (corbelref11_Restore_j0_eq k K x.1.1 x.1.2.1.1 x.1.2.1.2 x.1.2.2.1 x.1.2.2.2.1).trans (by kernel_rfl)), trivial⟩
theorem corbelref11_Restore_l1_eq {R : Type} (k : Nat) (K : EX → St → Option R) (la_1726 : Bool) (lb_1727 : List ByteArray) (w_1728 : Int) (outN_1730 : Bool) : ∀ (j : Nat) (i_1729 : Int) (out_1731 : List Int), corbelref11_Restore_l1 (fun y0 y1 y3 => corbelref11_Restore_l1_E0 K y0 y1 outN_1730 y3) (fun y1 => corbelref11_Restore_l1_E1 K outN_1730 y1) k lb_1727 w_1728 j i_1729 out_1731 = iter corbelref11_Restore_c1 corbelref11_Restore_x1 (ev tab (corbelref11_Restore_F k) (inlK tab (corbelref11_Restore_F k) (corbelref11_Restore_I k) 0) (corbelref11_Restore_O k) (obB corbelref11_Restore_b 1) (obH corbelref11_Restore_b 1)) j (corbelref11_Restore_l1_S la_1726 lb_1727 w_1728 i_1729 outN_1730 out_1731) K
  | 0, _, _ => rfl
  | j + 1, i_1729, out_1731 => by
    have e : corbelref11_Restore_l1 (fun y0 y1 y3 => corbelref11_Restore_l1_E0 K y0 y1 outN_1730 y3) (fun y1 => corbelref11_Restore_l1_E1 K outN_1730 y1) k lb_1727 w_1728 j = fun i_1729 out_1731 => iter corbelref11_Restore_c1 corbelref11_Restore_x1 (ev tab (corbelref11_Restore_F k) (inlK tab (corbelref11_Restore_F k) (corbelref11_Restore_I k) 0) (corbelref11_Restore_O k) (obB corbelref11_Restore_b 1) (obH corbelref11_Restore_b 1)) j (corbelref11_Restore_l1_S la_1726 lb_1727 w_1728 i_1729 outN_1730 out_1731) K := by funext i_1729 out_1731; exact corbelref11_Restore_l1_eq k K la_1726 lb_1727 w_1728 outN_1730 j i_1729 out_1731
    show corbelref11_Restore_l1s (corbelref11_Restore_l1 (fun y0 y1 y3 => corbelref11_Restore_l1_E0 K y0 y1 outN_1730 y3) (fun y1 => corbelref11_Restore_l1_E1 K outN_1730 y1) k lb_1727 w_1728 j) (fun y0 y1 y3 => corbelref11_Restore_l1_E0 K y0 y1 outN_1730 y3) (fun y1 => corbelref11_Restore_l1_E1 K outN_1730 y1) k lb_1727 w_1728 i_1729 out_1731 = _
    rw [e, iter_succ]; kernel_rfl
theorem corbelref11_Restore_l1_ok {R : Type} (k : Nat)  : ObOK (R := R) tab (corbelref11_Restore_F k) (inlK tab (corbelref11_Restore_F k) (corbelref11_Restore_I k) 0) (corbelref11_Restore_O k) (.loop corbelref11_Restore_c1 corbelref11_Restore_x1 1 (obB corbelref11_Restore_b 1) (obH corbelref11_Restore_b 1)) :=
  loop_ok (l := [corbelref11_Restore_l1_a k]) (by kernel_rfl) ⟨(fun K x => ⟨k, (corbelref11_Restore_l1_eq k K x.1.1.1 x.1.1.2 x.1.2.1 x.2.1.1 k x.1.2.2.2.1 x.2.1.2).trans (by kernel_rfl)⟩), trivial⟩
theorem corbelref11_Restore_l2_eq {R : Type} (k : Nat) (K : EX → St → Option R) (la_1747 : Bool) (lb_1748 : List ByteArray) (w_1749 : Int) (i_1750 : Int) (outN_1752 : Bool) : ∀ (j : Nat) (k_1751 : Int) (out_1753 : List Int), corbelref11_Restore_l2 (fun y5 => corbelref11_Restore_l2_E0 K la_1747 lb_1748 w_1749 i_1750 outN_1752 y5) k lb_1748 i_1750 j k_1751 out_1753 = iter corbelref11_Restore_c2 corbelref11_Restore_x2 (ev tab (corbelref11_Restore_F k) (inlK tab (corbelref11_Restore_F k) (corbelref11_Restore_I k) 0) (corbelref11_Restore_O k) (obB corbelref11_Restore_b 2) (obH corbelref11_Restore_b 2)) j (corbelref11_Restore_l2_S la_1747 lb_1748 w_1749 i_1750 k_1751 outN_1752 out_1753) K
  | 0, _, _ => rfl
  | j + 1, k_1751, out_1753 => by
    have e : corbelref11_Restore_l2 (fun y5 => corbelref11_Restore_l2_E0 K la_1747 lb_1748 w_1749 i_1750 outN_1752 y5) k lb_1748 i_1750 j = fun k_1751 out_1753 => iter corbelref11_Restore_c2 corbelref11_Restore_x2 (ev tab (corbelref11_Restore_F k) (inlK tab (corbelref11_Restore_F k) (corbelref11_Restore_I k) 0) (corbelref11_Restore_O k) (obB corbelref11_Restore_b 2) (obH corbelref11_Restore_b 2)) j (corbelref11_Restore_l2_S la_1747 lb_1748 w_1749 i_1750 k_1751 outN_1752 out_1753) K := by funext k_1751 out_1753; exact corbelref11_Restore_l2_eq k K la_1747 lb_1748 w_1749 i_1750 outN_1752 j k_1751 out_1753
    show corbelref11_Restore_l2s (corbelref11_Restore_l2 (fun y5 => corbelref11_Restore_l2_E0 K la_1747 lb_1748 w_1749 i_1750 outN_1752 y5) k lb_1748 i_1750 j) (fun y5 => corbelref11_Restore_l2_E0 K la_1747 lb_1748 w_1749 i_1750 outN_1752 y5) k lb_1748 i_1750 k_1751 out_1753 = _
    rw [e, iter_succ]; kernel_rfl
theorem corbelref11_Restore_l2_ok {R : Type} (k : Nat)  : ObOK (R := R) tab (corbelref11_Restore_F k) (inlK tab (corbelref11_Restore_F k) (corbelref11_Restore_I k) 0) (corbelref11_Restore_O k) (.loop corbelref11_Restore_c2 corbelref11_Restore_x2 2 (obB corbelref11_Restore_b 2) (obH corbelref11_Restore_b 2)) :=
  loop_ok (l := [corbelref11_Restore_l2_a k]) (by kernel_rfl) ⟨(fun K x => ⟨k, (corbelref11_Restore_l2_eq k K x.1.1.1 x.1.1.2 x.1.2.1 x.1.2.2.2.1 x.2.1.1 k x.1.2.2.2.2.1 x.2.1.2).trans (by kernel_rfl)⟩), trivial⟩
theorem corbelref11_Restore_j3_eq {R : Type} (k : Nat) (K : EX → St → Option R) (la_1732 : Bool) (lb_1733 : List ByteArray) (w_1734 : Int) (i_1735 : Int) (outN_1736 : Bool) (out_1737 : List Int) : corbelref11_Restore_j3 (fun y3 => corbelref11_Restore_j3_E0 K la_1732 lb_1733 w_1734 y3 outN_1736 out_1737) k i_1735 = ev tab (corbelref11_Restore_F k) (inlK tab (corbelref11_Restore_F k) (corbelref11_Restore_I k) 0) (corbelref11_Restore_O k) (obB corbelref11_Restore_b 3) (obH corbelref11_Restore_b 3) (corbelref11_Restore_j3_S la_1732 lb_1733 w_1734 i_1735 outN_1736 out_1737) (fun e st => optb (clean corbelref11_Restore_x3 st) fun st => K e st) := by kernel_rfl
theorem corbelref11_Restore_j3_ok {R : Type} (k : Nat)  : ObOK (R := R) tab (corbelref11_Restore_F k) (inlK tab (corbelref11_Restore_F k) (corbelref11_Restore_I k) 0) (corbelref11_Restore_O k) (.join corbelref11_Restore_c3 corbelref11_Restore_x3 3 (obB corbelref11_Restore_b 3) (obH corbelref11_Restore_b 3)) :=
  join_ok (l := [corbelref11_Restore_j3_a k]) (by kernel_rfl) ⟨(fun K x => (corbelref11_Restore_j3_eq k K x.1.1.1 x.1.1.2 x.1.2.1 x.1.2.2.2.1 x.2.1.1 x.2.1.2).trans (by kernel_rfl)), trivial⟩
theorem corbelref11_Restore_cuts {R : Type} (k : Nat) : ∀ c, Try.f13.body = some c → CutsOK (R := R) tab (corbelref11_Restore_F k) (inlK tab (corbelref11_Restore_F k) (corbelref11_Restore_I k) 0) (corbelref11_Restore_O k) c corbelref11_Restore_h :=
  cuts_of (l := [.join corbelref11_Restore_c0 corbelref11_Restore_x0 0 (obB corbelref11_Restore_b 0) (obH corbelref11_Restore_b 0), .loop corbelref11_Restore_c1 corbelref11_Restore_x1 1 (obB corbelref11_Restore_b 1) (obH corbelref11_Restore_b 1), .loop corbelref11_Restore_c2 corbelref11_Restore_x2 2 (obB corbelref11_Restore_b 2) (obH corbelref11_Restore_b 2), .join corbelref11_Restore_c3 corbelref11_Restore_x3 3 (obB corbelref11_Restore_b 3) (obH corbelref11_Restore_b 3)]) (by kernel_rfl) ⟨corbelref11_Restore_j0_ok k, corbelref11_Restore_l1_ok k, corbelref11_Restore_l2_ok k, corbelref11_Restore_j3_ok k, trivial⟩
theorem corbelref11_Restore_iok {R : Type} (k : Nat) : IOK Try.prog tab (corbelref11_Restore_F k) (corbelref11_Restore_I (R := R) k) := iok_none
theorem corbelref11_Restore_ev (k : Nat) (x : (corbelref11_Restore_p k).τ.den) : evalF tab (corbelref11_Restore_F k) (corbelref11_Restore_p k) (corbelref11_Restore_I k) 0 (corbelref11_Restore_O k) corbelref11_Restore_h Try.f13 x = (corbelref11_Restore_p k).f x := by kernel_rfl
theorem corbelref11_Restore_ok (k : Nat) : PFOK Try.prog tab 13 (corbelref11_Restore_p k) := pfok mixed tabOK (corbelref11_Restore_fok k) Try.func13 (I := corbelref11_Restore_I k) (d := 0) (corbelref11_Restore_iok k) (Q := corbelref11_Restore_O k) (hi := corbelref11_Restore_h) (corbelref11_Restore_cuts k) (corbelref11_Restore_ev k)
end Go.Proofs.Ytbgcfcojepfdbaa.Ev
