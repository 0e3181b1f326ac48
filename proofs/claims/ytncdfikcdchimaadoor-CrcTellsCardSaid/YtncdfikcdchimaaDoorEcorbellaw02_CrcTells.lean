/- corbellaw02_CrcTells, told on plain data. Written by program. -/
import Derived.Test.YtncdfikcdchimaaDoorEcorbellaw02_speaks
import Derived.Test.YtncdfikcdchimaaDoorEcrc_Sum
set_option linter.unusedVariables false
set_option maxRecDepth 1000000
namespace Go.Proofs.YtncdfikcdchimaaDoor.Ev
open Go Go.RowKit Go.Proofs
def corbellaw02_CrcTells_j0 {R : Type} (e0 : Bool → Option R) (e1 : Option R) (k : Nat) (v_594 : Bool) : Option R :=
  bif v_594 then
    e0 true
  else e1
def corbellaw02_CrcTells_j2 {R : Type} (e0 : Bool → Option R) (k : Nat) (changed_630 : Bool) (i_631 : Int) (bya_632 : Int) (byb_633 : Int) (byc_634 : Int) (byd_635 : Int) : Option R :=
  bif changed_630 then
    e0 true
  else bif (decide (i_631 = (0 : Int))) then
    e0 (!(decide (bya_632 = (0 : Int))))
  else bif (decide (i_631 = (1 : Int))) then
    e0 (!(decide (byb_633 = (0 : Int))))
  else bif (decide (i_631 = (2 : Int))) then
    e0 (!(decide (byc_634 = (0 : Int))))
  else bif (decide (i_631 = (3 : Int))) then
    e0 (!(decide (byd_635 = (0 : Int))))
  else none
def corbellaw02_CrcTells_j3 {R : Type} (e0 : Int → Option R) (k : Nat) (i_651 : Int) : Option R :=
  e0 (wrap64 (i_651 + (1 : Int)))
def corbellaw02_CrcTells_k2 {R : Type} (rc : Bool → Int → List Int → Option R) (e0 : Bool → List Int → Option R) (k : Nat) (i_616 : Int) : Bool → List Int → Option R := fun changed_640 b_647 =>
  corbellaw02_CrcTells_j3 (fun i_661 =>
    rc changed_640 i_661 b_647) k i_616
def corbellaw02_CrcTells_l1s {R : Type} (rc : Bool → Int → List Int → Option R) (e0 : Bool → List Int → Option R) (k : Nat) (at_614 : Int) (bya_617 : Int) (byb_618 : Int) (byc_619 : Int) (byd_620 : Int) (changed_615 : Bool) (i_616 : Int) (b_622 : List Int) : Option R :=
  bif (decide (i_616 < (4 : Int))) then
    bif (decide (i_616 < (wrap64 ((lenI b_622) - at_614)))) then
      bif ((decide ((0 : Int) ≤ (wrap64 (at_614 + i_616)))) && (decide ((wrap64 (at_614 + i_616)) < (lenI b_622)))) then
        optb (b_622[(wrap64 (at_614 + i_616)).toNat]?) fun x_625 =>
        bif (decide (i_616 = (0 : Int))) then
          bif ((decide ((0 : Int) ≤ (wrap64 (at_614 + i_616)))) && (decide ((wrap64 (at_614 + i_616)) < (lenI b_622)))) then
            optb (b_622[(wrap64 (at_614 + i_616)).toNat]?) fun x_626 =>
            corbellaw02_CrcTells_j2 (fun changed_640 => corbellaw02_CrcTells_k2 rc e0 k i_616 changed_640 (List.set b_622 (wrap64 (at_614 + i_616)).toNat (bitop .xor .u8 x_625 bya_617))) k changed_615 i_616 bya_617 byb_618 byc_619 byd_620
          else none
        else bif (decide (i_616 = (1 : Int))) then
          bif ((decide ((0 : Int) ≤ (wrap64 (at_614 + i_616)))) && (decide ((wrap64 (at_614 + i_616)) < (lenI b_622)))) then
            optb (b_622[(wrap64 (at_614 + i_616)).toNat]?) fun x_668 =>
            corbellaw02_CrcTells_j2 (fun changed_640 => corbellaw02_CrcTells_k2 rc e0 k i_616 changed_640 (List.set b_622 (wrap64 (at_614 + i_616)).toNat (bitop .xor .u8 x_625 byb_618))) k changed_615 i_616 bya_617 byb_618 byc_619 byd_620
          else none
        else bif (decide (i_616 = (2 : Int))) then
          bif ((decide ((0 : Int) ≤ (wrap64 (at_614 + i_616)))) && (decide ((wrap64 (at_614 + i_616)) < (lenI b_622)))) then
            optb (b_622[(wrap64 (at_614 + i_616)).toNat]?) fun x_670 =>
            corbellaw02_CrcTells_j2 (fun changed_640 => corbellaw02_CrcTells_k2 rc e0 k i_616 changed_640 (List.set b_622 (wrap64 (at_614 + i_616)).toNat (bitop .xor .u8 x_625 byc_619))) k changed_615 i_616 bya_617 byb_618 byc_619 byd_620
          else none
        else bif (decide (i_616 = (3 : Int))) then
          bif ((decide ((0 : Int) ≤ (wrap64 (at_614 + i_616)))) && (decide ((wrap64 (at_614 + i_616)) < (lenI b_622)))) then
            optb (b_622[(wrap64 (at_614 + i_616)).toNat]?) fun x_672 =>
            corbellaw02_CrcTells_j2 (fun changed_640 => corbellaw02_CrcTells_k2 rc e0 k i_616 changed_640 (List.set b_622 (wrap64 (at_614 + i_616)).toNat (bitop .xor .u8 x_625 byd_620))) k changed_615 i_616 bya_617 byb_618 byc_619 byd_620
          else none
        else none
      else none
    else e0 changed_615 b_622
  else e0 changed_615 b_622
def corbellaw02_CrcTells_l1 {R : Type} (e0 : Bool → List Int → Option R) (k : Nat) (at_614 : Int) (bya_617 : Int) (byb_618 : Int) (byc_619 : Int) (byd_620 : Int) : Nat → Bool → Int → List Int → Option R
  | 0 => fun _ _ _ => none
  | j + 1 => corbellaw02_CrcTells_l1s (corbellaw02_CrcTells_l1 e0 k at_614 bya_617 byb_618 byc_619 byd_620 j) e0 k at_614 bya_617 byb_618 byc_619 byd_620
def corbellaw02_CrcTells_k0 (k : Nat) : Bool → Option Bool := fun v_601 =>
  some v_601
def corbellaw02_CrcTells_k1 (k : Nat) (at_237 : Int) (bya_238 : Int) (byb_239 : Int) (byc_240 : Int) (byd_241 : Int) (s_236 : ByteArray) : Option Bool := 
  bif (decide ((sizeI s_236) = (0 : Int))) then
    none
  else bif (decide ((sizeI s_236) = (0 : Int))) then
    none
  else bif (decide (s_236.size ≤ 1099511627776)) then
    corbellaw02_CrcTells_l1 (fun changed_675 b_681 =>
      optb (crc_Sum k false ([(bytesOf b_681)] : List ByteArray)) fun r_682 =>
      optb (crc_Sum k false ([s_236] : List ByteArray)) fun r_683 =>
      some (changed_675 == (!(decide (r_682 = r_683))))) k (Int.tmod (wrap64 ((Int.tmod at_237 (sizeI s_236)) + (sizeI s_236))) (sizeI s_236)) bya_238 byb_239 byc_240 byd_241 k false (0 : Int) (intsOf s_236)
  else none
def corbellaw02_CrcTells (k : Nat) (s_236 : ByteArray) (at_237 : Int) (bya_238 : Int) (byb_239 : Int) (byc_240 : Int) (byd_241 : Int) : Option Bool :=
  optb (corbellaw02_speaks k) fun r_591 =>
  bif (!r_591) then
    some false
  else bif (decide ((sizeI s_236) = (0 : Int))) then
    corbellaw02_CrcTells_j0 (corbellaw02_CrcTells_k0 k) (corbellaw02_CrcTells_k1 k at_237 bya_238 byb_239 byc_240 byd_241 s_236) k true
  else corbellaw02_CrcTells_j0 (corbellaw02_CrcTells_k0 k) (corbellaw02_CrcTells_k1 k at_237 bya_238 byb_239 byc_240 byd_241 s_236) k (decide ((5000 : Int) < (sizeI s_236)))
def corbellaw02_CrcTells_p (k : Nat) : PF := { ps := [(false, 1), (false, 1), (true, 4)], rs := [(false, 1)], τ := (.pair .str (.pair (.int .i64) (.pair (.int .u8) (.pair (.int .u8) (.pair (.int .u8) (.int .u8)))))), σ := .bool, f := fun x => corbellaw02_CrcTells k x.1 x.2.1 x.2.2.1 x.2.2.2.1 x.2.2.2.2.1 x.2.2.2.2.2 }
def corbellaw02_CrcTells_F (k : Nat) : PT := fcons 8 (corbellaw02_speaks_p k) <| fcons 10 (crc_Sum_p k) <| fbase [(9, 30)] false
theorem corbellaw02_CrcTells_fok (k : Nat) : FOK Tryd.prog tab (corbellaw02_CrcTells_F k) := fok_cons (corbellaw02_speaks_ok k) Tryd.call8 <| fok_cons (crc_Sum_ok k) Tryd.call10 <| fok_base
def corbellaw02_CrcTells_c0 : Cl := { keep := [0, 1, 5, 19], hl := 1, ad := [], adc := [], bump := [] }
def corbellaw02_CrcTells_x0 : Cl := { keep := [0, 1, 5, 6], hl := 1, ad := [], adc := [], bump := [] }
def corbellaw02_CrcTells_c1 : Cl := { keep := [0, 1, 5, 7, 8, 9], hl := 2, ad := [], adc := [], bump := [] }
def corbellaw02_CrcTells_x1 : Cl := { keep := [0, 7, 8], hl := 2, ad := [], adc := [], bump := [] }
def corbellaw02_CrcTells_c2 : Cl := { keep := [0, 1, 5, 7, 8, 9], hl := 2, ad := [], adc := [], bump := [] }
def corbellaw02_CrcTells_x2 : Cl := { keep := [0, 1, 5, 7, 8, 9], hl := 2, ad := [], adc := [], bump := [] }
def corbellaw02_CrcTells_c3 : Cl := { keep := [0, 1, 5, 7, 8, 9], hl := 2, ad := [], adc := [], bump := [] }
def corbellaw02_CrcTells_x3 : Cl := { keep := [0, 1, 5, 7, 8, 9], hl := 2, ad := [], adc := [], bump := [] }
def corbellaw02_CrcTells_h : Hint := (.sq .no (.sq .no (.sq (.ct corbellaw02_CrcTells_c0 corbellaw02_CrcTells_x0 0 .no .no) (.sq .no (.sq .no (.sq .no (.sq (.sq .no (.lp corbellaw02_CrcTells_c1 corbellaw02_CrcTells_x1 1 (.sq .no (.ct corbellaw02_CrcTells_c3 corbellaw02_CrcTells_x3 3 (.ct corbellaw02_CrcTells_c2 corbellaw02_CrcTells_x2 2 .no .no) .no)))) .no)))))))
def corbellaw02_CrcTells_j0_E0 {R : Type} (K : EX → St → Option R) : ByteArray → Int → Bool → Int → Int → Int → Int → Option R := fun v0 v1 v2 v3 v4 v5 v6 => K .ret (mkSt 72 [] corbellaw02_CrcTells_x0.keep [.str v0, .int .i64 v1, .ptr 0 0, .bool v2] [.blk [.int .u8 v3, .int .u8 v4, .int .u8 v5, .int .u8 v6]])
def corbellaw02_CrcTells_j0_E1 {R : Type} (K : EX → St → Option R) : ByteArray → Int → Int → Int → Int → Int → Option R := fun v0 v1 v2 v3 v4 v5 => K .normal (mkSt 72 [] corbellaw02_CrcTells_x0.keep [.str v0, .int .i64 v1, .ptr 0 0, .junk] [.blk [.int .u8 v2, .int .u8 v3, .int .u8 v4, .int .u8 v5]])
def corbellaw02_CrcTells_j0_S (s_592 : ByteArray) (at_593 : Int) (v_594 : Bool) (bya_595 : Int) (byb_596 : Int) (byc_597 : Int) (byd_598 : Int) : St := mkSt 72 [] corbellaw02_CrcTells_c0.keep [.str s_592, .int .i64 at_593, .ptr 0 0, .bool v_594] [.blk [.int .u8 bya_595, .int .u8 byb_596, .int .u8 byc_597, .int .u8 byd_598]]
def corbellaw02_CrcTells_j0_sh : Rd (List AV × List HE) := .pair (.cons .str (.cons (.int .i64) (.cons (.ptr 0 0) (.cons .bool Rd.nil)))) (.cons (.blk (.cons (.int .u8) (.cons (.int .u8) (.cons (.int .u8) (.cons (.int .u8) Rd.nil))))) Rd.nil)
def corbellaw02_CrcTells_j0_a {R : Type} (k : Nat) : Alt R := { n := 72, v := [], sh := corbellaw02_CrcTells_j0_sh, g := fun K x => corbellaw02_CrcTells_j0 (fun y2 => corbellaw02_CrcTells_j0_E0 K x.1.1 x.1.2.1 y2 x.2.1.1 x.2.1.2.1 x.2.1.2.2.1 x.2.1.2.2.2.1) (corbellaw02_CrcTells_j0_E1 K x.1.1 x.1.2.1 x.2.1.1 x.2.1.2.1 x.2.1.2.2.1 x.2.1.2.2.2.1) k x.1.2.2.2.1 }
def corbellaw02_CrcTells_l1_E0 {R : Type} (K : EX → St → Option R) : ByteArray → Bool → Int → Int → Int → Int → Bool → List Int → Option R := fun v0 v1 v2 v3 v4 v5 v6 v7 => K (.exit 0) (mkSt 72 [] corbellaw02_CrcTells_x1.keep [.str v0, .own 1 1, .bool v1] [.blk [.int .u8 v2, .int .u8 v3, .int .u8 v4, .int .u8 v5], .lst (.int .u8) 1099511627781 v6 1 v7])
def corbellaw02_CrcTells_l1_S (s_613 : ByteArray) (at_614 : Int) (changed_615 : Bool) (i_616 : Int) (bya_617 : Int) (byb_618 : Int) (byc_619 : Int) (byd_620 : Int) (bN_621 : Bool) (b_622 : List Int) : St := mkSt 72 [] corbellaw02_CrcTells_c1.keep [.str s_613, .int .i64 at_614, .ptr 0 0, .own 1 1, .bool changed_615, .int .i64 i_616] [.blk [.int .u8 bya_617, .int .u8 byb_618, .int .u8 byc_619, .int .u8 byd_620], .lst (.int .u8) 1099511627781 bN_621 1 b_622]
def corbellaw02_CrcTells_l1_sh : Rd (List AV × List HE) := .pair (.cons .str (.cons (.int .i64) (.cons (.ptr 0 0) (.cons (.own 1 1) (.cons .bool (.cons (.int .i64) Rd.nil)))))) (.cons (.blk (.cons (.int .u8) (.cons (.int .u8) (.cons (.int .u8) (.cons (.int .u8) Rd.nil))))) (.cons (.lst (.int .u8) 1099511627781 1) Rd.nil))
def corbellaw02_CrcTells_l1_a {R : Type} (k : Nat) : Alt R := { n := 72, v := [], sh := corbellaw02_CrcTells_l1_sh, g := fun K x => corbellaw02_CrcTells_l1 (fun y1 y7 => corbellaw02_CrcTells_l1_E0 K x.1.1 y1 x.2.1.1 x.2.1.2.1 x.2.1.2.2.1 x.2.1.2.2.2.1 x.2.2.1.1 y7) k x.1.2.1 x.2.1.1 x.2.1.2.1 x.2.1.2.2.1 x.2.1.2.2.2.1 k x.1.2.2.2.2.1 x.1.2.2.2.2.2.1 x.2.2.1.2 }
def corbellaw02_CrcTells_j2_E0 {R : Type} (K : EX → St → Option R) : ByteArray → Int → Bool → Int → Int → Int → Int → Int → Bool → List Int → Option R := fun v0 v1 v2 v3 v4 v5 v6 v7 v8 v9 => K .normal (mkSt 72 [] corbellaw02_CrcTells_x2.keep [.str v0, .int .i64 v1, .ptr 0 0, .own 1 1, .bool v2, .int .i64 v3] [.blk [.int .u8 v4, .int .u8 v5, .int .u8 v6, .int .u8 v7], .lst (.int .u8) 1099511627781 v8 1 v9])
def corbellaw02_CrcTells_j2_S (s_628 : ByteArray) (at_629 : Int) (changed_630 : Bool) (i_631 : Int) (bya_632 : Int) (byb_633 : Int) (byc_634 : Int) (byd_635 : Int) (bN_636 : Bool) (b_637 : List Int) : St := mkSt 72 [] corbellaw02_CrcTells_c2.keep [.str s_628, .int .i64 at_629, .ptr 0 0, .own 1 1, .bool changed_630, .int .i64 i_631] [.blk [.int .u8 bya_632, .int .u8 byb_633, .int .u8 byc_634, .int .u8 byd_635], .lst (.int .u8) 1099511627781 bN_636 1 b_637]
def corbellaw02_CrcTells_j2_sh : Rd (List AV × List HE) := .pair (.cons .str (.cons (.int .i64) (.cons (.ptr 0 0) (.cons (.own 1 1) (.cons .bool (.cons (.int .i64) Rd.nil)))))) (.cons (.blk (.cons (.int .u8) (.cons (.int .u8) (.cons (.int .u8) (.cons (.int .u8) Rd.nil))))) (.cons (.lst (.int .u8) 1099511627781 1) Rd.nil))
def corbellaw02_CrcTells_j2_a {R : Type} (k : Nat) : Alt R := { n := 72, v := [], sh := corbellaw02_CrcTells_j2_sh, g := fun K x => corbellaw02_CrcTells_j2 (fun y2 => corbellaw02_CrcTells_j2_E0 K x.1.1 x.1.2.1 y2 x.1.2.2.2.2.2.1 x.2.1.1 x.2.1.2.1 x.2.1.2.2.1 x.2.1.2.2.2.1 x.2.2.1.1 x.2.2.1.2) k x.1.2.2.2.2.1 x.1.2.2.2.2.2.1 x.2.1.1 x.2.1.2.1 x.2.1.2.2.1 x.2.1.2.2.2.1 }
def corbellaw02_CrcTells_j3_E0 {R : Type} (K : EX → St → Option R) : ByteArray → Int → Bool → Int → Int → Int → Int → Int → Bool → List Int → Option R := fun v0 v1 v2 v3 v4 v5 v6 v7 v8 v9 => K .normal (mkSt 72 [] corbellaw02_CrcTells_x3.keep [.str v0, .int .i64 v1, .ptr 0 0, .own 1 1, .bool v2, .int .i64 v3] [.blk [.int .u8 v4, .int .u8 v5, .int .u8 v6, .int .u8 v7], .lst (.int .u8) 1099511627781 v8 1 v9])
def corbellaw02_CrcTells_j3_S (s_648 : ByteArray) (at_649 : Int) (changed_650 : Bool) (i_651 : Int) (bya_652 : Int) (byb_653 : Int) (byc_654 : Int) (byd_655 : Int) (bN_656 : Bool) (b_657 : List Int) : St := mkSt 72 [] corbellaw02_CrcTells_c3.keep [.str s_648, .int .i64 at_649, .ptr 0 0, .own 1 1, .bool changed_650, .int .i64 i_651] [.blk [.int .u8 bya_652, .int .u8 byb_653, .int .u8 byc_654, .int .u8 byd_655], .lst (.int .u8) 1099511627781 bN_656 1 b_657]
def corbellaw02_CrcTells_j3_sh : Rd (List AV × List HE) := .pair (.cons .str (.cons (.int .i64) (.cons (.ptr 0 0) (.cons (.own 1 1) (.cons .bool (.cons (.int .i64) Rd.nil)))))) (.cons (.blk (.cons (.int .u8) (.cons (.int .u8) (.cons (.int .u8) (.cons (.int .u8) Rd.nil))))) (.cons (.lst (.int .u8) 1099511627781 1) Rd.nil))
def corbellaw02_CrcTells_j3_a {R : Type} (k : Nat) : Alt R := { n := 72, v := [], sh := corbellaw02_CrcTells_j3_sh, g := fun K x => corbellaw02_CrcTells_j3 (fun y3 => corbellaw02_CrcTells_j3_E0 K x.1.1 x.1.2.1 x.1.2.2.2.2.1 y3 x.2.1.1 x.2.1.2.1 x.2.1.2.2.1 x.2.1.2.2.2.1 x.2.2.1.1 x.2.2.1.2) k x.1.2.2.2.2.2.1 }
def corbellaw02_CrcTells_O {R : Type} (k : Nat) : CutK R := cutsO [[corbellaw02_CrcTells_j0_a k], [corbellaw02_CrcTells_l1_a k], [corbellaw02_CrcTells_j2_a k], [corbellaw02_CrcTells_j3_a k]]
noncomputable def corbellaw02_CrcTells_b : List Ob := obs (bodyOf Tryd.f4) corbellaw02_CrcTells_h
noncomputable def corbellaw02_CrcTells_I {R : Type} (k : Nat) : InlT R := inone
theorem corbellaw02_CrcTells_j0_eq {R : Type} (k : Nat) (K : EX → St → Option R) (s_592 : ByteArray) (at_593 : Int) (v_594 : Bool) (bya_595 : Int) (byb_596 : Int) (byc_597 : Int) (byd_598 : Int) : corbellaw02_CrcTells_j0 (fun y2 => corbellaw02_CrcTells_j0_E0 K s_592 at_593 y2 bya_595 byb_596 byc_597 byd_598) (corbellaw02_CrcTells_j0_E1 K s_592 at_593 bya_595 byb_596 byc_597 byd_598) k v_594 = ev tab (corbellaw02_CrcTells_F k) (inlK tab (corbellaw02_CrcTells_F k) (corbellaw02_CrcTells_I k) 0) (corbellaw02_CrcTells_O k) (obB corbellaw02_CrcTells_b 0) (obH corbellaw02_CrcTells_b 0) (corbellaw02_CrcTells_j0_S s_592 at_593 v_594 bya_595 byb_596 byc_597 byd_598) (fun e st => optb (clean corbellaw02_CrcTells_x0 st) fun st => K e st) := by kernel_rfl
theorem corbellaw02_CrcTells_j0_ok {R : Type} (k : Nat)  : ObOK (R := R) tab (corbellaw02_CrcTells_F k) (inlK tab (corbellaw02_CrcTells_F k) (corbellaw02_CrcTells_I k) 0) (corbellaw02_CrcTells_O k) (.join corbellaw02_CrcTells_c0 corbellaw02_CrcTells_x0 0 (obB corbellaw02_CrcTells_b 0) (obH corbellaw02_CrcTells_b 0)) :=
  join_ok (l := [corbellaw02_CrcTells_j0_a k]) (by kernel_rfl) ⟨(fun K x => (corbellaw02_CrcTells_j0_eq k K x.1.1 x.1.2.1 x.1.2.2.2.1 x.2.1.1 x.2.1.2.1 x.2.1.2.2.1 x.2.1.2.2.2.1).trans (by kernel_rfl)), trivial⟩
theorem corbellaw02_CrcTells_l1_eq {R : Type} (k : Nat) (K : EX → St → Option R) (s_613 : ByteArray) (at_614 : Int) (bya_617 : Int) (byb_618 : Int) (byc_619 : Int) (byd_620 : Int) (bN_621 : Bool) : ∀ (j : Nat) (changed_615 : Bool) (i_616 : Int) (b_622 : List Int), corbellaw02_CrcTells_l1 (fun y1 y7 => corbellaw02_CrcTells_l1_E0 K s_613 y1 bya_617 byb_618 byc_619 byd_620 bN_621 y7) k at_614 bya_617 byb_618 byc_619 byd_620 j changed_615 i_616 b_622 = iter corbellaw02_CrcTells_c1 corbellaw02_CrcTells_x1 (ev tab (corbellaw02_CrcTells_F k) (inlK tab (corbellaw02_CrcTells_F k) (corbellaw02_CrcTells_I k) 0) (corbellaw02_CrcTells_O k) (obB corbellaw02_CrcTells_b 1) (obH corbellaw02_CrcTells_b 1)) j (corbellaw02_CrcTells_l1_S s_613 at_614 changed_615 i_616 bya_617 byb_618 byc_619 byd_620 bN_621 b_622) K
  | 0, _, _, _ => rfl
  | j + 1, changed_615, i_616, b_622 => by
    have e : corbellaw02_CrcTells_l1 (fun y1 y7 => corbellaw02_CrcTells_l1_E0 K s_613 y1 bya_617 byb_618 byc_619 byd_620 bN_621 y7) k at_614 bya_617 byb_618 byc_619 byd_620 j = fun changed_615 i_616 b_622 => iter corbellaw02_CrcTells_c1 corbellaw02_CrcTells_x1 (ev tab (corbellaw02_CrcTells_F k) (inlK tab (corbellaw02_CrcTells_F k) (corbellaw02_CrcTells_I k) 0) (corbellaw02_CrcTells_O k) (obB corbellaw02_CrcTells_b 1) (obH corbellaw02_CrcTells_b 1)) j (corbellaw02_CrcTells_l1_S s_613 at_614 changed_615 i_616 bya_617 byb_618 byc_619 byd_620 bN_621 b_622) K := by funext changed_615 i_616 b_622; exact corbellaw02_CrcTells_l1_eq k K s_613 at_614 bya_617 byb_618 byc_619 byd_620 bN_621 j changed_615 i_616 b_622
    show corbellaw02_CrcTells_l1s (corbellaw02_CrcTells_l1 (fun y1 y7 => corbellaw02_CrcTells_l1_E0 K s_613 y1 bya_617 byb_618 byc_619 byd_620 bN_621 y7) k at_614 bya_617 byb_618 byc_619 byd_620 j) (fun y1 y7 => corbellaw02_CrcTells_l1_E0 K s_613 y1 bya_617 byb_618 byc_619 byd_620 bN_621 y7) k at_614 bya_617 byb_618 byc_619 byd_620 changed_615 i_616 b_622 = _
    rw [e, iter_succ]; kernel_rfl
theorem corbellaw02_CrcTells_l1_ok {R : Type} (k : Nat)  : ObOK (R := R) tab (corbellaw02_CrcTells_F k) (inlK tab (corbellaw02_CrcTells_F k) (corbellaw02_CrcTells_I k) 0) (corbellaw02_CrcTells_O k) (.loop corbellaw02_CrcTells_c1 corbellaw02_CrcTells_x1 1 (obB corbellaw02_CrcTells_b 1) (obH corbellaw02_CrcTells_b 1)) :=
  loop_ok (l := [corbellaw02_CrcTells_l1_a k]) (by kernel_rfl) ⟨(fun K x => ⟨k, (corbellaw02_CrcTells_l1_eq k K x.1.1 x.1.2.1 x.2.1.1 x.2.1.2.1 x.2.1.2.2.1 x.2.1.2.2.2.1 x.2.2.1.1 k x.1.2.2.2.2.1 x.1.2.2.2.2.2.1 x.2.2.1.2).trans (by kernel_rfl)⟩), trivial⟩
theorem corbellaw02_CrcTells_j2_eq {R : Type} (k : Nat) (K : EX → St → Option R) (s_628 : ByteArray) (at_629 : Int) (changed_630 : Bool) (i_631 : Int) (bya_632 : Int) (byb_633 : Int) (byc_634 : Int) (byd_635 : Int) (bN_636 : Bool) (b_637 : List Int) : corbellaw02_CrcTells_j2 (fun y2 => corbellaw02_CrcTells_j2_E0 K s_628 at_629 y2 i_631 bya_632 byb_633 byc_634 byd_635 bN_636 b_637) k changed_630 i_631 bya_632 byb_633 byc_634 byd_635 = ev tab (corbellaw02_CrcTells_F k) (inlK tab (corbellaw02_CrcTells_F k) (corbellaw02_CrcTells_I k) 0) (corbellaw02_CrcTells_O k) (obB corbellaw02_CrcTells_b 2) (obH corbellaw02_CrcTells_b 2) (corbellaw02_CrcTells_j2_S s_628 at_629 changed_630 i_631 bya_632 byb_633 byc_634 byd_635 bN_636 b_637) (fun e st => optb (clean corbellaw02_CrcTells_x2 st) fun st => K e st) := by kernel_rfl
theorem corbellaw02_CrcTells_j2_ok {R : Type} (k : Nat)  : ObOK (R := R) tab (corbellaw02_CrcTells_F k) (inlK tab (corbellaw02_CrcTells_F k) (corbellaw02_CrcTells_I k) 0) (corbellaw02_CrcTells_O k) (.join corbellaw02_CrcTells_c2 corbellaw02_CrcTells_x2 2 (obB corbellaw02_CrcTells_b 2) (obH corbellaw02_CrcTells_b 2)) :=
  join_ok (l := [corbellaw02_CrcTells_j2_a k]) (by kernel_rfl) ⟨(fun K x => (corbellaw02_CrcTells_j2_eq k K x.1.1 x.1.2.1 x.1.2.2.2.2.1 x.1.2.2.2.2.2.1 x.2.1.1 x.2.1.2.1 x.2.1.2.2.1 x.2.1.2.2.2.1 x.2.2.1.1 x.2.2.1.2).trans (by kernel_rfl)), trivial⟩
theorem corbellaw02_CrcTells_j3_eq {R : Type} (k : Nat) (K : EX → St → Option R) (s_648 : ByteArray) (at_649 : Int) (changed_650 : Bool) (i_651 : Int) (bya_652 : Int) (byb_653 : Int) (byc_654 : Int) (byd_655 : Int) (bN_656 : Bool) (b_657 : List Int) : corbellaw02_CrcTells_j3 (fun y3 => corbellaw02_CrcTells_j3_E0 K s_648 at_649 changed_650 y3 bya_652 byb_653 byc_654 byd_655 bN_656 b_657) k i_651 = ev tab (corbellaw02_CrcTells_F k) (inlK tab (corbellaw02_CrcTells_F k) (corbellaw02_CrcTells_I k) 0) (corbellaw02_CrcTells_O k) (obB corbellaw02_CrcTells_b 3) (obH corbellaw02_CrcTells_b 3) (corbellaw02_CrcTells_j3_S s_648 at_649 changed_650 i_651 bya_652 byb_653 byc_654 byd_655 bN_656 b_657) (fun e st => optb (clean corbellaw02_CrcTells_x3 st) fun st => K e st) := by kernel_rfl
theorem corbellaw02_CrcTells_j3_ok {R : Type} (k : Nat)  : ObOK (R := R) tab (corbellaw02_CrcTells_F k) (inlK tab (corbellaw02_CrcTells_F k) (corbellaw02_CrcTells_I k) 0) (corbellaw02_CrcTells_O k) (.join corbellaw02_CrcTells_c3 corbellaw02_CrcTells_x3 3 (obB corbellaw02_CrcTells_b 3) (obH corbellaw02_CrcTells_b 3)) :=
  join_ok (l := [corbellaw02_CrcTells_j3_a k]) (by kernel_rfl) ⟨(fun K x => (corbellaw02_CrcTells_j3_eq k K x.1.1 x.1.2.1 x.1.2.2.2.2.1 x.1.2.2.2.2.2.1 x.2.1.1 x.2.1.2.1 x.2.1.2.2.1 x.2.1.2.2.2.1 x.2.2.1.1 x.2.2.1.2).trans (by kernel_rfl)), trivial⟩
theorem corbellaw02_CrcTells_cuts {R : Type} (k : Nat) : ∀ c, Tryd.f4.body = some c → CutsOK (R := R) tab (corbellaw02_CrcTells_F k) (inlK tab (corbellaw02_CrcTells_F k) (corbellaw02_CrcTells_I k) 0) (corbellaw02_CrcTells_O k) c corbellaw02_CrcTells_h :=
  cuts_of (l := [.join corbellaw02_CrcTells_c0 corbellaw02_CrcTells_x0 0 (obB corbellaw02_CrcTells_b 0) (obH corbellaw02_CrcTells_b 0), .loop corbellaw02_CrcTells_c1 corbellaw02_CrcTells_x1 1 (obB corbellaw02_CrcTells_b 1) (obH corbellaw02_CrcTells_b 1), .join corbellaw02_CrcTells_c2 corbellaw02_CrcTells_x2 2 (obB corbellaw02_CrcTells_b 2) (obH corbellaw02_CrcTells_b 2), .join corbellaw02_CrcTells_c3 corbellaw02_CrcTells_x3 3 (obB corbellaw02_CrcTells_b 3) (obH corbellaw02_CrcTells_b 3)]) (by kernel_rfl) ⟨corbellaw02_CrcTells_j0_ok k, corbellaw02_CrcTells_l1_ok k, corbellaw02_CrcTells_j2_ok k, corbellaw02_CrcTells_j3_ok k, trivial⟩
theorem corbellaw02_CrcTells_iok {R : Type} (k : Nat) : IOK Tryd.prog tab (corbellaw02_CrcTells_F k) (corbellaw02_CrcTells_I (R := R) k) := iok_none
theorem corbellaw02_CrcTells_ev (k : Nat) (x : (corbellaw02_CrcTells_p k).τ.den) : evalF tab (corbellaw02_CrcTells_F k) (corbellaw02_CrcTells_p k) (corbellaw02_CrcTells_I k) 0 (corbellaw02_CrcTells_O k) corbellaw02_CrcTells_h Tryd.f4 x = (corbellaw02_CrcTells_p k).f x := by kernel_rfl
theorem corbellaw02_CrcTells_ok (k : Nat) : PFOK Tryd.prog tab 4 (corbellaw02_CrcTells_p k) := pfok mixed tabOK (corbellaw02_CrcTells_fok k) Tryd.func4 (I := corbellaw02_CrcTells_I k) (d := 0) (corbellaw02_CrcTells_iok k) (Q := corbellaw02_CrcTells_O k) (hi := corbellaw02_CrcTells_h) (corbellaw02_CrcTells_cuts k) (corbellaw02_CrcTells_ev k)
end Go.Proofs.YtncdfikcdchimaaDoor.Ev
