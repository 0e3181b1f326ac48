/- book_Book_Free, told on plain data. Written by program. -/
import Derived.Test.YthilffdaofaalaaEtab
set_option linter.unusedVariables false
set_option maxRecDepth 1000000
namespace Go.Proofs.Ythilffdaofaalaa.Ev
open Go Go.RowKit Go.Proofs
def book_Book_Free_i71_3_l0s {R : Type} (rc : Int → Option R) (e0 : Int → Option R) (e1 : Option R) (k : Nat) (sb_2633 : List (Int × (Int × Int))) (v_2634 : Int) (h_2648 : Int) (v_2635 : Int) : Option R :=
  bif (decide (v_2635 < v_2634)) then
    bif (decide ((0 : Int) ≤ v_2635)) then
      optb (sb_2633[v_2635.toNat]?) fun x_2651 =>
      bif (decide (x_2651.1 = h_2648)) then
        e0 v_2635
      else rc (wrap64 (v_2635 + (1 : Int)))
    else none
  else e1
def book_Book_Free_i71_3_l0 {R : Type} (e0 : Int → Option R) (e1 : Option R) (k : Nat) (sb_2633 : List (Int × (Int × Int))) (v_2634 : Int) (h_2648 : Int) : Nat → Int → Option R
  | 0 => fun _ => none
  | j + 1 => book_Book_Free_i71_3_l0s (book_Book_Free_i71_3_l0 e0 e1 k sb_2633 v_2634 h_2648 j) e0 e1 k sb_2633 v_2634 h_2648
def book_Book_Free_l0s {R : Type} (rc : Int → Option R) (e0 : Int → Option R) (e1 : Option R) (k : Nat) (bc_2621 : List (Int × (Int × Int))) (gb_2627 : Int) (p_2631 : Int) : Option R :=
  bif (decide (p_2631 < gb_2627)) then
    book_Book_Free_i71_3_l0 (fun v_2652 =>
      bif (!(decide ((0 : Int) ≤ v_2652))) then
        e0 p_2631
      else rc (wrap64 (p_2631 + (1 : Int)))) (e0 p_2631) k bc_2621 (lenI bc_2621) p_2631 k (0 : Int)
  else e1
def book_Book_Free_l0 {R : Type} (e0 : Int → Option R) (e1 : Option R) (k : Nat) (bc_2621 : List (Int × (Int × Int))) (gb_2627 : Int) : Nat → Int → Option R
  | 0 => fun _ => none
  | j + 1 => book_Book_Free_l0s (book_Book_Free_l0 e0 e1 k bc_2621 gb_2627 j) e0 e1 k bc_2621 gb_2627
def book_Book_Free (k : Nat) (ba_2467 : Int) (bb_2468 : Bool) (bc_2469 : List (Int × (Int × Int))) (bd_2470 : Bool) (be_2471 : List Int) (bf_2472 : Int) (bg_2473 : Int) (ga_2474 : Int) (gb_2475 : Int) (gc_2476 : Int) (gd_2477 : Int) (ge_2478 : Int) : Option Int :=
  book_Book_Free_l0 (fun v_2679 =>
    some v_2679) (some (-1 : Int)) k bc_2469 gb_2475 k (2 : Int)
def book_Book_Free_p (k : Nat) : PF := { ps := [(true, 5), (true, 5)], rs := [(false, 1)], τ := (.pair (.pair (.int .i64) (.pair (.sl (.pair (.int .i64) (.pair (.int .i64) (.int .i64)))) (.pair (.sl (.int .i64)) (.pair (.int .i64) (.int .i64))))) (.pair (.int .i64) (.pair (.int .i64) (.pair (.int .i64) (.pair (.int .i64) (.int .i64)))))), σ := (.int .i64), f := fun x => book_Book_Free k x.1.1 x.1.2.1.1 x.1.2.1.2 x.1.2.2.1.1 x.1.2.2.1.2 x.1.2.2.2.1 x.1.2.2.2.2 x.2.1 x.2.2.1 x.2.2.2.1 x.2.2.2.2.1 x.2.2.2.2.2 }
def book_Book_Free_F (k : Nat) : PT := fnone
theorem book_Book_Free_fok (k : Nat) : FOK Try.prog tab (book_Book_Free_F k) := fok_none
def book_Book_Free_c0 : Cl := { keep := [2, 3, 5], hl := 3, ad := [], adc := [], bump := [], sw := [(5, 2)] }
def book_Book_Free_x0 : Cl := { keep := [4], hl := 0, ad := [], adc := [], bump := [] }
def book_Book_Free_h : Hint := (.sq .no (.sq (.sq .no (.lp book_Book_Free_c0 book_Book_Free_x0 0 .no)) .no))
def book_Book_Free_l0_E0 {R : Type} (K : EX → St → Option R) : Int → Option R := fun v0 => K .ret (mkSt 19 [] book_Book_Free_x0.keep [.int .i64 v0] [])
def book_Book_Free_l0_E1 {R : Type} (K : EX → St → Option R) : Option R := K (.exit 0) (mkSt 19 [] book_Book_Free_x0.keep [.junk] [])
def book_Book_Free_l0_S (ba_2619 : Int) (bb_2620 : Bool) (bc_2621 : List (Int × (Int × Int))) (bd_2622 : Bool) (be_2623 : List Int) (bf_2624 : Int) (bg_2625 : Int) (ga_2626 : Int) (gb_2627 : Int) (gc_2628 : Int) (gd_2629 : Int) (ge_2630 : Int) (p_2631 : Int) : St := mkSt 19 [] book_Book_Free_c0.keep [.ptr 0 0, .ptr 1 0, .ptr 2 0] [.blk [.int .i64 ba_2619, .sl (.pair (.int .i64) (.pair (.int .i64) (.int .i64))) bb_2620 bc_2621, .sl (.int .i64) bd_2622 be_2623, .int .i64 bf_2624, .int .i64 bg_2625], .blk [.int .i64 ga_2626, .int .i64 gb_2627, .int .i64 gc_2628, .int .i64 gd_2629, .int .i64 ge_2630], .blk [.int .i64 p_2631]]
def book_Book_Free_l0_sh : Rd (List AV × List HE) := .pair (.cons (.ptr 0 0) (.cons (.ptr 1 0) (.cons (.ptr 2 0) Rd.nil))) (.cons (.blk (.cons (.int .i64) (.cons (.sl (.pair (.int .i64) (.pair (.int .i64) (.int .i64)))) (.cons (.sl (.int .i64)) (.cons (.int .i64) (.cons (.int .i64) Rd.nil)))))) (.cons (.blk (.cons (.int .i64) (.cons (.int .i64) (.cons (.int .i64) (.cons (.int .i64) (.cons (.int .i64) Rd.nil)))))) (.cons (.blk (.cons (.int .i64) Rd.nil)) Rd.nil)))
def book_Book_Free_l0_a {R : Type} (k : Nat) : Alt R := { n := 19, v := [], sh := book_Book_Free_l0_sh, g := fun K x => book_Book_Free_l0 (book_Book_Free_l0_E0 K) (book_Book_Free_l0_E1 K) k x.2.1.2.1.2 x.2.2.1.2.1 k x.2.2.2.1.1 }
def book_Book_Free_O {R : Type} (k : Nat) : CutK R := cutsO [[book_Book_Free_l0_a k]]
noncomputable def book_Book_Free_b : List Ob := obs (bodyOf Try.f34) book_Book_Free_h
def book_Book_Free_i69_3_h : Hint := .no
def book_Book_Free_i69_3_O {R : Type} (k : Nat) : CutK R := cutsO []
def book_Book_Free_i71_3_c0 : Cl := { keep := [0, 1, 7, 8], hl := 3, ad := [], adc := [], bump := [] }
def book_Book_Free_i71_3_x0 : Cl := { keep := [4], hl := 3, ad := [], adc := [], bump := [] }
def book_Book_Free_i71_3_h : Hint := (.sq .no (.sq (.sq .no (.lp book_Book_Free_i71_3_c0 book_Book_Free_i71_3_x0 0 .no)) .no))
def book_Book_Free_i71_3_l0_E0 {R : Type} (K : EX → St → Option R) : Int → Int → Bool → List (Int × (Int × Int)) → Bool → List Int → Int → Int → Int → Int → Int → Int → Int → Int → Option R := fun v0 v1 v2 v3 v4 v5 v6 v7 v8 v9 v10 v11 v12 v13 => K .ret (mkSt 19 [1, 1, 1] book_Book_Free_i71_3_x0.keep [.int .i64 v0] [.blk [.int .i64 v1, .sl (.pair (.int .i64) (.pair (.int .i64) (.int .i64))) v2 v3, .sl (.int .i64) v4 v5, .int .i64 v6, .int .i64 v7], .blk [.int .i64 v8, .int .i64 v9, .int .i64 v10, .int .i64 v11, .int .i64 v12], .blk [.int .i64 v13]])
def book_Book_Free_i71_3_l0_E1 {R : Type} (K : EX → St → Option R) : Int → Bool → List (Int × (Int × Int)) → Bool → List Int → Int → Int → Int → Int → Int → Int → Int → Int → Option R := fun v0 v1 v2 v3 v4 v5 v6 v7 v8 v9 v10 v11 v12 => K (.exit 0) (mkSt 19 [1, 1, 1] book_Book_Free_i71_3_x0.keep [.junk] [.blk [.int .i64 v0, .sl (.pair (.int .i64) (.pair (.int .i64) (.int .i64))) v1 v2, .sl (.int .i64) v3 v4, .int .i64 v5, .int .i64 v6], .blk [.int .i64 v7, .int .i64 v8, .int .i64 v9, .int .i64 v10, .int .i64 v11], .blk [.int .i64 v12]])
def book_Book_Free_i71_3_l0_S (sa_2632 : Bool) (sb_2633 : List (Int × (Int × Int))) (v_2634 : Int) (v_2635 : Int) (ha_2636 : Int) (hb_2637 : Bool) (hc_2638 : List (Int × (Int × Int))) (hd_2639 : Bool) (he_2640 : List Int) (hf_2641 : Int) (hg_2642 : Int) (ha_2643 : Int) (hb_2644 : Int) (hc_2645 : Int) (hd_2646 : Int) (he_2647 : Int) (h_2648 : Int) : St := mkSt 19 [1, 1, 1] book_Book_Free_i71_3_c0.keep [.sl (.pair (.int .i64) (.pair (.int .i64) (.int .i64))) sa_2632 sb_2633, .fn (.func 70) [] [.ptr 2 0], .int .i64 v_2634, .int .i64 v_2635] [.blk [.int .i64 ha_2636, .sl (.pair (.int .i64) (.pair (.int .i64) (.int .i64))) hb_2637 hc_2638, .sl (.int .i64) hd_2639 he_2640, .int .i64 hf_2641, .int .i64 hg_2642], .blk [.int .i64 ha_2643, .int .i64 hb_2644, .int .i64 hc_2645, .int .i64 hd_2646, .int .i64 he_2647], .blk [.int .i64 h_2648]]
def book_Book_Free_i71_3_l0_sh : Rd (List AV × List HE) := .pair (.cons (.sl (.pair (.int .i64) (.pair (.int .i64) (.int .i64)))) (.cons (.fn 70 Rd.nil (.cons (.ptr 2 0) Rd.nil)) (.cons (.int .i64) (.cons (.int .i64) Rd.nil)))) (.cons (.blk (.cons (.int .i64) (.cons (.sl (.pair (.int .i64) (.pair (.int .i64) (.int .i64)))) (.cons (.sl (.int .i64)) (.cons (.int .i64) (.cons (.int .i64) Rd.nil)))))) (.cons (.blk (.cons (.int .i64) (.cons (.int .i64) (.cons (.int .i64) (.cons (.int .i64) (.cons (.int .i64) Rd.nil)))))) (.cons (.blk (.cons (.int .i64) Rd.nil)) Rd.nil)))
def book_Book_Free_i71_3_l0_a {R : Type} (k : Nat) : Alt R := { n := 19, v := [1, 1, 1], sh := book_Book_Free_i71_3_l0_sh, g := fun K x => book_Book_Free_i71_3_l0 (fun y0 => book_Book_Free_i71_3_l0_E0 K y0 x.2.1.1 x.2.1.2.1.1 x.2.1.2.1.2 x.2.1.2.2.1.1 x.2.1.2.2.1.2 x.2.1.2.2.2.1 x.2.1.2.2.2.2.1 x.2.2.1.1 x.2.2.1.2.1 x.2.2.1.2.2.1 x.2.2.1.2.2.2.1 x.2.2.1.2.2.2.2.1 x.2.2.2.1.1) (book_Book_Free_i71_3_l0_E1 K x.2.1.1 x.2.1.2.1.1 x.2.1.2.1.2 x.2.1.2.2.1.1 x.2.1.2.2.1.2 x.2.1.2.2.2.1 x.2.1.2.2.2.2.1 x.2.2.1.1 x.2.2.1.2.1 x.2.2.1.2.2.1 x.2.2.1.2.2.2.1 x.2.2.1.2.2.2.2.1 x.2.2.2.1.1) k x.1.1.2 x.1.2.2.1 x.2.2.2.1.1 k x.1.2.2.2.1 }
def book_Book_Free_i71_3_O {R : Type} (k : Nat) : CutK R := cutsO [[book_Book_Free_i71_3_l0_a k]]
noncomputable def book_Book_Free_i71_3_b : List Ob := obs (bodyOf Try.f71) book_Book_Free_i71_3_h
def book_Book_Free_i70_3_h : Hint := .no
def book_Book_Free_i70_3_O {R : Type} (k : Nat) : CutK R := cutsO []
noncomputable def book_Book_Free_I {R : Type} (k : Nat) : InlT R := icons 69 3 (book_Book_Free_i69_3_h, Try.f69, deepO 2 (book_Book_Free_i69_3_O k)) <| icons 71 3 (book_Book_Free_i71_3_h, Try.f71, deepO 1 (book_Book_Free_i71_3_O k)) <| icons 70 3 (book_Book_Free_i70_3_h, Try.f70, deepO 0 (book_Book_Free_i70_3_O k)) <| inone
theorem book_Book_Free_l0_eq {R : Type} (k : Nat) (K : EX → St → Option R) (ba_2619 : Int) (bb_2620 : Bool) (bc_2621 : List (Int × (Int × Int))) (bd_2622 : Bool) (be_2623 : List Int) (bf_2624 : Int) (bg_2625 : Int) (ga_2626 : Int) (gb_2627 : Int) (gc_2628 : Int) (gd_2629 : Int) (ge_2630 : Int) : ∀ (j : Nat) (p_2631 : Int), book_Book_Free_l0 (book_Book_Free_l0_E0 K) (book_Book_Free_l0_E1 K) k bc_2621 gb_2627 j p_2631 = iter book_Book_Free_c0 book_Book_Free_x0 (ev tab (book_Book_Free_F k) (inlK tab (book_Book_Free_F k) (book_Book_Free_I k) 3) (book_Book_Free_O k) (obB book_Book_Free_b 0) (obH book_Book_Free_b 0)) j (book_Book_Free_l0_S ba_2619 bb_2620 bc_2621 bd_2622 be_2623 bf_2624 bg_2625 ga_2626 gb_2627 gc_2628 gd_2629 ge_2630 p_2631) K
  | 0, _ => rfl
  | j + 1, p_2631 => by
    have e : book_Book_Free_l0 (book_Book_Free_l0_E0 K) (book_Book_Free_l0_E1 K) k bc_2621 gb_2627 j = fun p_2631 => iter book_Book_Free_c0 book_Book_Free_x0 (ev tab (book_Book_Free_F k) (inlK tab (book_Book_Free_F k) (book_Book_Free_I k) 3) (book_Book_Free_O k) (obB book_Book_Free_b 0) (obH book_Book_Free_b 0)) j (book_Book_Free_l0_S ba_2619 bb_2620 bc_2621 bd_2622 be_2623 bf_2624 bg_2625 ga_2626 gb_2627 gc_2628 gd_2629 ge_2630 p_2631) K := by funext p_2631; exact book_Book_Free_l0_eq k K ba_2619 bb_2620 bc_2621 bd_2622 be_2623 bf_2624 bg_2625 ga_2626 gb_2627 gc_2628 gd_2629 ge_2630 j p_2631
    show book_Book_Free_l0s (book_Book_Free_l0 (book_Book_Free_l0_E0 K) (book_Book_Free_l0_E1 K) k bc_2621 gb_2627 j) (book_Book_Free_l0_E0 K) (book_Book_Free_l0_E1 K) k bc_2621 gb_2627 p_2631 = _
    rw [e, iter_succ]; kernel_rfl
theorem book_Book_Free_l0_ok {R : Type} (k : Nat)  : ObOK (R := R) tab (book_Book_Free_F k) (inlK tab (book_Book_Free_F k) (book_Book_Free_I k) 3) (book_Book_Free_O k) (.loop book_Book_Free_c0 book_Book_Free_x0 0 (obB book_Book_Free_b 0) (obH book_Book_Free_b 0)) :=
  loop_ok (l := [book_Book_Free_l0_a k]) (by kernel_rfl) ⟨(fun K x => ⟨k, (book_Book_Free_l0_eq k K x.2.1.1 x.2.1.2.1.1 x.2.1.2.1.2 x.2.1.2.2.1.1 x.2.1.2.2.1.2 x.2.1.2.2.2.1 x.2.1.2.2.2.2.1 x.2.2.1.1 x.2.2.1.2.1 x.2.2.1.2.2.1 x.2.2.1.2.2.2.1 x.2.2.1.2.2.2.2.1 k x.2.2.2.1.1).trans (by kernel_rfl)⟩), trivial⟩
theorem book_Book_Free_cuts {R : Type} (k : Nat) : ∀ c, Try.f34.body = some c → CutsOK (R := R) tab (book_Book_Free_F k) (inlK tab (book_Book_Free_F k) (book_Book_Free_I k) 3) (book_Book_Free_O k) c book_Book_Free_h :=
  cuts_of (l := [.loop book_Book_Free_c0 book_Book_Free_x0 0 (obB book_Book_Free_b 0) (obH book_Book_Free_b 0)]) (by kernel_rfl) ⟨book_Book_Free_l0_ok k, trivial⟩
theorem book_Book_Free_i71_3_l0_eq {R : Type} (k : Nat) (d : Nat) (K : EX → St → Option R) (sa_2632 : Bool) (sb_2633 : List (Int × (Int × Int))) (v_2634 : Int) (ha_2636 : Int) (hb_2637 : Bool) (hc_2638 : List (Int × (Int × Int))) (hd_2639 : Bool) (he_2640 : List Int) (hf_2641 : Int) (hg_2642 : Int) (ha_2643 : Int) (hb_2644 : Int) (hc_2645 : Int) (hd_2646 : Int) (he_2647 : Int) (h_2648 : Int) : ∀ (j : Nat) (v_2635 : Int), book_Book_Free_i71_3_l0 (fun y0 => book_Book_Free_i71_3_l0_E0 K y0 ha_2636 hb_2637 hc_2638 hd_2639 he_2640 hf_2641 hg_2642 ha_2643 hb_2644 hc_2645 hd_2646 he_2647 h_2648) (book_Book_Free_i71_3_l0_E1 K ha_2636 hb_2637 hc_2638 hd_2639 he_2640 hf_2641 hg_2642 ha_2643 hb_2644 hc_2645 hd_2646 he_2647 h_2648) k sb_2633 v_2634 h_2648 j v_2635 = iter book_Book_Free_i71_3_c0 book_Book_Free_i71_3_x0 (ev tab (book_Book_Free_F k) (inlK tab (book_Book_Free_F k) (book_Book_Free_I k) (d + 1)) (deepO 1 (book_Book_Free_i71_3_O k) (d + 1)) (obB book_Book_Free_i71_3_b 0) (obH book_Book_Free_i71_3_b 0)) j (book_Book_Free_i71_3_l0_S sa_2632 sb_2633 v_2634 v_2635 ha_2636 hb_2637 hc_2638 hd_2639 he_2640 hf_2641 hg_2642 ha_2643 hb_2644 hc_2645 hd_2646 he_2647 h_2648) K
  | 0, _ => rfl
  | j + 1, v_2635 => by
    have e : book_Book_Free_i71_3_l0 (fun y0 => book_Book_Free_i71_3_l0_E0 K y0 ha_2636 hb_2637 hc_2638 hd_2639 he_2640 hf_2641 hg_2642 ha_2643 hb_2644 hc_2645 hd_2646 he_2647 h_2648) (book_Book_Free_i71_3_l0_E1 K ha_2636 hb_2637 hc_2638 hd_2639 he_2640 hf_2641 hg_2642 ha_2643 hb_2644 hc_2645 hd_2646 he_2647 h_2648) k sb_2633 v_2634 h_2648 j = fun v_2635 => iter book_Book_Free_i71_3_c0 book_Book_Free_i71_3_x0 (ev tab (book_Book_Free_F k) (inlK tab (book_Book_Free_F k) (book_Book_Free_I k) (d + 1)) (deepO 1 (book_Book_Free_i71_3_O k) (d + 1)) (obB book_Book_Free_i71_3_b 0) (obH book_Book_Free_i71_3_b 0)) j (book_Book_Free_i71_3_l0_S sa_2632 sb_2633 v_2634 v_2635 ha_2636 hb_2637 hc_2638 hd_2639 he_2640 hf_2641 hg_2642 ha_2643 hb_2644 hc_2645 hd_2646 he_2647 h_2648) K := by funext v_2635; exact book_Book_Free_i71_3_l0_eq k d K sa_2632 sb_2633 v_2634 ha_2636 hb_2637 hc_2638 hd_2639 he_2640 hf_2641 hg_2642 ha_2643 hb_2644 hc_2645 hd_2646 he_2647 h_2648 j v_2635
    show book_Book_Free_i71_3_l0s (book_Book_Free_i71_3_l0 (fun y0 => book_Book_Free_i71_3_l0_E0 K y0 ha_2636 hb_2637 hc_2638 hd_2639 he_2640 hf_2641 hg_2642 ha_2643 hb_2644 hc_2645 hd_2646 he_2647 h_2648) (book_Book_Free_i71_3_l0_E1 K ha_2636 hb_2637 hc_2638 hd_2639 he_2640 hf_2641 hg_2642 ha_2643 hb_2644 hc_2645 hd_2646 he_2647 h_2648) k sb_2633 v_2634 h_2648 j) (fun y0 => book_Book_Free_i71_3_l0_E0 K y0 ha_2636 hb_2637 hc_2638 hd_2639 he_2640 hf_2641 hg_2642 ha_2643 hb_2644 hc_2645 hd_2646 he_2647 h_2648) (book_Book_Free_i71_3_l0_E1 K ha_2636 hb_2637 hc_2638 hd_2639 he_2640 hf_2641 hg_2642 ha_2643 hb_2644 hc_2645 hd_2646 he_2647 h_2648) k sb_2633 v_2634 h_2648 v_2635 = _
    rw [e, iter_succ]; kernel_rfl
theorem book_Book_Free_i71_3_l0_ok {R : Type} (k : Nat) (d : Nat)  : ObOK (R := R) tab (book_Book_Free_F k) (inlK tab (book_Book_Free_F k) (book_Book_Free_I k) d) (deepO 1 (book_Book_Free_i71_3_O k) d) (.loop book_Book_Free_i71_3_c0 book_Book_Free_i71_3_x0 0 (obB book_Book_Free_i71_3_b 0) (obH book_Book_Free_i71_3_b 0)) :=
  deep_ob fun hd => by
    obtain ⟨d, rfl⟩ := Nat.exists_eq_add_of_le' hd
    exact loop_ok (l := [book_Book_Free_i71_3_l0_a k]) (by kernel_rfl) ⟨(fun K x => ⟨k, (book_Book_Free_i71_3_l0_eq k d K x.1.1.1 x.1.1.2 x.1.2.2.1 x.2.1.1 x.2.1.2.1.1 x.2.1.2.1.2 x.2.1.2.2.1.1 x.2.1.2.2.1.2 x.2.1.2.2.2.1 x.2.1.2.2.2.2.1 x.2.2.1.1 x.2.2.1.2.1 x.2.2.1.2.2.1 x.2.2.1.2.2.2.1 x.2.2.1.2.2.2.2.1 x.2.2.2.1.1 k x.1.2.2.2.1).trans (by kernel_rfl)⟩), trivial⟩
theorem book_Book_Free_i71_3_cuts {R : Type} (k : Nat) : ∀ (d : Nat), ∀ c, Try.f71.body = some c → CutsOK (R := R) tab (book_Book_Free_F k) (inlK tab (book_Book_Free_F k) (book_Book_Free_I k) d) (deepO 1 (book_Book_Free_i71_3_O k) d) c book_Book_Free_i71_3_h :=
  fun d => cuts_of (l := [.loop book_Book_Free_i71_3_c0 book_Book_Free_i71_3_x0 0 (obB book_Book_Free_i71_3_b 0) (obH book_Book_Free_i71_3_b 0)]) (by kernel_rfl) ⟨book_Book_Free_i71_3_l0_ok k d, trivial⟩
theorem book_Book_Free_iok {R : Type} (k : Nat) : IOK Try.prog tab (book_Book_Free_F k) (book_Book_Free_I (R := R) k) := iok_cons Try.func69 Try.call69 (plainO (by kernel_rfl)) <| iok_cons Try.func71 Try.call71 (book_Book_Free_i71_3_cuts k) <| iok_cons Try.func70 Try.call70 (plainO (by kernel_rfl)) <| iok_none
theorem book_Book_Free_ev (k : Nat) (x : (book_Book_Free_p k).τ.den) : evalF tab (book_Book_Free_F k) (book_Book_Free_p k) (book_Book_Free_I k) 3 (book_Book_Free_O k) book_Book_Free_h Try.f34 x = (book_Book_Free_p k).f x := by kernel_rfl
theorem book_Book_Free_ok (k : Nat) : PFOK Try.prog tab 34 (book_Book_Free_p k) := pfok mixed tabOK (book_Book_Free_fok k) Try.func34 (I := book_Book_Free_I k) (d := 3) (book_Book_Free_iok k) (Q := book_Book_Free_O k) (hi := book_Book_Free_h) (book_Book_Free_cuts k) (book_Book_Free_ev k)
end Go.Proofs.Ythilffdaofaalaa.Ev
