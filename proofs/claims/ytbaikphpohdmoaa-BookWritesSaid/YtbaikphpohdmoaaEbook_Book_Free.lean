/- book_Book_Free, told on plain data. Written by program. -/
import Derived.Test.YtbaikphpohdmoaaEtab
set_option linter.unusedVariables false
set_option maxRecDepth 1000000
namespace Go.Proofs.Ytbaikphpohdmoaa.Ev
open Go Go.RowKit Go.Proofs
def book_Book_Free_i54_3_l0s {R : Type} (rc : Int → Option R) (e0 : Int → Option R) (e1 : Option R) (k : Nat) (sb_669 : List (Int × (Int × Int))) (v_670 : Int) (h_684 : Int) (v_671 : Int) : Option R :=
  bif (decide (v_671 < v_670)) then
    bif (decide ((0 : Int) ≤ v_671)) then
      optb (sb_669[v_671.toNat]?) fun x_687 =>
      bif (decide (x_687.1 = h_684)) then
        e0 v_671
      else rc (wrap64 (v_671 + (1 : Int)))
    else none
  else e1
def book_Book_Free_i54_3_l0 {R : Type} (e0 : Int → Option R) (e1 : Option R) (k : Nat) (sb_669 : List (Int × (Int × Int))) (v_670 : Int) (h_684 : Int) : Nat → Int → Option R
  | 0 => fun _ => none
  | j + 1 => book_Book_Free_i54_3_l0s (book_Book_Free_i54_3_l0 e0 e1 k sb_669 v_670 h_684 j) e0 e1 k sb_669 v_670 h_684
def book_Book_Free_l0s {R : Type} (rc : Int → Option R) (e0 : Int → Option R) (e1 : Option R) (k : Nat) (bc_657 : List (Int × (Int × Int))) (gb_663 : Int) (p_667 : Int) : Option R :=
  bif (decide (p_667 < gb_663)) then
    book_Book_Free_i54_3_l0 (fun v_688 =>
      bif (!(decide ((0 : Int) ≤ v_688))) then
        e0 p_667
      else rc (wrap64 (p_667 + (1 : Int)))) (e0 p_667) k bc_657 (lenI bc_657) p_667 k (0 : Int)
  else e1
def book_Book_Free_l0 {R : Type} (e0 : Int → Option R) (e1 : Option R) (k : Nat) (bc_657 : List (Int × (Int × Int))) (gb_663 : Int) : Nat → Int → Option R
  | 0 => fun _ => none
  | j + 1 => book_Book_Free_l0s (book_Book_Free_l0 e0 e1 k bc_657 gb_663 j) e0 e1 k bc_657 gb_663
def book_Book_Free (k : Nat) (ba_503 : Int) (bb_504 : Bool) (bc_505 : List (Int × (Int × Int))) (bd_506 : Bool) (be_507 : List Int) (bf_508 : Int) (bg_509 : Int) (ga_510 : Int) (gb_511 : Int) (gc_512 : Int) (gd_513 : Int) (ge_514 : Int) : Option Int :=
  book_Book_Free_l0 (fun v_715 =>
    some v_715) (some (-1 : Int)) k bc_505 gb_511 k (2 : Int)
def book_Book_Free_p (k : Nat) : PF := { ps := [(true, 5), (true, 5)], rs := [(false, 1)], τ := (.pair (.pair (.int .i64) (.pair (.sl (.pair (.int .i64) (.pair (.int .i64) (.int .i64)))) (.pair (.sl (.int .i64)) (.pair (.int .i64) (.int .i64))))) (.pair (.int .i64) (.pair (.int .i64) (.pair (.int .i64) (.pair (.int .i64) (.int .i64)))))), σ := (.int .i64), f := fun x => book_Book_Free k x.1.1 x.1.2.1.1 x.1.2.1.2 x.1.2.2.1.1 x.1.2.2.1.2 x.1.2.2.2.1 x.1.2.2.2.2 x.2.1 x.2.2.1 x.2.2.2.1 x.2.2.2.2.1 x.2.2.2.2.2 }
def book_Book_Free_F (k : Nat) : PT := fnone
theorem book_Book_Free_fok (k : Nat) : FOK Try.prog tab (book_Book_Free_F k) := fok_none
def book_Book_Free_c0 : Cl := { keep := [2, 3, 5], hl := 3, ad := [], adc := [], bump := [], sw := [(5, 2)] }
def book_Book_Free_x0 : Cl := { keep := [4], hl := 0, ad := [], adc := [], bump := [] }
def book_Book_Free_h : Hint := (.sq .no (.sq (.sq .no (.lp book_Book_Free_c0 book_Book_Free_x0 0 .no)) .no))
def book_Book_Free_l0_E0 {R : Type} (K : EX → St → Option R) : Int → Option R := fun v0 => K .ret (mkSt 19 [] book_Book_Free_x0.keep [.int .i64 v0] [])
def book_Book_Free_l0_E1 {R : Type} (K : EX → St → Option R) : Option R := K (.exit 0) (mkSt 19 [] book_Book_Free_x0.keep [.junk] [])
def book_Book_Free_l0_S (ba_655 : Int) (bb_656 : Bool) (bc_657 : List (Int × (Int × Int))) (bd_658 : Bool) (be_659 : List Int) (bf_660 : Int) (bg_661 : Int) (ga_662 : Int) (gb_663 : Int) (gc_664 : Int) (gd_665 : Int) (ge_666 : Int) (p_667 : Int) : St := mkSt 19 [] book_Book_Free_c0.keep [.ptr 0 0, .ptr 1 0, .ptr 2 0] [.blk [.int .i64 ba_655, .sl (.pair (.int .i64) (.pair (.int .i64) (.int .i64))) bb_656 bc_657, .sl (.int .i64) bd_658 be_659, .int .i64 bf_660, .int .i64 bg_661], .blk [.int .i64 ga_662, .int .i64 gb_663, .int .i64 gc_664, .int .i64 gd_665, .int .i64 ge_666], .blk [.int .i64 p_667]]
def book_Book_Free_l0_sh : Rd (List AV × List HE) := .pair (.cons (.ptr 0 0) (.cons (.ptr 1 0) (.cons (.ptr 2 0) Rd.nil))) (.cons (.blk (.cons (.int .i64) (.cons (.sl (.pair (.int .i64) (.pair (.int .i64) (.int .i64)))) (.cons (.sl (.int .i64)) (.cons (.int .i64) (.cons (.int .i64) Rd.nil)))))) (.cons (.blk (.cons (.int .i64) (.cons (.int .i64) (.cons (.int .i64) (.cons (.int .i64) (.cons (.int .i64) Rd.nil)))))) (.cons (.blk (.cons (.int .i64) Rd.nil)) Rd.nil)))
def book_Book_Free_l0_a {R : Type} (k : Nat) : Alt R := { n := 19, v := [], sh := book_Book_Free_l0_sh, g := fun K x => book_Book_Free_l0 (book_Book_Free_l0_E0 K) (book_Book_Free_l0_E1 K) k x.2.1.2.1.2 x.2.2.1.2.1 k x.2.2.2.1.1 }
def book_Book_Free_O {R : Type} (k : Nat) : CutK R := cutsO [[book_Book_Free_l0_a k]]
noncomputable def book_Book_Free_b : List Ob := obs (bodyOf Try.f30) book_Book_Free_h
def book_Book_Free_i43_3_h : Hint := .no
def book_Book_Free_i43_3_O {R : Type} (k : Nat) : CutK R := cutsO []
def book_Book_Free_i54_3_c0 : Cl := { keep := [0, 1, 7, 8], hl := 3, ad := [], adc := [], bump := [] }
def book_Book_Free_i54_3_x0 : Cl := { keep := [4], hl := 3, ad := [], adc := [], bump := [] }
def book_Book_Free_i54_3_h : Hint := (.sq .no (.sq (.sq .no (.lp book_Book_Free_i54_3_c0 book_Book_Free_i54_3_x0 0 .no)) .no))
def book_Book_Free_i54_3_l0_E0 {R : Type} (K : EX → St → Option R) : Int → Int → Bool → List (Int × (Int × Int)) → Bool → List Int → Int → Int → Int → Int → Int → Int → Int → Int → Option R := fun v0 v1 v2 v3 v4 v5 v6 v7 v8 v9 v10 v11 v12 v13 => K .ret (mkSt 19 [1, 1, 1] book_Book_Free_i54_3_x0.keep [.int .i64 v0] [.blk [.int .i64 v1, .sl (.pair (.int .i64) (.pair (.int .i64) (.int .i64))) v2 v3, .sl (.int .i64) v4 v5, .int .i64 v6, .int .i64 v7], .blk [.int .i64 v8, .int .i64 v9, .int .i64 v10, .int .i64 v11, .int .i64 v12], .blk [.int .i64 v13]])
def book_Book_Free_i54_3_l0_E1 {R : Type} (K : EX → St → Option R) : Int → Bool → List (Int × (Int × Int)) → Bool → List Int → Int → Int → Int → Int → Int → Int → Int → Int → Option R := fun v0 v1 v2 v3 v4 v5 v6 v7 v8 v9 v10 v11 v12 => K (.exit 0) (mkSt 19 [1, 1, 1] book_Book_Free_i54_3_x0.keep [.junk] [.blk [.int .i64 v0, .sl (.pair (.int .i64) (.pair (.int .i64) (.int .i64))) v1 v2, .sl (.int .i64) v3 v4, .int .i64 v5, .int .i64 v6], .blk [.int .i64 v7, .int .i64 v8, .int .i64 v9, .int .i64 v10, .int .i64 v11], .blk [.int .i64 v12]])
def book_Book_Free_i54_3_l0_S (sa_668 : Bool) (sb_669 : List (Int × (Int × Int))) (v_670 : Int) (v_671 : Int) (ha_672 : Int) (hb_673 : Bool) (hc_674 : List (Int × (Int × Int))) (hd_675 : Bool) (he_676 : List Int) (hf_677 : Int) (hg_678 : Int) (ha_679 : Int) (hb_680 : Int) (hc_681 : Int) (hd_682 : Int) (he_683 : Int) (h_684 : Int) : St := mkSt 19 [1, 1, 1] book_Book_Free_i54_3_c0.keep [.sl (.pair (.int .i64) (.pair (.int .i64) (.int .i64))) sa_668 sb_669, .fn (.func 44) [] [.ptr 2 0], .int .i64 v_670, .int .i64 v_671] [.blk [.int .i64 ha_672, .sl (.pair (.int .i64) (.pair (.int .i64) (.int .i64))) hb_673 hc_674, .sl (.int .i64) hd_675 he_676, .int .i64 hf_677, .int .i64 hg_678], .blk [.int .i64 ha_679, .int .i64 hb_680, .int .i64 hc_681, .int .i64 hd_682, .int .i64 he_683], .blk [.int .i64 h_684]]
def book_Book_Free_i54_3_l0_sh : Rd (List AV × List HE) := .pair (.cons (.sl (.pair (.int .i64) (.pair (.int .i64) (.int .i64)))) (.cons (.fn 44 Rd.nil (.cons (.ptr 2 0) Rd.nil)) (.cons (.int .i64) (.cons (.int .i64) Rd.nil)))) (.cons (.blk (.cons (.int .i64) (.cons (.sl (.pair (.int .i64) (.pair (.int .i64) (.int .i64)))) (.cons (.sl (.int .i64)) (.cons (.int .i64) (.cons (.int .i64) Rd.nil)))))) (.cons (.blk (.cons (.int .i64) (.cons (.int .i64) (.cons (.int .i64) (.cons (.int .i64) (.cons (.int .i64) Rd.nil)))))) (.cons (.blk (.cons (.int .i64) Rd.nil)) Rd.nil)))
def book_Book_Free_i54_3_l0_a {R : Type} (k : Nat) : Alt R := { n := 19, v := [1, 1, 1], sh := book_Book_Free_i54_3_l0_sh, g := fun K x => book_Book_Free_i54_3_l0 (fun y0 => book_Book_Free_i54_3_l0_E0 K y0 x.2.1.1 x.2.1.2.1.1 x.2.1.2.1.2 x.2.1.2.2.1.1 x.2.1.2.2.1.2 x.2.1.2.2.2.1 x.2.1.2.2.2.2.1 x.2.2.1.1 x.2.2.1.2.1 x.2.2.1.2.2.1 x.2.2.1.2.2.2.1 x.2.2.1.2.2.2.2.1 x.2.2.2.1.1) (book_Book_Free_i54_3_l0_E1 K x.2.1.1 x.2.1.2.1.1 x.2.1.2.1.2 x.2.1.2.2.1.1 x.2.1.2.2.1.2 x.2.1.2.2.2.1 x.2.1.2.2.2.2.1 x.2.2.1.1 x.2.2.1.2.1 x.2.2.1.2.2.1 x.2.2.1.2.2.2.1 x.2.2.1.2.2.2.2.1 x.2.2.2.1.1) k x.1.1.2 x.1.2.2.1 x.2.2.2.1.1 k x.1.2.2.2.1 }
def book_Book_Free_i54_3_O {R : Type} (k : Nat) : CutK R := cutsO [[book_Book_Free_i54_3_l0_a k]]
noncomputable def book_Book_Free_i54_3_b : List Ob := obs (bodyOf Try.f54) book_Book_Free_i54_3_h
def book_Book_Free_i44_3_h : Hint := .no
def book_Book_Free_i44_3_O {R : Type} (k : Nat) : CutK R := cutsO []
noncomputable def book_Book_Free_I {R : Type} (k : Nat) : InlT R := icons 43 3 (book_Book_Free_i43_3_h, Try.f43, deepO 2 (book_Book_Free_i43_3_O k)) <| icons 54 3 (book_Book_Free_i54_3_h, Try.f54, deepO 1 (book_Book_Free_i54_3_O k)) <| icons 44 3 (book_Book_Free_i44_3_h, Try.f44, deepO 0 (book_Book_Free_i44_3_O k)) <| inone
theorem book_Book_Free_l0_eq {R : Type} (k : Nat) (K : EX → St → Option R) (ba_655 : Int) (bb_656 : Bool) (bc_657 : List (Int × (Int × Int))) (bd_658 : Bool) (be_659 : List Int) (bf_660 : Int) (bg_661 : Int) (ga_662 : Int) (gb_663 : Int) (gc_664 : Int) (gd_665 : Int) (ge_666 : Int) : ∀ (j : Nat) (p_667 : Int), book_Book_Free_l0 (book_Book_Free_l0_E0 K) (book_Book_Free_l0_E1 K) k bc_657 gb_663 j p_667 = iter book_Book_Free_c0 book_Book_Free_x0 (ev tab (book_Book_Free_F k) (inlK tab (book_Book_Free_F k) (book_Book_Free_I k) 3) (book_Book_Free_O k) (obB book_Book_Free_b 0) (obH book_Book_Free_b 0)) j (book_Book_Free_l0_S ba_655 bb_656 bc_657 bd_658 be_659 bf_660 bg_661 ga_662 gb_663 gc_664 gd_665 ge_666 p_667) K
  | 0, _ => rfl
  | j + 1, p_667 => by
    have e : book_Book_Free_l0 (book_Book_Free_l0_E0 K) (book_Book_Free_l0_E1 K) k bc_657 gb_663 j = fun p_667 => iter book_Book_Free_c0 book_Book_Free_x0 (ev tab (book_Book_Free_F k) (inlK tab (book_Book_Free_F k) (book_Book_Free_I k) 3) (book_Book_Free_O k) (obB book_Book_Free_b 0) (obH book_Book_Free_b 0)) j (book_Book_Free_l0_S ba_655 bb_656 bc_657 bd_658 be_659 bf_660 bg_661 ga_662 gb_663 gc_664 gd_665 ge_666 p_667) K := by funext p_667; exact book_Book_Free_l0_eq k K ba_655 bb_656 bc_657 bd_658 be_659 bf_660 bg_661 ga_662 gb_663 gc_664 gd_665 ge_666 j p_667
    show book_Book_Free_l0s (book_Book_Free_l0 (book_Book_Free_l0_E0 K) (book_Book_Free_l0_E1 K) k bc_657 gb_663 j) (book_Book_Free_l0_E0 K) (book_Book_Free_l0_E1 K) k bc_657 gb_663 p_667 = _
    rw [e, iter_succ]; kernel_rfl
theorem book_Book_Free_l0_ok {R : Type} (k : Nat)  : ObOK (R := R) tab (book_Book_Free_F k) (inlK tab (book_Book_Free_F k) (book_Book_Free_I k) 3) (book_Book_Free_O k) (.loop book_Book_Free_c0 book_Book_Free_x0 0 (obB book_Book_Free_b 0) (obH book_Book_Free_b 0)) :=
  loop_ok (l := [book_Book_Free_l0_a k]) (by kernel_rfl) ⟨(fun K x => ⟨k, (book_Book_Free_l0_eq k K x.2.1.1 x.2.1.2.1.1 x.2.1.2.1.2 x.2.1.2.2.1.1 x.2.1.2.2.1.2 x.2.1.2.2.2.1 x.2.1.2.2.2.2.1 x.2.2.1.1 x.2.2.1.2.1 x.2.2.1.2.2.1 x.2.2.1.2.2.2.1 x.2.2.1.2.2.2.2.1 k x.2.2.2.1.1).trans (by kernel_rfl)⟩), trivial⟩
theorem book_Book_Free_cuts {R : Type} (k : Nat) : ∀ c, Try.f30.body = some c → CutsOK (R := R) tab (book_Book_Free_F k) (inlK tab (book_Book_Free_F k) (book_Book_Free_I k) 3) (book_Book_Free_O k) c book_Book_Free_h :=
  cuts_of (l := [.loop book_Book_Free_c0 book_Book_Free_x0 0 (obB book_Book_Free_b 0) (obH book_Book_Free_b 0)]) (by kernel_rfl) ⟨book_Book_Free_l0_ok k, trivial⟩
theorem book_Book_Free_i54_3_l0_eq {R : Type} (k : Nat) (d : Nat) (K : EX → St → Option R) (sa_668 : Bool) (sb_669 : List (Int × (Int × Int))) (v_670 : Int) (ha_672 : Int) (hb_673 : Bool) (hc_674 : List (Int × (Int × Int))) (hd_675 : Bool) (he_676 : List Int) (hf_677 : Int) (hg_678 : Int) (ha_679 : Int) (hb_680 : Int) (hc_681 : Int) (hd_682 : Int) (he_683 : Int) (h_684 : Int) : ∀ (j : Nat) (v_671 : Int), book_Book_Free_i54_3_l0 (fun y0 => book_Book_Free_i54_3_l0_E0 K y0 ha_672 hb_673 hc_674 hd_675 he_676 hf_677 hg_678 ha_679 hb_680 hc_681 hd_682 he_683 h_684) (book_Book_Free_i54_3_l0_E1 K ha_672 hb_673 hc_674 hd_675 he_676 hf_677 hg_678 ha_679 hb_680 hc_681 hd_682 he_683 h_684) k sb_669 v_670 h_684 j v_671 = iter book_Book_Free_i54_3_c0 book_Book_Free_i54_3_x0 (ev tab (book_Book_Free_F k) (inlK tab (book_Book_Free_F k) (book_Book_Free_I k) (d + 1)) (deepO 1 (book_Book_Free_i54_3_O k) (d + 1)) (obB book_Book_Free_i54_3_b 0) (obH book_Book_Free_i54_3_b 0)) j (book_Book_Free_i54_3_l0_S sa_668 sb_669 v_670 v_671 ha_672 hb_673 hc_674 hd_675 he_676 hf_677 hg_678 ha_679 hb_680 hc_681 hd_682 he_683 h_684) K
  | 0, _ => rfl
  | j + 1, v_671 => by
    have e : book_Book_Free_i54_3_l0 (fun y0 => book_Book_Free_i54_3_l0_E0 K y0 ha_672 hb_673 hc_674 hd_675 he_676 hf_677 hg_678 ha_679 hb_680 hc_681 hd_682 he_683 h_684) (book_Book_Free_i54_3_l0_E1 K ha_672 hb_673 hc_674 hd_675 he_676 hf_677 hg_678 ha_679 hb_680 hc_681 hd_682 he_683 h_684) k sb_669 v_670 h_684 j = fun v_671 => iter book_Book_Free_i54_3_c0 book_Book_Free_i54_3_x0 (ev tab (book_Book_Free_F k) (inlK tab (book_Book_Free_F k) (book_Book_Free_I k) (d + 1)) (deepO 1 (book_Book_Free_i54_3_O k) (d + 1)) (obB book_Book_Free_i54_3_b 0) (obH book_Book_Free_i54_3_b 0)) j (book_Book_Free_i54_3_l0_S sa_668 sb_669 v_670 v_671 ha_672 hb_673 hc_674 hd_675 he_676 hf_677 hg_678 ha_679 hb_680 hc_681 hd_682 he_683 h_684) K := by funext v_671; exact book_Book_Free_i54_3_l0_eq k d K sa_668 sb_669 v_670 ha_672 hb_673 hc_674 hd_675 he_676 hf_677 hg_678 ha_679 hb_680 hc_681 hd_682 he_683 h_684 j v_671
    show book_Book_Free_i54_3_l0s (book_Book_Free_i54_3_l0 (fun y0 => book_Book_Free_i54_3_l0_E0 K y0 ha_672 hb_673 hc_674 hd_675 he_676 hf_677 hg_678 ha_679 hb_680 hc_681 hd_682 he_683 h_684) (book_Book_Free_i54_3_l0_E1 K ha_672 hb_673 hc_674 hd_675 he_676 hf_677 hg_678 ha_679 hb_680 hc_681 hd_682 he_683 h_684) k sb_669 v_670 h_684 j) (fun y0 => book_Book_Free_i54_3_l0_E0 K y0 ha_672 hb_673 hc_674 hd_675 he_676 hf_677 hg_678 ha_679 hb_680 hc_681 hd_682 he_683 h_684) (book_Book_Free_i54_3_l0_E1 K ha_672 hb_673 hc_674 hd_675 he_676 hf_677 hg_678 ha_679 hb_680 hc_681 hd_682 he_683 h_684) k sb_669 v_670 h_684 v_671 = _
    rw [e, iter_succ]; kernel_rfl
theorem book_Book_Free_i54_3_l0_ok {R : Type} (k : Nat) (d : Nat)  : ObOK (R := R) tab (book_Book_Free_F k) (inlK tab (book_Book_Free_F k) (book_Book_Free_I k) d) (deepO 1 (book_Book_Free_i54_3_O k) d) (.loop book_Book_Free_i54_3_c0 book_Book_Free_i54_3_x0 0 (obB book_Book_Free_i54_3_b 0) (obH book_Book_Free_i54_3_b 0)) :=
  deep_ob fun hd => by
    obtain ⟨d, rfl⟩ := Nat.exists_eq_add_of_le' hd
    exact loop_ok (l := [book_Book_Free_i54_3_l0_a k]) (by kernel_rfl) ⟨(fun K x => ⟨k, (book_Book_Free_i54_3_l0_eq k d K x.1.1.1 x.1.1.2 x.1.2.2.1 x.2.1.1 x.2.1.2.1.1 x.2.1.2.1.2 x.2.1.2.2.1.1 x.2.1.2.2.1.2 x.2.1.2.2.2.1 x.2.1.2.2.2.2.1 x.2.2.1.1 x.2.2.1.2.1 x.2.2.1.2.2.1 x.2.2.1.2.2.2.1 x.2.2.1.2.2.2.2.1 x.2.2.2.1.1 k x.1.2.2.2.1).trans (by kernel_rfl)⟩), trivial⟩
theorem book_Book_Free_i54_3_cuts {R : Type} (k : Nat) : ∀ (d : Nat), ∀ c, Try.f54.body = some c → CutsOK (R := R) tab (book_Book_Free_F k) (inlK tab (book_Book_Free_F k) (book_Book_Free_I k) d) (deepO 1 (book_Book_Free_i54_3_O k) d) c book_Book_Free_i54_3_h :=
  fun d => cuts_of (l := [.loop book_Book_Free_i54_3_c0 book_Book_Free_i54_3_x0 0 (obB book_Book_Free_i54_3_b 0) (obH book_Book_Free_i54_3_b 0)]) (by kernel_rfl) ⟨book_Book_Free_i54_3_l0_ok k d, trivial⟩
theorem book_Book_Free_iok {R : Type} (k : Nat) : IOK Try.prog tab (book_Book_Free_F k) (book_Book_Free_I (R := R) k) := iok_cons Try.func43 Try.call43 (plainO (by kernel_rfl)) <| iok_cons Try.func54 Try.call54 (book_Book_Free_i54_3_cuts k) <| iok_cons Try.func44 Try.call44 (plainO (by kernel_rfl)) <| iok_none
theorem book_Book_Free_ev (k : Nat) (x : (book_Book_Free_p k).τ.den) : evalF tab (book_Book_Free_F k) (book_Book_Free_p k) (book_Book_Free_I k) 3 (book_Book_Free_O k) book_Book_Free_h Try.f30 x = (book_Book_Free_p k).f x := by kernel_rfl
theorem book_Book_Free_ok (k : Nat) : PFOK Try.prog tab 30 (book_Book_Free_p k) := pfok mixed tabOK (book_Book_Free_fok k) Try.func30 (I := book_Book_Free_I k) (d := 3) (book_Book_Free_iok k) (Q := book_Book_Free_O k) (hi := book_Book_Free_h) (book_Book_Free_cuts k) (book_Book_Free_ev k)
end Go.Proofs.Ytbaikphpohdmoaa.Ev
