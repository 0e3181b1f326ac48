/- corbellaw01_NumsAlike, told on plain data. Written by program. -/
import Derived.Test.YtncdfikcdchimaaEcorbellaw01_speaks
import Derived.Test.YtncdfikcdchimaaEnums_Of
import Derived.Test.YtncdfikcdchimaaEnums_Set_Without
import Derived.Test.YtncdfikcdchimaaEnums_Set_With
import Derived.Test.YtncdfikcdchimaaEnums_Set_List
import Derived.Test.YtncdfikcdchimaaEcorbellaw01_ints
set_option linter.unusedVariables false
set_option maxRecDepth 1000000
namespace Go.Proofs.Ytncdfikcdchimaa.Ev
open Go Go.RowKit Go.Proofs
def corbellaw01_NumsAlike_l0s {R : Type} (rc : Int → List Int → Option R) (e0 : List Int → Option R) (k : Nat) (lb_5793 : List Int) (i_5794 : Int) (turned_5796 : List Int) : Option R :=
  bif (decide ((0 : Int) ≤ i_5794)) then
    bif (decide ((0 : Int) ≤ i_5794)) then
      optb (lb_5793[i_5794.toNat]?) fun x_5800 =>
      bif (decide ((0 : Int) ≤ i_5794)) then
        optb (lb_5793[i_5794.toNat]?) fun x_5801 =>
        bif (decide (turned_5796.length + ([x_5800, x_5801] : List Int).length ≤ 1099511627776)) then
          rc (wrap64 (i_5794 - (1 : Int))) (turned_5796 ++ ([x_5800, x_5801] : List Int))
        else none
      else none
    else none
  else e0 turned_5796
def corbellaw01_NumsAlike_l0 {R : Type} (e0 : List Int → Option R) (k : Nat) (lb_5793 : List Int) : Nat → Int → List Int → Option R
  | 0 => fun _ _ => none
  | j + 1 => corbellaw01_NumsAlike_l0s (corbellaw01_NumsAlike_l0 e0 k lb_5793 j) e0 k lb_5793
def corbellaw01_NumsAlike_l1s {R : Type} (rc : Int → Int → Int → Int → Int → Option R) (e0 : Int → Int → Int → Int → Option R) (k : Nat) (lb_5810 : List Int) (i_5811 : Int) (ba_5818 : Int) (bb_5819 : Int) (bc_5820 : Int) (bd_5821 : Int) : Option R :=
  bif (decide (i_5811 < (lenI lb_5810))) then
    bif (decide ((0 : Int) ≤ i_5811)) then
      optb (lb_5810[i_5811.toNat]?) fun x_5828 =>
      optb (nums_Set_Without k ba_5818 bb_5819 bc_5820 bd_5821 x_5828) fun r_5829 =>
      bif (decide ((0 : Int) ≤ i_5811)) then
        optb (lb_5810[i_5811.toNat]?) fun x_5830 =>
        optb (nums_Set_With k r_5829.1 r_5829.2.1 r_5829.2.2.1 r_5829.2.2.2 x_5830) fun r_5831 =>
        rc (wrap64 (i_5811 + (1 : Int))) r_5831.1 r_5831.2.1 r_5831.2.2.1 r_5831.2.2.2
      else none
    else none
  else e0 ba_5818 bb_5819 bc_5820 bd_5821
def corbellaw01_NumsAlike_l1 {R : Type} (e0 : Int → Int → Int → Int → Option R) (k : Nat) (lb_5810 : List Int) : Nat → Int → Int → Int → Int → Int → Option R
  | 0 => fun _ _ _ _ _ => none
  | j + 1 => corbellaw01_NumsAlike_l1s (corbellaw01_NumsAlike_l1 e0 k lb_5810 j) e0 k lb_5810
def corbellaw01_NumsAlike (k : Nat) (la_5703 : Bool) (lb_5704 : List Int) : Option Bool :=
  optb (corbellaw01_speaks k) fun r_5791 =>
  bif (!r_5791) then
    some false
  else bif (decide ((300 : Int) < (lenI lb_5704))) then
    some true
  else corbellaw01_NumsAlike_l0 (fun turned_5806 =>
    optb (nums_Of k la_5703 lb_5704) fun r_5807 =>
    optb (nums_Of k true turned_5806) fun r_5808 =>
    corbellaw01_NumsAlike_l1 (fun ba_5838 bb_5839 bc_5840 bd_5841 =>
      bif (((decide (r_5807.1 = ba_5838)) && ((decide (r_5807.2.1 = bb_5839)) && ((decide (r_5807.2.2.1 = bc_5840)) && ((decide (r_5807.2.2.2 = bd_5841)) && true)))) && true) then
        optb (nums_Set_List k r_5807.1 r_5807.2.1 r_5807.2.2.1 r_5807.2.2.2) fun r_5843 =>
        optb (nums_Set_List k ba_5838 bb_5839 bc_5840 bd_5841) fun r_5844 =>
        optb (corbellaw01_ints k r_5843.1 r_5843.2 r_5844.1 r_5844.2) fun r_5845 =>
        some r_5845
      else some false) k lb_5704 k (0 : Int) r_5808.1 r_5808.2.1 r_5808.2.2.1 r_5808.2.2.2) k lb_5704 k (wrap64 ((lenI lb_5704) - (1 : Int))) ([] : List Int)
def corbellaw01_NumsAlike_p (k : Nat) : PF := { ps := [(false, 1)], rs := [(false, 1)], τ := (.sl (.int .i64)), σ := .bool, f := fun x => corbellaw01_NumsAlike k x.1 x.2 }
def corbellaw01_NumsAlike_F (k : Nat) : PT := fcons 10 (corbellaw01_speaks_p k) <| fcons 13 (nums_Of_p k) <| fcons 19 (nums_Set_Without_p k) <| fcons 21 (nums_Set_With_p k) <| fcons 25 (nums_Set_List_p k) <| fcons 24 (corbellaw01_ints_p k) <| fnone
theorem corbellaw01_NumsAlike_fok (k : Nat) : FOK Try.prog tab (corbellaw01_NumsAlike_F k) := fok_cons (corbellaw01_speaks_ok k) Try.call10 <| fok_cons (nums_Of_ok k) Try.call13 <| fok_cons (nums_Set_Without_ok k) Try.call19 <| fok_cons (nums_Set_With_ok k) Try.call21 <| fok_cons (nums_Set_List_ok k) Try.call25 <| fok_cons (corbellaw01_ints_ok k) Try.call24 <| fok_none
def corbellaw01_NumsAlike_c0 : Cl := { keep := [0, 3, 4], hl := 1, ad := [(3, (.int .i64), 3)], adc := [], bump := [] }
def corbellaw01_NumsAlike_x0 : Cl := { keep := [0, 3], hl := 1, ad := [], adc := [], bump := [] }
def corbellaw01_NumsAlike_c1 : Cl := { keep := [0, 5, 6, 7], hl := 3, ad := [], adc := [], bump := [] }
def corbellaw01_NumsAlike_x1 : Cl := { keep := [5, 6], hl := 3, ad := [], adc := [], bump := [] }
def corbellaw01_NumsAlike_h : Hint := (.sq .no (.sq .no (.sq .no (.sq .no (.sq (.sq .no (.lp corbellaw01_NumsAlike_c0 corbellaw01_NumsAlike_x0 0 .no)) (.sq .no (.sq (.sq .no (.lp corbellaw01_NumsAlike_c1 corbellaw01_NumsAlike_x1 1 .no)) .no)))))))
def corbellaw01_NumsAlike_l0_E0 {R : Type} (K : EX → St → Option R) : Bool → List Int → Bool → List Int → Option R := fun v0 v1 v2 v3 => K (.exit 0) (mkSt 63 [] corbellaw01_NumsAlike_x0.keep [.sl (.int .i64) v0 v1, .own 0 1] [.lst (.int .i64) 3 v2 1 v3])
def corbellaw01_NumsAlike_l0_S (la_5792 : Bool) (lb_5793 : List Int) (i_5794 : Int) (turnedN_5795 : Bool) (turned_5796 : List Int) : St := mkSt 63 [] corbellaw01_NumsAlike_c0.keep [.sl (.int .i64) la_5792 lb_5793, .own 0 1, .int .i64 i_5794] [.lst (.int .i64) 3 turnedN_5795 1 turned_5796]
def corbellaw01_NumsAlike_l0_sh : Rd (List AV × List HE) := .pair (.cons (.sl (.int .i64)) (.cons (.own 0 1) (.cons (.int .i64) Rd.nil))) (.cons (.lst (.int .i64) 3 1) Rd.nil)
def corbellaw01_NumsAlike_l0_a {R : Type} (k : Nat) : Alt R := { n := 63, v := [], sh := corbellaw01_NumsAlike_l0_sh, g := fun K x => corbellaw01_NumsAlike_l0 (fun y3 => corbellaw01_NumsAlike_l0_E0 K x.1.1.1 x.1.1.2 x.2.1.1 y3) k x.1.1.2 k x.1.2.2.1 x.2.1.2 }
def corbellaw01_NumsAlike_l1_E0 {R : Type} (K : EX → St → Option R) : Bool → List Int → Int → Int → Int → Int → Int → Int → Int → Int → Option R := fun v0 v1 v2 v3 v4 v5 v6 v7 v8 v9 => K (.exit 2) (mkSt 63 [] corbellaw01_NumsAlike_x1.keep [.ptr 1 0, .ptr 2 0] [.lst (.int .i64) 3 v0 1 v1, .blk [.int .u64 v2, .int .u64 v3, .int .u64 v4, .int .u64 v5], .blk [.int .u64 v6, .int .u64 v7, .int .u64 v8, .int .u64 v9]])
def corbellaw01_NumsAlike_l1_S (la_5809 : Bool) (lb_5810 : List Int) (i_5811 : Int) (hN_5812 : Bool) (h_5813 : List Int) (aa_5814 : Int) (ab_5815 : Int) (ac_5816 : Int) (ad_5817 : Int) (ba_5818 : Int) (bb_5819 : Int) (bc_5820 : Int) (bd_5821 : Int) : St := mkSt 63 [] corbellaw01_NumsAlike_c1.keep [.sl (.int .i64) la_5809 lb_5810, .ptr 1 0, .ptr 2 0, .int .i64 i_5811] [.lst (.int .i64) 3 hN_5812 1 h_5813, .blk [.int .u64 aa_5814, .int .u64 ab_5815, .int .u64 ac_5816, .int .u64 ad_5817], .blk [.int .u64 ba_5818, .int .u64 bb_5819, .int .u64 bc_5820, .int .u64 bd_5821]]
def corbellaw01_NumsAlike_l1_sh : Rd (List AV × List HE) := .pair (.cons (.sl (.int .i64)) (.cons (.ptr 1 0) (.cons (.ptr 2 0) (.cons (.int .i64) Rd.nil)))) (.cons (.lst (.int .i64) 3 1) (.cons (.blk (.cons (.int .u64) (.cons (.int .u64) (.cons (.int .u64) (.cons (.int .u64) Rd.nil))))) (.cons (.blk (.cons (.int .u64) (.cons (.int .u64) (.cons (.int .u64) (.cons (.int .u64) Rd.nil))))) Rd.nil)))
def corbellaw01_NumsAlike_l1_a {R : Type} (k : Nat) : Alt R := { n := 63, v := [], sh := corbellaw01_NumsAlike_l1_sh, g := fun K x => corbellaw01_NumsAlike_l1 (fun y6 y7 y8 y9 => corbellaw01_NumsAlike_l1_E0 K x.2.1.1 x.2.1.2 x.2.2.1.1 x.2.2.1.2.1 x.2.2.1.2.2.1 x.2.2.1.2.2.2.1 y6 y7 y8 y9) k x.1.1.2 k x.1.2.2.2.1 x.2.2.2.1.1 x.2.2.2.1.2.1 x.2.2.2.1.2.2.1 x.2.2.2.1.2.2.2.1 }
def corbellaw01_NumsAlike_O {R : Type} (k : Nat) : CutK R := cutsO [[corbellaw01_NumsAlike_l0_a k], [corbellaw01_NumsAlike_l1_a k]]
noncomputable def corbellaw01_NumsAlike_b : List Ob := obs (bodyOf Try.f9) corbellaw01_NumsAlike_h
noncomputable def corbellaw01_NumsAlike_I {R : Type} (k : Nat) : InlT R := inone
theorem corbellaw01_NumsAlike_l0_eq {R : Type} (k : Nat) (K : EX → St → Option R) (la_5792 : Bool) (lb_5793 : List Int) (turnedN_5795 : Bool) : ∀ (j : Nat) (i_5794 : Int) (turned_5796 : List Int), corbellaw01_NumsAlike_l0 (fun y3 => corbellaw01_NumsAlike_l0_E0 K la_5792 lb_5793 turnedN_5795 y3) k lb_5793 j i_5794 turned_5796 = iter corbellaw01_NumsAlike_c0 corbellaw01_NumsAlike_x0 (ev tab (corbellaw01_NumsAlike_F k) (inlK tab (corbellaw01_NumsAlike_F k) (corbellaw01_NumsAlike_I k) 0) (corbellaw01_NumsAlike_O k) (obB corbellaw01_NumsAlike_b 0) (obH corbellaw01_NumsAlike_b 0)) j (corbellaw01_NumsAlike_l0_S la_5792 lb_5793 i_5794 turnedN_5795 turned_5796) K
  | 0, _, _ => rfl
  | j + 1, i_5794, turned_5796 => by
    have e : corbellaw01_NumsAlike_l0 (fun y3 => corbellaw01_NumsAlike_l0_E0 K la_5792 lb_5793 turnedN_5795 y3) k lb_5793 j = fun i_5794 turned_5796 => iter corbellaw01_NumsAlike_c0 corbellaw01_NumsAlike_x0 (ev tab (corbellaw01_NumsAlike_F k) (inlK tab (corbellaw01_NumsAlike_F k) (corbellaw01_NumsAlike_I k) 0) (corbellaw01_NumsAlike_O k) (obB corbellaw01_NumsAlike_b 0) (obH corbellaw01_NumsAlike_b 0)) j (corbellaw01_NumsAlike_l0_S la_5792 lb_5793 i_5794 turnedN_5795 turned_5796) K := by funext i_5794 turned_5796; exact corbellaw01_NumsAlike_l0_eq k K la_5792 lb_5793 turnedN_5795 j i_5794 turned_5796
    show corbellaw01_NumsAlike_l0s (corbellaw01_NumsAlike_l0 (fun y3 => corbellaw01_NumsAlike_l0_E0 K la_5792 lb_5793 turnedN_5795 y3) k lb_5793 j) (fun y3 => corbellaw01_NumsAlike_l0_E0 K la_5792 lb_5793 turnedN_5795 y3) k lb_5793 i_5794 turned_5796 = _
    rw [e, iter_succ]; kernel_rfl
theorem corbellaw01_NumsAlike_l0_ok {R : Type} (k : Nat)  : ObOK (R := R) tab (corbellaw01_NumsAlike_F k) (inlK tab (corbellaw01_NumsAlike_F k) (corbellaw01_NumsAlike_I k) 0) (corbellaw01_NumsAlike_O k) (.loop corbellaw01_NumsAlike_c0 corbellaw01_NumsAlike_x0 0 (obB corbellaw01_NumsAlike_b 0) (obH corbellaw01_NumsAlike_b 0)) :=
  loop_ok (l := [corbellaw01_NumsAlike_l0_a k]) (by kernel_rfl) ⟨(fun K x => ⟨k, (corbellaw01_NumsAlike_l0_eq k K x.1.1.1 x.1.1.2 x.2.1.1 k x.1.2.2.1 x.2.1.2).trans (by kernel_rfl)⟩), trivial⟩
theorem corbellaw01_NumsAlike_l1_eq {R : Type} (k : Nat) (K : EX → St → Option R) (la_5809 : Bool) (lb_5810 : List Int) (hN_5812 : Bool) (h_5813 : List Int) (aa_5814 : Int) (ab_5815 : Int) (ac_5816 : Int) (ad_5817 : Int) : ∀ (j : Nat) (i_5811 : Int) (ba_5818 : Int) (bb_5819 : Int) (bc_5820 : Int) (bd_5821 : Int), corbellaw01_NumsAlike_l1 (fun y6 y7 y8 y9 => corbellaw01_NumsAlike_l1_E0 K hN_5812 h_5813 aa_5814 ab_5815 ac_5816 ad_5817 y6 y7 y8 y9) k lb_5810 j i_5811 ba_5818 bb_5819 bc_5820 bd_5821 = iter corbellaw01_NumsAlike_c1 corbellaw01_NumsAlike_x1 (ev tab (corbellaw01_NumsAlike_F k) (inlK tab (corbellaw01_NumsAlike_F k) (corbellaw01_NumsAlike_I k) 0) (corbellaw01_NumsAlike_O k) (obB corbellaw01_NumsAlike_b 1) (obH corbellaw01_NumsAlike_b 1)) j (corbellaw01_NumsAlike_l1_S la_5809 lb_5810 i_5811 hN_5812 h_5813 aa_5814 ab_5815 ac_5816 ad_5817 ba_5818 bb_5819 bc_5820 bd_5821) K
  | 0, _, _, _, _, _ => rfl
  | j + 1, i_5811, ba_5818, bb_5819, bc_5820, bd_5821 => by
    have e : corbellaw01_NumsAlike_l1 (fun y6 y7 y8 y9 => corbellaw01_NumsAlike_l1_E0 K hN_5812 h_5813 aa_5814 ab_5815 ac_5816 ad_5817 y6 y7 y8 y9) k lb_5810 j = fun i_5811 ba_5818 bb_5819 bc_5820 bd_5821 => iter corbellaw01_NumsAlike_c1 corbellaw01_NumsAlike_x1 (ev tab (corbellaw01_NumsAlike_F k) (inlK tab (corbellaw01_NumsAlike_F k) (corbellaw01_NumsAlike_I k) 0) (corbellaw01_NumsAlike_O k) (obB corbellaw01_NumsAlike_b 1) (obH corbellaw01_NumsAlike_b 1)) j (corbellaw01_NumsAlike_l1_S la_5809 lb_5810 i_5811 hN_5812 h_5813 aa_5814 ab_5815 ac_5816 ad_5817 ba_5818 bb_5819 bc_5820 bd_5821) K := by funext i_5811 ba_5818 bb_5819 bc_5820 bd_5821; exact corbellaw01_NumsAlike_l1_eq k K la_5809 lb_5810 hN_5812 h_5813 aa_5814 ab_5815 ac_5816 ad_5817 j i_5811 ba_5818 bb_5819 bc_5820 bd_5821
    show corbellaw01_NumsAlike_l1s (corbellaw01_NumsAlike_l1 (fun y6 y7 y8 y9 => corbellaw01_NumsAlike_l1_E0 K hN_5812 h_5813 aa_5814 ab_5815 ac_5816 ad_5817 y6 y7 y8 y9) k lb_5810 j) (fun y6 y7 y8 y9 => corbellaw01_NumsAlike_l1_E0 K hN_5812 h_5813 aa_5814 ab_5815 ac_5816 ad_5817 y6 y7 y8 y9) k lb_5810 i_5811 ba_5818 bb_5819 bc_5820 bd_5821 = _
    rw [e, iter_succ]; kernel_rfl
theorem corbellaw01_NumsAlike_l1_ok {R : Type} (k : Nat)  : ObOK (R := R) tab (corbellaw01_NumsAlike_F k) (inlK tab (corbellaw01_NumsAlike_F k) (corbellaw01_NumsAlike_I k) 0) (corbellaw01_NumsAlike_O k) (.loop corbellaw01_NumsAlike_c1 corbellaw01_NumsAlike_x1 1 (obB corbellaw01_NumsAlike_b 1) (obH corbellaw01_NumsAlike_b 1)) :=
  loop_ok (l := [corbellaw01_NumsAlike_l1_a k]) (by kernel_rfl) ⟨(fun K x => ⟨k, (corbellaw01_NumsAlike_l1_eq k K x.1.1.1 x.1.1.2 x.2.1.1 x.2.1.2 x.2.2.1.1 x.2.2.1.2.1 x.2.2.1.2.2.1 x.2.2.1.2.2.2.1 k x.1.2.2.2.1 x.2.2.2.1.1 x.2.2.2.1.2.1 x.2.2.2.1.2.2.1 x.2.2.2.1.2.2.2.1).trans (by kernel_rfl)⟩), trivial⟩
theorem corbellaw01_NumsAlike_cuts {R : Type} (k : Nat) : ∀ c, Try.f9.body = some c → CutsOK (R := R) tab (corbellaw01_NumsAlike_F k) (inlK tab (corbellaw01_NumsAlike_F k) (corbellaw01_NumsAlike_I k) 0) (corbellaw01_NumsAlike_O k) c corbellaw01_NumsAlike_h :=
  cuts_of (l := [.loop corbellaw01_NumsAlike_c0 corbellaw01_NumsAlike_x0 0 (obB corbellaw01_NumsAlike_b 0) (obH corbellaw01_NumsAlike_b 0), .loop corbellaw01_NumsAlike_c1 corbellaw01_NumsAlike_x1 1 (obB corbellaw01_NumsAlike_b 1) (obH corbellaw01_NumsAlike_b 1)]) (by kernel_rfl) ⟨corbellaw01_NumsAlike_l0_ok k, corbellaw01_NumsAlike_l1_ok k, trivial⟩
theorem corbellaw01_NumsAlike_iok {R : Type} (k : Nat) : IOK Try.prog tab (corbellaw01_NumsAlike_F k) (corbellaw01_NumsAlike_I (R := R) k) := iok_none
theorem corbellaw01_NumsAlike_ev (k : Nat) (x : (corbellaw01_NumsAlike_p k).τ.den) : evalF tab (corbellaw01_NumsAlike_F k) (corbellaw01_NumsAlike_p k) (corbellaw01_NumsAlike_I k) 0 (corbellaw01_NumsAlike_O k) corbellaw01_NumsAlike_h Try.f9 x = (corbellaw01_NumsAlike_p k).f x := by kernel_rfl
theorem corbellaw01_NumsAlike_ok (k : Nat) : PFOK Try.prog tab 9 (corbellaw01_NumsAlike_p k) := pfok mixed tabOK (corbellaw01_NumsAlike_fok k) Try.func9 (I := corbellaw01_NumsAlike_I k) (d := 0) (corbellaw01_NumsAlike_iok k) (Q := corbellaw01_NumsAlike_O k) (hi := corbellaw01_NumsAlike_h) (corbellaw01_NumsAlike_cuts k) (corbellaw01_NumsAlike_ev k)
end Go.Proofs.Ytncdfikcdchimaa.Ev
