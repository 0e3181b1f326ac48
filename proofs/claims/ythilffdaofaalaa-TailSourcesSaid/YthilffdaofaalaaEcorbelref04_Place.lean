/- corbelref04_Place, told on plain data. Written by program. -/
import Derived.Test.YthilffdaofaalaaEcorbelref04_Good
import Derived.Test.YthilffdaofaalaaEcorbelref04_Drive
set_option linter.unusedVariables false
set_option maxRecDepth 1000000
namespace Go.Proofs.Ythilffdaofaalaa.Ev
open Go Go.RowKit Go.Proofs
def corbelref04_Place_j0 {R : Type} (e0 : Int → Int → Bool → Option R) (e1 : Option R) (k : Nat) (v_2953 : Bool) : Option R :=
  bif v_2953 then
    e0 (0 : Int) (0 : Int) false
  else e1
def corbelref04_Place_l1s {R : Type} (rc : Int → Int → Option R) (e0 : Int → Int → Option R) (k : Nat) (ga_2979 : Int) (block_2977 : Int) (row_2978 : Int) : Option R :=
  bif (decide ((wrap64 (ga_2979 - (1 : Int))) ≤ block_2977)) then
    rc (wrap64 (block_2977 - (wrap64 (ga_2979 - (1 : Int))))) (wrap64 (row_2978 + (1 : Int)))
  else e0 block_2977 row_2978
def corbelref04_Place_l1 {R : Type} (e0 : Int → Int → Option R) (k : Nat) (ga_2979 : Int) : Nat → Int → Int → Option R
  | 0 => fun _ _ => none
  | j + 1 => corbelref04_Place_l1s (corbelref04_Place_l1 e0 k ga_2979 j) e0 k ga_2979
def corbelref04_Place_k0 (k : Nat) : Int → Int → Bool → Option (Int × (Int × Bool)) := fun v_2961 v_2962 v_2963 =>
  some (v_2961, (v_2962, v_2963))
def corbelref04_Place_k1 (k : Nat) (block_2858 : Int) (ga_2852 : Int) (gb_2853 : Int) (gc_2854 : Int) (gd_2855 : Int) (ge_2856 : Int) (zone_2857 : Int) : Option (Int × (Int × Bool)) := 
  corbelref04_Place_l1 (fun block_2988 row_2989 =>
    optb (corbelref04_Drive k ga_2852 gb_2853 gc_2854 gd_2855 ge_2856 zone_2857 row_2989 block_2988) fun r_3060 =>
    some (row_2989, (r_3060, true))) k ga_2852 k block_2858 (0 : Int)
def corbelref04_Place (k : Nat) (ga_2852 : Int) (gb_2853 : Int) (gc_2854 : Int) (gd_2855 : Int) (ge_2856 : Int) (zone_2857 : Int) (block_2858 : Int) : Option (Int × (Int × Bool)) :=
  optb (corbelref04_Good k ga_2852 gb_2853 gc_2854 gd_2855 ge_2856) fun r_2950 =>
  bif (!r_2950) then
    corbelref04_Place_j0 (corbelref04_Place_k0 k) (corbelref04_Place_k1 k block_2858 ga_2852 gb_2853 gc_2854 gd_2855 ge_2856 zone_2857) k true
  else bif (decide (zone_2857 < (0 : Int))) then
    corbelref04_Place_j0 (corbelref04_Place_k0 k) (corbelref04_Place_k1 k block_2858 ga_2852 gb_2853 gc_2854 gd_2855 ge_2856 zone_2857) k true
  else bif (decide ((wrap64 (gb_2853 - (4 : Int))) < zone_2857)) then
    corbelref04_Place_j0 (corbelref04_Place_k0 k) (corbelref04_Place_k1 k block_2858 ga_2852 gb_2853 gc_2854 gd_2855 ge_2856 zone_2857) k true
  else bif (decide (block_2858 < (0 : Int))) then
    corbelref04_Place_j0 (corbelref04_Place_k0 k) (corbelref04_Place_k1 k block_2858 ga_2852 gb_2853 gc_2854 gd_2855 ge_2856 zone_2857) k true
  else corbelref04_Place_j0 (corbelref04_Place_k0 k) (corbelref04_Place_k1 k block_2858 ga_2852 gb_2853 gc_2854 gd_2855 ge_2856 zone_2857) k (decide ((wrap64 ((wrap64 (ga_2852 - (1 : Int))) * gc_2854)) ≤ block_2858))
def corbelref04_Place_p (k : Nat) : PF := { ps := [(true, 5), (false, 1), (false, 1)], rs := [(false, 1), (false, 1), (false, 1)], τ := (.pair (.pair (.int .i64) (.pair (.int .i64) (.pair (.int .i64) (.pair (.int .i64) (.int .i64))))) (.pair (.int .i64) (.int .i64))), σ := (.pair (.int .i64) (.pair (.int .i64) .bool)), f := fun x => corbelref04_Place k x.1.1 x.1.2.1 x.1.2.2.1 x.1.2.2.2.1 x.1.2.2.2.2 x.2.1 x.2.2 }
def corbelref04_Place_F (k : Nat) : PT := fcons 21 (corbelref04_Good_p k) <| fcons 83 (corbelref04_Drive_p k) <| fnone
theorem corbelref04_Place_fok (k : Nat) : FOK Try.prog tab (corbelref04_Place_F k) := fok_cons (corbelref04_Good_ok k) Try.call21 <| fok_cons (corbelref04_Drive_ok k) Try.call83 <| fok_none
def corbelref04_Place_c0 : Cl := { keep := [1, 2, 3, 37], hl := 1, ad := [], adc := [], bump := [] }
def corbelref04_Place_x0 : Cl := { keep := [1, 2, 3, 6, 7, 8], hl := 1, ad := [], adc := [], bump := [] }
def corbelref04_Place_c1 : Cl := { keep := [1, 2, 3, 9], hl := 1, ad := [], adc := [], bump := [] }
def corbelref04_Place_x1 : Cl := { keep := [1, 2, 3, 9], hl := 1, ad := [], adc := [], bump := [] }
def corbelref04_Place_h : Hint := (.sq .no (.sq (.ct corbelref04_Place_c0 corbelref04_Place_x0 0 .no .no) (.sq .no (.sq (.lp corbelref04_Place_c1 corbelref04_Place_x1 1 .no) .no))))
def corbelref04_Place_j0_E0 {R : Type} (K : EX → St → Option R) : Int → Int → Int → Int → Bool → Int → Int → Int → Int → Int → Option R := fun v0 v1 v2 v3 v4 v5 v6 v7 v8 v9 => K .ret (mkSt 56 [] corbelref04_Place_x0.keep [.int .i64 v0, .int .i64 v1, .ptr 0 0, .int .i64 v2, .int .i64 v3, .bool v4] [.blk [.int .i64 v5, .int .i64 v6, .int .i64 v7, .int .i64 v8, .int .i64 v9]])
def corbelref04_Place_j0_E1 {R : Type} (K : EX → St → Option R) : Int → Int → Int → Int → Int → Int → Int → Option R := fun v0 v1 v2 v3 v4 v5 v6 => K .normal (mkSt 56 [] corbelref04_Place_x0.keep [.int .i64 v0, .int .i64 v1, .ptr 0 0, .junk, .junk, .junk] [.blk [.int .i64 v2, .int .i64 v3, .int .i64 v4, .int .i64 v5, .int .i64 v6]])
def corbelref04_Place_j0_S (zone_2951 : Int) (block_2952 : Int) (v_2953 : Bool) (ga_2954 : Int) (gb_2955 : Int) (gc_2956 : Int) (gd_2957 : Int) (ge_2958 : Int) : St := mkSt 56 [] corbelref04_Place_c0.keep [.int .i64 zone_2951, .int .i64 block_2952, .ptr 0 0, .bool v_2953] [.blk [.int .i64 ga_2954, .int .i64 gb_2955, .int .i64 gc_2956, .int .i64 gd_2957, .int .i64 ge_2958]]
def corbelref04_Place_j0_sh : Rd (List AV × List HE) := .pair (.cons (.int .i64) (.cons (.int .i64) (.cons (.ptr 0 0) (.cons .bool Rd.nil)))) (.cons (.blk (.cons (.int .i64) (.cons (.int .i64) (.cons (.int .i64) (.cons (.int .i64) (.cons (.int .i64) Rd.nil)))))) Rd.nil)
def corbelref04_Place_j0_a {R : Type} (k : Nat) : Alt R := { n := 56, v := [], sh := corbelref04_Place_j0_sh, g := fun K x => corbelref04_Place_j0 (fun y2 y3 y4 => corbelref04_Place_j0_E0 K x.1.1 x.1.2.1 y2 y3 y4 x.2.1.1 x.2.1.2.1 x.2.1.2.2.1 x.2.1.2.2.2.1 x.2.1.2.2.2.2.1) (corbelref04_Place_j0_E1 K x.1.1 x.1.2.1 x.2.1.1 x.2.1.2.1 x.2.1.2.2.1 x.2.1.2.2.2.1 x.2.1.2.2.2.2.1) k x.1.2.2.2.1 }
def corbelref04_Place_l1_E0 {R : Type} (K : EX → St → Option R) : Int → Int → Int → Int → Int → Int → Int → Int → Option R := fun v0 v1 v2 v3 v4 v5 v6 v7 => K (.exit 0) (mkSt 56 [] corbelref04_Place_x1.keep [.int .i64 v0, .int .i64 v1, .ptr 0 0, .int .i64 v2] [.blk [.int .i64 v3, .int .i64 v4, .int .i64 v5, .int .i64 v6, .int .i64 v7]])
def corbelref04_Place_l1_S (zone_2976 : Int) (block_2977 : Int) (row_2978 : Int) (ga_2979 : Int) (gb_2980 : Int) (gc_2981 : Int) (gd_2982 : Int) (ge_2983 : Int) : St := mkSt 56 [] corbelref04_Place_c1.keep [.int .i64 zone_2976, .int .i64 block_2977, .ptr 0 0, .int .i64 row_2978] [.blk [.int .i64 ga_2979, .int .i64 gb_2980, .int .i64 gc_2981, .int .i64 gd_2982, .int .i64 ge_2983]]
def corbelref04_Place_l1_sh : Rd (List AV × List HE) := .pair (.cons (.int .i64) (.cons (.int .i64) (.cons (.ptr 0 0) (.cons (.int .i64) Rd.nil)))) (.cons (.blk (.cons (.int .i64) (.cons (.int .i64) (.cons (.int .i64) (.cons (.int .i64) (.cons (.int .i64) Rd.nil)))))) Rd.nil)
def corbelref04_Place_l1_a {R : Type} (k : Nat) : Alt R := { n := 56, v := [], sh := corbelref04_Place_l1_sh, g := fun K x => corbelref04_Place_l1 (fun y1 y2 => corbelref04_Place_l1_E0 K x.1.1 y1 y2 x.2.1.1 x.2.1.2.1 x.2.1.2.2.1 x.2.1.2.2.2.1 x.2.1.2.2.2.2.1) k x.2.1.1 k x.1.2.1 x.1.2.2.2.1 }
def corbelref04_Place_O {R : Type} (k : Nat) : CutK R := cutsO [[corbelref04_Place_j0_a k], [corbelref04_Place_l1_a k]]
noncomputable def corbelref04_Place_b : List Ob := obs (bodyOf Try.f47) corbelref04_Place_h
noncomputable def corbelref04_Place_I {R : Type} (k : Nat) : InlT R := inone
theorem corbelref04_Place_j0_eq {R : Type} (k : Nat) (K : EX → St → Option R) (zone_2951 : Int) (block_2952 : Int) (v_2953 : Bool) (ga_2954 : Int) (gb_2955 : Int) (gc_2956 : Int) (gd_2957 : Int) (ge_2958 : Int) : corbelref04_Place_j0 (fun y2 y3 y4 => corbelref04_Place_j0_E0 K zone_2951 block_2952 y2 y3 y4 ga_2954 gb_2955 gc_2956 gd_2957 ge_2958) (corbelref04_Place_j0_E1 K zone_2951 block_2952 ga_2954 gb_2955 gc_2956 gd_2957 ge_2958) k v_2953 = ev tab (corbelref04_Place_F k) (inlK tab (corbelref04_Place_F k) (corbelref04_Place_I k) 0) (corbelref04_Place_O k) (obB corbelref04_Place_b 0) (obH corbelref04_Place_b 0) (corbelref04_Place_j0_S zone_2951 block_2952 v_2953 ga_2954 gb_2955 gc_2956 gd_2957 ge_2958) (fun e st => optb (clean corbelref04_Place_x0 st) fun st => K e st) := by kernel_rfl
theorem corbelref04_Place_j0_ok {R : Type} (k : Nat)  : ObOK (R := R) tab (corbelref04_Place_F k) (inlK tab (corbelref04_Place_F k) (corbelref04_Place_I k) 0) (corbelref04_Place_O k) (.join corbelref04_Place_c0 corbelref04_Place_x0 0 (obB corbelref04_Place_b 0) (obH corbelref04_Place_b 0)) :=
  join_ok (l := [corbelref04_Place_j0_a k]) (by kernel_rfl) ⟨(fun K x => (corbelref04_Place_j0_eq k K x.1.1 x.1.2.1 x.1.2.2.2.1 x.2.1.1 x.2.1.2.1 x.2.1.2.2.1 x.2.1.2.2.2.1 x.2.1.2.2.2.2.1).trans (by kernel_rfl)), trivial⟩
theorem corbelref04_Place_l1_eq {R : Type} (k : Nat) (K : EX → St → Option R) (zone_2976 : Int) (ga_2979 : Int) (gb_2980 : Int) (gc_2981 : Int) (gd_2982 : Int) (ge_2983 : Int) : ∀ (j : Nat) (block_2977 : Int) (row_2978 : Int), corbelref04_Place_l1 (fun y1 y2 => corbelref04_Place_l1_E0 K zone_2976 y1 y2 ga_2979 gb_2980 gc_2981 gd_2982 ge_2983) k ga_2979 j block_2977 row_2978 = iter corbelref04_Place_c1 corbelref04_Place_x1 (ev tab (corbelref04_Place_F k) (inlK tab (corbelref04_Place_F k) (corbelref04_Place_I k) 0) (corbelref04_Place_O k) (obB corbelref04_Place_b 1) (obH corbelref04_Place_b 1)) j (corbelref04_Place_l1_S zone_2976 block_2977 row_2978 ga_2979 gb_2980 gc_2981 gd_2982 ge_2983) K
  | 0, _, _ => rfl
  | j + 1, block_2977, row_2978 => by
    have e : corbelref04_Place_l1 (fun y1 y2 => corbelref04_Place_l1_E0 K zone_2976 y1 y2 ga_2979 gb_2980 gc_2981 gd_2982 ge_2983) k ga_2979 j = fun block_2977 row_2978 => iter corbelref04_Place_c1 corbelref04_Place_x1 (ev tab (corbelref04_Place_F k) (inlK tab (corbelref04_Place_F k) (corbelref04_Place_I k) 0) (corbelref04_Place_O k) (obB corbelref04_Place_b 1) (obH corbelref04_Place_b 1)) j (corbelref04_Place_l1_S zone_2976 block_2977 row_2978 ga_2979 gb_2980 gc_2981 gd_2982 ge_2983) K := by funext block_2977 row_2978; exact corbelref04_Place_l1_eq k K zone_2976 ga_2979 gb_2980 gc_2981 gd_2982 ge_2983 j block_2977 row_2978
    show corbelref04_Place_l1s (corbelref04_Place_l1 (fun y1 y2 => corbelref04_Place_l1_E0 K zone_2976 y1 y2 ga_2979 gb_2980 gc_2981 gd_2982 ge_2983) k ga_2979 j) (fun y1 y2 => corbelref04_Place_l1_E0 K zone_2976 y1 y2 ga_2979 gb_2980 gc_2981 gd_2982 ge_2983) k ga_2979 block_2977 row_2978 = _
    rw [e, iter_succ]; kernel_rfl
theorem corbelref04_Place_l1_ok {R : Type} (k : Nat)  : ObOK (R := R) tab (corbelref04_Place_F k) (inlK tab (corbelref04_Place_F k) (corbelref04_Place_I k) 0) (corbelref04_Place_O k) (.loop corbelref04_Place_c1 corbelref04_Place_x1 1 (obB corbelref04_Place_b 1) (obH corbelref04_Place_b 1)) :=
  loop_ok (l := [corbelref04_Place_l1_a k]) (by kernel_rfl) ⟨(fun K x => ⟨k, (corbelref04_Place_l1_eq k K x.1.1 x.2.1.1 x.2.1.2.1 x.2.1.2.2.1 x.2.1.2.2.2.1 x.2.1.2.2.2.2.1 k x.1.2.1 x.1.2.2.2.1).trans (by kernel_rfl)⟩), trivial⟩
theorem corbelref04_Place_cuts {R : Type} (k : Nat) : ∀ c, Try.f47.body = some c → CutsOK (R := R) tab (corbelref04_Place_F k) (inlK tab (corbelref04_Place_F k) (corbelref04_Place_I k) 0) (corbelref04_Place_O k) c corbelref04_Place_h :=
  cuts_of (l := [.join corbelref04_Place_c0 corbelref04_Place_x0 0 (obB corbelref04_Place_b 0) (obH corbelref04_Place_b 0), .loop corbelref04_Place_c1 corbelref04_Place_x1 1 (obB corbelref04_Place_b 1) (obH corbelref04_Place_b 1)]) (by kernel_rfl) ⟨corbelref04_Place_j0_ok k, corbelref04_Place_l1_ok k, trivial⟩
theorem corbelref04_Place_iok {R : Type} (k : Nat) : IOK Try.prog tab (corbelref04_Place_F k) (corbelref04_Place_I (R := R) k) := iok_none
theorem corbelref04_Place_ev (k : Nat) (x : (corbelref04_Place_p k).τ.den) : evalF tab (corbelref04_Place_F k) (corbelref04_Place_p k) (corbelref04_Place_I k) 0 (corbelref04_Place_O k) corbelref04_Place_h Try.f47 x = (corbelref04_Place_p k).f x := by kernel_rfl
theorem corbelref04_Place_ok (k : Nat) : PFOK Try.prog tab 47 (corbelref04_Place_p k) := pfok mixed tabOK (corbelref04_Place_fok k) Try.func47 (I := corbelref04_Place_I k) (d := 0) (corbelref04_Place_iok k) (Q := corbelref04_Place_O k) (hi := corbelref04_Place_h) (corbelref04_Place_cuts k) (corbelref04_Place_ev k)
end Go.Proofs.Ythilffdaofaalaa.Ev
