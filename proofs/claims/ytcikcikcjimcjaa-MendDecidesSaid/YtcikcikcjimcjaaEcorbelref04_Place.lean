/- corbelref04_Place, told on plain data. Written by program. -/
import Derived.Test.YtcikcikcjimcjaaEcorbelref04_Good
import Derived.Test.YtcikcikcjimcjaaEcorbelref04_Drive
set_option linter.unusedVariables false
set_option maxRecDepth 1000000
namespace Go.Proofs.Ytcikcikcjimcjaa.Ev
open Go Go.RowKit Go.Proofs
def corbelref04_Place_j0 {R : Type} (e0 : Int → Int → Bool → Option R) (e1 : Option R) (k : Nat) (v_6958 : Bool) : Option R :=
  bif v_6958 then
    e0 (0 : Int) (0 : Int) false
  else e1
def corbelref04_Place_l1s {R : Type} (rc : Int → Int → Option R) (e0 : Int → Int → Option R) (k : Nat) (ga_6984 : Int) (block_6982 : Int) (row_6983 : Int) : Option R :=
  bif (decide ((wrap64 (ga_6984 - (1 : Int))) ≤ block_6982)) then
    rc (wrap64 (block_6982 - (wrap64 (ga_6984 - (1 : Int))))) (wrap64 (row_6983 + (1 : Int)))
  else e0 block_6982 row_6983
def corbelref04_Place_l1 {R : Type} (e0 : Int → Int → Option R) (k : Nat) (ga_6984 : Int) : Nat → Int → Int → Option R
  | 0 => fun _ _ => none
  | j + 1 => corbelref04_Place_l1s (corbelref04_Place_l1 e0 k ga_6984 j) e0 k ga_6984
def corbelref04_Place_k0 (k : Nat) : Int → Int → Bool → Option (Int × (Int × Bool)) := fun v_6966 v_6967 v_6968 =>
  some (v_6966, (v_6967, v_6968))
def corbelref04_Place_k1 (k : Nat) (block_6863 : Int) (ga_6857 : Int) (gb_6858 : Int) (gc_6859 : Int) (gd_6860 : Int) (ge_6861 : Int) (zone_6862 : Int) : Option (Int × (Int × Bool)) := 
  corbelref04_Place_l1 (fun block_6993 row_6994 =>
    optb (corbelref04_Drive k ga_6857 gb_6858 gc_6859 gd_6860 ge_6861 zone_6862 row_6994 block_6993) fun r_7065 =>
    some (row_6994, (r_7065, true))) k ga_6857 k block_6863 (0 : Int)
def corbelref04_Place (k : Nat) (ga_6857 : Int) (gb_6858 : Int) (gc_6859 : Int) (gd_6860 : Int) (ge_6861 : Int) (zone_6862 : Int) (block_6863 : Int) : Option (Int × (Int × Bool)) :=
  optb (corbelref04_Good k ga_6857 gb_6858 gc_6859 gd_6860 ge_6861) fun r_6955 =>
  bif (!r_6955) then
    corbelref04_Place_j0 (corbelref04_Place_k0 k) (corbelref04_Place_k1 k block_6863 ga_6857 gb_6858 gc_6859 gd_6860 ge_6861 zone_6862) k true
  else bif (decide (zone_6862 < (0 : Int))) then
    corbelref04_Place_j0 (corbelref04_Place_k0 k) (corbelref04_Place_k1 k block_6863 ga_6857 gb_6858 gc_6859 gd_6860 ge_6861 zone_6862) k true
  else bif (decide ((wrap64 (gb_6858 - (4 : Int))) < zone_6862)) then
    corbelref04_Place_j0 (corbelref04_Place_k0 k) (corbelref04_Place_k1 k block_6863 ga_6857 gb_6858 gc_6859 gd_6860 ge_6861 zone_6862) k true
  else bif (decide (block_6863 < (0 : Int))) then
    corbelref04_Place_j0 (corbelref04_Place_k0 k) (corbelref04_Place_k1 k block_6863 ga_6857 gb_6858 gc_6859 gd_6860 ge_6861 zone_6862) k true
  else corbelref04_Place_j0 (corbelref04_Place_k0 k) (corbelref04_Place_k1 k block_6863 ga_6857 gb_6858 gc_6859 gd_6860 ge_6861 zone_6862) k (decide ((wrap64 ((wrap64 (ga_6857 - (1 : Int))) * gc_6859)) ≤ block_6863))
def corbelref04_Place_p (k : Nat) : PF := { ps := [(true, 5), (false, 1), (false, 1)], rs := [(false, 1), (false, 1), (false, 1)], τ := (.pair (.pair (.int .i64) (.pair (.int .i64) (.pair (.int .i64) (.pair (.int .i64) (.int .i64))))) (.pair (.int .i64) (.int .i64))), σ := (.pair (.int .i64) (.pair (.int .i64) .bool)), f := fun x => corbelref04_Place k x.1.1 x.1.2.1 x.1.2.2.1 x.1.2.2.2.1 x.1.2.2.2.2 x.2.1 x.2.2 }
def corbelref04_Place_F (k : Nat) : PT := fcons 19 (corbelref04_Good_p k) <| fcons 57 (corbelref04_Drive_p k) <| fnone
theorem corbelref04_Place_fok (k : Nat) : FOK Try.prog tab (corbelref04_Place_F k) := fok_cons (corbelref04_Good_ok k) Try.call19 <| fok_cons (corbelref04_Drive_ok k) Try.call57 <| fok_none
def corbelref04_Place_c0 : Cl := { keep := [1, 2, 3, 37], hl := 1, ad := [], adc := [], bump := [] }
def corbelref04_Place_x0 : Cl := { keep := [1, 2, 3, 6, 7, 8], hl := 1, ad := [], adc := [], bump := [] }
def corbelref04_Place_c1 : Cl := { keep := [1, 2, 3, 9], hl := 1, ad := [], adc := [], bump := [] }
def corbelref04_Place_x1 : Cl := { keep := [1, 2, 3, 9], hl := 1, ad := [], adc := [], bump := [] }
def corbelref04_Place_h : Hint := (.sq .no (.sq (.ct corbelref04_Place_c0 corbelref04_Place_x0 0 .no .no) (.sq .no (.sq (.lp corbelref04_Place_c1 corbelref04_Place_x1 1 .no) .no))))
def corbelref04_Place_j0_E0 {R : Type} (K : EX → St → Option R) : Int → Int → Int → Int → Bool → Int → Int → Int → Int → Int → Option R := fun v0 v1 v2 v3 v4 v5 v6 v7 v8 v9 => K .ret (mkSt 56 [] corbelref04_Place_x0.keep [.int .i64 v0, .int .i64 v1, .ptr 0 0, .int .i64 v2, .int .i64 v3, .bool v4] [.blk [.int .i64 v5, .int .i64 v6, .int .i64 v7, .int .i64 v8, .int .i64 v9]])
def corbelref04_Place_j0_E1 {R : Type} (K : EX → St → Option R) : Int → Int → Int → Int → Int → Int → Int → Option R := fun v0 v1 v2 v3 v4 v5 v6 => K .normal (mkSt 56 [] corbelref04_Place_x0.keep [.int .i64 v0, .int .i64 v1, .ptr 0 0, .junk, .junk, .junk] [.blk [.int .i64 v2, .int .i64 v3, .int .i64 v4, .int .i64 v5, .int .i64 v6]])
def corbelref04_Place_j0_S (zone_6956 : Int) (block_6957 : Int) (v_6958 : Bool) (ga_6959 : Int) (gb_6960 : Int) (gc_6961 : Int) (gd_6962 : Int) (ge_6963 : Int) : St := mkSt 56 [] corbelref04_Place_c0.keep [.int .i64 zone_6956, .int .i64 block_6957, .ptr 0 0, .bool v_6958] [.blk [.int .i64 ga_6959, .int .i64 gb_6960, .int .i64 gc_6961, .int .i64 gd_6962, .int .i64 ge_6963]]
def corbelref04_Place_j0_sh : Rd (List AV × List HE) := .pair (.cons (.int .i64) (.cons (.int .i64) (.cons (.ptr 0 0) (.cons .bool Rd.nil)))) (.cons (.blk (.cons (.int .i64) (.cons (.int .i64) (.cons (.int .i64) (.cons (.int .i64) (.cons (.int .i64) Rd.nil)))))) Rd.nil)
def corbelref04_Place_j0_a {R : Type} (k : Nat) : Alt R := { n := 56, v := [], sh := corbelref04_Place_j0_sh, g := fun K x => corbelref04_Place_j0 (fun y2 y3 y4 => corbelref04_Place_j0_E0 K x.1.1 x.1.2.1 y2 y3 y4 x.2.1.1 x.2.1.2.1 x.2.1.2.2.1 x.2.1.2.2.2.1 x.2.1.2.2.2.2.1) (corbelref04_Place_j0_E1 K x.1.1 x.1.2.1 x.2.1.1 x.2.1.2.1 x.2.1.2.2.1 x.2.1.2.2.2.1 x.2.1.2.2.2.2.1) k x.1.2.2.2.1 }
def corbelref04_Place_l1_E0 {R : Type} (K : EX → St → Option R) : Int → Int → Int → Int → Int → Int → Int → Int → Option R := fun v0 v1 v2 v3 v4 v5 v6 v7 => K (.exit 0) (mkSt 56 [] corbelref04_Place_x1.keep [.int .i64 v0, .int .i64 v1, .ptr 0 0, .int .i64 v2] [.blk [.int .i64 v3, .int .i64 v4, .int .i64 v5, .int .i64 v6, .int .i64 v7]])
def corbelref04_Place_l1_S (zone_6981 : Int) (block_6982 : Int) (row_6983 : Int) (ga_6984 : Int) (gb_6985 : Int) (gc_6986 : Int) (gd_6987 : Int) (ge_6988 : Int) : St := mkSt 56 [] corbelref04_Place_c1.keep [.int .i64 zone_6981, .int .i64 block_6982, .ptr 0 0, .int .i64 row_6983] [.blk [.int .i64 ga_6984, .int .i64 gb_6985, .int .i64 gc_6986, .int .i64 gd_6987, .int .i64 ge_6988]]
def corbelref04_Place_l1_sh : Rd (List AV × List HE) := .pair (.cons (.int .i64) (.cons (.int .i64) (.cons (.ptr 0 0) (.cons (.int .i64) Rd.nil)))) (.cons (.blk (.cons (.int .i64) (.cons (.int .i64) (.cons (.int .i64) (.cons (.int .i64) (.cons (.int .i64) Rd.nil)))))) Rd.nil)
def corbelref04_Place_l1_a {R : Type} (k : Nat) : Alt R := { n := 56, v := [], sh := corbelref04_Place_l1_sh, g := fun K x => corbelref04_Place_l1 (fun y1 y2 => corbelref04_Place_l1_E0 K x.1.1 y1 y2 x.2.1.1 x.2.1.2.1 x.2.1.2.2.1 x.2.1.2.2.2.1 x.2.1.2.2.2.2.1) k x.2.1.1 k x.1.2.1 x.1.2.2.2.1 }
def corbelref04_Place_O {R : Type} (k : Nat) : CutK R := cutsO [[corbelref04_Place_j0_a k], [corbelref04_Place_l1_a k]]
noncomputable def corbelref04_Place_b : List Ob := obs (bodyOf Try.f39) corbelref04_Place_h
noncomputable def corbelref04_Place_I {R : Type} (k : Nat) : InlT R := inone
theorem corbelref04_Place_j0_eq {R : Type} (k : Nat) (K : EX → St → Option R) (zone_6956 : Int) (block_6957 : Int) (v_6958 : Bool) (ga_6959 : Int) (gb_6960 : Int) (gc_6961 : Int) (gd_6962 : Int) (ge_6963 : Int) : corbelref04_Place_j0 (fun y2 y3 y4 => corbelref04_Place_j0_E0 K zone_6956 block_6957 y2 y3 y4 ga_6959 gb_6960 gc_6961 gd_6962 ge_6963) (corbelref04_Place_j0_E1 K zone_6956 block_6957 ga_6959 gb_6960 gc_6961 gd_6962 ge_6963) k v_6958 = ev tab (corbelref04_Place_F k) (inlK tab (corbelref04_Place_F k) (corbelref04_Place_I k) 0) (corbelref04_Place_O k) (obB corbelref04_Place_b 0) (obH corbelref04_Place_b 0) (corbelref04_Place_j0_S zone_6956 block_6957 v_6958 ga_6959 gb_6960 gc_6961 gd_6962 ge_6963) (fun e st => optb (clean corbelref04_Place_x0 st) fun st => K e st) := by kernel_rfl
theorem corbelref04_Place_j0_ok {R : Type} (k : Nat)  : ObOK (R := R) tab (corbelref04_Place_F k) (inlK tab (corbelref04_Place_F k) (corbelref04_Place_I k) 0) (corbelref04_Place_O k) (.join corbelref04_Place_c0 corbelref04_Place_x0 0 (obB corbelref04_Place_b 0) (obH corbelref04_Place_b 0)) :=
  join_ok (l := [corbelref04_Place_j0_a k]) (by kernel_rfl) ⟨(fun K x => (corbelref04_Place_j0_eq k K x.1.1 x.1.2.1 x.1.2.2.2.1 x.2.1.1 x.2.1.2.1 x.2.1.2.2.1 x.2.1.2.2.2.1 x.2.1.2.2.2.2.1).trans (by kernel_rfl)), trivial⟩
theorem corbelref04_Place_l1_eq {R : Type} (k : Nat) (K : EX → St → Option R) (zone_6981 : Int) (ga_6984 : Int) (gb_6985 : Int) (gc_6986 : Int) (gd_6987 : Int) (ge_6988 : Int) : ∀ (j : Nat) (block_6982 : Int) (row_6983 : Int), corbelref04_Place_l1 (fun y1 y2 => corbelref04_Place_l1_E0 K zone_6981 y1 y2 ga_6984 gb_6985 gc_6986 gd_6987 ge_6988) k ga_6984 j block_6982 row_6983 = iter corbelref04_Place_c1 corbelref04_Place_x1 (ev tab (corbelref04_Place_F k) (inlK tab (corbelref04_Place_F k) (corbelref04_Place_I k) 0) (corbelref04_Place_O k) (obB corbelref04_Place_b 1) (obH corbelref04_Place_b 1)) j (corbelref04_Place_l1_S zone_6981 block_6982 row_6983 ga_6984 gb_6985 gc_6986 gd_6987 ge_6988) K
  | 0, _, _ => rfl
  | j + 1, block_6982, row_6983 => by
    have e : corbelref04_Place_l1 (fun y1 y2 => corbelref04_Place_l1_E0 K zone_6981 y1 y2 ga_6984 gb_6985 gc_6986 gd_6987 ge_6988) k ga_6984 j = fun block_6982 row_6983 => iter corbelref04_Place_c1 corbelref04_Place_x1 (ev tab (corbelref04_Place_F k) (inlK tab (corbelref04_Place_F k) (corbelref04_Place_I k) 0) (corbelref04_Place_O k) (obB corbelref04_Place_b 1) (obH corbelref04_Place_b 1)) j (corbelref04_Place_l1_S zone_6981 block_6982 row_6983 ga_6984 gb_6985 gc_6986 gd_6987 ge_6988) K := by funext block_6982 row_6983; exact corbelref04_Place_l1_eq k K zone_6981 ga_6984 gb_6985 gc_6986 gd_6987 ge_6988 j block_6982 row_6983
    show corbelref04_Place_l1s (corbelref04_Place_l1 (fun y1 y2 => corbelref04_Place_l1_E0 K zone_6981 y1 y2 ga_6984 gb_6985 gc_6986 gd_6987 ge_6988) k ga_6984 j) (fun y1 y2 => corbelref04_Place_l1_E0 K zone_6981 y1 y2 ga_6984 gb_6985 gc_6986 gd_6987 ge_6988) k ga_6984 block_6982 row_6983 = _
    rw [e, iter_succ]; kernel_rfl
theorem corbelref04_Place_l1_ok {R : Type} (k : Nat)  : ObOK (R := R) tab (corbelref04_Place_F k) (inlK tab (corbelref04_Place_F k) (corbelref04_Place_I k) 0) (corbelref04_Place_O k) (.loop corbelref04_Place_c1 corbelref04_Place_x1 1 (obB corbelref04_Place_b 1) (obH corbelref04_Place_b 1)) :=
  loop_ok (l := [corbelref04_Place_l1_a k]) (by kernel_rfl) ⟨(fun K x => ⟨k, (corbelref04_Place_l1_eq k K x.1.1 x.2.1.1 x.2.1.2.1 x.2.1.2.2.1 x.2.1.2.2.2.1 x.2.1.2.2.2.2.1 k x.1.2.1 x.1.2.2.2.1).trans (by kernel_rfl)⟩), trivial⟩
theorem corbelref04_Place_cuts {R : Type} (k : Nat) : ∀ c, Try.f39.body = some c → CutsOK (R := R) tab (corbelref04_Place_F k) (inlK tab (corbelref04_Place_F k) (corbelref04_Place_I k) 0) (corbelref04_Place_O k) c corbelref04_Place_h :=
  cuts_of (l := [.join corbelref04_Place_c0 corbelref04_Place_x0 0 (obB corbelref04_Place_b 0) (obH corbelref04_Place_b 0), .loop corbelref04_Place_c1 corbelref04_Place_x1 1 (obB corbelref04_Place_b 1) (obH corbelref04_Place_b 1)]) (by kernel_rfl) ⟨corbelref04_Place_j0_ok k, corbelref04_Place_l1_ok k, trivial⟩
theorem corbelref04_Place_iok {R : Type} (k : Nat) : IOK Try.prog tab (corbelref04_Place_F k) (corbelref04_Place_I (R := R) k) := iok_none
theorem corbelref04_Place_ev (k : Nat) (x : (corbelref04_Place_p k).τ.den) : evalF tab (corbelref04_Place_F k) (corbelref04_Place_p k) (corbelref04_Place_I k) 0 (corbelref04_Place_O k) corbelref04_Place_h Try.f39 x = (corbelref04_Place_p k).f x := by kernel_rfl
theorem corbelref04_Place_ok (k : Nat) : PFOK Try.prog tab 39 (corbelref04_Place_p k) := pfok mixed tabOK (corbelref04_Place_fok k) Try.func39 (I := corbelref04_Place_I k) (d := 0) (corbelref04_Place_iok k) (Q := corbelref04_Place_O k) (hi := corbelref04_Place_h) (corbelref04_Place_cuts k) (corbelref04_Place_ev k)
end Go.Proofs.Ytcikcikcjimcjaa.Ev
