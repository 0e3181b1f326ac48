/- corbellaw23_text, told on plain data. Written by program. -/
import Derived.Test.YtiolpmgphkakeaaEtab
set_option linter.unusedVariables false
set_option maxRecDepth 1000000
namespace Go.Proofs.Ytiolpmgphkakeaa.Ev
open Go Go.RowKit Go.Proofs
noncomputable def corbellaw23_text_l1s {R : Type} (rc : Int → List Int → Option R) (e0 : List Int → Option R) (k : Nat) (n_0 : Int) (ad_1 : Int) (k_2 : Int) (b_3 : List Int) : Option R :=
  bif (decide (k_2 < n_0)) then
    bif ((decide ((0 : Int) ≤ k_2)) && (decide (k_2 < (lenI b_3)))) then
      optb (b_3[k_2.toNat]?) fun x_4 =>
      rc (wrap64 (k_2 + (1 : Int))) (List.set b_3 k_2.toNat (bitop .and .u8 ad_1 (3 : Int)))
    else none
  else e0 b_3
noncomputable def corbellaw23_text_l1 {R : Type} (e0 : List Int → Option R) (k : Nat) (n_0 : Int) (ad_1 : Int) : Nat → Int → List Int → Option R
  | 0 => fun _ _ => none
  | j + 1 => corbellaw23_text_l1s (corbellaw23_text_l1 e0 k n_0 ad_1 j) e0 k n_0 ad_1
noncomputable def corbellaw23_text_j0 {R : Type} (e0 : ByteArray → Option R) (k : Nat) (n_5 : Int) (ad_6 : Int) : Option R :=
  bif (((decide ((0 : Int) ≤ n_5)) && (decide (n_5 ≤ n_5))) && (decide (n_5 ≤ (1099511627776 : Int)))) then
    corbellaw23_text_l1 (fun b_7 =>
      e0 (bytesOf b_7)) k n_5 ad_6 k (0 : Int) (List.replicate n_5.toNat (Ty.zero (.int .u8)))
  else none
noncomputable def corbellaw23_text_k0 (k : Nat) : ByteArray → Option ByteArray := fun v_8 =>
  some v_8
noncomputable def corbellaw23_text (k : Nat) (aa_9 : Int) (ab_10 : Int) (ac_11 : Int) (ad_12 : Int) (ae_13 : Bool) : Option ByteArray :=
  let z_14 := (bif (decide ((0 : Int) > ac_11)) then (0 : Int) else ac_11)
  let z_15 := (bif (decide ((8 : Int) < z_14)) then (8 : Int) else z_14)
  bif ae_13 then
    corbellaw23_text_j0 (corbellaw23_text_k0 k) k (wrap64 ((wrap64 ((64 : Int) * z_15)) + (1 : Int))) ad_12
  else corbellaw23_text_j0 (corbellaw23_text_k0 k) k (wrap64 ((64 : Int) * z_15)) ad_12
noncomputable def corbellaw23_text_p (k : Nat) : PF := { ps := [(true, 5)], rs := [(false, 1)], τ := (.pair (.int .i64) (.pair (.int .i64) (.pair (.int .i64) (.pair (.int .u8) .bool)))), σ := .str, f := fun x => corbellaw23_text k x.1 x.2.1 x.2.2.1 x.2.2.2.1 x.2.2.2.2 }
noncomputable def corbellaw23_text_F (k : Nat) : PT := fnone
theorem corbellaw23_text_fok (k : Nat) : FOK Try.prog tab (corbellaw23_text_F k) := fok_none
noncomputable def corbellaw23_text_c0 : Cl := { keep := [1, 3], hl := 1, ad := [], adc := [], bump := [] }
noncomputable def corbellaw23_text_x0 : Cl := { keep := [2], hl := 0, ad := [], adc := [], bump := [] }
noncomputable def corbellaw23_text_c1 : Cl := { keep := [1, 3, 4, 5], hl := 2, ad := [], adc := [], bump := [] }
noncomputable def corbellaw23_text_x1 : Cl := { keep := [4], hl := 2, ad := [], adc := [], bump := [] }
noncomputable def corbellaw23_text_h : Hint := (.sq .no (.sq .no (.ct corbellaw23_text_c0 corbellaw23_text_x0 0 .no (.sq .no (.sq (.sq .no (.lp corbellaw23_text_c1 corbellaw23_text_x1 1 .no)) .no)))))
noncomputable def corbellaw23_text_j0_E0 {R : Type} (K : EX → St → Option R) : ByteArray → Option R := fun v0 => K .ret (mkSt 30 [] corbellaw23_text_x0.keep [.str v0] [])
noncomputable def corbellaw23_text_j0_S (n_5 : Int) (aa_16 : Int) (ab_17 : Int) (ac_18 : Int) (ad_6 : Int) (ae_19 : Bool) : St := mkSt 30 [] corbellaw23_text_c0.keep [.ptr 0 0, .int .i64 n_5] [.blk [.int .i64 aa_16, .int .i64 ab_17, .int .i64 ac_18, .int .u8 ad_6, .bool ae_19]]
noncomputable def corbellaw23_text_j0_sh : Rd (List AV × List HE) := .pair (.cons (.ptr 0 0) (.cons (.int .i64) Rd.nil)) (.cons (.blk (.cons (.int .i64) (.cons (.int .i64) (.cons (.int .i64) (.cons (.int .u8) (.cons .bool Rd.nil)))))) Rd.nil)
noncomputable def corbellaw23_text_j0_a {R : Type} (k : Nat) : Alt R := { n := 30, v := [], sh := corbellaw23_text_j0_sh, g := fun K x => corbellaw23_text_j0 (corbellaw23_text_j0_E0 K) k x.1.2.1 x.2.1.2.2.2.1 }
noncomputable def corbellaw23_text_l1_E0 {R : Type} (K : EX → St → Option R) : Int → Int → Int → Int → Bool → Bool → List Int → Option R := fun v0 v1 v2 v3 v4 v5 v6 => K (.exit 0) (mkSt 30 [] corbellaw23_text_x1.keep [.own 1 1] [.blk [.int .i64 v0, .int .i64 v1, .int .i64 v2, .int .u8 v3, .bool v4], .lst (.int .u8) 5 v5 1 v6])
noncomputable def corbellaw23_text_l1_S (n_0 : Int) (k_2 : Int) (aa_20 : Int) (ab_21 : Int) (ac_22 : Int) (ad_1 : Int) (ae_23 : Bool) (bN_24 : Bool) (b_3 : List Int) : St := mkSt 30 [] corbellaw23_text_c1.keep [.ptr 0 0, .int .i64 n_0, .own 1 1, .int .i64 k_2] [.blk [.int .i64 aa_20, .int .i64 ab_21, .int .i64 ac_22, .int .u8 ad_1, .bool ae_23], .lst (.int .u8) 5 bN_24 1 b_3]
noncomputable def corbellaw23_text_l1_sh : Rd (List AV × List HE) := .pair (.cons (.ptr 0 0) (.cons (.int .i64) (.cons (.own 1 1) (.cons (.int .i64) Rd.nil)))) (.cons (.blk (.cons (.int .i64) (.cons (.int .i64) (.cons (.int .i64) (.cons (.int .u8) (.cons .bool Rd.nil)))))) (.cons (.lst (.int .u8) 5 1) Rd.nil))
noncomputable def corbellaw23_text_l1_a {R : Type} (k : Nat) : Alt R := { n := 30, v := [], sh := corbellaw23_text_l1_sh, g := fun K x => corbellaw23_text_l1 (fun y6 => corbellaw23_text_l1_E0 K x.2.1.1 x.2.1.2.1 x.2.1.2.2.1 x.2.1.2.2.2.1 x.2.1.2.2.2.2.1 x.2.2.1.1 y6) k x.1.2.1 x.2.1.2.2.2.1 k x.1.2.2.2.1 x.2.2.1.2 }
noncomputable def corbellaw23_text_O {R : Type} (k : Nat) : CutK R := cutsO [[corbellaw23_text_j0_a k], [corbellaw23_text_l1_a k]]
noncomputable def corbellaw23_text_b : List Ob := obs (bodyOf Try.f9) corbellaw23_text_h
noncomputable def corbellaw23_text_I {R : Type} (k : Nat) : InlT R := inone
theorem corbellaw23_text_j0_eq {R : Type} (k : Nat) (K : EX → St → Option R) (n_5 : Int) (aa_16 : Int) (ab_17 : Int) (ac_18 : Int) (ad_6 : Int) (ae_19 : Bool) : corbellaw23_text_j0 (corbellaw23_text_j0_E0 K) k n_5 ad_6 = ev tab (corbellaw23_text_F k) (inlK tab (corbellaw23_text_F k) (corbellaw23_text_I k) 0) (corbellaw23_text_O k) (obB corbellaw23_text_b 0) (obH corbellaw23_text_b 0) (corbellaw23_text_j0_S n_5 aa_16 ab_17 ac_18 ad_6 ae_19) (fun e st => optb (clean corbellaw23_text_x0 st) fun st => K e st) := by kernel_rfl
theorem corbellaw23_text_j0_ok {R : Type} (k : Nat)  : ObOK (R := R) tab (corbellaw23_text_F k) (inlK tab (corbellaw23_text_F k) (corbellaw23_text_I k) 0) (corbellaw23_text_O k) (.join corbellaw23_text_c0 corbellaw23_text_x0 0 (obB corbellaw23_text_b 0) (obH corbellaw23_text_b 0)) :=
  join_ok (l := [corbellaw23_text_j0_a k]) (by kernel_rfl) ⟨(fun K x => (corbellaw23_text_j0_eq k K x.1.2.1 x.2.1.1 x.2.1.2.1 x.2.1.2.2.1 x.2.1.2.2.2.1 x.2.1.2.2.2.2.1).trans (by kernel_rfl)), trivial⟩
theorem corbellaw23_text_l1_eq {R : Type} (k : Nat) (K : EX → St → Option R) (n_0 : Int) (aa_20 : Int) (ab_21 : Int) (ac_22 : Int) (ad_1 : Int) (ae_23 : Bool) (bN_24 : Bool) : ∀ (j : Nat) (k_2 : Int) (b_3 : List Int), corbellaw23_text_l1 (fun y6 => corbellaw23_text_l1_E0 K aa_20 ab_21 ac_22 ad_1 ae_23 bN_24 y6) k n_0 ad_1 j k_2 b_3 = iter corbellaw23_text_c1 corbellaw23_text_x1 (ev tab (corbellaw23_text_F k) (inlK tab (corbellaw23_text_F k) (corbellaw23_text_I k) 0) (corbellaw23_text_O k) (obB corbellaw23_text_b 1) (obH corbellaw23_text_b 1)) j (corbellaw23_text_l1_S n_0 k_2 aa_20 ab_21 ac_22 ad_1 ae_23 bN_24 b_3) K
  | 0, _, _ => rfl
  | j + 1, k_2, b_3 => by
    have e : corbellaw23_text_l1 (fun y6 => corbellaw23_text_l1_E0 K aa_20 ab_21 ac_22 ad_1 ae_23 bN_24 y6) k n_0 ad_1 j = fun k_2 b_3 => iter corbellaw23_text_c1 corbellaw23_text_x1 (ev tab (corbellaw23_text_F k) (inlK tab (corbellaw23_text_F k) (corbellaw23_text_I k) 0) (corbellaw23_text_O k) (obB corbellaw23_text_b 1) (obH corbellaw23_text_b 1)) j (corbellaw23_text_l1_S n_0 k_2 aa_20 ab_21 ac_22 ad_1 ae_23 bN_24 b_3) K := by funext k_2 b_3; exact corbellaw23_text_l1_eq k K n_0 aa_20 ab_21 ac_22 ad_1 ae_23 bN_24 j k_2 b_3
    show corbellaw23_text_l1s (corbellaw23_text_l1 (fun y6 => corbellaw23_text_l1_E0 K aa_20 ab_21 ac_22 ad_1 ae_23 bN_24 y6) k n_0 ad_1 j) (fun y6 => corbellaw23_text_l1_E0 K aa_20 ab_21 ac_22 ad_1 ae_23 bN_24 y6) k n_0 ad_1 k_2 b_3 = _
    rw [e, iter_succ]; kernel_rfl
theorem corbellaw23_text_l1_ok {R : Type} (k : Nat)  : ObOK (R := R) tab (corbellaw23_text_F k) (inlK tab (corbellaw23_text_F k) (corbellaw23_text_I k) 0) (corbellaw23_text_O k) (.loop corbellaw23_text_c1 corbellaw23_text_x1 1 (obB corbellaw23_text_b 1) (obH corbellaw23_text_b 1)) :=
  loop_ok (l := [corbellaw23_text_l1_a k]) (by kernel_rfl) ⟨(fun K x => ⟨k, (corbellaw23_text_l1_eq k K x.1.2.1 x.2.1.1 x.2.1.2.1 x.2.1.2.2.1 x.2.1.2.2.2.1 x.2.1.2.2.2.2.1 x.2.2.1.1 k x.1.2.2.2.1 x.2.2.1.2).trans (by kernel_rfl)⟩), trivial⟩
theorem corbellaw23_text_cuts {R : Type} (k : Nat) : ∀ c, Try.f9.body = some c → CutsOK (R := R) tab (corbellaw23_text_F k) (inlK tab (corbellaw23_text_F k) (corbellaw23_text_I k) 0) (corbellaw23_text_O k) c corbellaw23_text_h :=
  cuts_of (l := [.join corbellaw23_text_c0 corbellaw23_text_x0 0 (obB corbellaw23_text_b 0) (obH corbellaw23_text_b 0), .loop corbellaw23_text_c1 corbellaw23_text_x1 1 (obB corbellaw23_text_b 1) (obH corbellaw23_text_b 1)]) (by kernel_rfl) ⟨corbellaw23_text_j0_ok k, corbellaw23_text_l1_ok k, trivial⟩
theorem corbellaw23_text_iok {R : Type} (k : Nat) : IOK Try.prog tab (corbellaw23_text_F k) (corbellaw23_text_I (R := R) k) := iok_none
theorem corbellaw23_text_ev (k : Nat) (x : (corbellaw23_text_p k).τ.den) : evalF tab (corbellaw23_text_F k) (corbellaw23_text_p k) (corbellaw23_text_I k) 0 (corbellaw23_text_O k) corbellaw23_text_h Try.f9 x = (corbellaw23_text_p k).f x := by kernel_rfl
theorem corbellaw23_text_ok (k : Nat) : PFOK Try.prog tab 9 (corbellaw23_text_p k) := pfok mixed tabOK (corbellaw23_text_fok k) Try.func9 (I := corbellaw23_text_I k) (d := 0) (corbellaw23_text_iok k) (Q := corbellaw23_text_O k) (hi := corbellaw23_text_h) (corbellaw23_text_cuts k) (corbellaw23_text_ev k)
end Go.Proofs.Ytiolpmgphkakeaa.Ev
