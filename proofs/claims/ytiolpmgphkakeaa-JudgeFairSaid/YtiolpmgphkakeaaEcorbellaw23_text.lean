/- corbellaw23_text, told on plain data. Written by program. -/
import Derived.Test.YtiolpmgphkakeaaEtab
set_option linter.unusedVariables false
set_option maxRecDepth 1000000
namespace Go.Proofs.Ytiolpmgphkakeaa.Ev
open Go Go.RowKit Go.Proofs
def corbellaw23_text_l1s {R : Type} (rc : Int → List Int → Option R) (e0 : List Int → Option R) (k : Nat) (n_8910 : Int) (ad_8915 : Int) (k_8911 : Int) (b_8918 : List Int) : Option R :=
  bif (decide (k_8911 < n_8910)) then
    bif ((decide ((0 : Int) ≤ k_8911)) && (decide (k_8911 < (lenI b_8918)))) then
      optb (b_8918[k_8911.toNat]?) fun x_8921 =>
      rc (wrap64 (k_8911 + (1 : Int))) (List.set b_8918 k_8911.toNat (bitop .and .u8 ad_8915 (3 : Int)))
    else none
  else e0 b_8918
def corbellaw23_text_l1 {R : Type} (e0 : List Int → Option R) (k : Nat) (n_8910 : Int) (ad_8915 : Int) : Nat → Int → List Int → Option R
  | 0 => fun _ _ => none
  | j + 1 => corbellaw23_text_l1s (corbellaw23_text_l1 e0 k n_8910 ad_8915 j) e0 k n_8910 ad_8915
def corbellaw23_text_j0 {R : Type} (e0 : ByteArray → Option R) (k : Nat) (n_8903 : Int) (ad_8907 : Int) : Option R :=
  bif (((decide ((0 : Int) ≤ n_8903)) && (decide (n_8903 ≤ n_8903))) && (decide (n_8903 ≤ (1099511627776 : Int)))) then
    corbellaw23_text_l1 (fun b_8929 =>
      e0 (bytesOf b_8929)) k n_8903 ad_8907 k (0 : Int) (List.replicate n_8903.toNat (Ty.zero (.int .u8)))
  else none
def corbellaw23_text_k0 (k : Nat) : ByteArray → Option ByteArray := fun v_8930 =>
  some v_8930
def corbellaw23_text (k : Nat) (aa_8858 : Int) (ab_8859 : Int) (ac_8860 : Int) (ad_8861 : Int) (ae_8862 : Bool) : Option ByteArray :=
  let z_8900 := (bif (decide ((0 : Int) > ac_8860)) then (0 : Int) else ac_8860)
  let z_8901 := (bif (decide ((8 : Int) < z_8900)) then (8 : Int) else z_8900)
  bif ae_8862 then
    corbellaw23_text_j0 (corbellaw23_text_k0 k) k (wrap64 ((wrap64 ((64 : Int) * z_8901)) + (1 : Int))) ad_8861
  else corbellaw23_text_j0 (corbellaw23_text_k0 k) k (wrap64 ((64 : Int) * z_8901)) ad_8861
def corbellaw23_text_p (k : Nat) : PF := { ps := [(true, 5)], rs := [(false, 1)], τ := (.pair (.int .i64) (.pair (.int .i64) (.pair (.int .i64) (.pair (.int .u8) .bool)))), σ := .str, f := fun x => corbellaw23_text k x.1 x.2.1 x.2.2.1 x.2.2.2.1 x.2.2.2.2 }
def corbellaw23_text_F (k : Nat) : PT := fnone
theorem corbellaw23_text_fok (k : Nat) : FOK Try.prog tab (corbellaw23_text_F k) := fok_none
def corbellaw23_text_c0 : Cl := { keep := [1, 3], hl := 1, ad := [], adc := [], bump := [] }
def corbellaw23_text_x0 : Cl := { keep := [2], hl := 0, ad := [], adc := [], bump := [] }
def corbellaw23_text_c1 : Cl := { keep := [1, 3, 4, 5], hl := 2, ad := [], adc := [], bump := [] }
def corbellaw23_text_x1 : Cl := { keep := [4], hl := 2, ad := [], adc := [], bump := [] }
def corbellaw23_text_h : Hint := (.sq .no (.sq .no (.ct corbellaw23_text_c0 corbellaw23_text_x0 0 .no (.sq .no (.sq (.sq .no (.lp corbellaw23_text_c1 corbellaw23_text_x1 1 .no)) .no)))))
def corbellaw23_text_j0_E0 {R : Type} (K : EX → St → Option R) : ByteArray → Option R := fun v0 => K .ret (mkSt 30 [] corbellaw23_text_x0.keep [.str v0] [])
def corbellaw23_text_j0_S (n_8903 : Int) (aa_8904 : Int) (ab_8905 : Int) (ac_8906 : Int) (ad_8907 : Int) (ae_8908 : Bool) : St := mkSt 30 [] corbellaw23_text_c0.keep [.ptr 0 0, .int .i64 n_8903] [.blk [.int .i64 aa_8904, .int .i64 ab_8905, .int .i64 ac_8906, .int .u8 ad_8907, .bool ae_8908]]
def corbellaw23_text_j0_sh : Rd (List AV × List HE) := .pair (.cons (.ptr 0 0) (.cons (.int .i64) Rd.nil)) (.cons (.blk (.cons (.int .i64) (.cons (.int .i64) (.cons (.int .i64) (.cons (.int .u8) (.cons .bool Rd.nil)))))) Rd.nil)
def corbellaw23_text_j0_a {R : Type} (k : Nat) : Alt R := { n := 30, v := [], sh := corbellaw23_text_j0_sh, g := fun K x => corbellaw23_text_j0 (corbellaw23_text_j0_E0 K) k x.1.2.1 x.2.1.2.2.2.1 }
def corbellaw23_text_l1_E0 {R : Type} (K : EX → St → Option R) : Int → Int → Int → Int → Bool → Bool → List Int → Option R := fun v0 v1 v2 v3 v4 v5 v6 => K (.exit 0) (mkSt 30 [] corbellaw23_text_x1.keep [.own 1 1] [.blk [.int .i64 v0, .int .i64 v1, .int .i64 v2, .int .u8 v3, .bool v4], .lst (.int .u8) 5 v5 1 v6])
def corbellaw23_text_l1_S (n_8910 : Int) (k_8911 : Int) (aa_8912 : Int) (ab_8913 : Int) (ac_8914 : Int) (ad_8915 : Int) (ae_8916 : Bool) (bN_8917 : Bool) (b_8918 : List Int) : St := mkSt 30 [] corbellaw23_text_c1.keep [.ptr 0 0, .int .i64 n_8910, .own 1 1, .int .i64 k_8911] [.blk [.int .i64 aa_8912, .int .i64 ab_8913, .int .i64 ac_8914, .int .u8 ad_8915, .bool ae_8916], .lst (.int .u8) 5 bN_8917 1 b_8918]
def corbellaw23_text_l1_sh : Rd (List AV × List HE) := .pair (.cons (.ptr 0 0) (.cons (.int .i64) (.cons (.own 1 1) (.cons (.int .i64) Rd.nil)))) (.cons (.blk (.cons (.int .i64) (.cons (.int .i64) (.cons (.int .i64) (.cons (.int .u8) (.cons .bool Rd.nil)))))) (.cons (.lst (.int .u8) 5 1) Rd.nil))
def corbellaw23_text_l1_a {R : Type} (k : Nat) : Alt R := { n := 30, v := [], sh := corbellaw23_text_l1_sh, g := fun K x => corbellaw23_text_l1 (fun y6 => corbellaw23_text_l1_E0 K x.2.1.1 x.2.1.2.1 x.2.1.2.2.1 x.2.1.2.2.2.1 x.2.1.2.2.2.2.1 x.2.2.1.1 y6) k x.1.2.1 x.2.1.2.2.2.1 k x.1.2.2.2.1 x.2.2.1.2 }
def corbellaw23_text_O {R : Type} (k : Nat) : CutK R := cutsO [[corbellaw23_text_j0_a k], [corbellaw23_text_l1_a k]]
noncomputable def corbellaw23_text_b : List Ob := obs (bodyOf Try.f9) corbellaw23_text_h
noncomputable def corbellaw23_text_I {R : Type} (k : Nat) : InlT R := inone
theorem corbellaw23_text_j0_eq {R : Type} (k : Nat) (K : EX → St → Option R) (n_8903 : Int) (aa_8904 : Int) (ab_8905 : Int) (ac_8906 : Int) (ad_8907 : Int) (ae_8908 : Bool) : corbellaw23_text_j0 (corbellaw23_text_j0_E0 K) k n_8903 ad_8907 = ev tab (corbellaw23_text_F k) (inlK tab (corbellaw23_text_F k) (corbellaw23_text_I k) 0) (corbellaw23_text_O k) (obB corbellaw23_text_b 0) (obH corbellaw23_text_b 0) (corbellaw23_text_j0_S n_8903 aa_8904 ab_8905 ac_8906 ad_8907 ae_8908) (fun e st => optb (clean corbellaw23_text_x0 st) fun st => K e st) := by kernel_rfl
theorem corbellaw23_text_j0_ok {R : Type} (k : Nat)  : ObOK (R := R) tab (corbellaw23_text_F k) (inlK tab (corbellaw23_text_F k) (corbellaw23_text_I k) 0) (corbellaw23_text_O k) (.join corbellaw23_text_c0 corbellaw23_text_x0 0 (obB corbellaw23_text_b 0) (obH corbellaw23_text_b 0)) :=
  join_ok (l := [corbellaw23_text_j0_a k]) (by kernel_rfl) ⟨(fun K x => (corbellaw23_text_j0_eq k K x.1.2.1 x.2.1.1 x.2.1.2.1 x.2.1.2.2.1 x.2.1.2.2.2.1 x.2.1.2.2.2.2.1).trans (by kernel_rfl)), trivial⟩
theorem corbellaw23_text_l1_eq {R : Type} (k : Nat) (K : EX → St → Option R) (n_8910 : Int) (aa_8912 : Int) (ab_8913 : Int) (ac_8914 : Int) (ad_8915 : Int) (ae_8916 : Bool) (bN_8917 : Bool) : ∀ (j : Nat) (k_8911 : Int) (b_8918 : List Int), corbellaw23_text_l1 (fun y6 => corbellaw23_text_l1_E0 K aa_8912 ab_8913 ac_8914 ad_8915 ae_8916 bN_8917 y6) k n_8910 ad_8915 j k_8911 b_8918 = iter corbellaw23_text_c1 corbellaw23_text_x1 (ev tab (corbellaw23_text_F k) (inlK tab (corbellaw23_text_F k) (corbellaw23_text_I k) 0) (corbellaw23_text_O k) (obB corbellaw23_text_b 1) (obH corbellaw23_text_b 1)) j (corbellaw23_text_l1_S n_8910 k_8911 aa_8912 ab_8913 ac_8914 ad_8915 ae_8916 bN_8917 b_8918) K
  | 0, _, _ => rfl
  | j + 1, k_8911, b_8918 => by
    have e : corbellaw23_text_l1 (fun y6 => corbellaw23_text_l1_E0 K aa_8912 ab_8913 ac_8914 ad_8915 ae_8916 bN_8917 y6) k n_8910 ad_8915 j = fun k_8911 b_8918 => iter corbellaw23_text_c1 corbellaw23_text_x1 (ev tab (corbellaw23_text_F k) (inlK tab (corbellaw23_text_F k) (corbellaw23_text_I k) 0) (corbellaw23_text_O k) (obB corbellaw23_text_b 1) (obH corbellaw23_text_b 1)) j (corbellaw23_text_l1_S n_8910 k_8911 aa_8912 ab_8913 ac_8914 ad_8915 ae_8916 bN_8917 b_8918) K := by funext k_8911 b_8918; exact corbellaw23_text_l1_eq k K n_8910 aa_8912 ab_8913 ac_8914 ad_8915 ae_8916 bN_8917 j k_8911 b_8918
    show corbellaw23_text_l1s (corbellaw23_text_l1 (fun y6 => corbellaw23_text_l1_E0 K aa_8912 ab_8913 ac_8914 ad_8915 ae_8916 bN_8917 y6) k n_8910 ad_8915 j) (fun y6 => corbellaw23_text_l1_E0 K aa_8912 ab_8913 ac_8914 ad_8915 ae_8916 bN_8917 y6) k n_8910 ad_8915 k_8911 b_8918 = _
    rw [e, iter_succ]; kernel_rfl
theorem corbellaw23_text_l1_ok {R : Type} (k : Nat)  : ObOK (R := R) tab (corbellaw23_text_F k) (inlK tab (corbellaw23_text_F k) (corbellaw23_text_I k) 0) (corbellaw23_text_O k) (.loop corbellaw23_text_c1 corbellaw23_text_x1 1 (obB corbellaw23_text_b 1) (obH corbellaw23_text_b 1)) :=
  loop_ok (l := [corbellaw23_text_l1_a k]) (by kernel_rfl) ⟨(fun K x => ⟨k, (corbellaw23_text_l1_eq k K x.1.2.1 x.2.1.1 x.2.1.2.1 x.2.1.2.2.1 x.2.1.2.2.2.1 x.2.1.2.2.2.2.1 x.2.2.1.1 k x.1.2.2.2.1 x.2.2.1.2).trans (by kernel_rfl)⟩), trivial⟩
theorem corbellaw23_text_cuts {R : Type} (k : Nat) : ∀ c, Try.f9.body = some c → CutsOK (R := R) tab (corbellaw23_text_F k) (inlK tab (corbellaw23_text_F k) (corbellaw23_text_I k) 0) (corbellaw23_text_O k) c corbellaw23_text_h :=
  cuts_of (l := [.join corbellaw23_text_c0 corbellaw23_text_x0 0 (obB corbellaw23_text_b 0) (obH corbellaw23_text_b 0), .loop corbellaw23_text_c1 corbellaw23_text_x1 1 (obB corbellaw23_text_b 1) (obH corbellaw23_text_b 1)]) (by kernel_rfl) ⟨corbellaw23_text_j0_ok k, corbellaw23_text_l1_ok k, trivial⟩
theorem corbellaw23_text_iok {R : Type} (k : Nat) : IOK Try.prog tab (corbellaw23_text_F k) (corbellaw23_text_I (R := R) k) := iok_none
theorem corbellaw23_text_ev (k : Nat) (x : (corbellaw23_text_p k).τ.den) : evalF tab (corbellaw23_text_F k) (corbellaw23_text_p k) (corbellaw23_text_I k) 0 (corbellaw23_text_O k) corbellaw23_text_h Try.f9 x = (corbellaw23_text_p k).f x := by kernel_rfl
theorem corbellaw23_text_ok (k : Nat) : PFOK Try.prog tab 9 (corbellaw23_text_p k) := pfok mixed tabOK (corbellaw23_text_fok k) Try.func9 (I := corbellaw23_text_I k) (d := 0) (corbellaw23_text_iok k) (Q := corbellaw23_text_O k) (hi := corbellaw23_text_h) (corbellaw23_text_cuts k) (corbellaw23_text_ev k)
end Go.Proofs.Ytiolpmgphkakeaa.Ev
