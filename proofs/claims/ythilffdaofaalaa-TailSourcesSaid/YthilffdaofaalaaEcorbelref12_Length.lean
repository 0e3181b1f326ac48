/- corbelref12_Length, told on plain data. Written by program. -/
import Derived.Test.YthilffdaofaalaaEcorbelref04_Good
import Derived.Test.YthilffdaofaalaaEcorbelref12_Source
set_option linter.unusedVariables false
set_option maxRecDepth 1000000
namespace Go.Proofs.Ythilffdaofaalaa.Ev
open Go Go.RowKit Go.Proofs
def corbelref12_Length_l0s {R : Type} (rc : Int → Option R) (e0 : Int → Option R) (e1 : Option R) (k : Nat) (zone_7127 : Int) (ga_7129 : Int) (gb_7130 : Int) (gc_7131 : Int) (gd_7132 : Int) (ge_7133 : Int) (va_7134 : Bool) (vb_7135 : List Int) (vc_7136 : Int) (vd_7137 : Bool) (ve_7138 : List (Int × Int)) (b_7128 : Int) : Option R :=
  bif (decide (b_7128 < (wrap64 ((wrap64 (ga_7129 - (1 : Int))) * gc_7131)))) then
    optb (corbelref12_Source k ga_7129 gb_7130 gc_7131 gd_7132 ge_7133 zone_7127 va_7134 vb_7135 vc_7136 vd_7137 ve_7138 b_7128) fun r_7142 =>
    bif (decide (r_7142.1 = (0 : Int))) then
      e0 b_7128
    else rc (wrap64 (b_7128 + (1 : Int)))
  else e1
def corbelref12_Length_l0 {R : Type} (e0 : Int → Option R) (e1 : Option R) (k : Nat) (zone_7127 : Int) (ga_7129 : Int) (gb_7130 : Int) (gc_7131 : Int) (gd_7132 : Int) (ge_7133 : Int) (va_7134 : Bool) (vb_7135 : List Int) (vc_7136 : Int) (vd_7137 : Bool) (ve_7138 : List (Int × Int)) : Nat → Int → Option R
  | 0 => fun _ => none
  | j + 1 => corbelref12_Length_l0s (corbelref12_Length_l0 e0 e1 k zone_7127 ga_7129 gb_7130 gc_7131 gd_7132 ge_7133 va_7134 vb_7135 vc_7136 vd_7137 ve_7138 j) e0 e1 k zone_7127 ga_7129 gb_7130 gc_7131 gd_7132 ge_7133 va_7134 vb_7135 vc_7136 vd_7137 ve_7138
def corbelref12_Length (k : Nat) (ga_2811 : Int) (gb_2812 : Int) (gc_2813 : Int) (gd_2814 : Int) (ge_2815 : Int) (zone_2816 : Int) (va_2817 : Bool) (vb_2818 : List Int) (vc_2819 : Int) (vd_2820 : Bool) (ve_2821 : List (Int × Int)) : Option Int :=
  optb (corbelref04_Good k ga_2811 gb_2812 gc_2813 gd_2814 ge_2815) fun r_7126 =>
  bif (!r_7126) then
    some (0 : Int)
  else corbelref12_Length_l0 (fun v_7143 =>
    some v_7143) (some (wrap64 ((wrap64 (ga_2811 - (1 : Int))) * gc_2813))) k zone_2816 ga_2811 gb_2812 gc_2813 gd_2814 ge_2815 va_2817 vb_2818 vc_2819 vd_2820 ve_2821 k (0 : Int)
def corbelref12_Length_p (k : Nat) : PF := { ps := [(true, 5), (false, 1), (true, 3)], rs := [(false, 1)], τ := (.pair (.pair (.int .i64) (.pair (.int .i64) (.pair (.int .i64) (.pair (.int .i64) (.int .i64))))) (.pair (.int .i64) (.pair (.sl (.int .i64)) (.pair (.int .i64) (.sl (.pair (.int .i64) (.int .i64))))))), σ := (.int .i64), f := fun x => corbelref12_Length k x.1.1 x.1.2.1 x.1.2.2.1 x.1.2.2.2.1 x.1.2.2.2.2 x.2.1 x.2.2.1.1 x.2.2.1.2 x.2.2.2.1 x.2.2.2.2.1 x.2.2.2.2.2 }
def corbelref12_Length_F (k : Nat) : PT := fcons 21 (corbelref04_Good_p k) <| fcons 20 (corbelref12_Source_p k) <| fnone
theorem corbelref12_Length_fok (k : Nat) : FOK Try.prog tab (corbelref12_Length_F k) := fok_cons (corbelref04_Good_ok k) Try.call21 <| fok_cons (corbelref12_Source_ok k) Try.call20 <| fok_none
def corbelref12_Length_c0 : Cl := { keep := [1, 3, 5, 7], hl := 2, ad := [], adc := [], bump := [] }
def corbelref12_Length_x0 : Cl := { keep := [3, 6], hl := 1, ad := [], adc := [], bump := [] }
def corbelref12_Length_h : Hint := (.sq .no (.sq .no (.sq (.sq .no (.lp corbelref12_Length_c0 corbelref12_Length_x0 0 .no)) .no)))
def corbelref12_Length_l0_E0 {R : Type} (K : EX → St → Option R) : Int → Int → Int → Int → Int → Int → Option R := fun v0 v1 v2 v3 v4 v5 => K .ret (mkSt 40 [] corbelref12_Length_x0.keep [.ptr 0 0, .int .i64 v0] [.blk [.int .i64 v1, .int .i64 v2, .int .i64 v3, .int .i64 v4, .int .i64 v5]])
def corbelref12_Length_l0_E1 {R : Type} (K : EX → St → Option R) : Int → Int → Int → Int → Int → Option R := fun v0 v1 v2 v3 v4 => K (.exit 0) (mkSt 40 [] corbelref12_Length_x0.keep [.ptr 0 0, .junk] [.blk [.int .i64 v0, .int .i64 v1, .int .i64 v2, .int .i64 v3, .int .i64 v4]])
def corbelref12_Length_l0_S (zone_7127 : Int) (b_7128 : Int) (ga_7129 : Int) (gb_7130 : Int) (gc_7131 : Int) (gd_7132 : Int) (ge_7133 : Int) (va_7134 : Bool) (vb_7135 : List Int) (vc_7136 : Int) (vd_7137 : Bool) (ve_7138 : List (Int × Int)) : St := mkSt 40 [] corbelref12_Length_c0.keep [.int .i64 zone_7127, .ptr 0 0, .ptr 1 0, .int .i64 b_7128] [.blk [.int .i64 ga_7129, .int .i64 gb_7130, .int .i64 gc_7131, .int .i64 gd_7132, .int .i64 ge_7133], .blk [.sl (.int .i64) va_7134 vb_7135, .int .i64 vc_7136, .sl (.pair (.int .i64) (.int .i64)) vd_7137 ve_7138]]
def corbelref12_Length_l0_sh : Rd (List AV × List HE) := .pair (.cons (.int .i64) (.cons (.ptr 0 0) (.cons (.ptr 1 0) (.cons (.int .i64) Rd.nil)))) (.cons (.blk (.cons (.int .i64) (.cons (.int .i64) (.cons (.int .i64) (.cons (.int .i64) (.cons (.int .i64) Rd.nil)))))) (.cons (.blk (.cons (.sl (.int .i64)) (.cons (.int .i64) (.cons (.sl (.pair (.int .i64) (.int .i64))) Rd.nil)))) Rd.nil))
def corbelref12_Length_l0_a {R : Type} (k : Nat) : Alt R := { n := 40, v := [], sh := corbelref12_Length_l0_sh, g := fun K x => corbelref12_Length_l0 (fun y0 => corbelref12_Length_l0_E0 K y0 x.2.1.1 x.2.1.2.1 x.2.1.2.2.1 x.2.1.2.2.2.1 x.2.1.2.2.2.2.1) (corbelref12_Length_l0_E1 K x.2.1.1 x.2.1.2.1 x.2.1.2.2.1 x.2.1.2.2.2.1 x.2.1.2.2.2.2.1) k x.1.1 x.2.1.1 x.2.1.2.1 x.2.1.2.2.1 x.2.1.2.2.2.1 x.2.1.2.2.2.2.1 x.2.2.1.1.1 x.2.2.1.1.2 x.2.2.1.2.1 x.2.2.1.2.2.1.1 x.2.2.1.2.2.1.2 k x.1.2.2.2.1 }
def corbelref12_Length_O {R : Type} (k : Nat) : CutK R := cutsO [[corbelref12_Length_l0_a k]]
noncomputable def corbelref12_Length_b : List Ob := obs (bodyOf Try.f18) corbelref12_Length_h
noncomputable def corbelref12_Length_I {R : Type} (k : Nat) : InlT R := inone
theorem corbelref12_Length_l0_eq {R : Type} (k : Nat) (K : EX → St → Option R) (zone_7127 : Int) (ga_7129 : Int) (gb_7130 : Int) (gc_7131 : Int) (gd_7132 : Int) (ge_7133 : Int) (va_7134 : Bool) (vb_7135 : List Int) (vc_7136 : Int) (vd_7137 : Bool) (ve_7138 : List (Int × Int)) : ∀ (j : Nat) (b_7128 : Int), corbelref12_Length_l0 (fun y0 => corbelref12_Length_l0_E0 K y0 ga_7129 gb_7130 gc_7131 gd_7132 ge_7133) (corbelref12_Length_l0_E1 K ga_7129 gb_7130 gc_7131 gd_7132 ge_7133) k zone_7127 ga_7129 gb_7130 gc_7131 gd_7132 ge_7133 va_7134 vb_7135 vc_7136 vd_7137 ve_7138 j b_7128 = iter corbelref12_Length_c0 corbelref12_Length_x0 (ev tab (corbelref12_Length_F k) (inlK tab (corbelref12_Length_F k) (corbelref12_Length_I k) 0) (corbelref12_Length_O k) (obB corbelref12_Length_b 0) (obH corbelref12_Length_b 0)) j (corbelref12_Length_l0_S zone_7127 b_7128 ga_7129 gb_7130 gc_7131 gd_7132 ge_7133 va_7134 vb_7135 vc_7136 vd_7137 ve_7138) K
  | 0, _ => rfl
  | j + 1, b_7128 => by
    have e : corbelref12_Length_l0 (fun y0 => corbelref12_Length_l0_E0 K y0 ga_7129 gb_7130 gc_7131 gd_7132 ge_7133) (corbelref12_Length_l0_E1 K ga_7129 gb_7130 gc_7131 gd_7132 ge_7133) k zone_7127 ga_7129 gb_7130 gc_7131 gd_7132 ge_7133 va_7134 vb_7135 vc_7136 vd_7137 ve_7138 j = fun b_7128 => iter corbelref12_Length_c0 corbelref12_Length_x0 (ev tab (corbelref12_Length_F k) (inlK tab (corbelref12_Length_F k) (corbelref12_Length_I k) 0) (corbelref12_Length_O k) (obB corbelref12_Length_b 0) (obH corbelref12_Length_b 0)) j (corbelref12_Length_l0_S zone_7127 b_7128 ga_7129 gb_7130 gc_7131 gd_7132 ge_7133 va_7134 vb_7135 vc_7136 vd_7137 ve_7138) K := by funext b_7128; exact corbelref12_Length_l0_eq k K zone_7127 ga_7129 gb_7130 gc_7131 gd_7132 ge_7133 va_7134 vb_7135 vc_7136 vd_7137 ve_7138 j b_7128
    show corbelref12_Length_l0s (corbelref12_Length_l0 (fun y0 => corbelref12_Length_l0_E0 K y0 ga_7129 gb_7130 gc_7131 gd_7132 ge_7133) (corbelref12_Length_l0_E1 K ga_7129 gb_7130 gc_7131 gd_7132 ge_7133) k zone_7127 ga_7129 gb_7130 gc_7131 gd_7132 ge_7133 va_7134 vb_7135 vc_7136 vd_7137 ve_7138 j) (fun y0 => corbelref12_Length_l0_E0 K y0 ga_7129 gb_7130 gc_7131 gd_7132 ge_7133) (corbelref12_Length_l0_E1 K ga_7129 gb_7130 gc_7131 gd_7132 ge_7133) k zone_7127 ga_7129 gb_7130 gc_7131 gd_7132 ge_7133 va_7134 vb_7135 vc_7136 vd_7137 ve_7138 b_7128 = _
    rw [e, iter_succ]; kernel_rfl
theorem corbelref12_Length_l0_ok {R : Type} (k : Nat)  : ObOK (R := R) tab (corbelref12_Length_F k) (inlK tab (corbelref12_Length_F k) (corbelref12_Length_I k) 0) (corbelref12_Length_O k) (.loop corbelref12_Length_c0 corbelref12_Length_x0 0 (obB corbelref12_Length_b 0) (obH corbelref12_Length_b 0)) :=
  loop_ok (l := [corbelref12_Length_l0_a k]) (by kernel_rfl) ⟨(fun K x => ⟨k, (corbelref12_Length_l0_eq k K x.1.1 x.2.1.1 x.2.1.2.1 x.2.1.2.2.1 x.2.1.2.2.2.1 x.2.1.2.2.2.2.1 x.2.2.1.1.1 x.2.2.1.1.2 x.2.2.1.2.1 x.2.2.1.2.2.1.1 x.2.2.1.2.2.1.2 k x.1.2.2.2.1).trans (by kernel_rfl)⟩), trivial⟩
theorem corbelref12_Length_cuts {R : Type} (k : Nat) : ∀ c, Try.f18.body = some c → CutsOK (R := R) tab (corbelref12_Length_F k) (inlK tab (corbelref12_Length_F k) (corbelref12_Length_I k) 0) (corbelref12_Length_O k) c corbelref12_Length_h :=
  cuts_of (l := [.loop corbelref12_Length_c0 corbelref12_Length_x0 0 (obB corbelref12_Length_b 0) (obH corbelref12_Length_b 0)]) (by kernel_rfl) ⟨corbelref12_Length_l0_ok k, trivial⟩
theorem corbelref12_Length_iok {R : Type} (k : Nat) : IOK Try.prog tab (corbelref12_Length_F k) (corbelref12_Length_I (R := R) k) := iok_none
theorem corbelref12_Length_ev (k : Nat) (x : (corbelref12_Length_p k).τ.den) : evalF tab (corbelref12_Length_F k) (corbelref12_Length_p k) (corbelref12_Length_I k) 0 (corbelref12_Length_O k) corbelref12_Length_h Try.f18 x = (corbelref12_Length_p k).f x := by kernel_rfl
theorem corbelref12_Length_ok (k : Nat) : PFOK Try.prog tab 18 (corbelref12_Length_p k) := pfok mixed tabOK (corbelref12_Length_fok k) Try.func18 (I := corbelref12_Length_I k) (d := 0) (corbelref12_Length_iok k) (Q := corbelref12_Length_O k) (hi := corbelref12_Length_h) (corbelref12_Length_cuts k) (corbelref12_Length_ev k)
end Go.Proofs.Ythilffdaofaalaa.Ev
