/- nums_Of, told on plain data. Written by program. -/
import Derived.Test.YtncdfikcdchimaaEnums_Set_With
set_option linter.unusedVariables false
set_option maxRecDepth 1000000
namespace Go.Proofs.Ytncdfikcdchimaa.Ev
open Go Go.RowKit Go.Proofs
def nums_Of_l0s {R : Type} (rc : Int → Int → Int → Int → Int → Option R) (e0 : Int → Int → Int → Int → Option R) (k : Nat) (vb_68 : List Int) (v_69 : Int) (v_70 : Int) (sa_75 : Int) (sb_76 : Int) (sc_77 : Int) (sd_78 : Int) : Option R :=
  bif (decide (v_70 < v_69)) then
    bif (decide ((0 : Int) ≤ v_70)) then
      optb (vb_68[v_70.toNat]?) fun x_82 =>
      optb (nums_Set_With k sa_75 sb_76 sc_77 sd_78 x_82) fun r_83 =>
      rc (wrap64 (v_70 + (1 : Int))) r_83.1 r_83.2.1 r_83.2.2.1 r_83.2.2.2
    else none
  else e0 sa_75 sb_76 sc_77 sd_78
def nums_Of_l0 {R : Type} (e0 : Int → Int → Int → Int → Option R) (k : Nat) (vb_68 : List Int) (v_69 : Int) : Nat → Int → Int → Int → Int → Int → Option R
  | 0 => fun _ _ _ _ _ => none
  | j + 1 => nums_Of_l0s (nums_Of_l0 e0 k vb_68 v_69 j) e0 k vb_68 v_69
def nums_Of (k : Nat) (la_4 : Bool) (lb_5 : List Int) : Option (Int × (Int × (Int × Int))) :=
  nums_Of_l0 (fun sa_88 sb_89 sc_90 sd_91 =>
    some (sa_88, (sb_89, (sc_90, sd_91)))) k lb_5 (lenI lb_5) k (0 : Int) (0 : Int) (0 : Int) (0 : Int) (0 : Int)
def nums_Of_p (k : Nat) : PF := { ps := [(false, 1)], rs := [(true, 4)], τ := (.sl (.int .i64)), σ := (.pair (.int .u64) (.pair (.int .u64) (.pair (.int .u64) (.int .u64)))), f := fun x => nums_Of k x.1 x.2 }
def nums_Of_F (k : Nat) : PT := fcons 21 (nums_Set_With_p k) <| fnone
theorem nums_Of_fok (k : Nat) : FOK Try.prog tab (nums_Of_F k) := fok_cons (nums_Set_With_ok k) Try.call21 <| fok_none
def nums_Of_c0 : Cl := { keep := [2, 3, 6, 7, 8], hl := 2, ad := [], adc := [], bump := [] }
def nums_Of_x0 : Cl := { keep := [2, 3], hl := 2, ad := [], adc := [], bump := [] }
def nums_Of_h : Hint := (.sq .no (.sq .no (.sq (.sq .no (.lp nums_Of_c0 nums_Of_x0 0 .no)) .no)))
def nums_Of_l0_E0 {R : Type} (K : EX → St → Option R) : Int → Int → Int → Int → Int → Int → Int → Int → Option R := fun v0 v1 v2 v3 v4 v5 v6 v7 => K (.exit 0) (mkSt 17 [] nums_Of_x0.keep [.ptr 0 0, .ptr 1 0] [.blk [.int .u64 v0, .int .u64 v1, .int .u64 v2, .int .u64 v3], .blk [.int .u64 v4, .int .u64 v5, .int .u64 v6, .int .u64 v7]])
def nums_Of_l0_S (va_67 : Bool) (vb_68 : List Int) (v_69 : Int) (v_70 : Int) (va_71 : Int) (vb_72 : Int) (vc_73 : Int) (vd_74 : Int) (sa_75 : Int) (sb_76 : Int) (sc_77 : Int) (sd_78 : Int) : St := mkSt 17 [] nums_Of_c0.keep [.ptr 0 0, .ptr 1 0, .sl (.int .i64) va_67 vb_68, .int .i64 v_69, .int .i64 v_70] [.blk [.int .u64 va_71, .int .u64 vb_72, .int .u64 vc_73, .int .u64 vd_74], .blk [.int .u64 sa_75, .int .u64 sb_76, .int .u64 sc_77, .int .u64 sd_78]]
def nums_Of_l0_sh : Rd (List AV × List HE) := .pair (.cons (.ptr 0 0) (.cons (.ptr 1 0) (.cons (.sl (.int .i64)) (.cons (.int .i64) (.cons (.int .i64) Rd.nil))))) (.cons (.blk (.cons (.int .u64) (.cons (.int .u64) (.cons (.int .u64) (.cons (.int .u64) Rd.nil))))) (.cons (.blk (.cons (.int .u64) (.cons (.int .u64) (.cons (.int .u64) (.cons (.int .u64) Rd.nil))))) Rd.nil))
def nums_Of_l0_a {R : Type} (k : Nat) : Alt R := { n := 17, v := [], sh := nums_Of_l0_sh, g := fun K x => nums_Of_l0 (fun y4 y5 y6 y7 => nums_Of_l0_E0 K x.2.1.1 x.2.1.2.1 x.2.1.2.2.1 x.2.1.2.2.2.1 y4 y5 y6 y7) k x.1.2.2.1.2 x.1.2.2.2.1 k x.1.2.2.2.2.1 x.2.2.1.1 x.2.2.1.2.1 x.2.2.1.2.2.1 x.2.2.1.2.2.2.1 }
def nums_Of_O {R : Type} (k : Nat) : CutK R := cutsO [[nums_Of_l0_a k]]
noncomputable def nums_Of_b : List Ob := obs (bodyOf Try.f13) nums_Of_h
noncomputable def nums_Of_I {R : Type} (k : Nat) : InlT R := inone
theorem nums_Of_l0_eq {R : Type} (k : Nat) (K : EX → St → Option R) (va_67 : Bool) (vb_68 : List Int) (v_69 : Int) (va_71 : Int) (vb_72 : Int) (vc_73 : Int) (vd_74 : Int) : ∀ (j : Nat) (v_70 : Int) (sa_75 : Int) (sb_76 : Int) (sc_77 : Int) (sd_78 : Int), nums_Of_l0 (fun y4 y5 y6 y7 => nums_Of_l0_E0 K va_71 vb_72 vc_73 vd_74 y4 y5 y6 y7) k vb_68 v_69 j v_70 sa_75 sb_76 sc_77 sd_78 = iter nums_Of_c0 nums_Of_x0 (ev tab (nums_Of_F k) (inlK tab (nums_Of_F k) (nums_Of_I k) 0) (nums_Of_O k) (obB nums_Of_b 0) (obH nums_Of_b 0)) j (nums_Of_l0_S va_67 vb_68 v_69 v_70 va_71 vb_72 vc_73 vd_74 sa_75 sb_76 sc_77 sd_78) K
  | 0, _, _, _, _, _ => rfl
  | j + 1, v_70, sa_75, sb_76, sc_77, sd_78 => by
    have e : nums_Of_l0 (fun y4 y5 y6 y7 => nums_Of_l0_E0 K va_71 vb_72 vc_73 vd_74 y4 y5 y6 y7) k vb_68 v_69 j = fun v_70 sa_75 sb_76 sc_77 sd_78 => iter nums_Of_c0 nums_Of_x0 (ev tab (nums_Of_F k) (inlK tab (nums_Of_F k) (nums_Of_I k) 0) (nums_Of_O k) (obB nums_Of_b 0) (obH nums_Of_b 0)) j (nums_Of_l0_S va_67 vb_68 v_69 v_70 va_71 vb_72 vc_73 vd_74 sa_75 sb_76 sc_77 sd_78) K := by funext v_70 sa_75 sb_76 sc_77 sd_78; exact nums_Of_l0_eq k K va_67 vb_68 v_69 va_71 vb_72 vc_73 vd_74 j v_70 sa_75 sb_76 sc_77 sd_78
    show nums_Of_l0s (nums_Of_l0 (fun y4 y5 y6 y7 => nums_Of_l0_E0 K va_71 vb_72 vc_73 vd_74 y4 y5 y6 y7) k vb_68 v_69 j) (fun y4 y5 y6 y7 => nums_Of_l0_E0 K va_71 vb_72 vc_73 vd_74 y4 y5 y6 y7) k vb_68 v_69 v_70 sa_75 sb_76 sc_77 sd_78 = _
    rw [e, iter_succ]; kernel_rfl
theorem nums_Of_l0_ok {R : Type} (k : Nat)  : ObOK (R := R) tab (nums_Of_F k) (inlK tab (nums_Of_F k) (nums_Of_I k) 0) (nums_Of_O k) (.loop nums_Of_c0 nums_Of_x0 0 (obB nums_Of_b 0) (obH nums_Of_b 0)) :=
  loop_ok (l := [nums_Of_l0_a k]) (by kernel_rfl) ⟨(fun K x => ⟨k, (nums_Of_l0_eq k K x.1.2.2.1.1 x.1.2.2.1.2 x.1.2.2.2.1 x.2.1.1 x.2.1.2.1 x.2.1.2.2.1 x.2.1.2.2.2.1 k x.1.2.2.2.2.1 x.2.2.1.1 x.2.2.1.2.1 x.2.2.1.2.2.1 x.2.2.1.2.2.2.1).trans (by kernel_rfl)⟩), trivial⟩
theorem nums_Of_cuts {R : Type} (k : Nat) : ∀ c, Try.f13.body = some c → CutsOK (R := R) tab (nums_Of_F k) (inlK tab (nums_Of_F k) (nums_Of_I k) 0) (nums_Of_O k) c nums_Of_h :=
  cuts_of (l := [.loop nums_Of_c0 nums_Of_x0 0 (obB nums_Of_b 0) (obH nums_Of_b 0)]) (by kernel_rfl) ⟨nums_Of_l0_ok k, trivial⟩
theorem nums_Of_iok {R : Type} (k : Nat) : IOK Try.prog tab (nums_Of_F k) (nums_Of_I (R := R) k) := iok_none
theorem nums_Of_ev (k : Nat) (x : (nums_Of_p k).τ.den) : evalF tab (nums_Of_F k) (nums_Of_p k) (nums_Of_I k) 0 (nums_Of_O k) nums_Of_h Try.f13 x = (nums_Of_p k).f x := by kernel_rfl
theorem nums_Of_ok (k : Nat) : PFOK Try.prog tab 13 (nums_Of_p k) := pfok mixed tabOK (nums_Of_fok k) Try.func13 (I := nums_Of_I k) (d := 0) (nums_Of_iok k) (Q := nums_Of_O k) (hi := nums_Of_h) (nums_Of_cuts k) (nums_Of_ev k)
end Go.Proofs.Ytncdfikcdchimaa.Ev
