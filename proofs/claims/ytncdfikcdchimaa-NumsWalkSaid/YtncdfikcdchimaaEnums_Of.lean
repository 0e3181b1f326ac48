/- nums_Of, told on plain data. Written by program. -/
import Derived.Test.YtncdfikcdchimaaEnums_Set_With
set_option linter.unusedVariables false
set_option maxRecDepth 1000000
namespace Go.Proofs.Ytncdfikcdchimaa.Ev
open Go Go.RowKit Go.Proofs
def nums_Of_l0s {R : Type} (rc : Bool → List Int → Int → Int → Int → Int → Int → Int → Int → Int → Int → Int → Option R) (e0 : Int → Int → Int → Int → Int → Int → Int → Int → Option R) (k : Nat) (v_56 : Bool) (v_57 : List Int) (v_58 : Int) (v_59 : Int) (v_60 : Int) (v_61 : Int) (v_62 : Int) (v_63 : Int) (v_64 : Int) (v_65 : Int) (v_66 : Int) (v_67 : Int) : Option R :=
  bif (decide (v_59 < v_58)) then
    bif (decide ((0 : Int) ≤ v_59)) then
      optb (v_57[v_59.toNat]?) fun x_71 =>
      optb (nums_Set_With k v_64 v_65 v_66 v_67 x_71) fun r_72 =>
      rc v_56 v_57 v_58 (wrap64 (v_59 + (1 : Int))) v_60 v_61 v_62 v_63 r_72.1 r_72.2.1 r_72.2.2.1 r_72.2.2.2
    else none
  else e0 v_60 v_61 v_62 v_63 v_64 v_65 v_66 v_67
def nums_Of_l0 {R : Type} (e0 : Int → Int → Int → Int → Int → Int → Int → Int → Option R) (k : Nat) : Nat → Bool → List Int → Int → Int → Int → Int → Int → Int → Int → Int → Int → Int → Option R
  | 0 => fun _ _ _ _ _ _ _ _ _ _ _ _ => none
  | j + 1 => nums_Of_l0s (nums_Of_l0 e0 k j) e0 k
def nums_Of (k : Nat) (a0 : Bool) (a1 : List Int) : Option (Int × (Int × (Int × Int))) :=
  nums_Of_l0 (fun v_73 v_74 v_75 v_76 v_77 v_78 v_79 v_80 =>
    some (v_77, (v_78, (v_79, v_80)))) k k a0 a1 (lenI a1) (0 : Int) (0 : Int) (0 : Int) (0 : Int) (0 : Int) (0 : Int) (0 : Int) (0 : Int) (0 : Int)
def nums_Of_p (k : Nat) : PF := { ps := [(false, 1)], rs := [(true, 4)], τ := (.sl (.int .i64)), σ := (.pair (.int .u64) (.pair (.int .u64) (.pair (.int .u64) (.int .u64)))), f := fun x => nums_Of k x.1 x.2 }
def nums_Of_F (k : Nat) : PT := fcons 21 (nums_Set_With_p k) <| fnone
theorem nums_Of_fok (k : Nat) : FOK Try.prog tab (nums_Of_F k) := fok_cons (nums_Set_With_ok k) Try.call21 <| fok_none
def nums_Of_c0 : Cl := { keep := [2, 3, 6, 7, 8], hl := 2, ad := [], adc := [], bump := [] }
def nums_Of_x0 : Cl := { keep := [2, 3], hl := 2, ad := [], adc := [], bump := [] }
def nums_Of_h : Hint := (.sq .no (.sq .no (.sq (.sq .no (.lp nums_Of_c0 nums_Of_x0 0 .no)) .no)))
def nums_Of_l0_E0 {R : Type} (K : EX → St → Option R) : Int → Int → Int → Int → Int → Int → Int → Int → Option R := fun v0 v1 v2 v3 v4 v5 v6 v7 => K (.exit 0) (mkSt 17 [] nums_Of_x0.keep [.ptr 0 0, .ptr 1 0] [.blk [.int .u64 v0, .int .u64 v1, .int .u64 v2, .int .u64 v3], .blk [.int .u64 v4, .int .u64 v5, .int .u64 v6, .int .u64 v7]])
def nums_Of_l0_S (v_56 : Bool) (v_57 : List Int) (v_58 : Int) (v_59 : Int) (v_60 : Int) (v_61 : Int) (v_62 : Int) (v_63 : Int) (v_64 : Int) (v_65 : Int) (v_66 : Int) (v_67 : Int) : St := mkSt 17 [] nums_Of_c0.keep [.ptr 0 0, .ptr 1 0, .sl (.int .i64) v_56 v_57, .int .i64 v_58, .int .i64 v_59] [.blk [.int .u64 v_60, .int .u64 v_61, .int .u64 v_62, .int .u64 v_63], .blk [.int .u64 v_64, .int .u64 v_65, .int .u64 v_66, .int .u64 v_67]]
def nums_Of_l0_sh : Rd (List AV × List HE) := .pair (.cons (.ptr 0 0) (.cons (.ptr 1 0) (.cons (.sl (.int .i64)) (.cons (.int .i64) (.cons (.int .i64) Rd.nil))))) (.cons (.blk (.cons (.int .u64) (.cons (.int .u64) (.cons (.int .u64) (.cons (.int .u64) Rd.nil))))) (.cons (.blk (.cons (.int .u64) (.cons (.int .u64) (.cons (.int .u64) (.cons (.int .u64) Rd.nil))))) Rd.nil))
def nums_Of_l0_a {R : Type} (k : Nat) : Alt R := { n := 17, v := [], sh := nums_Of_l0_sh, g := fun K x => nums_Of_l0 (nums_Of_l0_E0 K) k k x.1.2.2.1.1 x.1.2.2.1.2 x.1.2.2.2.1 x.1.2.2.2.2.1 x.2.1.1 x.2.1.2.1 x.2.1.2.2.1 x.2.1.2.2.2.1 x.2.2.1.1 x.2.2.1.2.1 x.2.2.1.2.2.1 x.2.2.1.2.2.2.1 }
def nums_Of_O {R : Type} (k : Nat) : CutK R := cutsO [[nums_Of_l0_a k]]
noncomputable def nums_Of_b : List Ob := obs (bodyOf Try.f13) nums_Of_h
noncomputable def nums_Of_I {R : Type} (k : Nat) : InlT R := inone
theorem nums_Of_l0_eq {R : Type} (k : Nat) (K : EX → St → Option R) : ∀ (j : Nat) (v_56 : Bool) (v_57 : List Int) (v_58 : Int) (v_59 : Int) (v_60 : Int) (v_61 : Int) (v_62 : Int) (v_63 : Int) (v_64 : Int) (v_65 : Int) (v_66 : Int) (v_67 : Int), nums_Of_l0 (nums_Of_l0_E0 K) k j v_56 v_57 v_58 v_59 v_60 v_61 v_62 v_63 v_64 v_65 v_66 v_67 = iter nums_Of_c0 nums_Of_x0 (ev tab (nums_Of_F k) (inlK tab (nums_Of_F k) (nums_Of_I k) 0) (nums_Of_O k) (obB nums_Of_b 0) (obH nums_Of_b 0)) j (nums_Of_l0_S v_56 v_57 v_58 v_59 v_60 v_61 v_62 v_63 v_64 v_65 v_66 v_67) K
  | 0, _, _, _, _, _, _, _, _, _, _, _, _ => rfl
  | j + 1, v_56, v_57, v_58, v_59, v_60, v_61, v_62, v_63, v_64, v_65, v_66, v_67 => by
    have e : nums_Of_l0 (nums_Of_l0_E0 K) k j = fun v_56 v_57 v_58 v_59 v_60 v_61 v_62 v_63 v_64 v_65 v_66 v_67 => iter nums_Of_c0 nums_Of_x0 (ev tab (nums_Of_F k) (inlK tab (nums_Of_F k) (nums_Of_I k) 0) (nums_Of_O k) (obB nums_Of_b 0) (obH nums_Of_b 0)) j (nums_Of_l0_S v_56 v_57 v_58 v_59 v_60 v_61 v_62 v_63 v_64 v_65 v_66 v_67) K := by funext v_56 v_57 v_58 v_59 v_60 v_61 v_62 v_63 v_64 v_65 v_66 v_67; exact nums_Of_l0_eq k K j v_56 v_57 v_58 v_59 v_60 v_61 v_62 v_63 v_64 v_65 v_66 v_67
    show nums_Of_l0s (nums_Of_l0 (nums_Of_l0_E0 K) k j) (nums_Of_l0_E0 K) k v_56 v_57 v_58 v_59 v_60 v_61 v_62 v_63 v_64 v_65 v_66 v_67 = _
    rw [e, iter_succ]; kernel_rfl
theorem nums_Of_l0_ok {R : Type} (k : Nat)  : ObOK (R := R) tab (nums_Of_F k) (inlK tab (nums_Of_F k) (nums_Of_I k) 0) (nums_Of_O k) (.loop nums_Of_c0 nums_Of_x0 0 (obB nums_Of_b 0) (obH nums_Of_b 0)) :=
  loop_ok (l := [nums_Of_l0_a k]) (by kernel_rfl) ⟨(fun K x => ⟨k, (nums_Of_l0_eq k K k x.1.2.2.1.1 x.1.2.2.1.2 x.1.2.2.2.1 x.1.2.2.2.2.1 x.2.1.1 x.2.1.2.1 x.2.1.2.2.1 x.2.1.2.2.2.1 x.2.2.1.1 x.2.2.1.2.1 x.2.2.1.2.2.1 x.2.2.1.2.2.2.1).trans (by kernel_rfl)⟩), trivial⟩
theorem nums_Of_cuts {R : Type} (k : Nat) : ∀ c, Try.f13.body = some c → CutsOK (R := R) tab (nums_Of_F k) (inlK tab (nums_Of_F k) (nums_Of_I k) 0) (nums_Of_O k) c nums_Of_h :=
  cuts_of (l := [.loop nums_Of_c0 nums_Of_x0 0 (obB nums_Of_b 0) (obH nums_Of_b 0)]) (by kernel_rfl) ⟨nums_Of_l0_ok k, trivial⟩
theorem nums_Of_iok {R : Type} (k : Nat) : IOK Try.prog tab (nums_Of_F k) (nums_Of_I (R := R) k) := iok_none
theorem nums_Of_ev (k : Nat) (x : (nums_Of_p k).τ.den) : evalF tab (nums_Of_F k) (nums_Of_p k) (nums_Of_I k) 0 (nums_Of_O k) nums_Of_h Try.f13 x = (nums_Of_p k).f x := by kernel_rfl
theorem nums_Of_ok (k : Nat) : PFOK Try.prog tab 13 (nums_Of_p k) := pfok mixed tabOK (nums_Of_fok k) Try.func13 (I := nums_Of_I k) (d := 0) (nums_Of_iok k) (Q := nums_Of_O k) (hi := nums_Of_h) (nums_Of_cuts k) (nums_Of_ev k)
end Go.Proofs.Ytncdfikcdchimaa.Ev
