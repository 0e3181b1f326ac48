/- nums_Set_With, told on plain data. Written by program. -/
import Derived.Test.YtncdfikcdchimaaEnums_holds
set_option linter.unusedVariables false
set_option maxRecDepth 1000000
namespace Go.Proofs.Ytncdfikcdchimaa.Ev
open Go Go.RowKit Go.Proofs
def nums_Set_With_j0 {R : Type} (e0 : Int → Int → Int → Int → Int → Int → Int → Int → Option R) (k : Nat) (v_33 : Int) (v_34 : Int) (v_35 : Int) (v_36 : Int) (v_37 : Int) (v_38 : Int) (v_39 : Int) (v_40 : Int) : Option R :=
  e0 v_33 v_34 v_35 v_36 v_33 v_34 v_35 v_36
def nums_Set_With_k0 (k : Nat) : Int → Int → Int → Int → Int → Int → Int → Int → Option (Int × (Int × (Int × Int))) := fun v_41 v_42 v_43 v_44 v_45 v_46 v_47 v_48 =>
  some (v_45, (v_46, (v_47, v_48)))
def nums_Set_With (k : Nat) (a0 : Int) (a1 : Int) (a2 : Int) (a3 : Int) (a4 : Int) : Option (Int × (Int × (Int × Int))) :=
  optb (nums_holds k a4) fun r_31 =>
  bif r_31 then
    bif (decide ((wrap64 (Int.tdiv a4 (64 : Int))) = (0 : Int))) then
      bif (decide ((Int.tmod a4 (64 : Int)) < (0 : Int))) then
        none
      else let z_32 := (shlv .u64 (1 : Int) (Int.tmod a4 (64 : Int)))
      bif (decide ((wrap64 (Int.tdiv a4 (64 : Int))) = (0 : Int))) then
        nums_Set_With_j0 (nums_Set_With_k0 k) k (bitop .or .u64 a0 z_32) a1 a2 a3 (0 : Int) (0 : Int) (0 : Int) (0 : Int)
      else bif (decide ((wrap64 (Int.tdiv a4 (64 : Int))) = (1 : Int))) then
        nums_Set_With_j0 (nums_Set_With_k0 k) k a0 (bitop .or .u64 a0 z_32) a2 a3 (0 : Int) (0 : Int) (0 : Int) (0 : Int)
      else bif (decide ((wrap64 (Int.tdiv a4 (64 : Int))) = (2 : Int))) then
        nums_Set_With_j0 (nums_Set_With_k0 k) k a0 a1 (bitop .or .u64 a0 z_32) a3 (0 : Int) (0 : Int) (0 : Int) (0 : Int)
      else bif (decide ((wrap64 (Int.tdiv a4 (64 : Int))) = (3 : Int))) then
        nums_Set_With_j0 (nums_Set_With_k0 k) k a0 a1 a2 (bitop .or .u64 a0 z_32) (0 : Int) (0 : Int) (0 : Int) (0 : Int)
      else none
    else bif (decide ((wrap64 (Int.tdiv a4 (64 : Int))) = (1 : Int))) then
      bif (decide ((Int.tmod a4 (64 : Int)) < (0 : Int))) then
        none
      else let z_49 := (shlv .u64 (1 : Int) (Int.tmod a4 (64 : Int)))
      bif (decide ((wrap64 (Int.tdiv a4 (64 : Int))) = (0 : Int))) then
        nums_Set_With_j0 (nums_Set_With_k0 k) k (bitop .or .u64 a1 z_49) a1 a2 a3 (0 : Int) (0 : Int) (0 : Int) (0 : Int)
      else bif (decide ((wrap64 (Int.tdiv a4 (64 : Int))) = (1 : Int))) then
        nums_Set_With_j0 (nums_Set_With_k0 k) k a0 (bitop .or .u64 a1 z_49) a2 a3 (0 : Int) (0 : Int) (0 : Int) (0 : Int)
      else bif (decide ((wrap64 (Int.tdiv a4 (64 : Int))) = (2 : Int))) then
        nums_Set_With_j0 (nums_Set_With_k0 k) k a0 a1 (bitop .or .u64 a1 z_49) a3 (0 : Int) (0 : Int) (0 : Int) (0 : Int)
      else bif (decide ((wrap64 (Int.tdiv a4 (64 : Int))) = (3 : Int))) then
        nums_Set_With_j0 (nums_Set_With_k0 k) k a0 a1 a2 (bitop .or .u64 a1 z_49) (0 : Int) (0 : Int) (0 : Int) (0 : Int)
      else none
    else bif (decide ((wrap64 (Int.tdiv a4 (64 : Int))) = (2 : Int))) then
      bif (decide ((Int.tmod a4 (64 : Int)) < (0 : Int))) then
        none
      else let z_50 := (shlv .u64 (1 : Int) (Int.tmod a4 (64 : Int)))
      bif (decide ((wrap64 (Int.tdiv a4 (64 : Int))) = (0 : Int))) then
        nums_Set_With_j0 (nums_Set_With_k0 k) k (bitop .or .u64 a2 z_50) a1 a2 a3 (0 : Int) (0 : Int) (0 : Int) (0 : Int)
      else bif (decide ((wrap64 (Int.tdiv a4 (64 : Int))) = (1 : Int))) then
        nums_Set_With_j0 (nums_Set_With_k0 k) k a0 (bitop .or .u64 a2 z_50) a2 a3 (0 : Int) (0 : Int) (0 : Int) (0 : Int)
      else bif (decide ((wrap64 (Int.tdiv a4 (64 : Int))) = (2 : Int))) then
        nums_Set_With_j0 (nums_Set_With_k0 k) k a0 a1 (bitop .or .u64 a2 z_50) a3 (0 : Int) (0 : Int) (0 : Int) (0 : Int)
      else bif (decide ((wrap64 (Int.tdiv a4 (64 : Int))) = (3 : Int))) then
        nums_Set_With_j0 (nums_Set_With_k0 k) k a0 a1 a2 (bitop .or .u64 a2 z_50) (0 : Int) (0 : Int) (0 : Int) (0 : Int)
      else none
    else bif (decide ((wrap64 (Int.tdiv a4 (64 : Int))) = (3 : Int))) then
      bif (decide ((Int.tmod a4 (64 : Int)) < (0 : Int))) then
        none
      else let z_51 := (shlv .u64 (1 : Int) (Int.tmod a4 (64 : Int)))
      bif (decide ((wrap64 (Int.tdiv a4 (64 : Int))) = (0 : Int))) then
        nums_Set_With_j0 (nums_Set_With_k0 k) k (bitop .or .u64 a3 z_51) a1 a2 a3 (0 : Int) (0 : Int) (0 : Int) (0 : Int)
      else bif (decide ((wrap64 (Int.tdiv a4 (64 : Int))) = (1 : Int))) then
        nums_Set_With_j0 (nums_Set_With_k0 k) k a0 (bitop .or .u64 a3 z_51) a2 a3 (0 : Int) (0 : Int) (0 : Int) (0 : Int)
      else bif (decide ((wrap64 (Int.tdiv a4 (64 : Int))) = (2 : Int))) then
        nums_Set_With_j0 (nums_Set_With_k0 k) k a0 a1 (bitop .or .u64 a3 z_51) a3 (0 : Int) (0 : Int) (0 : Int) (0 : Int)
      else bif (decide ((wrap64 (Int.tdiv a4 (64 : Int))) = (3 : Int))) then
        nums_Set_With_j0 (nums_Set_With_k0 k) k a0 a1 a2 (bitop .or .u64 a3 z_51) (0 : Int) (0 : Int) (0 : Int) (0 : Int)
      else none
    else none
  else nums_Set_With_j0 (nums_Set_With_k0 k) k a0 a1 a2 a3 (0 : Int) (0 : Int) (0 : Int) (0 : Int)
def nums_Set_With_p (k : Nat) : PF := { ps := [(true, 4), (false, 1)], rs := [(true, 4)], τ := (.pair (.pair (.int .u64) (.pair (.int .u64) (.pair (.int .u64) (.int .u64)))) (.int .i64)), σ := (.pair (.int .u64) (.pair (.int .u64) (.pair (.int .u64) (.int .u64)))), f := fun x => nums_Set_With k x.1.1 x.1.2.1 x.1.2.2.1 x.1.2.2.2 x.2 }
def nums_Set_With_F (k : Nat) : PT := fcons 27 (nums_holds_p k) <| fnone
theorem nums_Set_With_fok (k : Nat) : FOK Try.prog tab (nums_Set_With_F k) := fok_cons (nums_holds_ok k) Try.call27 <| fok_none
def nums_Set_With_c0 : Cl := { keep := [2, 4], hl := 2, ad := [], adc := [], bump := [] }
def nums_Set_With_x0 : Cl := { keep := [4], hl := 2, ad := [], adc := [], bump := [] }
def nums_Set_With_h : Hint := (.sq .no (.ct nums_Set_With_c0 nums_Set_With_x0 0 .no .no))
def nums_Set_With_j0_E0 {R : Type} (K : EX → St → Option R) : Int → Int → Int → Int → Int → Int → Int → Int → Option R := fun v0 v1 v2 v3 v4 v5 v6 v7 => K .ret (mkSt 19 [] nums_Set_With_x0.keep [.ptr 1 0] [.blk [.int .u64 v0, .int .u64 v1, .int .u64 v2, .int .u64 v3], .blk [.int .u64 v4, .int .u64 v5, .int .u64 v6, .int .u64 v7]])
def nums_Set_With_j0_S (v_33 : Int) (v_34 : Int) (v_35 : Int) (v_36 : Int) (v_37 : Int) (v_38 : Int) (v_39 : Int) (v_40 : Int) : St := mkSt 19 [] nums_Set_With_c0.keep [.ptr 0 0, .ptr 1 0] [.blk [.int .u64 v_33, .int .u64 v_34, .int .u64 v_35, .int .u64 v_36], .blk [.int .u64 v_37, .int .u64 v_38, .int .u64 v_39, .int .u64 v_40]]
def nums_Set_With_j0_sh : Rd (List AV × List HE) := .pair (.cons (.ptr 0 0) (.cons (.ptr 1 0) Rd.nil)) (.cons (.blk (.cons (.int .u64) (.cons (.int .u64) (.cons (.int .u64) (.cons (.int .u64) Rd.nil))))) (.cons (.blk (.cons (.int .u64) (.cons (.int .u64) (.cons (.int .u64) (.cons (.int .u64) Rd.nil))))) Rd.nil))
def nums_Set_With_j0_a {R : Type} (k : Nat) : Alt R := { n := 19, v := [], sh := nums_Set_With_j0_sh, g := fun K x => nums_Set_With_j0 (nums_Set_With_j0_E0 K) k x.2.1.1 x.2.1.2.1 x.2.1.2.2.1 x.2.1.2.2.2.1 x.2.2.1.1 x.2.2.1.2.1 x.2.2.1.2.2.1 x.2.2.1.2.2.2.1 }
def nums_Set_With_O {R : Type} (k : Nat) : CutK R := cutsO [[nums_Set_With_j0_a k]]
noncomputable def nums_Set_With_b : List Ob := obs (bodyOf Try.f21) nums_Set_With_h
noncomputable def nums_Set_With_I {R : Type} (k : Nat) : InlT R := inone
theorem nums_Set_With_j0_eq {R : Type} (k : Nat) (K : EX → St → Option R) (v_33 : Int) (v_34 : Int) (v_35 : Int) (v_36 : Int) (v_37 : Int) (v_38 : Int) (v_39 : Int) (v_40 : Int) : nums_Set_With_j0 (nums_Set_With_j0_E0 K) k v_33 v_34 v_35 v_36 v_37 v_38 v_39 v_40 = ev tab (nums_Set_With_F k) (inlK tab (nums_Set_With_F k) (nums_Set_With_I k) 0) (nums_Set_With_O k) (obB nums_Set_With_b 0) (obH nums_Set_With_b 0) (nums_Set_With_j0_S v_33 v_34 v_35 v_36 v_37 v_38 v_39 v_40) (fun e st => optb (clean nums_Set_With_x0 st) fun st => K e st) := by kernel_rfl
theorem nums_Set_With_j0_ok {R : Type} (k : Nat)  : ObOK (R := R) tab (nums_Set_With_F k) (inlK tab (nums_Set_With_F k) (nums_Set_With_I k) 0) (nums_Set_With_O k) (.join nums_Set_With_c0 nums_Set_With_x0 0 (obB nums_Set_With_b 0) (obH nums_Set_With_b 0)) :=
  join_ok (l := [nums_Set_With_j0_a k]) (by kernel_rfl) ⟨(fun K x => (nums_Set_With_j0_eq k K x.2.1.1 x.2.1.2.1 x.2.1.2.2.1 x.2.1.2.2.2.1 x.2.2.1.1 x.2.2.1.2.1 x.2.2.1.2.2.1 x.2.2.1.2.2.2.1).trans (by kernel_rfl)), trivial⟩
theorem nums_Set_With_cuts {R : Type} (k : Nat) : ∀ c, Try.f21.body = some c → CutsOK (R := R) tab (nums_Set_With_F k) (inlK tab (nums_Set_With_F k) (nums_Set_With_I k) 0) (nums_Set_With_O k) c nums_Set_With_h :=
  cuts_of (l := [.join nums_Set_With_c0 nums_Set_With_x0 0 (obB nums_Set_With_b 0) (obH nums_Set_With_b 0)]) (by kernel_rfl) ⟨nums_Set_With_j0_ok k, trivial⟩
theorem nums_Set_With_iok {R : Type} (k : Nat) : IOK Try.prog tab (nums_Set_With_F k) (nums_Set_With_I (R := R) k) := iok_none
theorem nums_Set_With_ev (k : Nat) (x : (nums_Set_With_p k).τ.den) : evalF tab (nums_Set_With_F k) (nums_Set_With_p k) (nums_Set_With_I k) 0 (nums_Set_With_O k) nums_Set_With_h Try.f21 x = (nums_Set_With_p k).f x := by kernel_rfl
theorem nums_Set_With_ok (k : Nat) : PFOK Try.prog tab 21 (nums_Set_With_p k) := pfok mixed tabOK (nums_Set_With_fok k) Try.func21 (I := nums_Set_With_I k) (d := 0) (nums_Set_With_iok k) (Q := nums_Set_With_O k) (hi := nums_Set_With_h) (nums_Set_With_cuts k) (nums_Set_With_ev k)
end Go.Proofs.Ytncdfikcdchimaa.Ev
