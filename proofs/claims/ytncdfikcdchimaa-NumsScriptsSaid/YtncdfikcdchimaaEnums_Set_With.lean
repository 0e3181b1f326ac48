/- nums_Set_With, told on plain data. Written by program. -/
import Derived.Test.YtncdfikcdchimaaEnums_holds
set_option linter.unusedVariables false
set_option maxRecDepth 1000000
namespace Go.Proofs.Ytncdfikcdchimaa.Ev
open Go Go.RowKit Go.Proofs
def nums_Set_With_j0 {R : Type} (e0 : Option R) (k : Nat) : Option R :=
  e0
def nums_Set_With_k0 (k : Nat) : Int → Int → Int → Int → Int → Int → Int → Int → Option (Int × (Int × (Int × Int))) := fun ha_52 hb_53 hc_54 hd_55 va_56 vb_57 vc_58 vd_59 =>
  some (va_56, (vb_57, (vc_58, vd_59)))
def nums_Set_With (k : Nat) (sa_19 : Int) (sb_20 : Int) (sc_21 : Int) (sd_22 : Int) (n_23 : Int) : Option (Int × (Int × (Int × Int))) :=
  optb (nums_holds k n_23) fun r_42 =>
  bif r_42 then
    bif (decide ((wrap64 (Int.tdiv n_23 (64 : Int))) = (0 : Int))) then
      bif (decide ((Int.tmod n_23 (64 : Int)) < (0 : Int))) then
        none
      else let z_43 := (shlv .u64 (1 : Int) (Int.tmod n_23 (64 : Int)))
      bif (decide ((wrap64 (Int.tdiv n_23 (64 : Int))) = (0 : Int))) then
        nums_Set_With_j0 (nums_Set_With_k0 k (bitop .or .u64 sa_19 z_43) sb_20 sc_21 sd_22 (bitop .or .u64 sa_19 z_43) sb_20 sc_21 sd_22) k
      else bif (decide ((wrap64 (Int.tdiv n_23 (64 : Int))) = (1 : Int))) then
        nums_Set_With_j0 (nums_Set_With_k0 k sa_19 (bitop .or .u64 sa_19 z_43) sc_21 sd_22 sa_19 (bitop .or .u64 sa_19 z_43) sc_21 sd_22) k
      else bif (decide ((wrap64 (Int.tdiv n_23 (64 : Int))) = (2 : Int))) then
        nums_Set_With_j0 (nums_Set_With_k0 k sa_19 sb_20 (bitop .or .u64 sa_19 z_43) sd_22 sa_19 sb_20 (bitop .or .u64 sa_19 z_43) sd_22) k
      else bif (decide ((wrap64 (Int.tdiv n_23 (64 : Int))) = (3 : Int))) then
        nums_Set_With_j0 (nums_Set_With_k0 k sa_19 sb_20 sc_21 (bitop .or .u64 sa_19 z_43) sa_19 sb_20 sc_21 (bitop .or .u64 sa_19 z_43)) k
      else none
    else bif (decide ((wrap64 (Int.tdiv n_23 (64 : Int))) = (1 : Int))) then
      bif (decide ((Int.tmod n_23 (64 : Int)) < (0 : Int))) then
        none
      else let z_60 := (shlv .u64 (1 : Int) (Int.tmod n_23 (64 : Int)))
      bif (decide ((wrap64 (Int.tdiv n_23 (64 : Int))) = (0 : Int))) then
        nums_Set_With_j0 (nums_Set_With_k0 k (bitop .or .u64 sb_20 z_60) sb_20 sc_21 sd_22 (bitop .or .u64 sb_20 z_60) sb_20 sc_21 sd_22) k
      else bif (decide ((wrap64 (Int.tdiv n_23 (64 : Int))) = (1 : Int))) then
        nums_Set_With_j0 (nums_Set_With_k0 k sa_19 (bitop .or .u64 sb_20 z_60) sc_21 sd_22 sa_19 (bitop .or .u64 sb_20 z_60) sc_21 sd_22) k
      else bif (decide ((wrap64 (Int.tdiv n_23 (64 : Int))) = (2 : Int))) then
        nums_Set_With_j0 (nums_Set_With_k0 k sa_19 sb_20 (bitop .or .u64 sb_20 z_60) sd_22 sa_19 sb_20 (bitop .or .u64 sb_20 z_60) sd_22) k
      else bif (decide ((wrap64 (Int.tdiv n_23 (64 : Int))) = (3 : Int))) then
        nums_Set_With_j0 (nums_Set_With_k0 k sa_19 sb_20 sc_21 (bitop .or .u64 sb_20 z_60) sa_19 sb_20 sc_21 (bitop .or .u64 sb_20 z_60)) k
      else none
    else bif (decide ((wrap64 (Int.tdiv n_23 (64 : Int))) = (2 : Int))) then
      bif (decide ((Int.tmod n_23 (64 : Int)) < (0 : Int))) then
        none
      else let z_61 := (shlv .u64 (1 : Int) (Int.tmod n_23 (64 : Int)))
      bif (decide ((wrap64 (Int.tdiv n_23 (64 : Int))) = (0 : Int))) then
        nums_Set_With_j0 (nums_Set_With_k0 k (bitop .or .u64 sc_21 z_61) sb_20 sc_21 sd_22 (bitop .or .u64 sc_21 z_61) sb_20 sc_21 sd_22) k
      else bif (decide ((wrap64 (Int.tdiv n_23 (64 : Int))) = (1 : Int))) then
        nums_Set_With_j0 (nums_Set_With_k0 k sa_19 (bitop .or .u64 sc_21 z_61) sc_21 sd_22 sa_19 (bitop .or .u64 sc_21 z_61) sc_21 sd_22) k
      else bif (decide ((wrap64 (Int.tdiv n_23 (64 : Int))) = (2 : Int))) then
        nums_Set_With_j0 (nums_Set_With_k0 k sa_19 sb_20 (bitop .or .u64 sc_21 z_61) sd_22 sa_19 sb_20 (bitop .or .u64 sc_21 z_61) sd_22) k
      else bif (decide ((wrap64 (Int.tdiv n_23 (64 : Int))) = (3 : Int))) then
        nums_Set_With_j0 (nums_Set_With_k0 k sa_19 sb_20 sc_21 (bitop .or .u64 sc_21 z_61) sa_19 sb_20 sc_21 (bitop .or .u64 sc_21 z_61)) k
      else none
    else bif (decide ((wrap64 (Int.tdiv n_23 (64 : Int))) = (3 : Int))) then
      bif (decide ((Int.tmod n_23 (64 : Int)) < (0 : Int))) then
        none
      else let z_62 := (shlv .u64 (1 : Int) (Int.tmod n_23 (64 : Int)))
      bif (decide ((wrap64 (Int.tdiv n_23 (64 : Int))) = (0 : Int))) then
        nums_Set_With_j0 (nums_Set_With_k0 k (bitop .or .u64 sd_22 z_62) sb_20 sc_21 sd_22 (bitop .or .u64 sd_22 z_62) sb_20 sc_21 sd_22) k
      else bif (decide ((wrap64 (Int.tdiv n_23 (64 : Int))) = (1 : Int))) then
        nums_Set_With_j0 (nums_Set_With_k0 k sa_19 (bitop .or .u64 sd_22 z_62) sc_21 sd_22 sa_19 (bitop .or .u64 sd_22 z_62) sc_21 sd_22) k
      else bif (decide ((wrap64 (Int.tdiv n_23 (64 : Int))) = (2 : Int))) then
        nums_Set_With_j0 (nums_Set_With_k0 k sa_19 sb_20 (bitop .or .u64 sd_22 z_62) sd_22 sa_19 sb_20 (bitop .or .u64 sd_22 z_62) sd_22) k
      else bif (decide ((wrap64 (Int.tdiv n_23 (64 : Int))) = (3 : Int))) then
        nums_Set_With_j0 (nums_Set_With_k0 k sa_19 sb_20 sc_21 (bitop .or .u64 sd_22 z_62) sa_19 sb_20 sc_21 (bitop .or .u64 sd_22 z_62)) k
      else none
    else none
  else nums_Set_With_j0 (nums_Set_With_k0 k sa_19 sb_20 sc_21 sd_22 sa_19 sb_20 sc_21 sd_22) k
def nums_Set_With_p (k : Nat) : PF := { ps := [(true, 4), (false, 1)], rs := [(true, 4)], τ := (.pair (.pair (.int .u64) (.pair (.int .u64) (.pair (.int .u64) (.int .u64)))) (.int .i64)), σ := (.pair (.int .u64) (.pair (.int .u64) (.pair (.int .u64) (.int .u64)))), f := fun x => nums_Set_With k x.1.1 x.1.2.1 x.1.2.2.1 x.1.2.2.2 x.2 }
def nums_Set_With_F (k : Nat) : PT := fcons 27 (nums_holds_p k) <| fnone
theorem nums_Set_With_fok (k : Nat) : FOK Try.prog tab (nums_Set_With_F k) := fok_cons (nums_holds_ok k) Try.call27 <| fok_none
def nums_Set_With_c0 : Cl := { keep := [2, 4], hl := 2, ad := [], adc := [], bump := [] }
def nums_Set_With_x0 : Cl := { keep := [4], hl := 2, ad := [], adc := [], bump := [] }
def nums_Set_With_h : Hint := (.sq .no (.ct nums_Set_With_c0 nums_Set_With_x0 0 .no .no))
def nums_Set_With_j0_E0 {R : Type} (K : EX → St → Option R) : Int → Int → Int → Int → Int → Int → Int → Int → Option R := fun v0 v1 v2 v3 v4 v5 v6 v7 => K .ret (mkSt 19 [] nums_Set_With_x0.keep [.ptr 1 0] [.blk [.int .u64 v0, .int .u64 v1, .int .u64 v2, .int .u64 v3], .blk [.int .u64 v4, .int .u64 v5, .int .u64 v6, .int .u64 v7]])
def nums_Set_With_j0_S (sa_44 : Int) (sb_45 : Int) (sc_46 : Int) (sd_47 : Int) (va_48 : Int) (vb_49 : Int) (vc_50 : Int) (vd_51 : Int) : St := mkSt 19 [] nums_Set_With_c0.keep [.ptr 0 0, .ptr 1 0] [.blk [.int .u64 sa_44, .int .u64 sb_45, .int .u64 sc_46, .int .u64 sd_47], .blk [.int .u64 va_48, .int .u64 vb_49, .int .u64 vc_50, .int .u64 vd_51]]
def nums_Set_With_j0_sh : Rd (List AV × List HE) := .pair (.cons (.ptr 0 0) (.cons (.ptr 1 0) Rd.nil)) (.cons (.blk (.cons (.int .u64) (.cons (.int .u64) (.cons (.int .u64) (.cons (.int .u64) Rd.nil))))) (.cons (.blk (.cons (.int .u64) (.cons (.int .u64) (.cons (.int .u64) (.cons (.int .u64) Rd.nil))))) Rd.nil))
def nums_Set_With_j0_a {R : Type} (k : Nat) : Alt R := { n := 19, v := [], sh := nums_Set_With_j0_sh, g := fun K x => nums_Set_With_j0 (nums_Set_With_j0_E0 K x.2.1.1 x.2.1.2.1 x.2.1.2.2.1 x.2.1.2.2.2.1 x.2.1.1 x.2.1.2.1 x.2.1.2.2.1 x.2.1.2.2.2.1) k }
def nums_Set_With_O {R : Type} (k : Nat) : CutK R := cutsO [[nums_Set_With_j0_a k]]
noncomputable def nums_Set_With_b : List Ob := obs (bodyOf Try.f21) nums_Set_With_h
noncomputable def nums_Set_With_I {R : Type} (k : Nat) : InlT R := inone
theorem nums_Set_With_j0_eq {R : Type} (k : Nat) (K : EX → St → Option R) (sa_44 : Int) (sb_45 : Int) (sc_46 : Int) (sd_47 : Int) (va_48 : Int) (vb_49 : Int) (vc_50 : Int) (vd_51 : Int) : nums_Set_With_j0 (nums_Set_With_j0_E0 K sa_44 sb_45 sc_46 sd_47 sa_44 sb_45 sc_46 sd_47) k = ev tab (nums_Set_With_F k) (inlK tab (nums_Set_With_F k) (nums_Set_With_I k) 0) (nums_Set_With_O k) (obB nums_Set_With_b 0) (obH nums_Set_With_b 0) (nums_Set_With_j0_S sa_44 sb_45 sc_46 sd_47 va_48 vb_49 vc_50 vd_51) (fun e st => optb (clean nums_Set_With_x0 st) fun st => K e st) := by kernel_rfl
theorem nums_Set_With_j0_ok {R : Type} (k : Nat)  : ObOK (R := R) tab (nums_Set_With_F k) (inlK tab (nums_Set_With_F k) (nums_Set_With_I k) 0) (nums_Set_With_O k) (.join nums_Set_With_c0 nums_Set_With_x0 0 (obB nums_Set_With_b 0) (obH nums_Set_With_b 0)) :=
  join_ok (l := [nums_Set_With_j0_a k]) (by kernel_rfl) ⟨(fun K x => (nums_Set_With_j0_eq k K x.2.1.1 x.2.1.2.1 x.2.1.2.2.1 x.2.1.2.2.2.1 x.2.2.1.1 x.2.2.1.2.1 x.2.2.1.2.2.1 x.2.2.1.2.2.2.1).trans (by kernel_rfl)), trivial⟩
theorem nums_Set_With_cuts {R : Type} (k : Nat) : ∀ c, Try.f21.body = some c → CutsOK (R := R) tab (nums_Set_With_F k) (inlK tab (nums_Set_With_F k) (nums_Set_With_I k) 0) (nums_Set_With_O k) c nums_Set_With_h :=
  cuts_of (l := [.join nums_Set_With_c0 nums_Set_With_x0 0 (obB nums_Set_With_b 0) (obH nums_Set_With_b 0)]) (by kernel_rfl) ⟨nums_Set_With_j0_ok k, trivial⟩
theorem nums_Set_With_iok {R : Type} (k : Nat) : IOK Try.prog tab (nums_Set_With_F k) (nums_Set_With_I (R := R) k) := iok_none
theorem nums_Set_With_ev (k : Nat) (x : (nums_Set_With_p k).τ.den) : evalF tab (nums_Set_With_F k) (nums_Set_With_p k) (nums_Set_With_I k) 0 (nums_Set_With_O k) nums_Set_With_h Try.f21 x = (nums_Set_With_p k).f x := by kernel_rfl
theorem nums_Set_With_ok (k : Nat) : PFOK Try.prog tab 21 (nums_Set_With_p k) := pfok mixed tabOK (nums_Set_With_fok k) Try.func21 (I := nums_Set_With_I k) (d := 0) (nums_Set_With_iok k) (Q := nums_Set_With_O k) (hi := nums_Set_With_h) (nums_Set_With_cuts k) (nums_Set_With_ev k)
end Go.Proofs.Ytncdfikcdchimaa.Ev
