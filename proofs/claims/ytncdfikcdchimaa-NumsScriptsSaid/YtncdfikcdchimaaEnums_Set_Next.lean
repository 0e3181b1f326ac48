/- nums_Set_Next, told on plain data. Written by program. -/
import Derived.Test.YtncdfikcdchimaaEnums_Set_Has
set_option linter.unusedVariables false
set_option maxRecDepth 1000000
namespace Go.Proofs.Ytncdfikcdchimaa.Ev
open Go Go.RowKit Go.Proofs
def nums_Set_Next_l0s {R : Type} (rc : Int → Option R) (e0 : Int → Option R) (e1 : Option R) (k : Nat) (sa_231 : Int) (sb_232 : Int) (sc_233 : Int) (sd_234 : Int) (n_230 : Int) : Option R :=
  bif (decide (n_230 < (256 : Int))) then
    optb (nums_Set_Has k sa_231 sb_232 sc_233 sd_234 n_230) fun r_236 =>
    bif r_236 then
      e0 n_230
    else rc (wrap64 (n_230 + (1 : Int)))
  else e1
def nums_Set_Next_l0 {R : Type} (e0 : Int → Option R) (e1 : Option R) (k : Nat) (sa_231 : Int) (sb_232 : Int) (sc_233 : Int) (sd_234 : Int) : Nat → Int → Option R
  | 0 => fun _ => none
  | j + 1 => nums_Set_Next_l0s (nums_Set_Next_l0 e0 e1 k sa_231 sb_232 sc_233 sd_234 j) e0 e1 k sa_231 sb_232 sc_233 sd_234
def nums_Set_Next (k : Nat) (sa_221 : Int) (sb_222 : Int) (sc_223 : Int) (sd_224 : Int) (from_225 : Int) : Option Int :=
  nums_Set_Next_l0 (fun v_237 =>
    some v_237) (some (-1 : Int)) k sa_221 sb_222 sc_223 sd_224 k (bif (decide ((0 : Int) > from_225)) then (0 : Int) else from_225)
def nums_Set_Next_p (k : Nat) : PF := { ps := [(true, 4), (false, 1)], rs := [(false, 1)], τ := (.pair (.pair (.int .u64) (.pair (.int .u64) (.pair (.int .u64) (.int .u64)))) (.int .i64)), σ := (.int .i64), f := fun x => nums_Set_Next k x.1.1 x.1.2.1 x.1.2.2.1 x.1.2.2.2 x.2 }
def nums_Set_Next_F (k : Nat) : PT := fcons 15 (nums_Set_Has_p k) <| fnone
theorem nums_Set_Next_fok (k : Nat) : FOK Try.prog tab (nums_Set_Next_F k) := fok_cons (nums_Set_Has_ok k) Try.call15 <| fok_none
def nums_Set_Next_c0 : Cl := { keep := [2, 5], hl := 1, ad := [], adc := [], bump := [] }
def nums_Set_Next_x0 : Cl := { keep := [4], hl := 0, ad := [], adc := [], bump := [] }
def nums_Set_Next_h : Hint := (.sq .no (.sq (.sq .no (.lp nums_Set_Next_c0 nums_Set_Next_x0 0 .no)) .no))
def nums_Set_Next_l0_E0 {R : Type} (K : EX → St → Option R) : Int → Option R := fun v0 => K .ret (mkSt 16 [] nums_Set_Next_x0.keep [.int .i64 v0] [])
def nums_Set_Next_l0_E1 {R : Type} (K : EX → St → Option R) : Option R := K (.exit 0) (mkSt 16 [] nums_Set_Next_x0.keep [.junk] [])
def nums_Set_Next_l0_S (n_230 : Int) (sa_231 : Int) (sb_232 : Int) (sc_233 : Int) (sd_234 : Int) : St := mkSt 16 [] nums_Set_Next_c0.keep [.ptr 0 0, .int .i64 n_230] [.blk [.int .u64 sa_231, .int .u64 sb_232, .int .u64 sc_233, .int .u64 sd_234]]
def nums_Set_Next_l0_sh : Rd (List AV × List HE) := .pair (.cons (.ptr 0 0) (.cons (.int .i64) Rd.nil)) (.cons (.blk (.cons (.int .u64) (.cons (.int .u64) (.cons (.int .u64) (.cons (.int .u64) Rd.nil))))) Rd.nil)
def nums_Set_Next_l0_a {R : Type} (k : Nat) : Alt R := { n := 16, v := [], sh := nums_Set_Next_l0_sh, g := fun K x => nums_Set_Next_l0 (nums_Set_Next_l0_E0 K) (nums_Set_Next_l0_E1 K) k x.2.1.1 x.2.1.2.1 x.2.1.2.2.1 x.2.1.2.2.2.1 k x.1.2.1 }
def nums_Set_Next_O {R : Type} (k : Nat) : CutK R := cutsO [[nums_Set_Next_l0_a k]]
noncomputable def nums_Set_Next_b : List Ob := obs (bodyOf Try.f14) nums_Set_Next_h
noncomputable def nums_Set_Next_I {R : Type} (k : Nat) : InlT R := inone
theorem nums_Set_Next_l0_eq {R : Type} (k : Nat) (K : EX → St → Option R) (sa_231 : Int) (sb_232 : Int) (sc_233 : Int) (sd_234 : Int) : ∀ (j : Nat) (n_230 : Int), nums_Set_Next_l0 (nums_Set_Next_l0_E0 K) (nums_Set_Next_l0_E1 K) k sa_231 sb_232 sc_233 sd_234 j n_230 = iter nums_Set_Next_c0 nums_Set_Next_x0 (ev tab (nums_Set_Next_F k) (inlK tab (nums_Set_Next_F k) (nums_Set_Next_I k) 0) (nums_Set_Next_O k) (obB nums_Set_Next_b 0) (obH nums_Set_Next_b 0)) j (nums_Set_Next_l0_S n_230 sa_231 sb_232 sc_233 sd_234) K
  | 0, _ => rfl
  | j + 1, n_230 => by
    have e : nums_Set_Next_l0 (nums_Set_Next_l0_E0 K) (nums_Set_Next_l0_E1 K) k sa_231 sb_232 sc_233 sd_234 j = fun n_230 => iter nums_Set_Next_c0 nums_Set_Next_x0 (ev tab (nums_Set_Next_F k) (inlK tab (nums_Set_Next_F k) (nums_Set_Next_I k) 0) (nums_Set_Next_O k) (obB nums_Set_Next_b 0) (obH nums_Set_Next_b 0)) j (nums_Set_Next_l0_S n_230 sa_231 sb_232 sc_233 sd_234) K := by funext n_230; exact nums_Set_Next_l0_eq k K sa_231 sb_232 sc_233 sd_234 j n_230
    show nums_Set_Next_l0s (nums_Set_Next_l0 (nums_Set_Next_l0_E0 K) (nums_Set_Next_l0_E1 K) k sa_231 sb_232 sc_233 sd_234 j) (nums_Set_Next_l0_E0 K) (nums_Set_Next_l0_E1 K) k sa_231 sb_232 sc_233 sd_234 n_230 = _
    rw [e, iter_succ]; kernel_rfl
theorem nums_Set_Next_l0_ok {R : Type} (k : Nat)  : ObOK (R := R) tab (nums_Set_Next_F k) (inlK tab (nums_Set_Next_F k) (nums_Set_Next_I k) 0) (nums_Set_Next_O k) (.loop nums_Set_Next_c0 nums_Set_Next_x0 0 (obB nums_Set_Next_b 0) (obH nums_Set_Next_b 0)) :=
  loop_ok (l := [nums_Set_Next_l0_a k]) (by kernel_rfl) ⟨(fun K x => ⟨k, (nums_Set_Next_l0_eq k K x.2.1.1 x.2.1.2.1 x.2.1.2.2.1 x.2.1.2.2.2.1 k x.1.2.1).trans (by kernel_rfl)⟩), trivial⟩
theorem nums_Set_Next_cuts {R : Type} (k : Nat) : ∀ c, Try.f14.body = some c → CutsOK (R := R) tab (nums_Set_Next_F k) (inlK tab (nums_Set_Next_F k) (nums_Set_Next_I k) 0) (nums_Set_Next_O k) c nums_Set_Next_h :=
  cuts_of (l := [.loop nums_Set_Next_c0 nums_Set_Next_x0 0 (obB nums_Set_Next_b 0) (obH nums_Set_Next_b 0)]) (by kernel_rfl) ⟨nums_Set_Next_l0_ok k, trivial⟩
theorem nums_Set_Next_iok {R : Type} (k : Nat) : IOK Try.prog tab (nums_Set_Next_F k) (nums_Set_Next_I (R := R) k) := iok_none
theorem nums_Set_Next_ev (k : Nat) (x : (nums_Set_Next_p k).τ.den) : evalF tab (nums_Set_Next_F k) (nums_Set_Next_p k) (nums_Set_Next_I k) 0 (nums_Set_Next_O k) nums_Set_Next_h Try.f14 x = (nums_Set_Next_p k).f x := by kernel_rfl
theorem nums_Set_Next_ok (k : Nat) : PFOK Try.prog tab 14 (nums_Set_Next_p k) := pfok mixed tabOK (nums_Set_Next_fok k) Try.func14 (I := nums_Set_Next_I k) (d := 0) (nums_Set_Next_iok k) (Q := nums_Set_Next_O k) (hi := nums_Set_Next_h) (nums_Set_Next_cuts k) (nums_Set_Next_ev k)
end Go.Proofs.Ytncdfikcdchimaa.Ev
