/- nums_Set_Without, told on plain data. Written by program. -/
import Derived.Test.YtncdfikcdchimaaEnums_holds
set_option linter.unusedVariables false
set_option maxRecDepth 1000000
namespace Go.Proofs.Ytncdfikcdchimaa.Ev
open Go Go.RowKit Go.Proofs
def nums_Set_Without_j0 {R : Type} (e0 : Option R) (k : Nat) : Option R :=
  e0
def nums_Set_Without_k0 (k : Nat) : Int → Int → Int → Int → Int → Int → Int → Int → Option (Int × (Int × (Int × Int))) := fun ha_288 hb_289 hc_290 hd_291 va_292 vb_293 vc_294 vd_295 =>
  some (va_292, (vb_293, (vc_294, vd_295)))
def nums_Set_Without (k : Nat) (sa_256 : Int) (sb_257 : Int) (sc_258 : Int) (sd_259 : Int) (n_260 : Int) : Option (Int × (Int × (Int × Int))) :=
  optb (nums_holds k n_260) fun r_278 =>
  bif r_278 then
    bif (decide ((wrap64 (Int.tdiv n_260 (64 : Int))) = (0 : Int))) then
      bif (decide ((Int.tmod n_260 (64 : Int)) < (0 : Int))) then
        none
      else let z_279 := (shlv .u64 (1 : Int) (Int.tmod n_260 (64 : Int)))
      bif (decide ((wrap64 (Int.tdiv n_260 (64 : Int))) = (0 : Int))) then
        nums_Set_Without_j0 (nums_Set_Without_k0 k (bitop .andNot .u64 sa_256 z_279) sb_257 sc_258 sd_259 (bitop .andNot .u64 sa_256 z_279) sb_257 sc_258 sd_259) k
      else bif (decide ((wrap64 (Int.tdiv n_260 (64 : Int))) = (1 : Int))) then
        nums_Set_Without_j0 (nums_Set_Without_k0 k sa_256 (bitop .andNot .u64 sa_256 z_279) sc_258 sd_259 sa_256 (bitop .andNot .u64 sa_256 z_279) sc_258 sd_259) k
      else bif (decide ((wrap64 (Int.tdiv n_260 (64 : Int))) = (2 : Int))) then
        nums_Set_Without_j0 (nums_Set_Without_k0 k sa_256 sb_257 (bitop .andNot .u64 sa_256 z_279) sd_259 sa_256 sb_257 (bitop .andNot .u64 sa_256 z_279) sd_259) k
      else bif (decide ((wrap64 (Int.tdiv n_260 (64 : Int))) = (3 : Int))) then
        nums_Set_Without_j0 (nums_Set_Without_k0 k sa_256 sb_257 sc_258 (bitop .andNot .u64 sa_256 z_279) sa_256 sb_257 sc_258 (bitop .andNot .u64 sa_256 z_279)) k
      else none
    else bif (decide ((wrap64 (Int.tdiv n_260 (64 : Int))) = (1 : Int))) then
      bif (decide ((Int.tmod n_260 (64 : Int)) < (0 : Int))) then
        none
      else let z_296 := (shlv .u64 (1 : Int) (Int.tmod n_260 (64 : Int)))
      bif (decide ((wrap64 (Int.tdiv n_260 (64 : Int))) = (0 : Int))) then
        nums_Set_Without_j0 (nums_Set_Without_k0 k (bitop .andNot .u64 sb_257 z_296) sb_257 sc_258 sd_259 (bitop .andNot .u64 sb_257 z_296) sb_257 sc_258 sd_259) k
      else bif (decide ((wrap64 (Int.tdiv n_260 (64 : Int))) = (1 : Int))) then
        nums_Set_Without_j0 (nums_Set_Without_k0 k sa_256 (bitop .andNot .u64 sb_257 z_296) sc_258 sd_259 sa_256 (bitop .andNot .u64 sb_257 z_296) sc_258 sd_259) k
      else bif (decide ((wrap64 (Int.tdiv n_260 (64 : Int))) = (2 : Int))) then
        nums_Set_Without_j0 (nums_Set_Without_k0 k sa_256 sb_257 (bitop .andNot .u64 sb_257 z_296) sd_259 sa_256 sb_257 (bitop .andNot .u64 sb_257 z_296) sd_259) k
      else bif (decide ((wrap64 (Int.tdiv n_260 (64 : Int))) = (3 : Int))) then
        nums_Set_Without_j0 (nums_Set_Without_k0 k sa_256 sb_257 sc_258 (bitop .andNot .u64 sb_257 z_296) sa_256 sb_257 sc_258 (bitop .andNot .u64 sb_257 z_296)) k
      else none
    else bif (decide ((wrap64 (Int.tdiv n_260 (64 : Int))) = (2 : Int))) then
      bif (decide ((Int.tmod n_260 (64 : Int)) < (0 : Int))) then
        none
      else let z_297 := (shlv .u64 (1 : Int) (Int.tmod n_260 (64 : Int)))
      bif (decide ((wrap64 (Int.tdiv n_260 (64 : Int))) = (0 : Int))) then
        nums_Set_Without_j0 (nums_Set_Without_k0 k (bitop .andNot .u64 sc_258 z_297) sb_257 sc_258 sd_259 (bitop .andNot .u64 sc_258 z_297) sb_257 sc_258 sd_259) k
      else bif (decide ((wrap64 (Int.tdiv n_260 (64 : Int))) = (1 : Int))) then
        nums_Set_Without_j0 (nums_Set_Without_k0 k sa_256 (bitop .andNot .u64 sc_258 z_297) sc_258 sd_259 sa_256 (bitop .andNot .u64 sc_258 z_297) sc_258 sd_259) k
      else bif (decide ((wrap64 (Int.tdiv n_260 (64 : Int))) = (2 : Int))) then
        nums_Set_Without_j0 (nums_Set_Without_k0 k sa_256 sb_257 (bitop .andNot .u64 sc_258 z_297) sd_259 sa_256 sb_257 (bitop .andNot .u64 sc_258 z_297) sd_259) k
      else bif (decide ((wrap64 (Int.tdiv n_260 (64 : Int))) = (3 : Int))) then
        nums_Set_Without_j0 (nums_Set_Without_k0 k sa_256 sb_257 sc_258 (bitop .andNot .u64 sc_258 z_297) sa_256 sb_257 sc_258 (bitop .andNot .u64 sc_258 z_297)) k
      else none
    else bif (decide ((wrap64 (Int.tdiv n_260 (64 : Int))) = (3 : Int))) then
      bif (decide ((Int.tmod n_260 (64 : Int)) < (0 : Int))) then
        none
      else let z_298 := (shlv .u64 (1 : Int) (Int.tmod n_260 (64 : Int)))
      bif (decide ((wrap64 (Int.tdiv n_260 (64 : Int))) = (0 : Int))) then
        nums_Set_Without_j0 (nums_Set_Without_k0 k (bitop .andNot .u64 sd_259 z_298) sb_257 sc_258 sd_259 (bitop .andNot .u64 sd_259 z_298) sb_257 sc_258 sd_259) k
      else bif (decide ((wrap64 (Int.tdiv n_260 (64 : Int))) = (1 : Int))) then
        nums_Set_Without_j0 (nums_Set_Without_k0 k sa_256 (bitop .andNot .u64 sd_259 z_298) sc_258 sd_259 sa_256 (bitop .andNot .u64 sd_259 z_298) sc_258 sd_259) k
      else bif (decide ((wrap64 (Int.tdiv n_260 (64 : Int))) = (2 : Int))) then
        nums_Set_Without_j0 (nums_Set_Without_k0 k sa_256 sb_257 (bitop .andNot .u64 sd_259 z_298) sd_259 sa_256 sb_257 (bitop .andNot .u64 sd_259 z_298) sd_259) k
      else bif (decide ((wrap64 (Int.tdiv n_260 (64 : Int))) = (3 : Int))) then
        nums_Set_Without_j0 (nums_Set_Without_k0 k sa_256 sb_257 sc_258 (bitop .andNot .u64 sd_259 z_298) sa_256 sb_257 sc_258 (bitop .andNot .u64 sd_259 z_298)) k
      else none
    else none
  else nums_Set_Without_j0 (nums_Set_Without_k0 k sa_256 sb_257 sc_258 sd_259 sa_256 sb_257 sc_258 sd_259) k
def nums_Set_Without_p (k : Nat) : PF := { ps := [(true, 4), (false, 1)], rs := [(true, 4)], τ := (.pair (.pair (.int .u64) (.pair (.int .u64) (.pair (.int .u64) (.int .u64)))) (.int .i64)), σ := (.pair (.int .u64) (.pair (.int .u64) (.pair (.int .u64) (.int .u64)))), f := fun x => nums_Set_Without k x.1.1 x.1.2.1 x.1.2.2.1 x.1.2.2.2 x.2 }
def nums_Set_Without_F (k : Nat) : PT := fcons 27 (nums_holds_p k) <| fnone
theorem nums_Set_Without_fok (k : Nat) : FOK Try.prog tab (nums_Set_Without_F k) := fok_cons (nums_holds_ok k) Try.call27 <| fok_none
def nums_Set_Without_c0 : Cl := { keep := [2, 4], hl := 2, ad := [], adc := [], bump := [] }
def nums_Set_Without_x0 : Cl := { keep := [4], hl := 2, ad := [], adc := [], bump := [] }
def nums_Set_Without_h : Hint := (.sq .no (.ct nums_Set_Without_c0 nums_Set_Without_x0 0 .no .no))
def nums_Set_Without_j0_E0 {R : Type} (K : EX → St → Option R) : Int → Int → Int → Int → Int → Int → Int → Int → Option R := fun v0 v1 v2 v3 v4 v5 v6 v7 => K .ret (mkSt 19 [] nums_Set_Without_x0.keep [.ptr 1 0] [.blk [.int .u64 v0, .int .u64 v1, .int .u64 v2, .int .u64 v3], .blk [.int .u64 v4, .int .u64 v5, .int .u64 v6, .int .u64 v7]])
def nums_Set_Without_j0_S (sa_280 : Int) (sb_281 : Int) (sc_282 : Int) (sd_283 : Int) (va_284 : Int) (vb_285 : Int) (vc_286 : Int) (vd_287 : Int) : St := mkSt 19 [] nums_Set_Without_c0.keep [.ptr 0 0, .ptr 1 0] [.blk [.int .u64 sa_280, .int .u64 sb_281, .int .u64 sc_282, .int .u64 sd_283], .blk [.int .u64 va_284, .int .u64 vb_285, .int .u64 vc_286, .int .u64 vd_287]]
def nums_Set_Without_j0_sh : Rd (List AV × List HE) := .pair (.cons (.ptr 0 0) (.cons (.ptr 1 0) Rd.nil)) (.cons (.blk (.cons (.int .u64) (.cons (.int .u64) (.cons (.int .u64) (.cons (.int .u64) Rd.nil))))) (.cons (.blk (.cons (.int .u64) (.cons (.int .u64) (.cons (.int .u64) (.cons (.int .u64) Rd.nil))))) Rd.nil))
def nums_Set_Without_j0_a {R : Type} (k : Nat) : Alt R := { n := 19, v := [], sh := nums_Set_Without_j0_sh, g := fun K x => nums_Set_Without_j0 (nums_Set_Without_j0_E0 K x.2.1.1 x.2.1.2.1 x.2.1.2.2.1 x.2.1.2.2.2.1 x.2.1.1 x.2.1.2.1 x.2.1.2.2.1 x.2.1.2.2.2.1) k }
def nums_Set_Without_O {R : Type} (k : Nat) : CutK R := cutsO [[nums_Set_Without_j0_a k]]
noncomputable def nums_Set_Without_b : List Ob := obs (bodyOf Try.f19) nums_Set_Without_h
noncomputable def nums_Set_Without_I {R : Type} (k : Nat) : InlT R := inone
theorem nums_Set_Without_j0_eq {R : Type} (k : Nat) (K : EX → St → Option R) (sa_280 : Int) (sb_281 : Int) (sc_282 : Int) (sd_283 : Int) (va_284 : Int) (vb_285 : Int) (vc_286 : Int) (vd_287 : Int) : nums_Set_Without_j0 (nums_Set_Without_j0_E0 K sa_280 sb_281 sc_282 sd_283 sa_280 sb_281 sc_282 sd_283) k = ev tab (nums_Set_Without_F k) (inlK tab (nums_Set_Without_F k) (nums_Set_Without_I k) 0) (nums_Set_Without_O k) (obB nums_Set_Without_b 0) (obH nums_Set_Without_b 0) (nums_Set_Without_j0_S sa_280 sb_281 sc_282 sd_283 va_284 vb_285 vc_286 vd_287) (fun e st => optb (clean nums_Set_Without_x0 st) fun st => K e st) := by kernel_rfl
theorem nums_Set_Without_j0_ok {R : Type} (k : Nat)  : ObOK (R := R) tab (nums_Set_Without_F k) (inlK tab (nums_Set_Without_F k) (nums_Set_Without_I k) 0) (nums_Set_Without_O k) (.join nums_Set_Without_c0 nums_Set_Without_x0 0 (obB nums_Set_Without_b 0) (obH nums_Set_Without_b 0)) :=
  join_ok (l := [nums_Set_Without_j0_a k]) (by kernel_rfl) ⟨(fun K x => (nums_Set_Without_j0_eq k K x.2.1.1 x.2.1.2.1 x.2.1.2.2.1 x.2.1.2.2.2.1 x.2.2.1.1 x.2.2.1.2.1 x.2.2.1.2.2.1 x.2.2.1.2.2.2.1).trans (by kernel_rfl)), trivial⟩
theorem nums_Set_Without_cuts {R : Type} (k : Nat) : ∀ c, Try.f19.body = some c → CutsOK (R := R) tab (nums_Set_Without_F k) (inlK tab (nums_Set_Without_F k) (nums_Set_Without_I k) 0) (nums_Set_Without_O k) c nums_Set_Without_h :=
  cuts_of (l := [.join nums_Set_Without_c0 nums_Set_Without_x0 0 (obB nums_Set_Without_b 0) (obH nums_Set_Without_b 0)]) (by kernel_rfl) ⟨nums_Set_Without_j0_ok k, trivial⟩
theorem nums_Set_Without_iok {R : Type} (k : Nat) : IOK Try.prog tab (nums_Set_Without_F k) (nums_Set_Without_I (R := R) k) := iok_none
theorem nums_Set_Without_ev (k : Nat) (x : (nums_Set_Without_p k).τ.den) : evalF tab (nums_Set_Without_F k) (nums_Set_Without_p k) (nums_Set_Without_I k) 0 (nums_Set_Without_O k) nums_Set_Without_h Try.f19 x = (nums_Set_Without_p k).f x := by kernel_rfl
theorem nums_Set_Without_ok (k : Nat) : PFOK Try.prog tab 19 (nums_Set_Without_p k) := pfok mixed tabOK (nums_Set_Without_fok k) Try.func19 (I := nums_Set_Without_I k) (d := 0) (nums_Set_Without_iok k) (Q := nums_Set_Without_O k) (hi := nums_Set_Without_h) (nums_Set_Without_cuts k) (nums_Set_Without_ev k)
end Go.Proofs.Ytncdfikcdchimaa.Ev
