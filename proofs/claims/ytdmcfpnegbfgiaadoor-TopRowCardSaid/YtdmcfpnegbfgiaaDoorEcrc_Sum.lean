/- crc_Sum, told on plain data. Written by program. -/
import Derived.Test.YtdmcfpnegbfgiaaDoorEcrc_step
set_option linter.unusedVariables false
set_option maxRecDepth 1000000
namespace Go.Proofs.YtdmcfpnegbfgiaaDoor.Ev
open Go Go.RowKit Go.Proofs
def crc_Sum_l1s {R : Type} (rc : Int → Int → Option R) (e0 : Int → Option R) (k : Nat) (s_265 : ByteArray) (v_270 : Int) (c_264 : Int) (v_271 : Int) : Option R :=
  bif (decide (v_271 < v_270)) then
    bif ((decide ((0 : Int) ≤ v_271)) && (decide (v_271 < (sizeI s_265)))) then
      optb (crc_step k (bitop .xor .u32 c_264 (IntKind.u32.wrap (bt s_265 v_271)))) fun r_315 =>
      rc r_315 (wrap64 (v_271 + (1 : Int)))
    else none
  else e0 c_264
def crc_Sum_l1 {R : Type} (e0 : Int → Option R) (k : Nat) (s_265 : ByteArray) (v_270 : Int) : Nat → Int → Int → Option R
  | 0 => fun _ _ => none
  | j + 1 => crc_Sum_l1s (crc_Sum_l1 e0 k s_265 v_270 j) e0 k s_265 v_270
def crc_Sum_l0s {R : Type} (rc : Int → Int → Option R) (e0 : Int → Option R) (k : Nat) (vb_258 : List ByteArray) (v_259 : Int) (c_256 : Int) (v_260 : Int) : Option R :=
  bif (decide (v_260 < v_259)) then
    bif (decide ((0 : Int) ≤ v_260)) then
      optb (vb_258[v_260.toNat]?) fun x_263 =>
      crc_Sum_l1 (fun c_316 =>
        rc c_316 (wrap64 (v_260 + (1 : Int)))) k x_263 (sizeI x_263) k c_256 (0 : Int)
    else none
  else e0 c_256
def crc_Sum_l0 {R : Type} (e0 : Int → Option R) (k : Nat) (vb_258 : List ByteArray) (v_259 : Int) : Nat → Int → Int → Option R
  | 0 => fun _ _ => none
  | j + 1 => crc_Sum_l0s (crc_Sum_l0 e0 k vb_258 v_259 j) e0 k vb_258 v_259
def crc_Sum (k : Nat) (partsa_254 : Bool) (partsb_255 : List ByteArray) : Option Int :=
  crc_Sum_l0 (fun c_321 =>
    some (bitop .xor .u32 (4294967295 : Int) c_321)) k partsb_255 (lenI partsb_255) k (4294967295 : Int) (0 : Int)
def crc_Sum_p (k : Nat) : PF := { ps := [(false, 1)], rs := [(false, 1)], τ := (.sl .str), σ := (.int .u32), f := fun x => crc_Sum k x.1 x.2 }
def crc_Sum_F (k : Nat) : PT := fcons 22 (crc_step_p k) <| fnone
theorem crc_Sum_fok (k : Nat) : FOK Tryd.prog tab (crc_Sum_F k) := fok_cons (crc_step_ok k) Tryd.call22 <| fok_none
def crc_Sum_c0 : Cl := { keep := [3, 7, 8, 9], hl := 0, ad := [], adc := [], bump := [] }
def crc_Sum_x0 : Cl := { keep := [3], hl := 0, ad := [], adc := [], bump := [] }
def crc_Sum_c1 : Cl := { keep := [3, 5, 7, 8, 9, 14, 15], hl := 0, ad := [], adc := [], bump := [] }
def crc_Sum_x1 : Cl := { keep := [3, 7, 8, 9], hl := 0, ad := [], adc := [], bump := [] }
def crc_Sum_h : Hint := (.sq .no (.sq .no (.sq (.sq .no (.lp crc_Sum_c0 crc_Sum_x0 0 (.sq .no (.sq .no (.sq (.sq .no (.sq .no (.lp crc_Sum_c1 crc_Sum_x1 1 .no))) .no))))) .no)))
def crc_Sum_l0_E0 {R : Type} (K : EX → St → Option R) : Int → Option R := fun v0 => K (.exit 0) (mkSt 29 [] crc_Sum_x0.keep [.int .u32 v0] [])
def crc_Sum_l0_S (c_256 : Int) (va_257 : Bool) (vb_258 : List ByteArray) (v_259 : Int) (v_260 : Int) : St := mkSt 29 [] crc_Sum_c0.keep [.int .u32 c_256, .sl .str va_257 vb_258, .int .i64 v_259, .int .i64 v_260] []
def crc_Sum_l0_sh : Rd (List AV × List HE) := .pair (.cons (.int .u32) (.cons (.sl .str) (.cons (.int .i64) (.cons (.int .i64) Rd.nil)))) Rd.nil
def crc_Sum_l0_a {R : Type} (k : Nat) : Alt R := { n := 29, v := [], sh := crc_Sum_l0_sh, g := fun K x => crc_Sum_l0 (crc_Sum_l0_E0 K) k x.1.2.1.2 x.1.2.2.1 k x.1.1 x.1.2.2.2.1 }
def crc_Sum_l1_E0 {R : Type} (K : EX → St → Option R) : Int → Bool → List ByteArray → Int → Int → Option R := fun v0 v1 v2 v3 v4 => K (.exit 2) (mkSt 29 [] crc_Sum_x1.keep [.int .u32 v0, .sl .str v1 v2, .int .i64 v3, .int .i64 v4] [])
def crc_Sum_l1_S (c_264 : Int) (s_265 : ByteArray) (va_266 : Bool) (vb_267 : List ByteArray) (v_268 : Int) (v_269 : Int) (v_270 : Int) (v_271 : Int) : St := mkSt 29 [] crc_Sum_c1.keep [.int .u32 c_264, .str s_265, .sl .str va_266 vb_267, .int .i64 v_268, .int .i64 v_269, .int .i64 v_270, .int .i64 v_271] []
def crc_Sum_l1_sh : Rd (List AV × List HE) := .pair (.cons (.int .u32) (.cons .str (.cons (.sl .str) (.cons (.int .i64) (.cons (.int .i64) (.cons (.int .i64) (.cons (.int .i64) Rd.nil))))))) Rd.nil
def crc_Sum_l1_a {R : Type} (k : Nat) : Alt R := { n := 29, v := [], sh := crc_Sum_l1_sh, g := fun K x => crc_Sum_l1 (fun y0 => crc_Sum_l1_E0 K y0 x.1.2.2.1.1 x.1.2.2.1.2 x.1.2.2.2.1 x.1.2.2.2.2.1) k x.1.2.1 x.1.2.2.2.2.2.1 k x.1.1 x.1.2.2.2.2.2.2.1 }
def crc_Sum_O {R : Type} (k : Nat) : CutK R := cutsO [[crc_Sum_l0_a k], [crc_Sum_l1_a k]]
noncomputable def crc_Sum_b : List Ob := obs (bodyOf Tryd.f9) crc_Sum_h
noncomputable def crc_Sum_I {R : Type} (k : Nat) : InlT R := inone
theorem crc_Sum_l0_eq {R : Type} (k : Nat) (K : EX → St → Option R) (va_257 : Bool) (vb_258 : List ByteArray) (v_259 : Int) : ∀ (j : Nat) (c_256 : Int) (v_260 : Int), crc_Sum_l0 (crc_Sum_l0_E0 K) k vb_258 v_259 j c_256 v_260 = iter crc_Sum_c0 crc_Sum_x0 (ev tab (crc_Sum_F k) (inlK tab (crc_Sum_F k) (crc_Sum_I k) 0) (crc_Sum_O k) (obB crc_Sum_b 0) (obH crc_Sum_b 0)) j (crc_Sum_l0_S c_256 va_257 vb_258 v_259 v_260) K
  | 0, _, _ => rfl
  | j + 1, c_256, v_260 => by
    have e : crc_Sum_l0 (crc_Sum_l0_E0 K) k vb_258 v_259 j = fun c_256 v_260 => iter crc_Sum_c0 crc_Sum_x0 (ev tab (crc_Sum_F k) (inlK tab (crc_Sum_F k) (crc_Sum_I k) 0) (crc_Sum_O k) (obB crc_Sum_b 0) (obH crc_Sum_b 0)) j (crc_Sum_l0_S c_256 va_257 vb_258 v_259 v_260) K := by funext c_256 v_260; exact crc_Sum_l0_eq k K va_257 vb_258 v_259 j c_256 v_260
    show crc_Sum_l0s (crc_Sum_l0 (crc_Sum_l0_E0 K) k vb_258 v_259 j) (crc_Sum_l0_E0 K) k vb_258 v_259 c_256 v_260 = _
    rw [e, iter_succ]; kernel_rfl
theorem crc_Sum_l0_ok {R : Type} (k : Nat)  : ObOK (R := R) tab (crc_Sum_F k) (inlK tab (crc_Sum_F k) (crc_Sum_I k) 0) (crc_Sum_O k) (.loop crc_Sum_c0 crc_Sum_x0 0 (obB crc_Sum_b 0) (obH crc_Sum_b 0)) :=
  loop_ok (l := [crc_Sum_l0_a k]) (by kernel_rfl) ⟨(fun K x => ⟨k, (crc_Sum_l0_eq k K x.1.2.1.1 x.1.2.1.2 x.1.2.2.1 k x.1.1 x.1.2.2.2.1).trans (by kernel_rfl)⟩), trivial⟩
theorem crc_Sum_l1_eq {R : Type} (k : Nat) (K : EX → St → Option R) (s_265 : ByteArray) (va_266 : Bool) (vb_267 : List ByteArray) (v_268 : Int) (v_269 : Int) (v_270 : Int) : ∀ (j : Nat) (c_264 : Int) (v_271 : Int), crc_Sum_l1 (fun y0 => crc_Sum_l1_E0 K y0 va_266 vb_267 v_268 v_269) k s_265 v_270 j c_264 v_271 = iter crc_Sum_c1 crc_Sum_x1 (ev tab (crc_Sum_F k) (inlK tab (crc_Sum_F k) (crc_Sum_I k) 0) (crc_Sum_O k) (obB crc_Sum_b 1) (obH crc_Sum_b 1)) j (crc_Sum_l1_S c_264 s_265 va_266 vb_267 v_268 v_269 v_270 v_271) K
  | 0, _, _ => rfl
  | j + 1, c_264, v_271 => by
    have e : crc_Sum_l1 (fun y0 => crc_Sum_l1_E0 K y0 va_266 vb_267 v_268 v_269) k s_265 v_270 j = fun c_264 v_271 => iter crc_Sum_c1 crc_Sum_x1 (ev tab (crc_Sum_F k) (inlK tab (crc_Sum_F k) (crc_Sum_I k) 0) (crc_Sum_O k) (obB crc_Sum_b 1) (obH crc_Sum_b 1)) j (crc_Sum_l1_S c_264 s_265 va_266 vb_267 v_268 v_269 v_270 v_271) K := by funext c_264 v_271; exact crc_Sum_l1_eq k K s_265 va_266 vb_267 v_268 v_269 v_270 j c_264 v_271
    show crc_Sum_l1s (crc_Sum_l1 (fun y0 => crc_Sum_l1_E0 K y0 va_266 vb_267 v_268 v_269) k s_265 v_270 j) (fun y0 => crc_Sum_l1_E0 K y0 va_266 vb_267 v_268 v_269) k s_265 v_270 c_264 v_271 = _
    rw [e, iter_succ]; kernel_rfl
theorem crc_Sum_l1_ok {R : Type} (k : Nat)  : ObOK (R := R) tab (crc_Sum_F k) (inlK tab (crc_Sum_F k) (crc_Sum_I k) 0) (crc_Sum_O k) (.loop crc_Sum_c1 crc_Sum_x1 1 (obB crc_Sum_b 1) (obH crc_Sum_b 1)) :=
  loop_ok (l := [crc_Sum_l1_a k]) (by kernel_rfl) ⟨(fun K x => ⟨k, (crc_Sum_l1_eq k K x.1.2.1 x.1.2.2.1.1 x.1.2.2.1.2 x.1.2.2.2.1 x.1.2.2.2.2.1 x.1.2.2.2.2.2.1 k x.1.1 x.1.2.2.2.2.2.2.1).trans (by kernel_rfl)⟩), trivial⟩
theorem crc_Sum_cuts {R : Type} (k : Nat) : ∀ c, Tryd.f9.body = some c → CutsOK (R := R) tab (crc_Sum_F k) (inlK tab (crc_Sum_F k) (crc_Sum_I k) 0) (crc_Sum_O k) c crc_Sum_h :=
  cuts_of (l := [.loop crc_Sum_c0 crc_Sum_x0 0 (obB crc_Sum_b 0) (obH crc_Sum_b 0), .loop crc_Sum_c1 crc_Sum_x1 1 (obB crc_Sum_b 1) (obH crc_Sum_b 1)]) (by kernel_rfl) ⟨crc_Sum_l0_ok k, crc_Sum_l1_ok k, trivial⟩
theorem crc_Sum_iok {R : Type} (k : Nat) : IOK Tryd.prog tab (crc_Sum_F k) (crc_Sum_I (R := R) k) := iok_none
theorem crc_Sum_ev (k : Nat) (x : (crc_Sum_p k).τ.den) : evalF tab (crc_Sum_F k) (crc_Sum_p k) (crc_Sum_I k) 0 (crc_Sum_O k) crc_Sum_h Tryd.f9 x = (crc_Sum_p k).f x := by kernel_rfl
theorem crc_Sum_ok (k : Nat) : PFOK Tryd.prog tab 9 (crc_Sum_p k) := pfok mixed tabOK (crc_Sum_fok k) Tryd.func9 (I := crc_Sum_I k) (d := 0) (crc_Sum_iok k) (Q := crc_Sum_O k) (hi := crc_Sum_h) (crc_Sum_cuts k) (crc_Sum_ev k)
end Go.Proofs.YtdmcfpnegbfgiaaDoor.Ev
