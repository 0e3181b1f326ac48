/- crc_Sum, told on plain data. Written by program. -/
import Derived.Test.YtncdfikcdchimaaDoorEcrc_step
set_option linter.unusedVariables false
set_option maxRecDepth 1000000
namespace Go.Proofs.YtncdfikcdchimaaDoor.Ev
open Go Go.RowKit Go.Proofs
def crc_Sum_l1s {R : Type} (rc : Int → Int → Option R) (e0 : Int → Option R) (k : Nat) (s_16 : ByteArray) (v_21 : Int) (c_15 : Int) (v_22 : Int) : Option R :=
  bif (decide (v_22 < v_21)) then
    bif ((decide ((0 : Int) ≤ v_22)) && (decide (v_22 < (sizeI s_16)))) then
      optb (crc_step k (bitop .xor .u32 c_15 (IntKind.u32.wrap (bt s_16 v_22)))) fun r_66 =>
      rc r_66 (wrap64 (v_22 + (1 : Int)))
    else none
  else e0 c_15
def crc_Sum_l1 {R : Type} (e0 : Int → Option R) (k : Nat) (s_16 : ByteArray) (v_21 : Int) : Nat → Int → Int → Option R
  | 0 => fun _ _ => none
  | j + 1 => crc_Sum_l1s (crc_Sum_l1 e0 k s_16 v_21 j) e0 k s_16 v_21
def crc_Sum_l0s {R : Type} (rc : Int → Int → Option R) (e0 : Int → Option R) (k : Nat) (vb_9 : List ByteArray) (v_10 : Int) (c_7 : Int) (v_11 : Int) : Option R :=
  bif (decide (v_11 < v_10)) then
    bif (decide ((0 : Int) ≤ v_11)) then
      optb (vb_9[v_11.toNat]?) fun x_14 =>
      crc_Sum_l1 (fun c_67 =>
        rc c_67 (wrap64 (v_11 + (1 : Int)))) k x_14 (sizeI x_14) k c_7 (0 : Int)
    else none
  else e0 c_7
def crc_Sum_l0 {R : Type} (e0 : Int → Option R) (k : Nat) (vb_9 : List ByteArray) (v_10 : Int) : Nat → Int → Int → Option R
  | 0 => fun _ _ => none
  | j + 1 => crc_Sum_l0s (crc_Sum_l0 e0 k vb_9 v_10 j) e0 k vb_9 v_10
def crc_Sum (k : Nat) (partsa_5 : Bool) (partsb_6 : List ByteArray) : Option Int :=
  crc_Sum_l0 (fun c_72 =>
    some (bitop .xor .u32 (4294967295 : Int) c_72)) k partsb_6 (lenI partsb_6) k (4294967295 : Int) (0 : Int)
def crc_Sum_p (k : Nat) : PF := { ps := [(false, 1)], rs := [(false, 1)], τ := (.sl .str), σ := (.int .u32), f := fun x => crc_Sum k x.1 x.2 }
def crc_Sum_F (k : Nat) : PT := fcons 12 (crc_step_p k) <| fnone
theorem crc_Sum_fok (k : Nat) : FOK Tryd.prog tab (crc_Sum_F k) := fok_cons (crc_step_ok k) Tryd.call12 <| fok_none
def crc_Sum_c0 : Cl := { keep := [3, 7, 8, 9], hl := 0, ad := [], adc := [], bump := [] }
def crc_Sum_x0 : Cl := { keep := [3], hl := 0, ad := [], adc := [], bump := [] }
def crc_Sum_c1 : Cl := { keep := [3, 5, 7, 8, 9, 14, 15], hl := 0, ad := [], adc := [], bump := [] }
def crc_Sum_x1 : Cl := { keep := [3, 7, 8, 9], hl := 0, ad := [], adc := [], bump := [] }
def crc_Sum_h : Hint := (.sq .no (.sq .no (.sq (.sq .no (.lp crc_Sum_c0 crc_Sum_x0 0 (.sq .no (.sq .no (.sq (.sq .no (.sq .no (.lp crc_Sum_c1 crc_Sum_x1 1 .no))) .no))))) .no)))
def crc_Sum_l0_E0 {R : Type} (K : EX → St → Option R) : Int → Option R := fun v0 => K (.exit 0) (mkSt 29 [] crc_Sum_x0.keep [.int .u32 v0] [])
def crc_Sum_l0_S (c_7 : Int) (va_8 : Bool) (vb_9 : List ByteArray) (v_10 : Int) (v_11 : Int) : St := mkSt 29 [] crc_Sum_c0.keep [.int .u32 c_7, .sl .str va_8 vb_9, .int .i64 v_10, .int .i64 v_11] []
def crc_Sum_l0_sh : Rd (List AV × List HE) := .pair (.cons (.int .u32) (.cons (.sl .str) (.cons (.int .i64) (.cons (.int .i64) Rd.nil)))) Rd.nil
def crc_Sum_l0_a {R : Type} (k : Nat) : Alt R := { n := 29, v := [], sh := crc_Sum_l0_sh, g := fun K x => crc_Sum_l0 (crc_Sum_l0_E0 K) k x.1.2.1.2 x.1.2.2.1 k x.1.1 x.1.2.2.2.1 }
def crc_Sum_l1_E0 {R : Type} (K : EX → St → Option R) : Int → Bool → List ByteArray → Int → Int → Option R := fun v0 v1 v2 v3 v4 => K (.exit 2) (mkSt 29 [] crc_Sum_x1.keep [.int .u32 v0, .sl .str v1 v2, .int .i64 v3, .int .i64 v4] [])
def crc_Sum_l1_S (c_15 : Int) (s_16 : ByteArray) (va_17 : Bool) (vb_18 : List ByteArray) (v_19 : Int) (v_20 : Int) (v_21 : Int) (v_22 : Int) : St := mkSt 29 [] crc_Sum_c1.keep [.int .u32 c_15, .str s_16, .sl .str va_17 vb_18, .int .i64 v_19, .int .i64 v_20, .int .i64 v_21, .int .i64 v_22] []
def crc_Sum_l1_sh : Rd (List AV × List HE) := .pair (.cons (.int .u32) (.cons .str (.cons (.sl .str) (.cons (.int .i64) (.cons (.int .i64) (.cons (.int .i64) (.cons (.int .i64) Rd.nil))))))) Rd.nil
def crc_Sum_l1_a {R : Type} (k : Nat) : Alt R := { n := 29, v := [], sh := crc_Sum_l1_sh, g := fun K x => crc_Sum_l1 (fun y0 => crc_Sum_l1_E0 K y0 x.1.2.2.1.1 x.1.2.2.1.2 x.1.2.2.2.1 x.1.2.2.2.2.1) k x.1.2.1 x.1.2.2.2.2.2.1 k x.1.1 x.1.2.2.2.2.2.2.1 }
def crc_Sum_O {R : Type} (k : Nat) : CutK R := cutsO [[crc_Sum_l0_a k], [crc_Sum_l1_a k]]
noncomputable def crc_Sum_b : List Ob := obs (bodyOf Tryd.f10) crc_Sum_h
noncomputable def crc_Sum_I {R : Type} (k : Nat) : InlT R := inone
theorem crc_Sum_l0_eq {R : Type} (k : Nat) (K : EX → St → Option R) (va_8 : Bool) (vb_9 : List ByteArray) (v_10 : Int) : ∀ (j : Nat) (c_7 : Int) (v_11 : Int), crc_Sum_l0 (crc_Sum_l0_E0 K) k vb_9 v_10 j c_7 v_11 = iter crc_Sum_c0 crc_Sum_x0 (ev tab (crc_Sum_F k) (inlK tab (crc_Sum_F k) (crc_Sum_I k) 0) (crc_Sum_O k) (obB crc_Sum_b 0) (obH crc_Sum_b 0)) j (crc_Sum_l0_S c_7 va_8 vb_9 v_10 v_11) K
  | 0, _, _ => rfl
  | j + 1, c_7, v_11 => by
    have e : crc_Sum_l0 (crc_Sum_l0_E0 K) k vb_9 v_10 j = fun c_7 v_11 => iter crc_Sum_c0 crc_Sum_x0 (ev tab (crc_Sum_F k) (inlK tab (crc_Sum_F k) (crc_Sum_I k) 0) (crc_Sum_O k) (obB crc_Sum_b 0) (obH crc_Sum_b 0)) j (crc_Sum_l0_S c_7 va_8 vb_9 v_10 v_11) K := by funext c_7 v_11; exact crc_Sum_l0_eq k K va_8 vb_9 v_10 j c_7 v_11
    show crc_Sum_l0s (crc_Sum_l0 (crc_Sum_l0_E0 K) k vb_9 v_10 j) (crc_Sum_l0_E0 K) k vb_9 v_10 c_7 v_11 = _
    rw [e, iter_succ]; kernel_rfl
theorem crc_Sum_l0_ok {R : Type} (k : Nat)  : ObOK (R := R) tab (crc_Sum_F k) (inlK tab (crc_Sum_F k) (crc_Sum_I k) 0) (crc_Sum_O k) (.loop crc_Sum_c0 crc_Sum_x0 0 (obB crc_Sum_b 0) (obH crc_Sum_b 0)) :=
  loop_ok (l := [crc_Sum_l0_a k]) (by kernel_rfl) ⟨(fun K x => ⟨k, (crc_Sum_l0_eq k K x.1.2.1.1 x.1.2.1.2 x.1.2.2.1 k x.1.1 x.1.2.2.2.1).trans (by kernel_rfl)⟩), trivial⟩
theorem crc_Sum_l1_eq {R : Type} (k : Nat) (K : EX → St → Option R) (s_16 : ByteArray) (va_17 : Bool) (vb_18 : List ByteArray) (v_19 : Int) (v_20 : Int) (v_21 : Int) : ∀ (j : Nat) (c_15 : Int) (v_22 : Int), crc_Sum_l1 (fun y0 => crc_Sum_l1_E0 K y0 va_17 vb_18 v_19 v_20) k s_16 v_21 j c_15 v_22 = iter crc_Sum_c1 crc_Sum_x1 (ev tab (crc_Sum_F k) (inlK tab (crc_Sum_F k) (crc_Sum_I k) 0) (crc_Sum_O k) (obB crc_Sum_b 1) (obH crc_Sum_b 1)) j (crc_Sum_l1_S c_15 s_16 va_17 vb_18 v_19 v_20 v_21 v_22) K
  | 0, _, _ => rfl
  | j + 1, c_15, v_22 => by
    have e : crc_Sum_l1 (fun y0 => crc_Sum_l1_E0 K y0 va_17 vb_18 v_19 v_20) k s_16 v_21 j = fun c_15 v_22 => iter crc_Sum_c1 crc_Sum_x1 (ev tab (crc_Sum_F k) (inlK tab (crc_Sum_F k) (crc_Sum_I k) 0) (crc_Sum_O k) (obB crc_Sum_b 1) (obH crc_Sum_b 1)) j (crc_Sum_l1_S c_15 s_16 va_17 vb_18 v_19 v_20 v_21 v_22) K := by funext c_15 v_22; exact crc_Sum_l1_eq k K s_16 va_17 vb_18 v_19 v_20 v_21 j c_15 v_22
    show crc_Sum_l1s (crc_Sum_l1 (fun y0 => crc_Sum_l1_E0 K y0 va_17 vb_18 v_19 v_20) k s_16 v_21 j) (fun y0 => crc_Sum_l1_E0 K y0 va_17 vb_18 v_19 v_20) k s_16 v_21 c_15 v_22 = _
    rw [e, iter_succ]; kernel_rfl
theorem crc_Sum_l1_ok {R : Type} (k : Nat)  : ObOK (R := R) tab (crc_Sum_F k) (inlK tab (crc_Sum_F k) (crc_Sum_I k) 0) (crc_Sum_O k) (.loop crc_Sum_c1 crc_Sum_x1 1 (obB crc_Sum_b 1) (obH crc_Sum_b 1)) :=
  loop_ok (l := [crc_Sum_l1_a k]) (by kernel_rfl) ⟨(fun K x => ⟨k, (crc_Sum_l1_eq k K x.1.2.1 x.1.2.2.1.1 x.1.2.2.1.2 x.1.2.2.2.1 x.1.2.2.2.2.1 x.1.2.2.2.2.2.1 k x.1.1 x.1.2.2.2.2.2.2.1).trans (by kernel_rfl)⟩), trivial⟩
theorem crc_Sum_cuts {R : Type} (k : Nat) : ∀ c, Tryd.f10.body = some c → CutsOK (R := R) tab (crc_Sum_F k) (inlK tab (crc_Sum_F k) (crc_Sum_I k) 0) (crc_Sum_O k) c crc_Sum_h :=
  cuts_of (l := [.loop crc_Sum_c0 crc_Sum_x0 0 (obB crc_Sum_b 0) (obH crc_Sum_b 0), .loop crc_Sum_c1 crc_Sum_x1 1 (obB crc_Sum_b 1) (obH crc_Sum_b 1)]) (by kernel_rfl) ⟨crc_Sum_l0_ok k, crc_Sum_l1_ok k, trivial⟩
theorem crc_Sum_iok {R : Type} (k : Nat) : IOK Tryd.prog tab (crc_Sum_F k) (crc_Sum_I (R := R) k) := iok_none
theorem crc_Sum_ev (k : Nat) (x : (crc_Sum_p k).τ.den) : evalF tab (crc_Sum_F k) (crc_Sum_p k) (crc_Sum_I k) 0 (crc_Sum_O k) crc_Sum_h Tryd.f10 x = (crc_Sum_p k).f x := by kernel_rfl
theorem crc_Sum_ok (k : Nat) : PFOK Tryd.prog tab 10 (crc_Sum_p k) := pfok mixed tabOK (crc_Sum_fok k) Tryd.func10 (I := crc_Sum_I k) (d := 0) (crc_Sum_iok k) (Q := crc_Sum_O k) (hi := crc_Sum_h) (crc_Sum_cuts k) (crc_Sum_ev k)
end Go.Proofs.YtncdfikcdchimaaDoor.Ev
