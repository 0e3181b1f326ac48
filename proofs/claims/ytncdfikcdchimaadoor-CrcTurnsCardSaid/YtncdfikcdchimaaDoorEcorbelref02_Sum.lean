/- corbelref02_Sum, told on plain data. Written by program. -/
import Derived.Test.YtncdfikcdchimaaDoorEtab
set_option linter.unusedVariables false
set_option maxRecDepth 1000000
namespace Go.Proofs.YtncdfikcdchimaaDoor.Ev
open Go Go.RowKit Go.Proofs
def corbelref02_Sum_j2 {R : Type} (e0 : Int → Option R) (k : Nat) (b_218 : Int) : Option R :=
  e0 (wrap64 (b_218 + (1 : Int)))
def corbelref02_Sum_k0 {R : Type} (rc : Int → Int → Option R) (e0 : Int → Option R) (k : Nat) : Int → Int → Option R := fun c_220 b_222 =>
  rc c_220 b_222
def corbelref02_Sum_l1s {R : Type} (rc : Int → Int → Option R) (e0 : Int → Option R) (k : Nat) (s_203 : ByteArray) (i_205 : Int) (c_204 : Int) (b_206 : Int) : Option R :=
  bif (decide (b_206 < (8 : Int))) then
    bif ((decide ((0 : Int) ≤ i_205)) && (decide (i_205 < (sizeI s_203)))) then
      bif (decide ((IntKind.u64.wrap b_206) < (0 : Int))) then
        none
      else let z_214 := (IntKind.u32.wrap (Int.tdiv c_204 (2 : Int)))
      bif (!(decide ((Int.tmod (shrv .u32 (IntKind.u32.wrap (bt s_203 i_205)) (IntKind.u64.wrap b_206)) (2 : Int)) = (Int.tmod c_204 (2 : Int))))) then
        corbelref02_Sum_j2 (fun b_222 => corbelref02_Sum_k0 rc e0 k (bitop .xor .u32 z_214 (2197175160 : Int)) b_222) k b_206
      else corbelref02_Sum_j2 (fun b_222 => corbelref02_Sum_k0 rc e0 k z_214 b_222) k b_206
    else none
  else e0 c_204
def corbelref02_Sum_l1 {R : Type} (e0 : Int → Option R) (k : Nat) (s_203 : ByteArray) (i_205 : Int) : Nat → Int → Int → Option R
  | 0 => fun _ _ => none
  | j + 1 => corbelref02_Sum_l1s (corbelref02_Sum_l1 e0 k s_203 i_205 j) e0 k s_203 i_205
def corbelref02_Sum_l0s {R : Type} (rc : Int → Int → Option R) (e0 : Int → Option R) (k : Nat) (s_200 : ByteArray) (c_201 : Int) (i_202 : Int) : Option R :=
  bif (decide (i_202 < (sizeI s_200))) then
    corbelref02_Sum_l1 (fun c_224 =>
      rc c_224 (wrap64 (i_202 + (1 : Int)))) k s_200 i_202 k c_201 (0 : Int)
  else e0 c_201
def corbelref02_Sum_l0 {R : Type} (e0 : Int → Option R) (k : Nat) (s_200 : ByteArray) : Nat → Int → Int → Option R
  | 0 => fun _ _ => none
  | j + 1 => corbelref02_Sum_l0s (corbelref02_Sum_l0 e0 k s_200 j) e0 k s_200
def corbelref02_Sum (k : Nat) (s_199 : ByteArray) : Option Int :=
  corbelref02_Sum_l0 (fun c_226 =>
    some (IntKind.u32.wrap ((4294967295 : Int) - c_226))) k s_199 k (4294967295 : Int) (0 : Int)
def corbelref02_Sum_p (k : Nat) : PF := { ps := [(false, 1)], rs := [(false, 1)], τ := .str, σ := (.int .u32), f := fun x => corbelref02_Sum k x }
def corbelref02_Sum_F (k : Nat) : PT := fnone
theorem corbelref02_Sum_fok (k : Nat) : FOK Tryd.prog tab (corbelref02_Sum_F k) := fok_none
def corbelref02_Sum_c0 : Cl := { keep := [0, 3, 4], hl := 0, ad := [], adc := [], bump := [] }
def corbelref02_Sum_x0 : Cl := { keep := [3], hl := 0, ad := [], adc := [], bump := [] }
def corbelref02_Sum_c1 : Cl := { keep := [0, 3, 4, 5], hl := 0, ad := [], adc := [], bump := [] }
def corbelref02_Sum_x1 : Cl := { keep := [0, 3, 4], hl := 0, ad := [], adc := [], bump := [] }
def corbelref02_Sum_c2 : Cl := { keep := [0, 3, 4, 5], hl := 0, ad := [], adc := [], bump := [] }
def corbelref02_Sum_x2 : Cl := { keep := [0, 3, 4, 5], hl := 0, ad := [], adc := [], bump := [] }
def corbelref02_Sum_h : Hint := (.sq .no (.sq .no (.sq (.sq .no (.lp corbelref02_Sum_c0 corbelref02_Sum_x0 0 (.sq .no (.sq (.sq .no (.lp corbelref02_Sum_c1 corbelref02_Sum_x1 1 (.sq .no (.ct corbelref02_Sum_c2 corbelref02_Sum_x2 2 .no .no)))) .no)))) .no)))
def corbelref02_Sum_l0_E0 {R : Type} (K : EX → St → Option R) : Int → Option R := fun v0 => K (.exit 0) (mkSt 35 [] corbelref02_Sum_x0.keep [.int .u32 v0] [])
def corbelref02_Sum_l0_S (s_200 : ByteArray) (c_201 : Int) (i_202 : Int) : St := mkSt 35 [] corbelref02_Sum_c0.keep [.str s_200, .int .u32 c_201, .int .i64 i_202] []
def corbelref02_Sum_l0_sh : Rd (List AV × List HE) := .pair (.cons .str (.cons (.int .u32) (.cons (.int .i64) Rd.nil))) Rd.nil
def corbelref02_Sum_l0_a {R : Type} (k : Nat) : Alt R := { n := 35, v := [], sh := corbelref02_Sum_l0_sh, g := fun K x => corbelref02_Sum_l0 (corbelref02_Sum_l0_E0 K) k x.1.1 k x.1.2.1 x.1.2.2.1 }
def corbelref02_Sum_l1_E0 {R : Type} (K : EX → St → Option R) : ByteArray → Int → Int → Option R := fun v0 v1 v2 => K (.exit 2) (mkSt 35 [] corbelref02_Sum_x1.keep [.str v0, .int .u32 v1, .int .i64 v2] [])
def corbelref02_Sum_l1_S (s_203 : ByteArray) (c_204 : Int) (i_205 : Int) (b_206 : Int) : St := mkSt 35 [] corbelref02_Sum_c1.keep [.str s_203, .int .u32 c_204, .int .i64 i_205, .int .i64 b_206] []
def corbelref02_Sum_l1_sh : Rd (List AV × List HE) := .pair (.cons .str (.cons (.int .u32) (.cons (.int .i64) (.cons (.int .i64) Rd.nil)))) Rd.nil
def corbelref02_Sum_l1_a {R : Type} (k : Nat) : Alt R := { n := 35, v := [], sh := corbelref02_Sum_l1_sh, g := fun K x => corbelref02_Sum_l1 (fun y1 => corbelref02_Sum_l1_E0 K x.1.1 y1 x.1.2.2.1) k x.1.1 x.1.2.2.1 k x.1.2.1 x.1.2.2.2.1 }
def corbelref02_Sum_j2_E0 {R : Type} (K : EX → St → Option R) : ByteArray → Int → Int → Int → Option R := fun v0 v1 v2 v3 => K .normal (mkSt 35 [] corbelref02_Sum_x2.keep [.str v0, .int .u32 v1, .int .i64 v2, .int .i64 v3] [])
def corbelref02_Sum_j2_S (s_215 : ByteArray) (c_216 : Int) (i_217 : Int) (b_218 : Int) : St := mkSt 35 [] corbelref02_Sum_c2.keep [.str s_215, .int .u32 c_216, .int .i64 i_217, .int .i64 b_218] []
def corbelref02_Sum_j2_sh : Rd (List AV × List HE) := .pair (.cons .str (.cons (.int .u32) (.cons (.int .i64) (.cons (.int .i64) Rd.nil)))) Rd.nil
def corbelref02_Sum_j2_a {R : Type} (k : Nat) : Alt R := { n := 35, v := [], sh := corbelref02_Sum_j2_sh, g := fun K x => corbelref02_Sum_j2 (fun y3 => corbelref02_Sum_j2_E0 K x.1.1 x.1.2.1 x.1.2.2.1 y3) k x.1.2.2.2.1 }
def corbelref02_Sum_O {R : Type} (k : Nat) : CutK R := cutsO [[corbelref02_Sum_l0_a k], [corbelref02_Sum_l1_a k], [corbelref02_Sum_j2_a k]]
noncomputable def corbelref02_Sum_b : List Ob := obs (bodyOf Tryd.f9) corbelref02_Sum_h
noncomputable def corbelref02_Sum_I {R : Type} (k : Nat) : InlT R := inone
theorem corbelref02_Sum_l0_eq {R : Type} (k : Nat) (K : EX → St → Option R) (s_200 : ByteArray) : ∀ (j : Nat) (c_201 : Int) (i_202 : Int), corbelref02_Sum_l0 (corbelref02_Sum_l0_E0 K) k s_200 j c_201 i_202 = iter corbelref02_Sum_c0 corbelref02_Sum_x0 (ev tab (corbelref02_Sum_F k) (inlK tab (corbelref02_Sum_F k) (corbelref02_Sum_I k) 0) (corbelref02_Sum_O k) (obB corbelref02_Sum_b 0) (obH corbelref02_Sum_b 0)) j (corbelref02_Sum_l0_S s_200 c_201 i_202) K
  | 0, _, _ => rfl
  | j + 1, c_201, i_202 => by
    have e : corbelref02_Sum_l0 (corbelref02_Sum_l0_E0 K) k s_200 j = fun c_201 i_202 => iter corbelref02_Sum_c0 corbelref02_Sum_x0 (ev tab (corbelref02_Sum_F k) (inlK tab (corbelref02_Sum_F k) (corbelref02_Sum_I k) 0) (corbelref02_Sum_O k) (obB corbelref02_Sum_b 0) (obH corbelref02_Sum_b 0)) j (corbelref02_Sum_l0_S s_200 c_201 i_202) K := by funext c_201 i_202; exact corbelref02_Sum_l0_eq k K s_200 j c_201 i_202
    show corbelref02_Sum_l0s (corbelref02_Sum_l0 (corbelref02_Sum_l0_E0 K) k s_200 j) (corbelref02_Sum_l0_E0 K) k s_200 c_201 i_202 = _
    rw [e, iter_succ]; kernel_rfl
theorem corbelref02_Sum_l0_ok {R : Type} (k : Nat)  : ObOK (R := R) tab (corbelref02_Sum_F k) (inlK tab (corbelref02_Sum_F k) (corbelref02_Sum_I k) 0) (corbelref02_Sum_O k) (.loop corbelref02_Sum_c0 corbelref02_Sum_x0 0 (obB corbelref02_Sum_b 0) (obH corbelref02_Sum_b 0)) :=
  loop_ok (l := [corbelref02_Sum_l0_a k]) (by kernel_rfl) ⟨(fun K x => ⟨k, (corbelref02_Sum_l0_eq k K x.1.1 k x.1.2.1 x.1.2.2.1).trans (by kernel_rfl)⟩), trivial⟩
theorem corbelref02_Sum_l1_eq {R : Type} (k : Nat) (K : EX → St → Option R) (s_203 : ByteArray) (i_205 : Int) : ∀ (j : Nat) (c_204 : Int) (b_206 : Int), corbelref02_Sum_l1 (fun y1 => corbelref02_Sum_l1_E0 K s_203 y1 i_205) k s_203 i_205 j c_204 b_206 = iter corbelref02_Sum_c1 corbelref02_Sum_x1 (ev tab (corbelref02_Sum_F k) (inlK tab (corbelref02_Sum_F k) (corbelref02_Sum_I k) 0) (corbelref02_Sum_O k) (obB corbelref02_Sum_b 1) (obH corbelref02_Sum_b 1)) j (corbelref02_Sum_l1_S s_203 c_204 i_205 b_206) K
  | 0, _, _ => rfl
  | j + 1, c_204, b_206 => by
    have e : corbelref02_Sum_l1 (fun y1 => corbelref02_Sum_l1_E0 K s_203 y1 i_205) k s_203 i_205 j = fun c_204 b_206 => iter corbelref02_Sum_c1 corbelref02_Sum_x1 (ev tab (corbelref02_Sum_F k) (inlK tab (corbelref02_Sum_F k) (corbelref02_Sum_I k) 0) (corbelref02_Sum_O k) (obB corbelref02_Sum_b 1) (obH corbelref02_Sum_b 1)) j (corbelref02_Sum_l1_S s_203 c_204 i_205 b_206) K := by funext c_204 b_206; exact corbelref02_Sum_l1_eq k K s_203 i_205 j c_204 b_206
    show corbelref02_Sum_l1s (corbelref02_Sum_l1 (fun y1 => corbelref02_Sum_l1_E0 K s_203 y1 i_205) k s_203 i_205 j) (fun y1 => corbelref02_Sum_l1_E0 K s_203 y1 i_205) k s_203 i_205 c_204 b_206 = _
    rw [e, iter_succ]; kernel_rfl
theorem corbelref02_Sum_l1_ok {R : Type} (k : Nat)  : ObOK (R := R) tab (corbelref02_Sum_F k) (inlK tab (corbelref02_Sum_F k) (corbelref02_Sum_I k) 0) (corbelref02_Sum_O k) (.loop corbelref02_Sum_c1 corbelref02_Sum_x1 1 (obB corbelref02_Sum_b 1) (obH corbelref02_Sum_b 1)) :=
  loop_ok (l := [corbelref02_Sum_l1_a k]) (by kernel_rfl) ⟨(fun K x => ⟨k, (corbelref02_Sum_l1_eq k K x.1.1 x.1.2.2.1 k x.1.2.1 x.1.2.2.2.1).trans (by kernel_rfl)⟩), trivial⟩
theorem corbelref02_Sum_j2_eq {R : Type} (k : Nat) (K : EX → St → Option R) (s_215 : ByteArray) (c_216 : Int) (i_217 : Int) (b_218 : Int) : corbelref02_Sum_j2 (fun y3 => corbelref02_Sum_j2_E0 K s_215 c_216 i_217 y3) k b_218 = ev tab (corbelref02_Sum_F k) (inlK tab (corbelref02_Sum_F k) (corbelref02_Sum_I k) 0) (corbelref02_Sum_O k) (obB corbelref02_Sum_b 2) (obH corbelref02_Sum_b 2) (corbelref02_Sum_j2_S s_215 c_216 i_217 b_218) (fun e st => optb (clean corbelref02_Sum_x2 st) fun st => K e st) := by kernel_rfl
theorem corbelref02_Sum_j2_ok {R : Type} (k : Nat)  : ObOK (R := R) tab (corbelref02_Sum_F k) (inlK tab (corbelref02_Sum_F k) (corbelref02_Sum_I k) 0) (corbelref02_Sum_O k) (.join corbelref02_Sum_c2 corbelref02_Sum_x2 2 (obB corbelref02_Sum_b 2) (obH corbelref02_Sum_b 2)) :=
  join_ok (l := [corbelref02_Sum_j2_a k]) (by kernel_rfl) ⟨(fun K x => (corbelref02_Sum_j2_eq k K x.1.1 x.1.2.1 x.1.2.2.1 x.1.2.2.2.1).trans (by kernel_rfl)), trivial⟩
theorem corbelref02_Sum_cuts {R : Type} (k : Nat) : ∀ c, Tryd.f9.body = some c → CutsOK (R := R) tab (corbelref02_Sum_F k) (inlK tab (corbelref02_Sum_F k) (corbelref02_Sum_I k) 0) (corbelref02_Sum_O k) c corbelref02_Sum_h :=
  cuts_of (l := [.loop corbelref02_Sum_c0 corbelref02_Sum_x0 0 (obB corbelref02_Sum_b 0) (obH corbelref02_Sum_b 0), .loop corbelref02_Sum_c1 corbelref02_Sum_x1 1 (obB corbelref02_Sum_b 1) (obH corbelref02_Sum_b 1), .join corbelref02_Sum_c2 corbelref02_Sum_x2 2 (obB corbelref02_Sum_b 2) (obH corbelref02_Sum_b 2)]) (by kernel_rfl) ⟨corbelref02_Sum_l0_ok k, corbelref02_Sum_l1_ok k, corbelref02_Sum_j2_ok k, trivial⟩
theorem corbelref02_Sum_iok {R : Type} (k : Nat) : IOK Tryd.prog tab (corbelref02_Sum_F k) (corbelref02_Sum_I (R := R) k) := iok_none
theorem corbelref02_Sum_ev (k : Nat) (x : (corbelref02_Sum_p k).τ.den) : evalF tab (corbelref02_Sum_F k) (corbelref02_Sum_p k) (corbelref02_Sum_I k) 0 (corbelref02_Sum_O k) corbelref02_Sum_h Tryd.f9 x = (corbelref02_Sum_p k).f x := by kernel_rfl
theorem corbelref02_Sum_ok (k : Nat) : PFOK Tryd.prog tab 9 (corbelref02_Sum_p k) := pfok mixed tabOK (corbelref02_Sum_fok k) Tryd.func9 (I := corbelref02_Sum_I k) (d := 0) (corbelref02_Sum_iok k) (Q := corbelref02_Sum_O k) (hi := corbelref02_Sum_h) (corbelref02_Sum_cuts k) (corbelref02_Sum_ev k)
end Go.Proofs.YtncdfikcdchimaaDoor.Ev
