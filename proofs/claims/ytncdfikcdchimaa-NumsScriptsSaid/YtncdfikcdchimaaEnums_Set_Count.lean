/- nums_Set_Count, told on plain data. Written by program. -/
import Derived.Test.YtncdfikcdchimaaEtab
set_option linter.unusedVariables false
set_option maxRecDepth 1000000
namespace Go.Proofs.Ytncdfikcdchimaa.Ev
open Go Go.RowKit Go.Proofs
def nums_Set_Count_l2s {R : Type} (rc : Int → Int → Option R) (e0 : Int → Option R) (k : Nat) (n_174 : Int) (w_175 : Int) : Option R :=
  bif (!(decide (w_175 = (0 : Int)))) then
    rc (wrap64 (n_174 + (1 : Int))) (bitop .and .u64 w_175 (IntKind.u64.wrap (w_175 - (1 : Int))))
  else e0 n_174
def nums_Set_Count_l2 {R : Type} (e0 : Int → Option R) (k : Nat) : Nat → Int → Int → Option R
  | 0 => fun _ _ => none
  | j + 1 => nums_Set_Count_l2s (nums_Set_Count_l2 e0 k j) e0 k
def nums_Set_Count_j1 {R : Type} (e0 : Int → Option R) (k : Nat) (n_167 : Int) (w_168 : Int) : Option R :=
  nums_Set_Count_l2 (fun n_182 =>
    e0 n_182) k k n_167 w_168
def nums_Set_Count_j3 {R : Type} (e0 : Int → Option R) (k : Nat) (v_199 : Int) : Option R :=
  e0 (wrap64 (v_199 + (1 : Int)))
def nums_Set_Count_k0 {R : Type} (rc : Int → Int → Option R) (e0 : Int → Option R) (k : Nat) (v_166 : Int) : Int → Option R := fun n_188 =>
  nums_Set_Count_j3 (fun v_205 =>
    rc n_188 v_205) k v_166
def nums_Set_Count_l0s {R : Type} (rc : Int → Int → Option R) (e0 : Int → Option R) (k : Nat) (va_162 : Int) (vb_163 : Int) (vc_164 : Int) (vd_165 : Int) (n_161 : Int) (v_166 : Int) : Option R :=
  bif (decide (v_166 < (4 : Int))) then
    bif (decide (v_166 = (0 : Int))) then
      nums_Set_Count_j1 (nums_Set_Count_k0 rc e0 k v_166) k n_161 va_162
    else bif (decide (v_166 = (1 : Int))) then
      nums_Set_Count_j1 (nums_Set_Count_k0 rc e0 k v_166) k n_161 vb_163
    else bif (decide (v_166 = (2 : Int))) then
      nums_Set_Count_j1 (nums_Set_Count_k0 rc e0 k v_166) k n_161 vc_164
    else bif (decide (v_166 = (3 : Int))) then
      nums_Set_Count_j1 (nums_Set_Count_k0 rc e0 k v_166) k n_161 vd_165
    else none
  else e0 n_161
def nums_Set_Count_l0 {R : Type} (e0 : Int → Option R) (k : Nat) (va_162 : Int) (vb_163 : Int) (vc_164 : Int) (vd_165 : Int) : Nat → Int → Int → Option R
  | 0 => fun _ _ => none
  | j + 1 => nums_Set_Count_l0s (nums_Set_Count_l0 e0 k va_162 vb_163 vc_164 vd_165 j) e0 k va_162 vb_163 vc_164 vd_165
def nums_Set_Count (k : Nat) (sa_157 : Int) (sb_158 : Int) (sc_159 : Int) (sd_160 : Int) : Option Int :=
  nums_Set_Count_l0 (fun n_206 =>
    some n_206) k sa_157 sb_158 sc_159 sd_160 k (0 : Int) (0 : Int)
def nums_Set_Count_p (k : Nat) : PF := { ps := [(true, 4)], rs := [(false, 1)], τ := (.pair (.int .u64) (.pair (.int .u64) (.pair (.int .u64) (.int .u64)))), σ := (.int .i64), f := fun x => nums_Set_Count k x.1 x.2.1 x.2.2.1 x.2.2.2 }
def nums_Set_Count_F (k : Nat) : PT := fnone
theorem nums_Set_Count_fok (k : Nat) : FOK Try.prog tab (nums_Set_Count_F k) := fok_none
def nums_Set_Count_c0 : Cl := { keep := [3, 7, 8], hl := 0, ad := [], adc := [], bump := [] }
def nums_Set_Count_x0 : Cl := { keep := [3], hl := 0, ad := [], adc := [], bump := [] }
def nums_Set_Count_c1 : Cl := { keep := [3, 5, 7, 8], hl := 0, ad := [], adc := [], bump := [] }
def nums_Set_Count_x1 : Cl := { keep := [3, 7, 8], hl := 0, ad := [], adc := [], bump := [] }
def nums_Set_Count_c2 : Cl := { keep := [3, 5, 7, 8], hl := 0, ad := [], adc := [], bump := [] }
def nums_Set_Count_x2 : Cl := { keep := [3, 7, 8], hl := 0, ad := [], adc := [], bump := [] }
def nums_Set_Count_c3 : Cl := { keep := [3, 7, 8], hl := 0, ad := [], adc := [], bump := [] }
def nums_Set_Count_x3 : Cl := { keep := [3, 7, 8], hl := 0, ad := [], adc := [], bump := [] }
def nums_Set_Count_h : Hint := (.sq .no (.sq .no (.sq (.sq .no (.lp nums_Set_Count_c0 nums_Set_Count_x0 0 (.sq .no (.sq .no (.ct nums_Set_Count_c3 nums_Set_Count_x3 3 (.ct nums_Set_Count_c1 nums_Set_Count_x1 1 .no (.lp nums_Set_Count_c2 nums_Set_Count_x2 2 .no)) .no))))) .no)))
def nums_Set_Count_l0_E0 {R : Type} (K : EX → St → Option R) : Int → Option R := fun v0 => K (.exit 0) (mkSt 21 [] nums_Set_Count_x0.keep [.int .i64 v0] [])
def nums_Set_Count_l0_S (n_161 : Int) (va_162 : Int) (vb_163 : Int) (vc_164 : Int) (vd_165 : Int) (v_166 : Int) : St := mkSt 21 [] nums_Set_Count_c0.keep [.int .i64 n_161, .agg [.int .u64 va_162, .int .u64 vb_163, .int .u64 vc_164, .int .u64 vd_165], .int .i64 v_166] []
def nums_Set_Count_l0_sh : Rd (List AV × List HE) := .pair (.cons (.int .i64) (.cons (.agg (.cons (.int .u64) (.cons (.int .u64) (.cons (.int .u64) (.cons (.int .u64) Rd.nil))))) (.cons (.int .i64) Rd.nil))) Rd.nil
def nums_Set_Count_l0_a {R : Type} (k : Nat) : Alt R := { n := 21, v := [], sh := nums_Set_Count_l0_sh, g := fun K x => nums_Set_Count_l0 (nums_Set_Count_l0_E0 K) k x.1.2.1.1 x.1.2.1.2.1 x.1.2.1.2.2.1 x.1.2.1.2.2.2.1 k x.1.1 x.1.2.2.1 }
def nums_Set_Count_j1_E0 {R : Type} (K : EX → St → Option R) : Int → Int → Int → Int → Int → Int → Option R := fun v0 v1 v2 v3 v4 v5 => K .normal (mkSt 21 [] nums_Set_Count_x1.keep [.int .i64 v0, .agg [.int .u64 v1, .int .u64 v2, .int .u64 v3, .int .u64 v4], .int .i64 v5] [])
def nums_Set_Count_j1_S (n_167 : Int) (w_168 : Int) (va_169 : Int) (vb_170 : Int) (vc_171 : Int) (vd_172 : Int) (v_173 : Int) : St := mkSt 21 [] nums_Set_Count_c1.keep [.int .i64 n_167, .int .u64 w_168, .agg [.int .u64 va_169, .int .u64 vb_170, .int .u64 vc_171, .int .u64 vd_172], .int .i64 v_173] []
def nums_Set_Count_j1_sh : Rd (List AV × List HE) := .pair (.cons (.int .i64) (.cons (.int .u64) (.cons (.agg (.cons (.int .u64) (.cons (.int .u64) (.cons (.int .u64) (.cons (.int .u64) Rd.nil))))) (.cons (.int .i64) Rd.nil)))) Rd.nil
def nums_Set_Count_j1_a {R : Type} (k : Nat) : Alt R := { n := 21, v := [], sh := nums_Set_Count_j1_sh, g := fun K x => nums_Set_Count_j1 (fun y0 => nums_Set_Count_j1_E0 K y0 x.1.2.2.1.1 x.1.2.2.1.2.1 x.1.2.2.1.2.2.1 x.1.2.2.1.2.2.2.1 x.1.2.2.2.1) k x.1.1 x.1.2.1 }
def nums_Set_Count_l2_E0 {R : Type} (K : EX → St → Option R) : Int → Int → Int → Int → Int → Int → Option R := fun v0 v1 v2 v3 v4 v5 => K (.exit 2) (mkSt 21 [] nums_Set_Count_x2.keep [.int .i64 v0, .agg [.int .u64 v1, .int .u64 v2, .int .u64 v3, .int .u64 v4], .int .i64 v5] [])
def nums_Set_Count_l2_S (n_174 : Int) (w_175 : Int) (va_176 : Int) (vb_177 : Int) (vc_178 : Int) (vd_179 : Int) (v_180 : Int) : St := mkSt 21 [] nums_Set_Count_c2.keep [.int .i64 n_174, .int .u64 w_175, .agg [.int .u64 va_176, .int .u64 vb_177, .int .u64 vc_178, .int .u64 vd_179], .int .i64 v_180] []
def nums_Set_Count_l2_sh : Rd (List AV × List HE) := .pair (.cons (.int .i64) (.cons (.int .u64) (.cons (.agg (.cons (.int .u64) (.cons (.int .u64) (.cons (.int .u64) (.cons (.int .u64) Rd.nil))))) (.cons (.int .i64) Rd.nil)))) Rd.nil
def nums_Set_Count_l2_a {R : Type} (k : Nat) : Alt R := { n := 21, v := [], sh := nums_Set_Count_l2_sh, g := fun K x => nums_Set_Count_l2 (fun y0 => nums_Set_Count_l2_E0 K y0 x.1.2.2.1.1 x.1.2.2.1.2.1 x.1.2.2.1.2.2.1 x.1.2.2.1.2.2.2.1 x.1.2.2.2.1) k k x.1.1 x.1.2.1 }
def nums_Set_Count_j3_E0 {R : Type} (K : EX → St → Option R) : Int → Int → Int → Int → Int → Int → Option R := fun v0 v1 v2 v3 v4 v5 => K .normal (mkSt 21 [] nums_Set_Count_x3.keep [.int .i64 v0, .agg [.int .u64 v1, .int .u64 v2, .int .u64 v3, .int .u64 v4], .int .i64 v5] [])
def nums_Set_Count_j3_S (n_194 : Int) (va_195 : Int) (vb_196 : Int) (vc_197 : Int) (vd_198 : Int) (v_199 : Int) : St := mkSt 21 [] nums_Set_Count_c3.keep [.int .i64 n_194, .agg [.int .u64 va_195, .int .u64 vb_196, .int .u64 vc_197, .int .u64 vd_198], .int .i64 v_199] []
def nums_Set_Count_j3_sh : Rd (List AV × List HE) := .pair (.cons (.int .i64) (.cons (.agg (.cons (.int .u64) (.cons (.int .u64) (.cons (.int .u64) (.cons (.int .u64) Rd.nil))))) (.cons (.int .i64) Rd.nil))) Rd.nil
def nums_Set_Count_j3_a {R : Type} (k : Nat) : Alt R := { n := 21, v := [], sh := nums_Set_Count_j3_sh, g := fun K x => nums_Set_Count_j3 (fun y5 => nums_Set_Count_j3_E0 K x.1.1 x.1.2.1.1 x.1.2.1.2.1 x.1.2.1.2.2.1 x.1.2.1.2.2.2.1 y5) k x.1.2.2.1 }
def nums_Set_Count_O {R : Type} (k : Nat) : CutK R := cutsO [[nums_Set_Count_l0_a k], [nums_Set_Count_j1_a k], [nums_Set_Count_l2_a k], [nums_Set_Count_j3_a k]]
noncomputable def nums_Set_Count_b : List Ob := obs (bodyOf Try.f16) nums_Set_Count_h
noncomputable def nums_Set_Count_I {R : Type} (k : Nat) : InlT R := inone
theorem nums_Set_Count_l0_eq {R : Type} (k : Nat) (K : EX → St → Option R) (va_162 : Int) (vb_163 : Int) (vc_164 : Int) (vd_165 : Int) : ∀ (j : Nat) (n_161 : Int) (v_166 : Int), nums_Set_Count_l0 (nums_Set_Count_l0_E0 K) k va_162 vb_163 vc_164 vd_165 j n_161 v_166 = iter nums_Set_Count_c0 nums_Set_Count_x0 (ev tab (nums_Set_Count_F k) (inlK tab (nums_Set_Count_F k) (nums_Set_Count_I k) 0) (nums_Set_Count_O k) (obB nums_Set_Count_b 0) (obH nums_Set_Count_b 0)) j (nums_Set_Count_l0_S n_161 va_162 vb_163 vc_164 vd_165 v_166) K
  | 0, _, _ => rfl
  | j + 1, n_161, v_166 => by
    have e : nums_Set_Count_l0 (nums_Set_Count_l0_E0 K) k va_162 vb_163 vc_164 vd_165 j = fun n_161 v_166 => iter nums_Set_Count_c0 nums_Set_Count_x0 (ev tab (nums_Set_Count_F k) (inlK tab (nums_Set_Count_F k) (nums_Set_Count_I k) 0) (nums_Set_Count_O k) (obB nums_Set_Count_b 0) (obH nums_Set_Count_b 0)) j (nums_Set_Count_l0_S n_161 va_162 vb_163 vc_164 vd_165 v_166) K := by funext n_161 v_166; exact nums_Set_Count_l0_eq k K va_162 vb_163 vc_164 vd_165 j n_161 v_166
    show nums_Set_Count_l0s (nums_Set_Count_l0 (nums_Set_Count_l0_E0 K) k va_162 vb_163 vc_164 vd_165 j) (nums_Set_Count_l0_E0 K) k va_162 vb_163 vc_164 vd_165 n_161 v_166 = _
    rw [e, iter_succ]; kernel_rfl
theorem nums_Set_Count_l0_ok {R : Type} (k : Nat)  : ObOK (R := R) tab (nums_Set_Count_F k) (inlK tab (nums_Set_Count_F k) (nums_Set_Count_I k) 0) (nums_Set_Count_O k) (.loop nums_Set_Count_c0 nums_Set_Count_x0 0 (obB nums_Set_Count_b 0) (obH nums_Set_Count_b 0)) :=
  loop_ok (l := [nums_Set_Count_l0_a k]) (by kernel_rfl) ⟨(fun K x => ⟨k, (nums_Set_Count_l0_eq k K x.1.2.1.1 x.1.2.1.2.1 x.1.2.1.2.2.1 x.1.2.1.2.2.2.1 k x.1.1 x.1.2.2.1).trans (by kernel_rfl)⟩), trivial⟩
theorem nums_Set_Count_j1_eq {R : Type} (k : Nat) (K : EX → St → Option R) (n_167 : Int) (w_168 : Int) (va_169 : Int) (vb_170 : Int) (vc_171 : Int) (vd_172 : Int) (v_173 : Int) : nums_Set_Count_j1 (fun y0 => nums_Set_Count_j1_E0 K y0 va_169 vb_170 vc_171 vd_172 v_173) k n_167 w_168 = ev tab (nums_Set_Count_F k) (inlK tab (nums_Set_Count_F k) (nums_Set_Count_I k) 0) (nums_Set_Count_O k) (obB nums_Set_Count_b 1) (obH nums_Set_Count_b 1) (nums_Set_Count_j1_S n_167 w_168 va_169 vb_170 vc_171 vd_172 v_173) (fun e st => optb (clean nums_Set_Count_x1 st) fun st => K e st) := by kernel_rfl
theorem nums_Set_Count_j1_ok {R : Type} (k : Nat)  : ObOK (R := R) tab (nums_Set_Count_F k) (inlK tab (nums_Set_Count_F k) (nums_Set_Count_I k) 0) (nums_Set_Count_O k) (.join nums_Set_Count_c1 nums_Set_Count_x1 1 (obB nums_Set_Count_b 1) (obH nums_Set_Count_b 1)) :=
  join_ok (l := [nums_Set_Count_j1_a k]) (by kernel_rfl) ⟨(fun K x => (nums_Set_Count_j1_eq k K x.1.1 x.1.2.1 x.1.2.2.1.1 x.1.2.2.1.2.1 x.1.2.2.1.2.2.1 x.1.2.2.1.2.2.2.1 x.1.2.2.2.1).trans (by kernel_rfl)), trivial⟩
theorem nums_Set_Count_l2_eq {R : Type} (k : Nat) (K : EX → St → Option R) (va_176 : Int) (vb_177 : Int) (vc_178 : Int) (vd_179 : Int) (v_180 : Int) : ∀ (j : Nat) (n_174 : Int) (w_175 : Int), nums_Set_Count_l2 (fun y0 => nums_Set_Count_l2_E0 K y0 va_176 vb_177 vc_178 vd_179 v_180) k j n_174 w_175 = iter nums_Set_Count_c2 nums_Set_Count_x2 (ev tab (nums_Set_Count_F k) (inlK tab (nums_Set_Count_F k) (nums_Set_Count_I k) 0) (nums_Set_Count_O k) (obB nums_Set_Count_b 2) (obH nums_Set_Count_b 2)) j (nums_Set_Count_l2_S n_174 w_175 va_176 vb_177 vc_178 vd_179 v_180) K
  | 0, _, _ => rfl
  | j + 1, n_174, w_175 => by
    have e : nums_Set_Count_l2 (fun y0 => nums_Set_Count_l2_E0 K y0 va_176 vb_177 vc_178 vd_179 v_180) k j = fun n_174 w_175 => iter nums_Set_Count_c2 nums_Set_Count_x2 (ev tab (nums_Set_Count_F k) (inlK tab (nums_Set_Count_F k) (nums_Set_Count_I k) 0) (nums_Set_Count_O k) (obB nums_Set_Count_b 2) (obH nums_Set_Count_b 2)) j (nums_Set_Count_l2_S n_174 w_175 va_176 vb_177 vc_178 vd_179 v_180) K := by funext n_174 w_175; exact nums_Set_Count_l2_eq k K va_176 vb_177 vc_178 vd_179 v_180 j n_174 w_175
    show nums_Set_Count_l2s (nums_Set_Count_l2 (fun y0 => nums_Set_Count_l2_E0 K y0 va_176 vb_177 vc_178 vd_179 v_180) k j) (fun y0 => nums_Set_Count_l2_E0 K y0 va_176 vb_177 vc_178 vd_179 v_180) k n_174 w_175 = _
    rw [e, iter_succ]; kernel_rfl
theorem nums_Set_Count_l2_ok {R : Type} (k : Nat)  : ObOK (R := R) tab (nums_Set_Count_F k) (inlK tab (nums_Set_Count_F k) (nums_Set_Count_I k) 0) (nums_Set_Count_O k) (.loop nums_Set_Count_c2 nums_Set_Count_x2 2 (obB nums_Set_Count_b 2) (obH nums_Set_Count_b 2)) :=
  loop_ok (l := [nums_Set_Count_l2_a k]) (by kernel_rfl) ⟨(fun K x => ⟨k, (nums_Set_Count_l2_eq k K x.1.2.2.1.1 x.1.2.2.1.2.1 x.1.2.2.1.2.2.1 x.1.2.2.1.2.2.2.1 x.1.2.2.2.1 k x.1.1 x.1.2.1).trans (by kernel_rfl)⟩), trivial⟩
theorem nums_Set_Count_j3_eq {R : Type} (k : Nat) (K : EX → St → Option R) (n_194 : Int) (va_195 : Int) (vb_196 : Int) (vc_197 : Int) (vd_198 : Int) (v_199 : Int) : nums_Set_Count_j3 (fun y5 => nums_Set_Count_j3_E0 K n_194 va_195 vb_196 vc_197 vd_198 y5) k v_199 = ev tab (nums_Set_Count_F k) (inlK tab (nums_Set_Count_F k) (nums_Set_Count_I k) 0) (nums_Set_Count_O k) (obB nums_Set_Count_b 3) (obH nums_Set_Count_b 3) (nums_Set_Count_j3_S n_194 va_195 vb_196 vc_197 vd_198 v_199) (fun e st => optb (clean nums_Set_Count_x3 st) fun st => K e st) := by kernel_rfl
theorem nums_Set_Count_j3_ok {R : Type} (k : Nat)  : ObOK (R := R) tab (nums_Set_Count_F k) (inlK tab (nums_Set_Count_F k) (nums_Set_Count_I k) 0) (nums_Set_Count_O k) (.join nums_Set_Count_c3 nums_Set_Count_x3 3 (obB nums_Set_Count_b 3) (obH nums_Set_Count_b 3)) :=
  join_ok (l := [nums_Set_Count_j3_a k]) (by kernel_rfl) ⟨(fun K x => (nums_Set_Count_j3_eq k K x.1.1 x.1.2.1.1 x.1.2.1.2.1 x.1.2.1.2.2.1 x.1.2.1.2.2.2.1 x.1.2.2.1).trans (by kernel_rfl)), trivial⟩
theorem nums_Set_Count_cuts {R : Type} (k : Nat) : ∀ c, Try.f16.body = some c → CutsOK (R := R) tab (nums_Set_Count_F k) (inlK tab (nums_Set_Count_F k) (nums_Set_Count_I k) 0) (nums_Set_Count_O k) c nums_Set_Count_h :=
  cuts_of (l := [.loop nums_Set_Count_c0 nums_Set_Count_x0 0 (obB nums_Set_Count_b 0) (obH nums_Set_Count_b 0), .join nums_Set_Count_c1 nums_Set_Count_x1 1 (obB nums_Set_Count_b 1) (obH nums_Set_Count_b 1), .loop nums_Set_Count_c2 nums_Set_Count_x2 2 (obB nums_Set_Count_b 2) (obH nums_Set_Count_b 2), .join nums_Set_Count_c3 nums_Set_Count_x3 3 (obB nums_Set_Count_b 3) (obH nums_Set_Count_b 3)]) (by kernel_rfl) ⟨nums_Set_Count_l0_ok k, nums_Set_Count_j1_ok k, nums_Set_Count_l2_ok k, nums_Set_Count_j3_ok k, trivial⟩
theorem nums_Set_Count_iok {R : Type} (k : Nat) : IOK Try.prog tab (nums_Set_Count_F k) (nums_Set_Count_I (R := R) k) := iok_none
theorem nums_Set_Count_ev (k : Nat) (x : (nums_Set_Count_p k).τ.den) : evalF tab (nums_Set_Count_F k) (nums_Set_Count_p k) (nums_Set_Count_I k) 0 (nums_Set_Count_O k) nums_Set_Count_h Try.f16 x = (nums_Set_Count_p k).f x := by kernel_rfl
theorem nums_Set_Count_ok (k : Nat) : PFOK Try.prog tab 16 (nums_Set_Count_p k) := pfok mixed tabOK (nums_Set_Count_fok k) Try.func16 (I := nums_Set_Count_I k) (d := 0) (nums_Set_Count_iok k) (Q := nums_Set_Count_O k) (hi := nums_Set_Count_h) (nums_Set_Count_cuts k) (nums_Set_Count_ev k)
end Go.Proofs.Ytncdfikcdchimaa.Ev
