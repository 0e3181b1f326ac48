/- nums_Set_Count, told on plain data. Written by program. -/
import Derived.Test.YtncdfikcdchimaaEtab
set_option linter.unusedVariables false
set_option maxRecDepth 1000000
namespace Go.Proofs.Ytncdfikcdchimaa.Ev
open Go Go.RowKit Go.Proofs
def nums_Set_Count_l2s {R : Type} (rc : Int → Int → Int → Int → Int → Int → Int → Option R) (e0 : Int → Int → Int → Int → Int → Int → Option R) (k : Nat) (v_157 : Int) (v_158 : Int) (v_159 : Int) (v_160 : Int) (v_161 : Int) (v_162 : Int) (v_163 : Int) : Option R :=
  bif (!(decide (v_158 = (0 : Int)))) then
    rc (wrap64 (v_157 + (1 : Int))) (bitop .and .u64 v_158 (IntKind.u64.wrap (v_158 - (1 : Int)))) v_159 v_160 v_161 v_162 v_163
  else e0 v_157 v_159 v_160 v_161 v_162 v_163
def nums_Set_Count_l2 {R : Type} (e0 : Int → Int → Int → Int → Int → Int → Option R) (k : Nat) : Nat → Int → Int → Int → Int → Int → Int → Int → Option R
  | 0 => fun _ _ _ _ _ _ _ => none
  | j + 1 => nums_Set_Count_l2s (nums_Set_Count_l2 e0 k j) e0 k
def nums_Set_Count_j1 {R : Type} (e0 : Int → Int → Int → Int → Int → Int → Option R) (k : Nat) (v_150 : Int) (v_151 : Int) (v_152 : Int) (v_153 : Int) (v_154 : Int) (v_155 : Int) (v_156 : Int) : Option R :=
  nums_Set_Count_l2 (fun v_165 v_166 v_167 v_168 v_169 v_170 =>
    e0 v_165 v_166 v_167 v_168 v_169 v_170) k k v_150 v_151 v_152 v_153 v_154 v_155 v_156
def nums_Set_Count_j3 {R : Type} (e0 : Int → Int → Int → Int → Int → Int → Option R) (k : Nat) (v_177 : Int) (v_178 : Int) (v_179 : Int) (v_180 : Int) (v_181 : Int) (v_182 : Int) : Option R :=
  e0 v_177 v_178 v_179 v_180 v_181 (wrap64 (v_182 + (1 : Int)))
def nums_Set_Count_k0 {R : Type} (rc : Int → Int → Int → Int → Int → Int → Option R) (e0 : Int → Option R) (k : Nat) : Int → Int → Int → Int → Int → Int → Option R := fun v_171 v_172 v_173 v_174 v_175 v_176 =>
  nums_Set_Count_j3 (fun v_183 v_184 v_185 v_186 v_187 v_188 =>
    rc v_183 v_184 v_185 v_186 v_187 v_188) k v_171 v_172 v_173 v_174 v_175 v_176
def nums_Set_Count_l0s {R : Type} (rc : Int → Int → Int → Int → Int → Int → Option R) (e0 : Int → Option R) (k : Nat) (v_144 : Int) (v_145 : Int) (v_146 : Int) (v_147 : Int) (v_148 : Int) (v_149 : Int) : Option R :=
  bif (decide (v_149 < (4 : Int))) then
    bif (decide (v_149 = (0 : Int))) then
      nums_Set_Count_j1 (nums_Set_Count_k0 rc e0 k) k v_144 v_145 v_145 v_146 v_147 v_148 v_149
    else bif (decide (v_149 = (1 : Int))) then
      nums_Set_Count_j1 (nums_Set_Count_k0 rc e0 k) k v_144 v_146 v_145 v_146 v_147 v_148 v_149
    else bif (decide (v_149 = (2 : Int))) then
      nums_Set_Count_j1 (nums_Set_Count_k0 rc e0 k) k v_144 v_147 v_145 v_146 v_147 v_148 v_149
    else bif (decide (v_149 = (3 : Int))) then
      nums_Set_Count_j1 (nums_Set_Count_k0 rc e0 k) k v_144 v_148 v_145 v_146 v_147 v_148 v_149
    else none
  else e0 v_144
def nums_Set_Count_l0 {R : Type} (e0 : Int → Option R) (k : Nat) : Nat → Int → Int → Int → Int → Int → Int → Option R
  | 0 => fun _ _ _ _ _ _ => none
  | j + 1 => nums_Set_Count_l0s (nums_Set_Count_l0 e0 k j) e0 k
def nums_Set_Count (k : Nat) (a0 : Int) (a1 : Int) (a2 : Int) (a3 : Int) : Option Int :=
  nums_Set_Count_l0 (fun v_189 =>
    some v_189) k k (0 : Int) a0 a1 a2 a3 (0 : Int)
def nums_Set_Count_p (k : Nat) : PF := { ps := [(true, 4)], rs := [(false, 1)], τ := (.pair (.int .u64) (.pair (.int .u64) (.pair (.int .u64) (.int .u64)))), σ := (.int .i64), f := fun x => nums_Set_Count k x.1 x.2.1 x.2.2.1 x.2.2.2 }
def nums_Set_Count_F (k : Nat) : PT := fnone
theorem nums_Set_Count_fok (k : Nat) : FOK Try.prog tab (nums_Set_Count_F k) := fok_none
def nums_Set_Count_c0 : Cl := { keep := [3, 7, 8], hl := 0, ad := [], adc := [], bump := [] }
def nums_Set_Count_x0 : Cl := { keep := [3], hl := 0, ad := [], adc := [], bump := [] }
def nums_Set_Count_c1 : Cl := { keep := [3, 5, 7, 8], hl := 0, ad := [], adc := [], bump := [] }
def nums_Set_Count_x1 : Cl := { keep := [3, 7, 8], hl := 0, ad := [], adc := [], bump := [] }
def nums_Set_Count_c2 : Cl := { keep := [3, 5, 7, 8], hl := 0, ad := [], adc := [], bump := [] }
def nums_Set_Count_x2 : Cl := { keep := [3, 7, 8], hl := 0, ad := [], adc := [], bump := [] }
def nums_Set_Count_c3 : Cl := { keep := [3, 7, 8], hl := 0, ad := [], adc := [], bump := [] }
def nums_Set_Count_x3 : Cl := { keep := [3, 7, 8], hl := 0, ad := [], adc := [], bump := [] }
def nums_Set_Count_h : Hint := (.sq .no (.sq .no (.sq (.sq .no (.lp nums_Set_Count_c0 nums_Set_Count_x0 0 (.sq .no (.sq .no (.ct nums_Set_Count_c3 nums_Set_Count_x3 3 (.ct nums_Set_Count_c1 nums_Set_Count_x1 1 .no (.lp nums_Set_Count_c2 nums_Set_Count_x2 2 .no)) .no))))) .no)))
def nums_Set_Count_l0_E0 {R : Type} (K : EX → St → Option R) : Int → Option R := fun v0 => K (.exit 0) (mkSt 21 [] nums_Set_Count_x0.keep [.int .i64 v0] [])
def nums_Set_Count_l0_S (v_144 : Int) (v_145 : Int) (v_146 : Int) (v_147 : Int) (v_148 : Int) (v_149 : Int) : St := mkSt 21 [] nums_Set_Count_c0.keep [.int .i64 v_144, .agg [.int .u64 v_145, .int .u64 v_146, .int .u64 v_147, .int .u64 v_148], .int .i64 v_149] []
def nums_Set_Count_l0_sh : Rd (List AV × List HE) := .pair (.cons (.int .i64) (.cons (.agg (.cons (.int .u64) (.cons (.int .u64) (.cons (.int .u64) (.cons (.int .u64) Rd.nil))))) (.cons (.int .i64) Rd.nil))) Rd.nil
def nums_Set_Count_l0_a {R : Type} (k : Nat) : Alt R := { n := 21, v := [], sh := nums_Set_Count_l0_sh, g := fun K x => nums_Set_Count_l0 (nums_Set_Count_l0_E0 K) k k x.1.1 x.1.2.1.1 x.1.2.1.2.1 x.1.2.1.2.2.1 x.1.2.1.2.2.2.1 x.1.2.2.1 }
def nums_Set_Count_j1_E0 {R : Type} (K : EX → St → Option R) : Int → Int → Int → Int → Int → Int → Option R := fun v0 v1 v2 v3 v4 v5 => K .normal (mkSt 21 [] nums_Set_Count_x1.keep [.int .i64 v0, .agg [.int .u64 v1, .int .u64 v2, .int .u64 v3, .int .u64 v4], .int .i64 v5] [])
def nums_Set_Count_j1_S (v_150 : Int) (v_151 : Int) (v_152 : Int) (v_153 : Int) (v_154 : Int) (v_155 : Int) (v_156 : Int) : St := mkSt 21 [] nums_Set_Count_c1.keep [.int .i64 v_150, .int .u64 v_151, .agg [.int .u64 v_152, .int .u64 v_153, .int .u64 v_154, .int .u64 v_155], .int .i64 v_156] []
def nums_Set_Count_j1_sh : Rd (List AV × List HE) := .pair (.cons (.int .i64) (.cons (.int .u64) (.cons (.agg (.cons (.int .u64) (.cons (.int .u64) (.cons (.int .u64) (.cons (.int .u64) Rd.nil))))) (.cons (.int .i64) Rd.nil)))) Rd.nil
def nums_Set_Count_j1_a {R : Type} (k : Nat) : Alt R := { n := 21, v := [], sh := nums_Set_Count_j1_sh, g := fun K x => nums_Set_Count_j1 (nums_Set_Count_j1_E0 K) k x.1.1 x.1.2.1 x.1.2.2.1.1 x.1.2.2.1.2.1 x.1.2.2.1.2.2.1 x.1.2.2.1.2.2.2.1 x.1.2.2.2.1 }
def nums_Set_Count_l2_E0 {R : Type} (K : EX → St → Option R) : Int → Int → Int → Int → Int → Int → Option R := fun v0 v1 v2 v3 v4 v5 => K (.exit 2) (mkSt 21 [] nums_Set_Count_x2.keep [.int .i64 v0, .agg [.int .u64 v1, .int .u64 v2, .int .u64 v3, .int .u64 v4], .int .i64 v5] [])
def nums_Set_Count_l2_S (v_157 : Int) (v_158 : Int) (v_159 : Int) (v_160 : Int) (v_161 : Int) (v_162 : Int) (v_163 : Int) : St := mkSt 21 [] nums_Set_Count_c2.keep [.int .i64 v_157, .int .u64 v_158, .agg [.int .u64 v_159, .int .u64 v_160, .int .u64 v_161, .int .u64 v_162], .int .i64 v_163] []
def nums_Set_Count_l2_sh : Rd (List AV × List HE) := .pair (.cons (.int .i64) (.cons (.int .u64) (.cons (.agg (.cons (.int .u64) (.cons (.int .u64) (.cons (.int .u64) (.cons (.int .u64) Rd.nil))))) (.cons (.int .i64) Rd.nil)))) Rd.nil
def nums_Set_Count_l2_a {R : Type} (k : Nat) : Alt R := { n := 21, v := [], sh := nums_Set_Count_l2_sh, g := fun K x => nums_Set_Count_l2 (nums_Set_Count_l2_E0 K) k k x.1.1 x.1.2.1 x.1.2.2.1.1 x.1.2.2.1.2.1 x.1.2.2.1.2.2.1 x.1.2.2.1.2.2.2.1 x.1.2.2.2.1 }
def nums_Set_Count_j3_E0 {R : Type} (K : EX → St → Option R) : Int → Int → Int → Int → Int → Int → Option R := fun v0 v1 v2 v3 v4 v5 => K .normal (mkSt 21 [] nums_Set_Count_x3.keep [.int .i64 v0, .agg [.int .u64 v1, .int .u64 v2, .int .u64 v3, .int .u64 v4], .int .i64 v5] [])
def nums_Set_Count_j3_S (v_177 : Int) (v_178 : Int) (v_179 : Int) (v_180 : Int) (v_181 : Int) (v_182 : Int) : St := mkSt 21 [] nums_Set_Count_c3.keep [.int .i64 v_177, .agg [.int .u64 v_178, .int .u64 v_179, .int .u64 v_180, .int .u64 v_181], .int .i64 v_182] []
def nums_Set_Count_j3_sh : Rd (List AV × List HE) := .pair (.cons (.int .i64) (.cons (.agg (.cons (.int .u64) (.cons (.int .u64) (.cons (.int .u64) (.cons (.int .u64) Rd.nil))))) (.cons (.int .i64) Rd.nil))) Rd.nil
def nums_Set_Count_j3_a {R : Type} (k : Nat) : Alt R := { n := 21, v := [], sh := nums_Set_Count_j3_sh, g := fun K x => nums_Set_Count_j3 (nums_Set_Count_j3_E0 K) k x.1.1 x.1.2.1.1 x.1.2.1.2.1 x.1.2.1.2.2.1 x.1.2.1.2.2.2.1 x.1.2.2.1 }
def nums_Set_Count_O {R : Type} (k : Nat) : CutK R := cutsO [[nums_Set_Count_l0_a k], [nums_Set_Count_j1_a k], [nums_Set_Count_l2_a k], [nums_Set_Count_j3_a k]]
noncomputable def nums_Set_Count_b : List Ob := obs (bodyOf Try.f16) nums_Set_Count_h
noncomputable def nums_Set_Count_I {R : Type} (k : Nat) : InlT R := inone
theorem nums_Set_Count_l0_eq {R : Type} (k : Nat) (K : EX → St → Option R) : ∀ (j : Nat) (v_144 : Int) (v_145 : Int) (v_146 : Int) (v_147 : Int) (v_148 : Int) (v_149 : Int), nums_Set_Count_l0 (nums_Set_Count_l0_E0 K) k j v_144 v_145 v_146 v_147 v_148 v_149 = iter nums_Set_Count_c0 nums_Set_Count_x0 (ev tab (nums_Set_Count_F k) (inlK tab (nums_Set_Count_F k) (nums_Set_Count_I k) 0) (nums_Set_Count_O k) (obB nums_Set_Count_b 0) (obH nums_Set_Count_b 0)) j (nums_Set_Count_l0_S v_144 v_145 v_146 v_147 v_148 v_149) K
  | 0, _, _, _, _, _, _ => rfl
  | j + 1, v_144, v_145, v_146, v_147, v_148, v_149 => by
    have e : nums_Set_Count_l0 (nums_Set_Count_l0_E0 K) k j = fun v_144 v_145 v_146 v_147 v_148 v_149 => iter nums_Set_Count_c0 nums_Set_Count_x0 (ev tab (nums_Set_Count_F k) (inlK tab (nums_Set_Count_F k) (nums_Set_Count_I k) 0) (nums_Set_Count_O k) (obB nums_Set_Count_b 0) (obH nums_Set_Count_b 0)) j (nums_Set_Count_l0_S v_144 v_145 v_146 v_147 v_148 v_149) K := by funext v_144 v_145 v_146 v_147 v_148 v_149; exact nums_Set_Count_l0_eq k K j v_144 v_145 v_146 v_147 v_148 v_149
    show nums_Set_Count_l0s (nums_Set_Count_l0 (nums_Set_Count_l0_E0 K) k j) (nums_Set_Count_l0_E0 K) k v_144 v_145 v_146 v_147 v_148 v_149 = _
    rw [e, iter_succ]; kernel_rfl
theorem nums_Set_Count_l0_ok {R : Type} (k : Nat)  : ObOK (R := R) tab (nums_Set_Count_F k) (inlK tab (nums_Set_Count_F k) (nums_Set_Count_I k) 0) (nums_Set_Count_O k) (.loop nums_Set_Count_c0 nums_Set_Count_x0 0 (obB nums_Set_Count_b 0) (obH nums_Set_Count_b 0)) :=
  loop_ok (l := [nums_Set_Count_l0_a k]) (by kernel_rfl) ⟨(fun K x => ⟨k, (nums_Set_Count_l0_eq k K k x.1.1 x.1.2.1.1 x.1.2.1.2.1 x.1.2.1.2.2.1 x.1.2.1.2.2.2.1 x.1.2.2.1).trans (by kernel_rfl)⟩), trivial⟩
theorem nums_Set_Count_j1_eq {R : Type} (k : Nat) (K : EX → St → Option R) (v_150 : Int) (v_151 : Int) (v_152 : Int) (v_153 : Int) (v_154 : Int) (v_155 : Int) (v_156 : Int) : nums_Set_Count_j1 (nums_Set_Count_j1_E0 K) k v_150 v_151 v_152 v_153 v_154 v_155 v_156 = ev tab (nums_Set_Count_F k) (inlK tab (nums_Set_Count_F k) (nums_Set_Count_I k) 0) (nums_Set_Count_O k) (obB nums_Set_Count_b 1) (obH nums_Set_Count_b 1) (nums_Set_Count_j1_S v_150 v_151 v_152 v_153 v_154 v_155 v_156) (fun e st => optb (clean nums_Set_Count_x1 st) fun st => K e st) := by kernel_rfl
theorem nums_Set_Count_j1_ok {R : Type} (k : Nat)  : ObOK (R := R) tab (nums_Set_Count_F k) (inlK tab (nums_Set_Count_F k) (nums_Set_Count_I k) 0) (nums_Set_Count_O k) (.join nums_Set_Count_c1 nums_Set_Count_x1 1 (obB nums_Set_Count_b 1) (obH nums_Set_Count_b 1)) :=
  join_ok (l := [nums_Set_Count_j1_a k]) (by kernel_rfl) ⟨(fun K x => (nums_Set_Count_j1_eq k K x.1.1 x.1.2.1 x.1.2.2.1.1 x.1.2.2.1.2.1 x.1.2.2.1.2.2.1 x.1.2.2.1.2.2.2.1 x.1.2.2.2.1).trans (by kernel_rfl)), trivial⟩
theorem nums_Set_Count_l2_eq {R : Type} (k : Nat) (K : EX → St → Option R) : ∀ (j : Nat) (v_157 : Int) (v_158 : Int) (v_159 : Int) (v_160 : Int) (v_161 : Int) (v_162 : Int) (v_163 : Int), nums_Set_Count_l2 (nums_Set_Count_l2_E0 K) k j v_157 v_158 v_159 v_160 v_161 v_162 v_163 = iter nums_Set_Count_c2 nums_Set_Count_x2 (ev tab (nums_Set_Count_F k) (inlK tab (nums_Set_Count_F k) (nums_Set_Count_I k) 0) (nums_Set_Count_O k) (obB nums_Set_Count_b 2) (obH nums_Set_Count_b 2)) j (nums_Set_Count_l2_S v_157 v_158 v_159 v_160 v_161 v_162 v_163) K
  | 0, _, _, _, _, _, _, _ => rfl
  | j + 1, v_157, v_158, v_159, v_160, v_161, v_162, v_163 => by
    have e : nums_Set_Count_l2 (nums_Set_Count_l2_E0 K) k j = fun v_157 v_158 v_159 v_160 v_161 v_162 v_163 => iter nums_Set_Count_c2 nums_Set_Count_x2 (ev tab (nums_Set_Count_F k) (inlK tab (nums_Set_Count_F k) (nums_Set_Count_I k) 0) (nums_Set_Count_O k) (obB nums_Set_Count_b 2) (obH nums_Set_Count_b 2)) j (nums_Set_Count_l2_S v_157 v_158 v_159 v_160 v_161 v_162 v_163) K := by funext v_157 v_158 v_159 v_160 v_161 v_162 v_163; exact nums_Set_Count_l2_eq k K j v_157 v_158 v_159 v_160 v_161 v_162 v_163
    show nums_Set_Count_l2s (nums_Set_Count_l2 (nums_Set_Count_l2_E0 K) k j) (nums_Set_Count_l2_E0 K) k v_157 v_158 v_159 v_160 v_161 v_162 v_163 = _
    rw [e, iter_succ]; kernel_rfl
theorem nums_Set_Count_l2_ok {R : Type} (k : Nat)  : ObOK (R := R) tab (nums_Set_Count_F k) (inlK tab (nums_Set_Count_F k) (nums_Set_Count_I k) 0) (nums_Set_Count_O k) (.loop nums_Set_Count_c2 nums_Set_Count_x2 2 (obB nums_Set_Count_b 2) (obH nums_Set_Count_b 2)) :=
  loop_ok (l := [nums_Set_Count_l2_a k]) (by kernel_rfl) ⟨(fun K x => ⟨k, (nums_Set_Count_l2_eq k K k x.1.1 x.1.2.1 x.1.2.2.1.1 x.1.2.2.1.2.1 x.1.2.2.1.2.2.1 x.1.2.2.1.2.2.2.1 x.1.2.2.2.1).trans (by kernel_rfl)⟩), trivial⟩
theorem nums_Set_Count_j3_eq {R : Type} (k : Nat) (K : EX → St → Option R) (v_177 : Int) (v_178 : Int) (v_179 : Int) (v_180 : Int) (v_181 : Int) (v_182 : Int) : nums_Set_Count_j3 (nums_Set_Count_j3_E0 K) k v_177 v_178 v_179 v_180 v_181 v_182 = ev tab (nums_Set_Count_F k) (inlK tab (nums_Set_Count_F k) (nums_Set_Count_I k) 0) (nums_Set_Count_O k) (obB nums_Set_Count_b 3) (obH nums_Set_Count_b 3) (nums_Set_Count_j3_S v_177 v_178 v_179 v_180 v_181 v_182) (fun e st => optb (clean nums_Set_Count_x3 st) fun st => K e st) := by kernel_rfl
theorem nums_Set_Count_j3_ok {R : Type} (k : Nat)  : ObOK (R := R) tab (nums_Set_Count_F k) (inlK tab (nums_Set_Count_F k) (nums_Set_Count_I k) 0) (nums_Set_Count_O k) (.join nums_Set_Count_c3 nums_Set_Count_x3 3 (obB nums_Set_Count_b 3) (obH nums_Set_Count_b 3)) :=
  join_ok (l := [nums_Set_Count_j3_a k]) (by kernel_rfl) ⟨(fun K x => (nums_Set_Count_j3_eq k K x.1.1 x.1.2.1.1 x.1.2.1.2.1 x.1.2.1.2.2.1 x.1.2.1.2.2.2.1 x.1.2.2.1).trans (by kernel_rfl)), trivial⟩
theorem nums_Set_Count_cuts {R : Type} (k : Nat) : ∀ c, Try.f16.body = some c → CutsOK (R := R) tab (nums_Set_Count_F k) (inlK tab (nums_Set_Count_F k) (nums_Set_Count_I k) 0) (nums_Set_Count_O k) c nums_Set_Count_h :=
  cuts_of (l := [.loop nums_Set_Count_c0 nums_Set_Count_x0 0 (obB nums_Set_Count_b 0) (obH nums_Set_Count_b 0), .join nums_Set_Count_c1 nums_Set_Count_x1 1 (obB nums_Set_Count_b 1) (obH nums_Set_Count_b 1), .loop nums_Set_Count_c2 nums_Set_Count_x2 2 (obB nums_Set_Count_b 2) (obH nums_Set_Count_b 2), .join nums_Set_Count_c3 nums_Set_Count_x3 3 (obB nums_Set_Count_b 3) (obH nums_Set_Count_b 3)]) (by kernel_rfl) ⟨nums_Set_Count_l0_ok k, nums_Set_Count_j1_ok k, nums_Set_Count_l2_ok k, nums_Set_Count_j3_ok k, trivial⟩
theorem nums_Set_Count_iok {R : Type} (k : Nat) : IOK Try.prog tab (nums_Set_Count_F k) (nums_Set_Count_I (R := R) k) := iok_none
theorem nums_Set_Count_ev (k : Nat) (x : (nums_Set_Count_p k).τ.den) : evalF tab (nums_Set_Count_F k) (nums_Set_Count_p k) (nums_Set_Count_I k) 0 (nums_Set_Count_O k) nums_Set_Count_h Try.f16 x = (nums_Set_Count_p k).f x := by kernel_rfl
theorem nums_Set_Count_ok (k : Nat) : PFOK Try.prog tab 16 (nums_Set_Count_p k) := pfok mixed tabOK (nums_Set_Count_fok k) Try.func16 (I := nums_Set_Count_I k) (d := 0) (nums_Set_Count_iok k) (Q := nums_Set_Count_O k) (hi := nums_Set_Count_h) (nums_Set_Count_cuts k) (nums_Set_Count_ev k)
end Go.Proofs.Ytncdfikcdchimaa.Ev
