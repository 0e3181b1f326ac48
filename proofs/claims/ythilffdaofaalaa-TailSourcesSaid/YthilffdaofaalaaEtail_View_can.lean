/- tail_View_can, told on plain data. Written by program. -/
import Derived.Test.YthilffdaofaalaaEgeom_Good
set_option linter.unusedVariables false
set_option maxRecDepth 1000000
namespace Go.Proofs.Ythilffdaofaalaa.Ev
open Go Go.RowKit Go.Proofs
def tail_View_can_i92_2_j1 {R : Type} (e0 : Option R) (e1 : Option R) (k : Nat) (v_168 : Bool) : Option R :=
  bif v_168 then
    e0
  else e1
def tail_View_can_i92_2_l0s {R : Type} (rc : Int → Option R) (e0 : Int → Option R) (e1 : Option R) (k : Nat) (sb_148 : List Int) (v_149 : Int) (hc_158 : Int) (v_150 : Int) : Option R :=
  bif (decide (v_150 < v_149)) then
    bif (decide ((0 : Int) ≤ v_150)) then
      optb (sb_148[v_150.toNat]?) fun x_162 =>
      bif (decide (x_162 < (0 : Int))) then
        tail_View_can_i92_2_j1 (e0 v_150) (rc (wrap64 (v_150 + (1 : Int)))) k true
      else tail_View_can_i92_2_j1 (e0 v_150) (rc (wrap64 (v_150 + (1 : Int)))) k (decide (hc_158 < x_162))
    else none
  else e1
def tail_View_can_i92_2_l0 {R : Type} (e0 : Int → Option R) (e1 : Option R) (k : Nat) (sb_148 : List Int) (v_149 : Int) (hc_158 : Int) : Nat → Int → Option R
  | 0 => fun _ => none
  | j + 1 => tail_View_can_i92_2_l0s (tail_View_can_i92_2_l0 e0 e1 k sb_148 v_149 hc_158 j) e0 e1 k sb_148 v_149 hc_158
def tail_View_can (k : Nat) (va_24 : Bool) (vb_25 : List Int) (vc_26 : Int) (vd_27 : Bool) (ve_28 : List (Int × Int)) (ga_29 : Int) (gb_30 : Int) (gc_31 : Int) (gd_32 : Int) (ge_33 : Int) : Option Bool :=
  optb (geom_Good k ga_29 gb_30 gc_31 gd_32 ge_33) fun r_146 =>
  bif r_146 then
    bif (decide ((lenI vb_25) = ga_29)) then
      bif (decide ((-1 : Int) ≤ vc_26)) then
        bif (decide (vc_26 < ga_29)) then
          tail_View_can_i92_2_l0 (fun v_237 =>
            some (!(decide ((0 : Int) ≤ v_237)))) (some true) k vb_25 (lenI vb_25) gc_31 k (0 : Int)
        else some false
      else some false
    else some false
  else some false
def tail_View_can_p (k : Nat) : PF := { ps := [(true, 3), (true, 5)], rs := [(false, 1)], τ := (.pair (.pair (.sl (.int .i64)) (.pair (.int .i64) (.sl (.pair (.int .i64) (.int .i64))))) (.pair (.int .i64) (.pair (.int .i64) (.pair (.int .i64) (.pair (.int .i64) (.int .i64)))))), σ := .bool, f := fun x => tail_View_can k x.1.1.1 x.1.1.2 x.1.2.1 x.1.2.2.1 x.1.2.2.2 x.2.1 x.2.2.1 x.2.2.2.1 x.2.2.2.2.1 x.2.2.2.2.2 }
def tail_View_can_F (k : Nat) : PT := fcons 50 (geom_Good_p k) <| fnone
theorem tail_View_can_fok (k : Nat) : FOK Try.prog tab (tail_View_can_F k) := fok_cons (geom_Good_ok k) Try.call50 <| fok_none
def tail_View_can_h : Hint := .no
def tail_View_can_O {R : Type} (k : Nat) : CutK R := cutsO []
def tail_View_can_i78_2_h : Hint := .no
def tail_View_can_i78_2_O {R : Type} (k : Nat) : CutK R := cutsO []
def tail_View_can_i92_2_c0 : Cl := { keep := [0, 1, 7, 8], hl := 2, ad := [], adc := [], bump := [] }
def tail_View_can_i92_2_x0 : Cl := { keep := [4], hl := 2, ad := [], adc := [], bump := [] }
def tail_View_can_i92_2_c1 : Cl := { keep := [0, 1, 5, 7, 8, 16], hl := 2, ad := [], adc := [], bump := [] }
def tail_View_can_i92_2_x1 : Cl := { keep := [0, 1, 4, 7, 8], hl := 2, ad := [], adc := [], bump := [] }
def tail_View_can_i92_2_h : Hint := (.sq .no (.sq (.sq .no (.lp tail_View_can_i92_2_c0 tail_View_can_i92_2_x0 0 (.sq .no (.sq .no (.sq (.sq .no (.ct tail_View_can_i92_2_c1 tail_View_can_i92_2_x1 1 .no .no)) .no))))) .no))
def tail_View_can_i92_2_l0_E0 {R : Type} (K : EX → St → Option R) : Int → Bool → List Int → Int → Bool → List (Int × Int) → Int → Int → Int → Int → Int → Option R := fun v0 v1 v2 v3 v4 v5 v6 v7 v8 v9 v10 => K .ret (mkSt 19 [1, 1] tail_View_can_i92_2_x0.keep [.int .i64 v0] [.blk [.sl (.int .i64) v1 v2, .int .i64 v3, .sl (.pair (.int .i64) (.int .i64)) v4 v5], .blk [.int .i64 v6, .int .i64 v7, .int .i64 v8, .int .i64 v9, .int .i64 v10]])
def tail_View_can_i92_2_l0_E1 {R : Type} (K : EX → St → Option R) : Bool → List Int → Int → Bool → List (Int × Int) → Int → Int → Int → Int → Int → Option R := fun v0 v1 v2 v3 v4 v5 v6 v7 v8 v9 => K (.exit 0) (mkSt 19 [1, 1] tail_View_can_i92_2_x0.keep [.junk] [.blk [.sl (.int .i64) v0 v1, .int .i64 v2, .sl (.pair (.int .i64) (.int .i64)) v3 v4], .blk [.int .i64 v5, .int .i64 v6, .int .i64 v7, .int .i64 v8, .int .i64 v9]])
def tail_View_can_i92_2_l0_S (sa_147 : Bool) (sb_148 : List Int) (v_149 : Int) (v_150 : Int) (ha_151 : Bool) (hb_152 : List Int) (hc_153 : Int) (hd_154 : Bool) (he_155 : List (Int × Int)) (ha_156 : Int) (hb_157 : Int) (hc_158 : Int) (hd_159 : Int) (he_160 : Int) : St := mkSt 19 [1, 1] tail_View_can_i92_2_c0.keep [.sl (.int .i64) sa_147 sb_148, .fn (.func 79) [] [.ptr 1 0], .int .i64 v_149, .int .i64 v_150] [.blk [.sl (.int .i64) ha_151 hb_152, .int .i64 hc_153, .sl (.pair (.int .i64) (.int .i64)) hd_154 he_155], .blk [.int .i64 ha_156, .int .i64 hb_157, .int .i64 hc_158, .int .i64 hd_159, .int .i64 he_160]]
def tail_View_can_i92_2_l0_sh : Rd (List AV × List HE) := .pair (.cons (.sl (.int .i64)) (.cons (.fn 79 Rd.nil (.cons (.ptr 1 0) Rd.nil)) (.cons (.int .i64) (.cons (.int .i64) Rd.nil)))) (.cons (.blk (.cons (.sl (.int .i64)) (.cons (.int .i64) (.cons (.sl (.pair (.int .i64) (.int .i64))) Rd.nil)))) (.cons (.blk (.cons (.int .i64) (.cons (.int .i64) (.cons (.int .i64) (.cons (.int .i64) (.cons (.int .i64) Rd.nil)))))) Rd.nil))
def tail_View_can_i92_2_l0_a {R : Type} (k : Nat) : Alt R := { n := 19, v := [1, 1], sh := tail_View_can_i92_2_l0_sh, g := fun K x => tail_View_can_i92_2_l0 (fun y0 => tail_View_can_i92_2_l0_E0 K y0 x.2.1.1.1 x.2.1.1.2 x.2.1.2.1 x.2.1.2.2.1.1 x.2.1.2.2.1.2 x.2.2.1.1 x.2.2.1.2.1 x.2.2.1.2.2.1 x.2.2.1.2.2.2.1 x.2.2.1.2.2.2.2.1) (tail_View_can_i92_2_l0_E1 K x.2.1.1.1 x.2.1.1.2 x.2.1.2.1 x.2.1.2.2.1.1 x.2.1.2.2.1.2 x.2.2.1.1 x.2.2.1.2.1 x.2.2.1.2.2.1 x.2.2.1.2.2.2.1 x.2.2.1.2.2.2.2.1) k x.1.1.2 x.1.2.2.1 x.2.2.1.2.2.1 k x.1.2.2.2.1 }
def tail_View_can_i92_2_j1_E0 {R : Type} (K : EX → St → Option R) : Bool → List Int → Int → Int → Int → Bool → List Int → Int → Bool → List (Int × Int) → Int → Int → Int → Int → Int → Option R := fun v0 v1 v2 v3 v4 v5 v6 v7 v8 v9 v10 v11 v12 v13 v14 => K .ret (mkSt 19 [1, 1] tail_View_can_i92_2_x1.keep [.sl (.int .i64) v0 v1, .fn (.func 79) [] [.ptr 1 0], .int .i64 v2, .int .i64 v3, .int .i64 v4] [.blk [.sl (.int .i64) v5 v6, .int .i64 v7, .sl (.pair (.int .i64) (.int .i64)) v8 v9], .blk [.int .i64 v10, .int .i64 v11, .int .i64 v12, .int .i64 v13, .int .i64 v14]])
def tail_View_can_i92_2_j1_E1 {R : Type} (K : EX → St → Option R) : Bool → List Int → Int → Int → Bool → List Int → Int → Bool → List (Int × Int) → Int → Int → Int → Int → Int → Option R := fun v0 v1 v2 v3 v4 v5 v6 v7 v8 v9 v10 v11 v12 v13 => K .normal (mkSt 19 [1, 1] tail_View_can_i92_2_x1.keep [.sl (.int .i64) v0 v1, .fn (.func 79) [] [.ptr 1 0], .junk, .int .i64 v2, .int .i64 v3] [.blk [.sl (.int .i64) v4 v5, .int .i64 v6, .sl (.pair (.int .i64) (.int .i64)) v7 v8], .blk [.int .i64 v9, .int .i64 v10, .int .i64 v11, .int .i64 v12, .int .i64 v13]])
def tail_View_can_i92_2_j1_S (sa_163 : Bool) (sb_164 : List Int) (i_165 : Int) (v_166 : Int) (v_167 : Int) (v_168 : Bool) (ha_169 : Bool) (hb_170 : List Int) (hc_171 : Int) (hd_172 : Bool) (he_173 : List (Int × Int)) (ha_174 : Int) (hb_175 : Int) (hc_176 : Int) (hd_177 : Int) (he_178 : Int) : St := mkSt 19 [1, 1] tail_View_can_i92_2_c1.keep [.sl (.int .i64) sa_163 sb_164, .fn (.func 79) [] [.ptr 1 0], .int .i64 i_165, .int .i64 v_166, .int .i64 v_167, .bool v_168] [.blk [.sl (.int .i64) ha_169 hb_170, .int .i64 hc_171, .sl (.pair (.int .i64) (.int .i64)) hd_172 he_173], .blk [.int .i64 ha_174, .int .i64 hb_175, .int .i64 hc_176, .int .i64 hd_177, .int .i64 he_178]]
def tail_View_can_i92_2_j1_sh : Rd (List AV × List HE) := .pair (.cons (.sl (.int .i64)) (.cons (.fn 79 Rd.nil (.cons (.ptr 1 0) Rd.nil)) (.cons (.int .i64) (.cons (.int .i64) (.cons (.int .i64) (.cons .bool Rd.nil)))))) (.cons (.blk (.cons (.sl (.int .i64)) (.cons (.int .i64) (.cons (.sl (.pair (.int .i64) (.int .i64))) Rd.nil)))) (.cons (.blk (.cons (.int .i64) (.cons (.int .i64) (.cons (.int .i64) (.cons (.int .i64) (.cons (.int .i64) Rd.nil)))))) Rd.nil))
def tail_View_can_i92_2_j1_a {R : Type} (k : Nat) : Alt R := { n := 19, v := [1, 1], sh := tail_View_can_i92_2_j1_sh, g := fun K x => tail_View_can_i92_2_j1 (tail_View_can_i92_2_j1_E0 K x.1.1.1 x.1.1.2 x.1.2.2.1 x.1.2.2.2.1 x.1.2.2.2.2.1 x.2.1.1.1 x.2.1.1.2 x.2.1.2.1 x.2.1.2.2.1.1 x.2.1.2.2.1.2 x.2.2.1.1 x.2.2.1.2.1 x.2.2.1.2.2.1 x.2.2.1.2.2.2.1 x.2.2.1.2.2.2.2.1) (tail_View_can_i92_2_j1_E1 K x.1.1.1 x.1.1.2 x.1.2.2.2.1 x.1.2.2.2.2.1 x.2.1.1.1 x.2.1.1.2 x.2.1.2.1 x.2.1.2.2.1.1 x.2.1.2.2.1.2 x.2.2.1.1 x.2.2.1.2.1 x.2.2.1.2.2.1 x.2.2.1.2.2.2.1 x.2.2.1.2.2.2.2.1) k x.1.2.2.2.2.2.1 }
def tail_View_can_i92_2_O {R : Type} (k : Nat) : CutK R := cutsO [[tail_View_can_i92_2_l0_a k], [tail_View_can_i92_2_j1_a k]]
noncomputable def tail_View_can_i92_2_b : List Ob := obs (bodyOf Try.f92) tail_View_can_i92_2_h
def tail_View_can_i79_2_h : Hint := .no
def tail_View_can_i79_2_O {R : Type} (k : Nat) : CutK R := cutsO []
noncomputable def tail_View_can_I {R : Type} (k : Nat) : InlT R := icons 78 2 (tail_View_can_i78_2_h, Try.f78, deepO 2 (tail_View_can_i78_2_O k)) <| icons 92 2 (tail_View_can_i92_2_h, Try.f92, deepO 1 (tail_View_can_i92_2_O k)) <| icons 79 2 (tail_View_can_i79_2_h, Try.f79, deepO 0 (tail_View_can_i79_2_O k)) <| inone
theorem tail_View_can_i92_2_l0_eq {R : Type} (k : Nat) (d : Nat) (K : EX → St → Option R) (sa_147 : Bool) (sb_148 : List Int) (v_149 : Int) (ha_151 : Bool) (hb_152 : List Int) (hc_153 : Int) (hd_154 : Bool) (he_155 : List (Int × Int)) (ha_156 : Int) (hb_157 : Int) (hc_158 : Int) (hd_159 : Int) (he_160 : Int) : ∀ (j : Nat) (v_150 : Int), tail_View_can_i92_2_l0 (fun y0 => tail_View_can_i92_2_l0_E0 K y0 ha_151 hb_152 hc_153 hd_154 he_155 ha_156 hb_157 hc_158 hd_159 he_160) (tail_View_can_i92_2_l0_E1 K ha_151 hb_152 hc_153 hd_154 he_155 ha_156 hb_157 hc_158 hd_159 he_160) k sb_148 v_149 hc_158 j v_150 = iter tail_View_can_i92_2_c0 tail_View_can_i92_2_x0 (ev tab (tail_View_can_F k) (inlK tab (tail_View_can_F k) (tail_View_can_I k) (d + 1)) (deepO 1 (tail_View_can_i92_2_O k) (d + 1)) (obB tail_View_can_i92_2_b 0) (obH tail_View_can_i92_2_b 0)) j (tail_View_can_i92_2_l0_S sa_147 sb_148 v_149 v_150 ha_151 hb_152 hc_153 hd_154 he_155 ha_156 hb_157 hc_158 hd_159 he_160) K
  | 0, _ => rfl
  | j + 1, v_150 => by
    have e : tail_View_can_i92_2_l0 (fun y0 => tail_View_can_i92_2_l0_E0 K y0 ha_151 hb_152 hc_153 hd_154 he_155 ha_156 hb_157 hc_158 hd_159 he_160) (tail_View_can_i92_2_l0_E1 K ha_151 hb_152 hc_153 hd_154 he_155 ha_156 hb_157 hc_158 hd_159 he_160) k sb_148 v_149 hc_158 j = fun v_150 => iter tail_View_can_i92_2_c0 tail_View_can_i92_2_x0 (ev tab (tail_View_can_F k) (inlK tab (tail_View_can_F k) (tail_View_can_I k) (d + 1)) (deepO 1 (tail_View_can_i92_2_O k) (d + 1)) (obB tail_View_can_i92_2_b 0) (obH tail_View_can_i92_2_b 0)) j (tail_View_can_i92_2_l0_S sa_147 sb_148 v_149 v_150 ha_151 hb_152 hc_153 hd_154 he_155 ha_156 hb_157 hc_158 hd_159 he_160) K := by funext v_150; exact tail_View_can_i92_2_l0_eq k d K sa_147 sb_148 v_149 ha_151 hb_152 hc_153 hd_154 he_155 ha_156 hb_157 hc_158 hd_159 he_160 j v_150
    show tail_View_can_i92_2_l0s (tail_View_can_i92_2_l0 (fun y0 => tail_View_can_i92_2_l0_E0 K y0 ha_151 hb_152 hc_153 hd_154 he_155 ha_156 hb_157 hc_158 hd_159 he_160) (tail_View_can_i92_2_l0_E1 K ha_151 hb_152 hc_153 hd_154 he_155 ha_156 hb_157 hc_158 hd_159 he_160) k sb_148 v_149 hc_158 j) (fun y0 => tail_View_can_i92_2_l0_E0 K y0 ha_151 hb_152 hc_153 hd_154 he_155 ha_156 hb_157 hc_158 hd_159 he_160) (tail_View_can_i92_2_l0_E1 K ha_151 hb_152 hc_153 hd_154 he_155 ha_156 hb_157 hc_158 hd_159 he_160) k sb_148 v_149 hc_158 v_150 = _
    rw [e, iter_succ]; kernel_rfl
theorem tail_View_can_i92_2_l0_ok {R : Type} (k : Nat) (d : Nat)  : ObOK (R := R) tab (tail_View_can_F k) (inlK tab (tail_View_can_F k) (tail_View_can_I k) d) (deepO 1 (tail_View_can_i92_2_O k) d) (.loop tail_View_can_i92_2_c0 tail_View_can_i92_2_x0 0 (obB tail_View_can_i92_2_b 0) (obH tail_View_can_i92_2_b 0)) :=
  deep_ob fun hd => by
    obtain ⟨d, rfl⟩ := Nat.exists_eq_add_of_le' hd
    exact loop_ok (l := [tail_View_can_i92_2_l0_a k]) (by kernel_rfl) ⟨(fun K x => ⟨k, (tail_View_can_i92_2_l0_eq k d K x.1.1.1 x.1.1.2 x.1.2.2.1 x.2.1.1.1 x.2.1.1.2 x.2.1.2.1 x.2.1.2.2.1.1 x.2.1.2.2.1.2 x.2.2.1.1 x.2.2.1.2.1 x.2.2.1.2.2.1 x.2.2.1.2.2.2.1 x.2.2.1.2.2.2.2.1 k x.1.2.2.2.1).trans (by kernel_rfl)⟩), trivial⟩
theorem tail_View_can_i92_2_j1_eq {R : Type} (k : Nat) (d : Nat) (K : EX → St → Option R) (sa_163 : Bool) (sb_164 : List Int) (i_165 : Int) (v_166 : Int) (v_167 : Int) (v_168 : Bool) (ha_169 : Bool) (hb_170 : List Int) (hc_171 : Int) (hd_172 : Bool) (he_173 : List (Int × Int)) (ha_174 : Int) (hb_175 : Int) (hc_176 : Int) (hd_177 : Int) (he_178 : Int) : tail_View_can_i92_2_j1 (tail_View_can_i92_2_j1_E0 K sa_163 sb_164 i_165 v_166 v_167 ha_169 hb_170 hc_171 hd_172 he_173 ha_174 hb_175 hc_176 hd_177 he_178) (tail_View_can_i92_2_j1_E1 K sa_163 sb_164 v_166 v_167 ha_169 hb_170 hc_171 hd_172 he_173 ha_174 hb_175 hc_176 hd_177 he_178) k v_168 = ev tab (tail_View_can_F k) (inlK tab (tail_View_can_F k) (tail_View_can_I k) (d + 1)) (deepO 1 (tail_View_can_i92_2_O k) (d + 1)) (obB tail_View_can_i92_2_b 1) (obH tail_View_can_i92_2_b 1) (tail_View_can_i92_2_j1_S sa_163 sb_164 i_165 v_166 v_167 v_168 ha_169 hb_170 hc_171 hd_172 he_173 ha_174 hb_175 hc_176 hd_177 he_178) (fun e st => optb (clean tail_View_can_i92_2_x1 st) fun st => K e st) := by kernel_rfl
theorem tail_View_can_i92_2_j1_ok {R : Type} (k : Nat) (d : Nat)  : ObOK (R := R) tab (tail_View_can_F k) (inlK tab (tail_View_can_F k) (tail_View_can_I k) d) (deepO 1 (tail_View_can_i92_2_O k) d) (.join tail_View_can_i92_2_c1 tail_View_can_i92_2_x1 1 (obB tail_View_can_i92_2_b 1) (obH tail_View_can_i92_2_b 1)) :=
  deep_ob fun hd => by
    obtain ⟨d, rfl⟩ := Nat.exists_eq_add_of_le' hd
    exact join_ok (l := [tail_View_can_i92_2_j1_a k]) (by kernel_rfl) ⟨(fun K x => (tail_View_can_i92_2_j1_eq k d K x.1.1.1 x.1.1.2 x.1.2.2.1 x.1.2.2.2.1 x.1.2.2.2.2.1 x.1.2.2.2.2.2.1 x.2.1.1.1 x.2.1.1.2 x.2.1.2.1 x.2.1.2.2.1.1 x.2.1.2.2.1.2 x.2.2.1.1 x.2.2.1.2.1 x.2.2.1.2.2.1 x.2.2.1.2.2.2.1 x.2.2.1.2.2.2.2.1).trans (by kernel_rfl)), trivial⟩
theorem tail_View_can_i92_2_cuts {R : Type} (k : Nat) : ∀ (d : Nat), ∀ c, Try.f92.body = some c → CutsOK (R := R) tab (tail_View_can_F k) (inlK tab (tail_View_can_F k) (tail_View_can_I k) d) (deepO 1 (tail_View_can_i92_2_O k) d) c tail_View_can_i92_2_h :=
  fun d => cuts_of (l := [.loop tail_View_can_i92_2_c0 tail_View_can_i92_2_x0 0 (obB tail_View_can_i92_2_b 0) (obH tail_View_can_i92_2_b 0), .join tail_View_can_i92_2_c1 tail_View_can_i92_2_x1 1 (obB tail_View_can_i92_2_b 1) (obH tail_View_can_i92_2_b 1)]) (by kernel_rfl) ⟨tail_View_can_i92_2_l0_ok k d, tail_View_can_i92_2_j1_ok k d, trivial⟩
theorem tail_View_can_iok {R : Type} (k : Nat) : IOK Try.prog tab (tail_View_can_F k) (tail_View_can_I (R := R) k) := iok_cons Try.func78 Try.call78 (plainO (by kernel_rfl)) <| iok_cons Try.func92 Try.call92 (tail_View_can_i92_2_cuts k) <| iok_cons Try.func79 Try.call79 (plainO (by kernel_rfl)) <| iok_none
theorem tail_View_can_ev (k : Nat) (x : (tail_View_can_p k).τ.den) : evalF tab (tail_View_can_F k) (tail_View_can_p k) (tail_View_can_I k) 3 (tail_View_can_O k) tail_View_can_h Try.f45 x = (tail_View_can_p k).f x := by kernel_rfl
theorem tail_View_can_ok (k : Nat) : PFOK Try.prog tab 45 (tail_View_can_p k) := pfok mixed tabOK (tail_View_can_fok k) Try.func45 (I := tail_View_can_I k) (d := 3) (tail_View_can_iok k) (Q := tail_View_can_O k) (hi := tail_View_can_h) (cuts_of (l := []) (by kernel_rfl) trivial) (tail_View_can_ev k)
end Go.Proofs.Ythilffdaofaalaa.Ev
