/- geom_Place, told on plain data. Written by program. -/
import Derived.Test.YtdmcfpnegbfgiaaDoorEgeom_there
import Derived.Test.YtdmcfpnegbfgiaaDoorEgeom_Capacity
import Derived.Test.YtdmcfpnegbfgiaaDoorEgeom_within
import Derived.Test.YtdmcfpnegbfgiaaDoorEgeom_Parity
set_option linter.unusedVariables false
set_option maxRecDepth 1000000
namespace Go.Proofs.YtdmcfpnegbfgiaaDoor.Ev
open Go Go.RowKit Go.Proofs
def geom_Place_j0 {R : Type} (e0 : Int → Int → Bool → Option R) (e1 : Option R) (k : Nat) (v_139 : Bool) : Option R :=
  bif v_139 then
    e0 (0 : Int) (0 : Int) false
  else e1
def geom_Place_j1 {R : Type} (e0 : Int → Bool → Option R) (k : Nat) (zone_164 : Int) (row_165 : Int) (k_166 : Int) (ga_167 : Int) (gb_168 : Int) (gc_169 : Int) (gd_170 : Int) (ge_171 : Int) : Option R :=
  optb (geom_Parity k ga_167 gb_168 gc_169 gd_170 ge_171 zone_164 row_165) fun r_182 =>
  bif (decide (ga_167 = (0 : Int))) then
    none
  else e0 (Int.tmod (wrap64 ((wrap64 (r_182 + (1 : Int))) + k_166)) ga_167) true
def geom_Place_k0 (k : Nat) : Int → Int → Bool → Option (Int × (Int × Bool)) := fun v_147 v_148 v_149 =>
  some (v_147, (v_148, v_149))
def geom_Place_k1 (k : Nat) (block_13 : Int) (ga_7 : Int) (gb_8 : Int) (gc_9 : Int) (gd_10 : Int) (ge_11 : Int) (zone_12 : Int) : Option (Int × (Int × Bool)) := 
  bif (decide ((wrap64 (ga_7 - (1 : Int))) = (0 : Int))) then
    none
  else let z_162 := (wrap64 (Int.tdiv block_13 (wrap64 (ga_7 - (1 : Int)))))
  bif (decide ((wrap64 (ga_7 - (1 : Int))) = (0 : Int))) then
    none
  else geom_Place_j1 (fun v_185 v_186 =>
    some (z_162, (v_185, v_186))) k zone_12 z_162 (Int.tmod block_13 (wrap64 (ga_7 - (1 : Int)))) ga_7 gb_8 gc_9 gd_10 ge_11
def geom_Place (k : Nat) (ga_7 : Int) (gb_8 : Int) (gc_9 : Int) (gd_10 : Int) (ge_11 : Int) (zone_12 : Int) (block_13 : Int) : Option (Int × (Int × Bool)) :=
  optb (geom_there k ga_7 gb_8 gc_9 gd_10 ge_11 zone_12 (0 : Int)) fun r_136 =>
  bif (!r_136) then
    geom_Place_j0 (geom_Place_k0 k) (geom_Place_k1 k block_13 ga_7 gb_8 gc_9 gd_10 ge_11 zone_12) k true
  else optb (geom_Capacity k ga_7 gb_8 gc_9 gd_10 ge_11) fun r_187 =>
  optb (geom_within k block_13 (0 : Int) (wrap64 (r_187 - (1 : Int)))) fun r_188 =>
  geom_Place_j0 (geom_Place_k0 k) (geom_Place_k1 k block_13 ga_7 gb_8 gc_9 gd_10 ge_11 zone_12) k (!r_188)
def geom_Place_p (k : Nat) : PF := { ps := [(true, 5), (false, 1), (false, 1)], rs := [(false, 1), (false, 1), (false, 1)], τ := (.pair (.pair (.int .i64) (.pair (.int .i64) (.pair (.int .i64) (.pair (.int .i64) (.int .i64))))) (.pair (.int .i64) (.int .i64))), σ := (.pair (.int .i64) (.pair (.int .i64) .bool)), f := fun x => geom_Place k x.1.1 x.1.2.1 x.1.2.2.1 x.1.2.2.2.1 x.1.2.2.2.2 x.2.1 x.2.2 }
def geom_Place_F (k : Nat) : PT := fcons 24 (geom_there_p k) <| fcons 14 (geom_Capacity_p k) <| fcons 25 (geom_within_p k) <| fcons 16 (geom_Parity_p k) <| fnone
theorem geom_Place_fok (k : Nat) : FOK Tryd.prog tab (geom_Place_F k) := fok_cons (geom_there_ok k) Tryd.call24 <| fok_cons (geom_Capacity_ok k) Tryd.call14 <| fok_cons (geom_within_ok k) Tryd.call25 <| fok_cons (geom_Parity_ok k) Tryd.call16 <| fok_none
def geom_Place_c0 : Cl := { keep := [1, 2, 3, 22], hl := 1, ad := [], adc := [], bump := [] }
def geom_Place_x0 : Cl := { keep := [1, 2, 3, 6, 7, 8], hl := 1, ad := [], adc := [], bump := [] }
def geom_Place_c1 : Cl := { keep := [1, 3, 9, 10], hl := 1, ad := [], adc := [], bump := [] }
def geom_Place_x1 : Cl := { keep := [6, 7, 8], hl := 0, ad := [], adc := [], bump := [] }
def geom_Place_h : Hint := (.sq .no (.sq (.ct geom_Place_c0 geom_Place_x0 0 .no .no) (.ct geom_Place_c1 geom_Place_x1 1 .no .no)))
def geom_Place_j0_E0 {R : Type} (K : EX → St → Option R) : Int → Int → Int → Int → Bool → Int → Int → Int → Int → Int → Option R := fun v0 v1 v2 v3 v4 v5 v6 v7 v8 v9 => K .ret (mkSt 44 [] geom_Place_x0.keep [.int .i64 v0, .int .i64 v1, .ptr 0 0, .int .i64 v2, .int .i64 v3, .bool v4] [.blk [.int .i64 v5, .int .i64 v6, .int .i64 v7, .int .i64 v8, .int .i64 v9]])
def geom_Place_j0_E1 {R : Type} (K : EX → St → Option R) : Int → Int → Int → Int → Int → Int → Int → Option R := fun v0 v1 v2 v3 v4 v5 v6 => K .normal (mkSt 44 [] geom_Place_x0.keep [.int .i64 v0, .int .i64 v1, .ptr 0 0, .junk, .junk, .junk] [.blk [.int .i64 v2, .int .i64 v3, .int .i64 v4, .int .i64 v5, .int .i64 v6]])
def geom_Place_j0_S (zone_137 : Int) (block_138 : Int) (v_139 : Bool) (ga_140 : Int) (gb_141 : Int) (gc_142 : Int) (gd_143 : Int) (ge_144 : Int) : St := mkSt 44 [] geom_Place_c0.keep [.int .i64 zone_137, .int .i64 block_138, .ptr 0 0, .bool v_139] [.blk [.int .i64 ga_140, .int .i64 gb_141, .int .i64 gc_142, .int .i64 gd_143, .int .i64 ge_144]]
def geom_Place_j0_sh : Rd (List AV × List HE) := .pair (.cons (.int .i64) (.cons (.int .i64) (.cons (.ptr 0 0) (.cons .bool Rd.nil)))) (.cons (.blk (.cons (.int .i64) (.cons (.int .i64) (.cons (.int .i64) (.cons (.int .i64) (.cons (.int .i64) Rd.nil)))))) Rd.nil)
def geom_Place_j0_a {R : Type} (k : Nat) : Alt R := { n := 44, v := [], sh := geom_Place_j0_sh, g := fun K x => geom_Place_j0 (fun y2 y3 y4 => geom_Place_j0_E0 K x.1.1 x.1.2.1 y2 y3 y4 x.2.1.1 x.2.1.2.1 x.2.1.2.2.1 x.2.1.2.2.2.1 x.2.1.2.2.2.2.1) (geom_Place_j0_E1 K x.1.1 x.1.2.1 x.2.1.1 x.2.1.2.1 x.2.1.2.2.1 x.2.1.2.2.2.1 x.2.1.2.2.2.2.1) k x.1.2.2.2.1 }
def geom_Place_j1_E0 {R : Type} (K : EX → St → Option R) : Int → Int → Bool → Option R := fun v0 v1 v2 => K .ret (mkSt 44 [] geom_Place_x1.keep [.int .i64 v0, .int .i64 v1, .bool v2] [])
def geom_Place_j1_S (zone_164 : Int) (row_165 : Int) (k_166 : Int) (ga_167 : Int) (gb_168 : Int) (gc_169 : Int) (gd_170 : Int) (ge_171 : Int) : St := mkSt 44 [] geom_Place_c1.keep [.int .i64 zone_164, .ptr 0 0, .int .i64 row_165, .int .i64 k_166] [.blk [.int .i64 ga_167, .int .i64 gb_168, .int .i64 gc_169, .int .i64 gd_170, .int .i64 ge_171]]
def geom_Place_j1_sh : Rd (List AV × List HE) := .pair (.cons (.int .i64) (.cons (.ptr 0 0) (.cons (.int .i64) (.cons (.int .i64) Rd.nil)))) (.cons (.blk (.cons (.int .i64) (.cons (.int .i64) (.cons (.int .i64) (.cons (.int .i64) (.cons (.int .i64) Rd.nil)))))) Rd.nil)
def geom_Place_j1_a {R : Type} (k : Nat) : Alt R := { n := 44, v := [], sh := geom_Place_j1_sh, g := fun K x => geom_Place_j1 (fun y1 y2 => geom_Place_j1_E0 K x.1.2.2.1 y1 y2) k x.1.1 x.1.2.2.1 x.1.2.2.2.1 x.2.1.1 x.2.1.2.1 x.2.1.2.2.1 x.2.1.2.2.2.1 x.2.1.2.2.2.2.1 }
def geom_Place_O {R : Type} (k : Nat) : CutK R := cutsO [[geom_Place_j0_a k], [geom_Place_j1_a k]]
noncomputable def geom_Place_b : List Ob := obs (bodyOf Tryd.f15) geom_Place_h
noncomputable def geom_Place_I {R : Type} (k : Nat) : InlT R := inone
theorem geom_Place_j0_eq {R : Type} (k : Nat) (K : EX → St → Option R) (zone_137 : Int) (block_138 : Int) (v_139 : Bool) (ga_140 : Int) (gb_141 : Int) (gc_142 : Int) (gd_143 : Int) (ge_144 : Int) : geom_Place_j0 (fun y2 y3 y4 => geom_Place_j0_E0 K zone_137 block_138 y2 y3 y4 ga_140 gb_141 gc_142 gd_143 ge_144) (geom_Place_j0_E1 K zone_137 block_138 ga_140 gb_141 gc_142 gd_143 ge_144) k v_139 = ev tab (geom_Place_F k) (inlK tab (geom_Place_F k) (geom_Place_I k) 0) (geom_Place_O k) (obB geom_Place_b 0) (obH geom_Place_b 0) (geom_Place_j0_S zone_137 block_138 v_139 ga_140 gb_141 gc_142 gd_143 ge_144) (fun e st => optb (clean geom_Place_x0 st) fun st => K e st) := by kernel_rfl
theorem geom_Place_j0_ok {R : Type} (k : Nat)  : ObOK (R := R) tab (geom_Place_F k) (inlK tab (geom_Place_F k) (geom_Place_I k) 0) (geom_Place_O k) (.join geom_Place_c0 geom_Place_x0 0 (obB geom_Place_b 0) (obH geom_Place_b 0)) :=
  join_ok (l := [geom_Place_j0_a k]) (by kernel_rfl) ⟨(fun K x => (geom_Place_j0_eq k K x.1.1 x.1.2.1 x.1.2.2.2.1 x.2.1.1 x.2.1.2.1 x.2.1.2.2.1 x.2.1.2.2.2.1 x.2.1.2.2.2.2.1).trans (by kernel_rfl)), trivial⟩
theorem geom_Place_j1_eq {R : Type} (k : Nat) (K : EX → St → Option R) (zone_164 : Int) (row_165 : Int) (k_166 : Int) (ga_167 : Int) (gb_168 : Int) (gc_169 : Int) (gd_170 : Int) (ge_171 : Int) : geom_Place_j1 (fun y1 y2 => geom_Place_j1_E0 K row_165 y1 y2) k zone_164 row_165 k_166 ga_167 gb_168 gc_169 gd_170 ge_171 = ev tab (geom_Place_F k) (inlK tab (geom_Place_F k) (geom_Place_I k) 0) (geom_Place_O k) (obB geom_Place_b 1) (obH geom_Place_b 1) (geom_Place_j1_S zone_164 row_165 k_166 ga_167 gb_168 gc_169 gd_170 ge_171) (fun e st => optb (clean geom_Place_x1 st) fun st => K e st) := by kernel_rfl
theorem geom_Place_j1_ok {R : Type} (k : Nat)  : ObOK (R := R) tab (geom_Place_F k) (inlK tab (geom_Place_F k) (geom_Place_I k) 0) (geom_Place_O k) (.join geom_Place_c1 geom_Place_x1 1 (obB geom_Place_b 1) (obH geom_Place_b 1)) :=
  join_ok (l := [geom_Place_j1_a k]) (by kernel_rfl) ⟨(fun K x => (geom_Place_j1_eq k K x.1.1 x.1.2.2.1 x.1.2.2.2.1 x.2.1.1 x.2.1.2.1 x.2.1.2.2.1 x.2.1.2.2.2.1 x.2.1.2.2.2.2.1).trans (by kernel_rfl)), trivial⟩
theorem geom_Place_cuts {R : Type} (k : Nat) : ∀ c, Tryd.f15.body = some c → CutsOK (R := R) tab (geom_Place_F k) (inlK tab (geom_Place_F k) (geom_Place_I k) 0) (geom_Place_O k) c geom_Place_h :=
  cuts_of (l := [.join geom_Place_c0 geom_Place_x0 0 (obB geom_Place_b 0) (obH geom_Place_b 0), .join geom_Place_c1 geom_Place_x1 1 (obB geom_Place_b 1) (obH geom_Place_b 1)]) (by kernel_rfl) ⟨geom_Place_j0_ok k, geom_Place_j1_ok k, trivial⟩
theorem geom_Place_iok {R : Type} (k : Nat) : IOK Tryd.prog tab (geom_Place_F k) (geom_Place_I (R := R) k) := iok_none
theorem geom_Place_ev (k : Nat) (x : (geom_Place_p k).τ.den) : evalF tab (geom_Place_F k) (geom_Place_p k) (geom_Place_I k) 0 (geom_Place_O k) geom_Place_h Tryd.f15 x = (geom_Place_p k).f x := by kernel_rfl
theorem geom_Place_ok (k : Nat) : PFOK Tryd.prog tab 15 (geom_Place_p k) := pfok mixed tabOK (geom_Place_fok k) Tryd.func15 (I := geom_Place_I k) (d := 0) (geom_Place_iok k) (Q := geom_Place_O k) (hi := geom_Place_h) (geom_Place_cuts k) (geom_Place_ev k)
end Go.Proofs.YtdmcfpnegbfgiaaDoor.Ev
