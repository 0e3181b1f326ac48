/- plan_Lengths, told on plain data. Written by program. -/
import Derived.Test.YtcikcikcjimcjaaEgeom_Good
import Derived.Test.YtcikcikcjimcjaaEgeom_Zones
import Derived.Test.YtcikcikcjimcjaaEgeom_Capacity
import Derived.Test.YtcikcikcjimcjaaEgeom_Back
set_option linter.unusedVariables false
set_option maxRecDepth 1000000
namespace Go.Proofs.Ytcikcikcjimcjaa.Ev
open Go Go.RowKit Go.Proofs
def plan_Lengths_j0 {R : Type} (e0 : Option R) (e1 : Option R) (k : Nat) (v_2141 : Bool) : Option R :=
  bif v_2141 then
    e0
  else e1
def plan_Lengths_j2 {R : Type} (e0 : List Int → Option R) (k : Nat) (s_2181 : Int) (v_2184 : Bool) (out_2191 : List Int) : Option R :=
  bif v_2184 then
    bif ((decide ((0 : Int) ≤ s_2181)) && (decide (s_2181 < (lenI out_2191)))) then
      optb (out_2191[s_2181.toNat]?) fun x_2192 =>
      bif ((decide ((0 : Int) ≤ s_2181)) && (decide (s_2181 < (lenI out_2191)))) then
        optb (out_2191[s_2181.toNat]?) fun x_2193 =>
        e0 (List.set out_2191 s_2181.toNat (wrap64 (x_2192 + (1 : Int))))
      else none
    else none
  else e0 out_2191
def plan_Lengths_j3 {R : Type} (e0 : Int → Option R) (k : Nat) (v_2211 : Int) : Option R :=
  e0 (wrap64 (v_2211 + (1 : Int)))
def plan_Lengths_k2 {R : Type} (rc : Int → List Int → Option R) (e0 : List Int → Option R) (k : Nat) (v_2167 : Int) : List Int → Option R := fun out_2206 =>
  plan_Lengths_j3 (fun v_2223 =>
    rc v_2223 out_2206) k v_2167
def plan_Lengths_l1s {R : Type} (rc : Int → List Int → Option R) (e0 : List Int → Option R) (k : Nat) (zone_2163 : Int) (written_2164 : Int) (row_2165 : Int) (v_2166 : Int) (ga_2168 : Int) (gb_2169 : Int) (gc_2170 : Int) (gd_2171 : Int) (ge_2172 : Int) (v_2167 : Int) (out_2174 : List Int) : Option R :=
  bif (decide (v_2167 < v_2166)) then
    bif ((decide ((0 : Int) ≤ v_2167)) && (decide (v_2167 < (lenI out_2174)))) then
      optb (out_2174[v_2167.toNat]?) fun x_2176 =>
      optb (geom_Back k ga_2168 gb_2169 gc_2170 gd_2171 ge_2172 zone_2163 row_2165 v_2167) fun r_2177 =>
      bif r_2177.2 then
        plan_Lengths_j2 (plan_Lengths_k2 rc e0 k v_2167) k v_2167 (decide (r_2177.1 < written_2164)) (List.set out_2174 v_2167.toNat row_2165)
      else plan_Lengths_j2 (plan_Lengths_k2 rc e0 k v_2167) k v_2167 false (List.set out_2174 v_2167.toNat row_2165)
    else none
  else e0 out_2174
def plan_Lengths_l1 {R : Type} (e0 : List Int → Option R) (k : Nat) (zone_2163 : Int) (written_2164 : Int) (row_2165 : Int) (v_2166 : Int) (ga_2168 : Int) (gb_2169 : Int) (gc_2170 : Int) (gd_2171 : Int) (ge_2172 : Int) : Nat → Int → List Int → Option R
  | 0 => fun _ _ => none
  | j + 1 => plan_Lengths_l1s (plan_Lengths_l1 e0 k zone_2163 written_2164 row_2165 v_2166 ga_2168 gb_2169 gc_2170 gd_2171 ge_2172 j) e0 k zone_2163 written_2164 row_2165 v_2166 ga_2168 gb_2169 gc_2170 gd_2171 ge_2172
def plan_Lengths_k0 (k : Nat) : Option (Bool × List Int) := 
  some (true, ([] : List Int))
def plan_Lengths_k1 (k : Nat) (ga_1600 : Int) (gb_1601 : Int) (gc_1602 : Int) (gd_1603 : Int) (ge_1604 : Int) (written_1606 : Int) (zone_1605 : Int) : Option (Bool × List Int) := 
  bif (((decide ((0 : Int) ≤ ga_1600)) && (decide (ga_1600 ≤ ga_1600))) && (decide (ga_1600 ≤ (1099511627776 : Int)))) then
    let z_2161 := (List.replicate ga_1600.toNat (Ty.zero (.int .i64)))
    bif (decide ((wrap64 (ga_1600 - (1 : Int))) = (0 : Int))) then
      none
    else plan_Lengths_l1 (fun out_2237 =>
      some (false, out_2237)) k zone_1605 written_1606 (wrap64 (Int.tdiv written_1606 (wrap64 (ga_1600 - (1 : Int))))) (lenI z_2161) ga_1600 gb_1601 gc_1602 gd_1603 ge_1604 k (0 : Int) z_2161
  else none
def plan_Lengths (k : Nat) (ga_1600 : Int) (gb_1601 : Int) (gc_1602 : Int) (gd_1603 : Int) (ge_1604 : Int) (zone_1605 : Int) (written_1606 : Int) : Option (Bool × List Int) :=
  optb (geom_Good k ga_1600 gb_1601 gc_1602 gd_1603 ge_1604) fun r_2138 =>
  bif (!r_2138) then
    plan_Lengths_j0 (plan_Lengths_k0 k) (plan_Lengths_k1 k ga_1600 gb_1601 gc_1602 gd_1603 ge_1604 written_1606 zone_1605) k true
  else bif (decide (zone_1605 < (0 : Int))) then
    plan_Lengths_j0 (plan_Lengths_k0 k) (plan_Lengths_k1 k ga_1600 gb_1601 gc_1602 gd_1603 ge_1604 written_1606 zone_1605) k true
  else optb (geom_Zones k ga_1600 gb_1601 gc_1602 gd_1603 ge_1604) fun r_2238 =>
  bif (decide (r_2238 ≤ zone_1605)) then
    plan_Lengths_j0 (plan_Lengths_k0 k) (plan_Lengths_k1 k ga_1600 gb_1601 gc_1602 gd_1603 ge_1604 written_1606 zone_1605) k true
  else bif (decide (written_1606 < (0 : Int))) then
    plan_Lengths_j0 (plan_Lengths_k0 k) (plan_Lengths_k1 k ga_1600 gb_1601 gc_1602 gd_1603 ge_1604 written_1606 zone_1605) k true
  else optb (geom_Capacity k ga_1600 gb_1601 gc_1602 gd_1603 ge_1604) fun r_2239 =>
  plan_Lengths_j0 (plan_Lengths_k0 k) (plan_Lengths_k1 k ga_1600 gb_1601 gc_1602 gd_1603 ge_1604 written_1606 zone_1605) k (decide (r_2239 < written_1606))
def plan_Lengths_p (k : Nat) : PF := { ps := [(true, 5), (false, 1), (false, 1)], rs := [(false, 1)], τ := (.pair (.pair (.int .i64) (.pair (.int .i64) (.pair (.int .i64) (.pair (.int .i64) (.int .i64))))) (.pair (.int .i64) (.int .i64))), σ := (.sl (.int .i64)), f := fun x => plan_Lengths k x.1.1 x.1.2.1 x.1.2.2.1 x.1.2.2.2.1 x.1.2.2.2.2 x.2.1 x.2.2, fr := [some 3] }
def plan_Lengths_F (k : Nat) : PT := fcons 36 (geom_Good_p k) <| fcons 24 (geom_Zones_p k) <| fcons 25 (geom_Capacity_p k) <| fcons 40 (geom_Back_p k) <| fnone
theorem plan_Lengths_fok (k : Nat) : FOK Try.prog tab (plan_Lengths_F k) := fok_cons (geom_Good_ok k) Try.call36 <| fok_cons (geom_Zones_ok k) Try.call24 <| fok_cons (geom_Capacity_ok k) Try.call25 <| fok_cons (geom_Back_ok k) Try.call40 <| fok_none
def plan_Lengths_c0 : Cl := { keep := [1, 2, 3, 34], hl := 1, ad := [], adc := [], bump := [] }
def plan_Lengths_x0 : Cl := { keep := [1, 2, 3, 6], hl := 1, ad := [], adc := [], bump := [] }
def plan_Lengths_c1 : Cl := { keep := [1, 2, 3, 7, 8, 44, 45], hl := 2, ad := [], adc := [], bump := [] }
def plan_Lengths_x1 : Cl := { keep := [7], hl := 2, ad := [], adc := [], bump := [] }
def plan_Lengths_c2 : Cl := { keep := [1, 2, 3, 7, 8, 9, 44, 45, 65], hl := 2, ad := [], adc := [], bump := [] }
def plan_Lengths_x2 : Cl := { keep := [1, 2, 3, 7, 8, 44, 45], hl := 2, ad := [], adc := [], bump := [] }
def plan_Lengths_c3 : Cl := { keep := [1, 2, 3, 7, 8, 44, 45], hl := 2, ad := [], adc := [], bump := [] }
def plan_Lengths_x3 : Cl := { keep := [1, 2, 3, 7, 8, 44, 45], hl := 2, ad := [], adc := [], bump := [] }
def plan_Lengths_h : Hint := (.sq .no (.sq (.ct plan_Lengths_c0 plan_Lengths_x0 0 .no .no) (.sq .no (.sq .no (.sq (.sq .no (.lp plan_Lengths_c1 plan_Lengths_x1 1 (.sq .no (.sq .no (.ct plan_Lengths_c3 plan_Lengths_x3 3 (.sq .no (.sq .no (.sq .no (.ct plan_Lengths_c2 plan_Lengths_x2 2 .no .no)))) .no))))) .no)))))
def plan_Lengths_j0_E0 {R : Type} (K : EX → St → Option R) : Int → Int → Int → Int → Int → Int → Int → Option R := fun v0 v1 v2 v3 v4 v5 v6 => K .ret (mkSt 74 [] plan_Lengths_x0.keep [.int .i64 v0, .int .i64 v1, .ptr 0 0, .nils] [.blk [.int .i64 v2, .int .i64 v3, .int .i64 v4, .int .i64 v5, .int .i64 v6]])
def plan_Lengths_j0_E1 {R : Type} (K : EX → St → Option R) : Int → Int → Int → Int → Int → Int → Int → Option R := fun v0 v1 v2 v3 v4 v5 v6 => K .normal (mkSt 74 [] plan_Lengths_x0.keep [.int .i64 v0, .int .i64 v1, .ptr 0 0, .junk] [.blk [.int .i64 v2, .int .i64 v3, .int .i64 v4, .int .i64 v5, .int .i64 v6]])
def plan_Lengths_j0_S (zone_2139 : Int) (written_2140 : Int) (v_2141 : Bool) (ga_2142 : Int) (gb_2143 : Int) (gc_2144 : Int) (gd_2145 : Int) (ge_2146 : Int) : St := mkSt 74 [] plan_Lengths_c0.keep [.int .i64 zone_2139, .int .i64 written_2140, .ptr 0 0, .bool v_2141] [.blk [.int .i64 ga_2142, .int .i64 gb_2143, .int .i64 gc_2144, .int .i64 gd_2145, .int .i64 ge_2146]]
def plan_Lengths_j0_sh : Rd (List AV × List HE) := .pair (.cons (.int .i64) (.cons (.int .i64) (.cons (.ptr 0 0) (.cons .bool Rd.nil)))) (.cons (.blk (.cons (.int .i64) (.cons (.int .i64) (.cons (.int .i64) (.cons (.int .i64) (.cons (.int .i64) Rd.nil)))))) Rd.nil)
def plan_Lengths_j0_a {R : Type} (k : Nat) : Alt R := { n := 74, v := [], sh := plan_Lengths_j0_sh, g := fun K x => plan_Lengths_j0 (plan_Lengths_j0_E0 K x.1.1 x.1.2.1 x.2.1.1 x.2.1.2.1 x.2.1.2.2.1 x.2.1.2.2.2.1 x.2.1.2.2.2.2.1) (plan_Lengths_j0_E1 K x.1.1 x.1.2.1 x.2.1.1 x.2.1.2.1 x.2.1.2.2.1 x.2.1.2.2.2.1 x.2.1.2.2.2.2.1) k x.1.2.2.2.1 }
def plan_Lengths_l1_E0 {R : Type} (K : EX → St → Option R) : Int → Int → Int → Int → Int → Bool → List Int → Option R := fun v0 v1 v2 v3 v4 v5 v6 => K (.exit 0) (mkSt 74 [] plan_Lengths_x1.keep [.own 1 1] [.blk [.int .i64 v0, .int .i64 v1, .int .i64 v2, .int .i64 v3, .int .i64 v4], .lst (.int .i64) 3 v5 1 v6])
def plan_Lengths_l1_S (zone_2163 : Int) (written_2164 : Int) (row_2165 : Int) (v_2166 : Int) (v_2167 : Int) (ga_2168 : Int) (gb_2169 : Int) (gc_2170 : Int) (gd_2171 : Int) (ge_2172 : Int) (outN_2173 : Bool) (out_2174 : List Int) : St := mkSt 74 [] plan_Lengths_c1.keep [.int .i64 zone_2163, .int .i64 written_2164, .ptr 0 0, .own 1 1, .int .i64 row_2165, .int .i64 v_2166, .int .i64 v_2167] [.blk [.int .i64 ga_2168, .int .i64 gb_2169, .int .i64 gc_2170, .int .i64 gd_2171, .int .i64 ge_2172], .lst (.int .i64) 3 outN_2173 1 out_2174]
def plan_Lengths_l1_sh : Rd (List AV × List HE) := .pair (.cons (.int .i64) (.cons (.int .i64) (.cons (.ptr 0 0) (.cons (.own 1 1) (.cons (.int .i64) (.cons (.int .i64) (.cons (.int .i64) Rd.nil))))))) (.cons (.blk (.cons (.int .i64) (.cons (.int .i64) (.cons (.int .i64) (.cons (.int .i64) (.cons (.int .i64) Rd.nil)))))) (.cons (.lst (.int .i64) 3 1) Rd.nil))
def plan_Lengths_l1_a {R : Type} (k : Nat) : Alt R := { n := 74, v := [], sh := plan_Lengths_l1_sh, g := fun K x => plan_Lengths_l1 (fun y6 => plan_Lengths_l1_E0 K x.2.1.1 x.2.1.2.1 x.2.1.2.2.1 x.2.1.2.2.2.1 x.2.1.2.2.2.2.1 x.2.2.1.1 y6) k x.1.1 x.1.2.1 x.1.2.2.2.2.1 x.1.2.2.2.2.2.1 x.2.1.1 x.2.1.2.1 x.2.1.2.2.1 x.2.1.2.2.2.1 x.2.1.2.2.2.2.1 k x.1.2.2.2.2.2.2.1 x.2.2.1.2 }
def plan_Lengths_j2_E0 {R : Type} (K : EX → St → Option R) : Int → Int → Int → Int → Int → Int → Int → Int → Int → Int → Bool → List Int → Option R := fun v0 v1 v2 v3 v4 v5 v6 v7 v8 v9 v10 v11 => K .normal (mkSt 74 [] plan_Lengths_x2.keep [.int .i64 v0, .int .i64 v1, .ptr 0 0, .own 1 1, .int .i64 v2, .int .i64 v3, .int .i64 v4] [.blk [.int .i64 v5, .int .i64 v6, .int .i64 v7, .int .i64 v8, .int .i64 v9], .lst (.int .i64) 3 v10 1 v11])
def plan_Lengths_j2_S (zone_2178 : Int) (written_2179 : Int) (row_2180 : Int) (s_2181 : Int) (v_2182 : Int) (v_2183 : Int) (v_2184 : Bool) (ga_2185 : Int) (gb_2186 : Int) (gc_2187 : Int) (gd_2188 : Int) (ge_2189 : Int) (outN_2190 : Bool) (out_2191 : List Int) : St := mkSt 74 [] plan_Lengths_c2.keep [.int .i64 zone_2178, .int .i64 written_2179, .ptr 0 0, .own 1 1, .int .i64 row_2180, .int .i64 s_2181, .int .i64 v_2182, .int .i64 v_2183, .bool v_2184] [.blk [.int .i64 ga_2185, .int .i64 gb_2186, .int .i64 gc_2187, .int .i64 gd_2188, .int .i64 ge_2189], .lst (.int .i64) 3 outN_2190 1 out_2191]
def plan_Lengths_j2_sh : Rd (List AV × List HE) := .pair (.cons (.int .i64) (.cons (.int .i64) (.cons (.ptr 0 0) (.cons (.own 1 1) (.cons (.int .i64) (.cons (.int .i64) (.cons (.int .i64) (.cons (.int .i64) (.cons .bool Rd.nil))))))))) (.cons (.blk (.cons (.int .i64) (.cons (.int .i64) (.cons (.int .i64) (.cons (.int .i64) (.cons (.int .i64) Rd.nil)))))) (.cons (.lst (.int .i64) 3 1) Rd.nil))
def plan_Lengths_j2_a {R : Type} (k : Nat) : Alt R := { n := 74, v := [], sh := plan_Lengths_j2_sh, g := fun K x => plan_Lengths_j2 (fun y11 => plan_Lengths_j2_E0 K x.1.1 x.1.2.1 x.1.2.2.2.2.1 x.1.2.2.2.2.2.2.1 x.1.2.2.2.2.2.2.2.1 x.2.1.1 x.2.1.2.1 x.2.1.2.2.1 x.2.1.2.2.2.1 x.2.1.2.2.2.2.1 x.2.2.1.1 y11) k x.1.2.2.2.2.2.1 x.1.2.2.2.2.2.2.2.2.1 x.2.2.1.2 }
def plan_Lengths_j3_E0 {R : Type} (K : EX → St → Option R) : Int → Int → Int → Int → Int → Int → Int → Int → Int → Int → Bool → List Int → Option R := fun v0 v1 v2 v3 v4 v5 v6 v7 v8 v9 v10 v11 => K .normal (mkSt 74 [] plan_Lengths_x3.keep [.int .i64 v0, .int .i64 v1, .ptr 0 0, .own 1 1, .int .i64 v2, .int .i64 v3, .int .i64 v4] [.blk [.int .i64 v5, .int .i64 v6, .int .i64 v7, .int .i64 v8, .int .i64 v9], .lst (.int .i64) 3 v10 1 v11])
def plan_Lengths_j3_S (zone_2207 : Int) (written_2208 : Int) (row_2209 : Int) (v_2210 : Int) (v_2211 : Int) (ga_2212 : Int) (gb_2213 : Int) (gc_2214 : Int) (gd_2215 : Int) (ge_2216 : Int) (outN_2217 : Bool) (out_2218 : List Int) : St := mkSt 74 [] plan_Lengths_c3.keep [.int .i64 zone_2207, .int .i64 written_2208, .ptr 0 0, .own 1 1, .int .i64 row_2209, .int .i64 v_2210, .int .i64 v_2211] [.blk [.int .i64 ga_2212, .int .i64 gb_2213, .int .i64 gc_2214, .int .i64 gd_2215, .int .i64 ge_2216], .lst (.int .i64) 3 outN_2217 1 out_2218]
def plan_Lengths_j3_sh : Rd (List AV × List HE) := .pair (.cons (.int .i64) (.cons (.int .i64) (.cons (.ptr 0 0) (.cons (.own 1 1) (.cons (.int .i64) (.cons (.int .i64) (.cons (.int .i64) Rd.nil))))))) (.cons (.blk (.cons (.int .i64) (.cons (.int .i64) (.cons (.int .i64) (.cons (.int .i64) (.cons (.int .i64) Rd.nil)))))) (.cons (.lst (.int .i64) 3 1) Rd.nil))
def plan_Lengths_j3_a {R : Type} (k : Nat) : Alt R := { n := 74, v := [], sh := plan_Lengths_j3_sh, g := fun K x => plan_Lengths_j3 (fun y4 => plan_Lengths_j3_E0 K x.1.1 x.1.2.1 x.1.2.2.2.2.1 x.1.2.2.2.2.2.1 y4 x.2.1.1 x.2.1.2.1 x.2.1.2.2.1 x.2.1.2.2.2.1 x.2.1.2.2.2.2.1 x.2.2.1.1 x.2.2.1.2) k x.1.2.2.2.2.2.2.1 }
def plan_Lengths_O {R : Type} (k : Nat) : CutK R := cutsO [[plan_Lengths_j0_a k], [plan_Lengths_l1_a k], [plan_Lengths_j2_a k], [plan_Lengths_j3_a k]]
noncomputable def plan_Lengths_b : List Ob := obs (bodyOf Try.f20) plan_Lengths_h
noncomputable def plan_Lengths_I {R : Type} (k : Nat) : InlT R := inone
theorem plan_Lengths_j0_eq {R : Type} (k : Nat) (K : EX → St → Option R) (zone_2139 : Int) (written_2140 : Int) (v_2141 : Bool) (ga_2142 : Int) (gb_2143 : Int) (gc_2144 : Int) (gd_2145 : Int) (ge_2146 : Int) : plan_Lengths_j0 (plan_Lengths_j0_E0 K zone_2139 written_2140 ga_2142 gb_2143 gc_2144 gd_2145 ge_2146) (plan_Lengths_j0_E1 K zone_2139 written_2140 ga_2142 gb_2143 gc_2144 gd_2145 ge_2146) k v_2141 = ev tab (plan_Lengths_F k) (inlK tab (plan_Lengths_F k) (plan_Lengths_I k) 0) (plan_Lengths_O k) (obB plan_Lengths_b 0) (obH plan_Lengths_b 0) (plan_Lengths_j0_S zone_2139 written_2140 v_2141 ga_2142 gb_2143 gc_2144 gd_2145 ge_2146) (fun e st => optb (clean plan_Lengths_x0 st) fun st => K e st) := by kernel_rfl
theorem plan_Lengths_j0_ok {R : Type} (k : Nat)  : ObOK (R := R) tab (plan_Lengths_F k) (inlK tab (plan_Lengths_F k) (plan_Lengths_I k) 0) (plan_Lengths_O k) (.join plan_Lengths_c0 plan_Lengths_x0 0 (obB plan_Lengths_b 0) (obH plan_Lengths_b 0)) :=
  join_ok (l := [plan_Lengths_j0_a k]) (by kernel_rfl) ⟨(fun K x => (plan_Lengths_j0_eq k K x.1.1 x.1.2.1 x.1.2.2.2.1 x.2.1.1 x.2.1.2.1 x.2.1.2.2.1 x.2.1.2.2.2.1 x.2.1.2.2.2.2.1).trans (by kernel_rfl)), trivial⟩
theorem plan_Lengths_l1_eq {R : Type} (k : Nat) (K : EX → St → Option R) (zone_2163 : Int) (written_2164 : Int) (row_2165 : Int) (v_2166 : Int) (ga_2168 : Int) (gb_2169 : Int) (gc_2170 : Int) (gd_2171 : Int) (ge_2172 : Int) (outN_2173 : Bool) : ∀ (j : Nat) (v_2167 : Int) (out_2174 : List Int), plan_Lengths_l1 (fun y6 => plan_Lengths_l1_E0 K ga_2168 gb_2169 gc_2170 gd_2171 ge_2172 outN_2173 y6) k zone_2163 written_2164 row_2165 v_2166 ga_2168 gb_2169 gc_2170 gd_2171 ge_2172 j v_2167 out_2174 = iter plan_Lengths_c1 plan_Lengths_x1 (ev tab (plan_Lengths_F k) (inlK tab (plan_Lengths_F k) (plan_Lengths_I k) 0) (plan_Lengths_O k) (obB plan_Lengths_b 1) (obH plan_Lengths_b 1)) j (plan_Lengths_l1_S zone_2163 written_2164 row_2165 v_2166 v_2167 ga_2168 gb_2169 gc_2170 gd_2171 ge_2172 outN_2173 out_2174) K
  | 0, _, _ => rfl
  | j + 1, v_2167, out_2174 => by
    have e : plan_Lengths_l1 (fun y6 => plan_Lengths_l1_E0 K ga_2168 gb_2169 gc_2170 gd_2171 ge_2172 outN_2173 y6) k zone_2163 written_2164 row_2165 v_2166 ga_2168 gb_2169 gc_2170 gd_2171 ge_2172 j = fun v_2167 out_2174 => iter plan_Lengths_c1 plan_Lengths_x1 (ev tab (plan_Lengths_F k) (inlK tab (plan_Lengths_F k) (plan_Lengths_I k) 0) (plan_Lengths_O k) (obB plan_Lengths_b 1) (obH plan_Lengths_b 1)) j (plan_Lengths_l1_S zone_2163 written_2164 row_2165 v_2166 v_2167 ga_2168 gb_2169 gc_2170 gd_2171 ge_2172 outN_2173 out_2174) K := by funext v_2167 out_2174; exact plan_Lengths_l1_eq k K zone_2163 written_2164 row_2165 v_2166 ga_2168 gb_2169 gc_2170 gd_2171 ge_2172 outN_2173 j v_2167 out_2174
    show plan_Lengths_l1s (plan_Lengths_l1 (fun y6 => plan_Lengths_l1_E0 K ga_2168 gb_2169 gc_2170 gd_2171 ge_2172 outN_2173 y6) k zone_2163 written_2164 row_2165 v_2166 ga_2168 gb_2169 gc_2170 gd_2171 ge_2172 j) (fun y6 => plan_Lengths_l1_E0 K ga_2168 gb_2169 gc_2170 gd_2171 ge_2172 outN_2173 y6) k zone_2163 written_2164 row_2165 v_2166 ga_2168 gb_2169 gc_2170 gd_2171 ge_2172 v_2167 out_2174 = _
    rw [e, iter_succ]; kernel_rfl
theorem plan_Lengths_l1_ok {R : Type} (k : Nat)  : ObOK (R := R) tab (plan_Lengths_F k) (inlK tab (plan_Lengths_F k) (plan_Lengths_I k) 0) (plan_Lengths_O k) (.loop plan_Lengths_c1 plan_Lengths_x1 1 (obB plan_Lengths_b 1) (obH plan_Lengths_b 1)) :=
  loop_ok (l := [plan_Lengths_l1_a k]) (by kernel_rfl) ⟨(fun K x => ⟨k, (plan_Lengths_l1_eq k K x.1.1 x.1.2.1 x.1.2.2.2.2.1 x.1.2.2.2.2.2.1 x.2.1.1 x.2.1.2.1 x.2.1.2.2.1 x.2.1.2.2.2.1 x.2.1.2.2.2.2.1 x.2.2.1.1 k x.1.2.2.2.2.2.2.1 x.2.2.1.2).trans (by kernel_rfl)⟩), trivial⟩
theorem plan_Lengths_j2_eq {R : Type} (k : Nat) (K : EX → St → Option R) (zone_2178 : Int) (written_2179 : Int) (row_2180 : Int) (s_2181 : Int) (v_2182 : Int) (v_2183 : Int) (v_2184 : Bool) (ga_2185 : Int) (gb_2186 : Int) (gc_2187 : Int) (gd_2188 : Int) (ge_2189 : Int) (outN_2190 : Bool) (out_2191 : List Int) : plan_Lengths_j2 (fun y11 => plan_Lengths_j2_E0 K zone_2178 written_2179 row_2180 v_2182 v_2183 ga_2185 gb_2186 gc_2187 gd_2188 ge_2189 outN_2190 y11) k s_2181 v_2184 out_2191 = ev tab (plan_Lengths_F k) (inlK tab (plan_Lengths_F k) (plan_Lengths_I k) 0) (plan_Lengths_O k) (obB plan_Lengths_b 2) (obH plan_Lengths_b 2) (plan_Lengths_j2_S zone_2178 written_2179 row_2180 s_2181 v_2182 v_2183 v_2184 ga_2185 gb_2186 gc_2187 gd_2188 ge_2189 outN_2190 out_2191) (fun e st => optb (clean plan_Lengths_x2 st) fun st => K e st) := by kernel_rfl
theorem plan_Lengths_j2_ok {R : Type} (k : Nat)  : ObOK (R := R) tab (plan_Lengths_F k) (inlK tab (plan_Lengths_F k) (plan_Lengths_I k) 0) (plan_Lengths_O k) (.join plan_Lengths_c2 plan_Lengths_x2 2 (obB plan_Lengths_b 2) (obH plan_Lengths_b 2)) :=
  join_ok (l := [plan_Lengths_j2_a k]) (by kernel_rfl) ⟨(fun K x => (plan_Lengths_j2_eq k K x.1.1 x.1.2.1 x.1.2.2.2.2.1 x.1.2.2.2.2.2.1 x.1.2.2.2.2.2.2.1 x.1.2.2.2.2.2.2.2.1 x.1.2.2.2.2.2.2.2.2.1 x.2.1.1 x.2.1.2.1 x.2.1.2.2.1 x.2.1.2.2.2.1 x.2.1.2.2.2.2.1 x.2.2.1.1 x.2.2.1.2).trans (by kernel_rfl)), trivial⟩
theorem plan_Lengths_j3_eq {R : Type} (k : Nat) (K : EX → St → Option R) (zone_2207 : Int) (written_2208 : Int) (row_2209 : Int) (v_2210 : Int) (v_2211 : Int) (ga_2212 : Int) (gb_2213 : Int) (gc_2214 : Int) (gd_2215 : Int) (ge_2216 : Int) (outN_2217 : Bool) (out_2218 : List Int) : plan_Lengths_j3 (fun y4 => plan_Lengths_j3_E0 K zone_2207 written_2208 row_2209 v_2210 y4 ga_2212 gb_2213 gc_2214 gd_2215 ge_2216 outN_2217 out_2218) k v_2211 = ev tab (plan_Lengths_F k) (inlK tab (plan_Lengths_F k) (plan_Lengths_I k) 0) (plan_Lengths_O k) (obB plan_Lengths_b 3) (obH plan_Lengths_b 3) (plan_Lengths_j3_S zone_2207 written_2208 row_2209 v_2210 v_2211 ga_2212 gb_2213 gc_2214 gd_2215 ge_2216 outN_2217 out_2218) (fun e st => optb (clean plan_Lengths_x3 st) fun st => K e st) := by kernel_rfl
theorem plan_Lengths_j3_ok {R : Type} (k : Nat)  : ObOK (R := R) tab (plan_Lengths_F k) (inlK tab (plan_Lengths_F k) (plan_Lengths_I k) 0) (plan_Lengths_O k) (.join plan_Lengths_c3 plan_Lengths_x3 3 (obB plan_Lengths_b 3) (obH plan_Lengths_b 3)) :=
  join_ok (l := [plan_Lengths_j3_a k]) (by kernel_rfl) ⟨(fun K x => (plan_Lengths_j3_eq k K x.1.1 x.1.2.1 x.1.2.2.2.2.1 x.1.2.2.2.2.2.1 x.1.2.2.2.2.2.2.1 x.2.1.1 x.2.1.2.1 x.2.1.2.2.1 x.2.1.2.2.2.1 x.2.1.2.2.2.2.1 x.2.2.1.1 x.2.2.1.2).trans (by kernel_rfl)), trivial⟩
theorem plan_Lengths_cuts {R : Type} (k : Nat) : ∀ c, Try.f20.body = some c → CutsOK (R := R) tab (plan_Lengths_F k) (inlK tab (plan_Lengths_F k) (plan_Lengths_I k) 0) (plan_Lengths_O k) c plan_Lengths_h :=
  cuts_of (l := [.join plan_Lengths_c0 plan_Lengths_x0 0 (obB plan_Lengths_b 0) (obH plan_Lengths_b 0), .loop plan_Lengths_c1 plan_Lengths_x1 1 (obB plan_Lengths_b 1) (obH plan_Lengths_b 1), .join plan_Lengths_c2 plan_Lengths_x2 2 (obB plan_Lengths_b 2) (obH plan_Lengths_b 2), .join plan_Lengths_c3 plan_Lengths_x3 3 (obB plan_Lengths_b 3) (obH plan_Lengths_b 3)]) (by kernel_rfl) ⟨plan_Lengths_j0_ok k, plan_Lengths_l1_ok k, plan_Lengths_j2_ok k, plan_Lengths_j3_ok k, trivial⟩
theorem plan_Lengths_iok {R : Type} (k : Nat) : IOK Try.prog tab (plan_Lengths_F k) (plan_Lengths_I (R := R) k) := iok_none
theorem plan_Lengths_ev (k : Nat) (x : (plan_Lengths_p k).τ.den) : evalF tab (plan_Lengths_F k) (plan_Lengths_p k) (plan_Lengths_I k) 0 (plan_Lengths_O k) plan_Lengths_h Try.f20 x = (plan_Lengths_p k).f x := by kernel_rfl
theorem plan_Lengths_ok (k : Nat) : PFOK Try.prog tab 20 (plan_Lengths_p k) := pfok mixed tabOK (plan_Lengths_fok k) Try.func20 (I := plan_Lengths_I k) (d := 0) (plan_Lengths_iok k) (Q := plan_Lengths_O k) (hi := plan_Lengths_h) (plan_Lengths_cuts k) (plan_Lengths_ev k)
end Go.Proofs.Ytcikcikcjimcjaa.Ev
