/- plan_Lengths, told on plain data. Written by program. -/
import Derived.Test.YthilffdaofaalaaEgeom_Good
import Derived.Test.YthilffdaofaalaaEgeom_Zones
import Derived.Test.YthilffdaofaalaaEgeom_Capacity
import Derived.Test.YthilffdaofaalaaEgeom_Back
set_option linter.unusedVariables false
set_option maxRecDepth 1000000
namespace Go.Proofs.Ythilffdaofaalaa.Ev
open Go Go.RowKit Go.Proofs
def plan_Lengths_j0 {R : Type} (e0 : Option R) (e1 : Option R) (k : Nat) (v_10999 : Bool) : Option R :=
  bif v_10999 then
    e0
  else e1
def plan_Lengths_j2 {R : Type} (e0 : List Int → Option R) (k : Nat) (s_11039 : Int) (v_11042 : Bool) (out_11049 : List Int) : Option R :=
  bif v_11042 then
    bif ((decide ((0 : Int) ≤ s_11039)) && (decide (s_11039 < (lenI out_11049)))) then
      optb (out_11049[s_11039.toNat]?) fun x_11050 =>
      bif ((decide ((0 : Int) ≤ s_11039)) && (decide (s_11039 < (lenI out_11049)))) then
        optb (out_11049[s_11039.toNat]?) fun x_11051 =>
        e0 (List.set out_11049 s_11039.toNat (wrap64 (x_11050 + (1 : Int))))
      else none
    else none
  else e0 out_11049
def plan_Lengths_j3 {R : Type} (e0 : Int → Option R) (k : Nat) (v_11069 : Int) : Option R :=
  e0 (wrap64 (v_11069 + (1 : Int)))
def plan_Lengths_k2 {R : Type} (rc : Int → List Int → Option R) (e0 : List Int → Option R) (k : Nat) (v_11025 : Int) : List Int → Option R := fun out_11064 =>
  plan_Lengths_j3 (fun v_11081 =>
    rc v_11081 out_11064) k v_11025
def plan_Lengths_l1s {R : Type} (rc : Int → List Int → Option R) (e0 : List Int → Option R) (k : Nat) (zone_11021 : Int) (written_11022 : Int) (row_11023 : Int) (v_11024 : Int) (ga_11026 : Int) (gb_11027 : Int) (gc_11028 : Int) (gd_11029 : Int) (ge_11030 : Int) (v_11025 : Int) (out_11032 : List Int) : Option R :=
  bif (decide (v_11025 < v_11024)) then
    bif ((decide ((0 : Int) ≤ v_11025)) && (decide (v_11025 < (lenI out_11032)))) then
      optb (out_11032[v_11025.toNat]?) fun x_11034 =>
      optb (geom_Back k ga_11026 gb_11027 gc_11028 gd_11029 ge_11030 zone_11021 row_11023 v_11025) fun r_11035 =>
      bif r_11035.2 then
        plan_Lengths_j2 (plan_Lengths_k2 rc e0 k v_11025) k v_11025 (decide (r_11035.1 < written_11022)) (List.set out_11032 v_11025.toNat row_11023)
      else plan_Lengths_j2 (plan_Lengths_k2 rc e0 k v_11025) k v_11025 false (List.set out_11032 v_11025.toNat row_11023)
    else none
  else e0 out_11032
def plan_Lengths_l1 {R : Type} (e0 : List Int → Option R) (k : Nat) (zone_11021 : Int) (written_11022 : Int) (row_11023 : Int) (v_11024 : Int) (ga_11026 : Int) (gb_11027 : Int) (gc_11028 : Int) (gd_11029 : Int) (ge_11030 : Int) : Nat → Int → List Int → Option R
  | 0 => fun _ _ => none
  | j + 1 => plan_Lengths_l1s (plan_Lengths_l1 e0 k zone_11021 written_11022 row_11023 v_11024 ga_11026 gb_11027 gc_11028 gd_11029 ge_11030 j) e0 k zone_11021 written_11022 row_11023 v_11024 ga_11026 gb_11027 gc_11028 gd_11029 ge_11030
def plan_Lengths_k0 (k : Nat) : Option (Bool × List Int) := 
  some (true, ([] : List Int))
def plan_Lengths_k1 (k : Nat) (ga_10430 : Int) (gb_10431 : Int) (gc_10432 : Int) (gd_10433 : Int) (ge_10434 : Int) (written_10436 : Int) (zone_10435 : Int) : Option (Bool × List Int) := 
  bif (((decide ((0 : Int) ≤ ga_10430)) && (decide (ga_10430 ≤ ga_10430))) && (decide (ga_10430 ≤ (1099511627776 : Int)))) then
    let z_11019 := (List.replicate ga_10430.toNat (Ty.zero (.int .i64)))
    bif (decide ((wrap64 (ga_10430 - (1 : Int))) = (0 : Int))) then
      none
    else plan_Lengths_l1 (fun out_11095 =>
      some (false, out_11095)) k zone_10435 written_10436 (wrap64 (Int.tdiv written_10436 (wrap64 (ga_10430 - (1 : Int))))) (lenI z_11019) ga_10430 gb_10431 gc_10432 gd_10433 ge_10434 k (0 : Int) z_11019
  else none
def plan_Lengths (k : Nat) (ga_10430 : Int) (gb_10431 : Int) (gc_10432 : Int) (gd_10433 : Int) (ge_10434 : Int) (zone_10435 : Int) (written_10436 : Int) : Option (Bool × List Int) :=
  optb (geom_Good k ga_10430 gb_10431 gc_10432 gd_10433 ge_10434) fun r_10996 =>
  bif (!r_10996) then
    plan_Lengths_j0 (plan_Lengths_k0 k) (plan_Lengths_k1 k ga_10430 gb_10431 gc_10432 gd_10433 ge_10434 written_10436 zone_10435) k true
  else bif (decide (zone_10435 < (0 : Int))) then
    plan_Lengths_j0 (plan_Lengths_k0 k) (plan_Lengths_k1 k ga_10430 gb_10431 gc_10432 gd_10433 ge_10434 written_10436 zone_10435) k true
  else optb (geom_Zones k ga_10430 gb_10431 gc_10432 gd_10433 ge_10434) fun r_11096 =>
  bif (decide (r_11096 ≤ zone_10435)) then
    plan_Lengths_j0 (plan_Lengths_k0 k) (plan_Lengths_k1 k ga_10430 gb_10431 gc_10432 gd_10433 ge_10434 written_10436 zone_10435) k true
  else bif (decide (written_10436 < (0 : Int))) then
    plan_Lengths_j0 (plan_Lengths_k0 k) (plan_Lengths_k1 k ga_10430 gb_10431 gc_10432 gd_10433 ge_10434 written_10436 zone_10435) k true
  else optb (geom_Capacity k ga_10430 gb_10431 gc_10432 gd_10433 ge_10434) fun r_11097 =>
  plan_Lengths_j0 (plan_Lengths_k0 k) (plan_Lengths_k1 k ga_10430 gb_10431 gc_10432 gd_10433 ge_10434 written_10436 zone_10435) k (decide (r_11097 < written_10436))
def plan_Lengths_p (k : Nat) : PF := { ps := [(true, 5), (false, 1), (false, 1)], rs := [(false, 1)], τ := (.pair (.pair (.int .i64) (.pair (.int .i64) (.pair (.int .i64) (.pair (.int .i64) (.int .i64))))) (.pair (.int .i64) (.int .i64))), σ := (.sl (.int .i64)), f := fun x => plan_Lengths k x.1.1 x.1.2.1 x.1.2.2.1 x.1.2.2.2.1 x.1.2.2.2.2 x.2.1 x.2.2, fr := [some 3] }
def plan_Lengths_F (k : Nat) : PT := fcons 50 (geom_Good_p k) <| fcons 23 (geom_Zones_p k) <| fcons 22 (geom_Capacity_p k) <| fcons 37 (geom_Back_p k) <| fnone
theorem plan_Lengths_fok (k : Nat) : FOK Try.prog tab (plan_Lengths_F k) := fok_cons (geom_Good_ok k) Try.call50 <| fok_cons (geom_Zones_ok k) Try.call23 <| fok_cons (geom_Capacity_ok k) Try.call22 <| fok_cons (geom_Back_ok k) Try.call37 <| fok_none
def plan_Lengths_c0 : Cl := { keep := [1, 2, 3, 34], hl := 1, ad := [], adc := [], bump := [] }
def plan_Lengths_x0 : Cl := { keep := [1, 2, 3, 6], hl := 1, ad := [], adc := [], bump := [] }
def plan_Lengths_c1 : Cl := { keep := [1, 2, 3, 7, 8, 44, 45], hl := 2, ad := [], adc := [], bump := [] }
def plan_Lengths_x1 : Cl := { keep := [7], hl := 2, ad := [], adc := [], bump := [] }
def plan_Lengths_c2 : Cl := { keep := [1, 2, 3, 7, 8, 9, 44, 45, 65], hl := 2, ad := [], adc := [], bump := [] }
def plan_Lengths_x2 : Cl := { keep := [1, 2, 3, 7, 8, 44, 45], hl := 2, ad := [], adc := [], bump := [] }
def plan_Lengths_c3 : Cl := { keep := [1, 2, 3, 7, 8, 44, 45], hl := 2, ad := [], adc := [], bump := [] }
def plan_Lengths_x3 : Cl := { keep := [1, 2, 3, 7, 8, 44, 45], hl := 2, ad := [], adc := [], bump := [] }
def plan_Lengths_h : Hint := (.sq .no (.sq (.ct plan_Lengths_c0 plan_Lengths_x0 0 .no .no) (.sq .no (.sq .no (.sq (.sq .no (.lp plan_Lengths_c1 plan_Lengths_x1 1 (.sq .no (.sq .no (.ct plan_Lengths_c3 plan_Lengths_x3 3 (.sq .no (.sq .no (.sq .no (.ct plan_Lengths_c2 plan_Lengths_x2 2 .no .no)))) .no))))) .no)))))
def plan_Lengths_j0_E0 {R : Type} (K : EX → St → Option R) : Int → Int → Int → Int → Int → Int → Int → Option R := fun v0 v1 v2 v3 v4 v5 v6 => K .ret (mkSt 74 [] plan_Lengths_x0.keep [.int .i64 v0, .int .i64 v1, .ptr 0 0, .nils] [.blk [.int .i64 v2, .int .i64 v3, .int .i64 v4, .int .i64 v5, .int .i64 v6]])
def plan_Lengths_j0_E1 {R : Type} (K : EX → St → Option R) : Int → Int → Int → Int → Int → Int → Int → Option R := fun v0 v1 v2 v3 v4 v5 v6 => K .normal (mkSt 74 [] plan_Lengths_x0.keep [.int .i64 v0, .int .i64 v1, .ptr 0 0, .junk] [.blk [.int .i64 v2, .int .i64 v3, .int .i64 v4, .int .i64 v5, .int .i64 v6]])
def plan_Lengths_j0_S (zone_10997 : Int) (written_10998 : Int) (v_10999 : Bool) (ga_11000 : Int) (gb_11001 : Int) (gc_11002 : Int) (gd_11003 : Int) (ge_11004 : Int) : St := mkSt 74 [] plan_Lengths_c0.keep [.int .i64 zone_10997, .int .i64 written_10998, .ptr 0 0, .bool v_10999] [.blk [.int .i64 ga_11000, .int .i64 gb_11001, .int .i64 gc_11002, .int .i64 gd_11003, .int .i64 ge_11004]]
def plan_Lengths_j0_sh : Rd (List AV × List HE) := .pair (.cons (.int .i64) (.cons (.int .i64) (.cons (.ptr 0 0) (.cons .bool Rd.nil)))) (.cons (.blk (.cons (.int .i64) (.cons (.int .i64) (.cons (.int .i64) (.cons (.int .i64) (.cons (.int .i64) Rd.nil)))))) Rd.nil)
def plan_Lengths_j0_a {R : Type} (k : Nat) : Alt R := { n := 74, v := [], sh := plan_Lengths_j0_sh, g := fun K x => plan_Lengths_j0 (plan_Lengths_j0_E0 K x.1.1 x.1.2.1 x.2.1.1 x.2.1.2.1 x.2.1.2.2.1 x.2.1.2.2.2.1 x.2.1.2.2.2.2.1) (plan_Lengths_j0_E1 K x.1.1 x.1.2.1 x.2.1.1 x.2.1.2.1 x.2.1.2.2.1 x.2.1.2.2.2.1 x.2.1.2.2.2.2.1) k x.1.2.2.2.1 }
def plan_Lengths_l1_E0 {R : Type} (K : EX → St → Option R) : Int → Int → Int → Int → Int → Bool → List Int → Option R := fun v0 v1 v2 v3 v4 v5 v6 => K (.exit 0) (mkSt 74 [] plan_Lengths_x1.keep [.own 1 1] [.blk [.int .i64 v0, .int .i64 v1, .int .i64 v2, .int .i64 v3, .int .i64 v4], .lst (.int .i64) 3 v5 1 v6])
def plan_Lengths_l1_S (zone_11021 : Int) (written_11022 : Int) (row_11023 : Int) (v_11024 : Int) (v_11025 : Int) (ga_11026 : Int) (gb_11027 : Int) (gc_11028 : Int) (gd_11029 : Int) (ge_11030 : Int) (outN_11031 : Bool) (out_11032 : List Int) : St := mkSt 74 [] plan_Lengths_c1.keep [.int .i64 zone_11021, .int .i64 written_11022, .ptr 0 0, .own 1 1, .int .i64 row_11023, .int .i64 v_11024, .int .i64 v_11025] [.blk [.int .i64 ga_11026, .int .i64 gb_11027, .int .i64 gc_11028, .int .i64 gd_11029, .int .i64 ge_11030], .lst (.int .i64) 3 outN_11031 1 out_11032]
def plan_Lengths_l1_sh : Rd (List AV × List HE) := .pair (.cons (.int .i64) (.cons (.int .i64) (.cons (.ptr 0 0) (.cons (.own 1 1) (.cons (.int .i64) (.cons (.int .i64) (.cons (.int .i64) Rd.nil))))))) (.cons (.blk (.cons (.int .i64) (.cons (.int .i64) (.cons (.int .i64) (.cons (.int .i64) (.cons (.int .i64) Rd.nil)))))) (.cons (.lst (.int .i64) 3 1) Rd.nil))
def plan_Lengths_l1_a {R : Type} (k : Nat) : Alt R := { n := 74, v := [], sh := plan_Lengths_l1_sh, g := fun K x => plan_Lengths_l1 (fun y6 => plan_Lengths_l1_E0 K x.2.1.1 x.2.1.2.1 x.2.1.2.2.1 x.2.1.2.2.2.1 x.2.1.2.2.2.2.1 x.2.2.1.1 y6) k x.1.1 x.1.2.1 x.1.2.2.2.2.1 x.1.2.2.2.2.2.1 x.2.1.1 x.2.1.2.1 x.2.1.2.2.1 x.2.1.2.2.2.1 x.2.1.2.2.2.2.1 k x.1.2.2.2.2.2.2.1 x.2.2.1.2 }
def plan_Lengths_j2_E0 {R : Type} (K : EX → St → Option R) : Int → Int → Int → Int → Int → Int → Int → Int → Int → Int → Bool → List Int → Option R := fun v0 v1 v2 v3 v4 v5 v6 v7 v8 v9 v10 v11 => K .normal (mkSt 74 [] plan_Lengths_x2.keep [.int .i64 v0, .int .i64 v1, .ptr 0 0, .own 1 1, .int .i64 v2, .int .i64 v3, .int .i64 v4] [.blk [.int .i64 v5, .int .i64 v6, .int .i64 v7, .int .i64 v8, .int .i64 v9], .lst (.int .i64) 3 v10 1 v11])
def plan_Lengths_j2_S (zone_11036 : Int) (written_11037 : Int) (row_11038 : Int) (s_11039 : Int) (v_11040 : Int) (v_11041 : Int) (v_11042 : Bool) (ga_11043 : Int) (gb_11044 : Int) (gc_11045 : Int) (gd_11046 : Int) (ge_11047 : Int) (outN_11048 : Bool) (out_11049 : List Int) : St := mkSt 74 [] plan_Lengths_c2.keep [.int .i64 zone_11036, .int .i64 written_11037, .ptr 0 0, .own 1 1, .int .i64 row_11038, .int .i64 s_11039, .int .i64 v_11040, .int .i64 v_11041, .bool v_11042] [.blk [.int .i64 ga_11043, .int .i64 gb_11044, .int .i64 gc_11045, .int .i64 gd_11046, .int .i64 ge_11047], .lst (.int .i64) 3 outN_11048 1 out_11049]
def plan_Lengths_j2_sh : Rd (List AV × List HE) := .pair (.cons (.int .i64) (.cons (.int .i64) (.cons (.ptr 0 0) (.cons (.own 1 1) (.cons (.int .i64) (.cons (.int .i64) (.cons (.int .i64) (.cons (.int .i64) (.cons .bool Rd.nil))))))))) (.cons (.blk (.cons (.int .i64) (.cons (.int .i64) (.cons (.int .i64) (.cons (.int .i64) (.cons (.int .i64) Rd.nil)))))) (.cons (.lst (.int .i64) 3 1) Rd.nil))
def plan_Lengths_j2_a {R : Type} (k : Nat) : Alt R := { n := 74, v := [], sh := plan_Lengths_j2_sh, g := fun K x => plan_Lengths_j2 (fun y11 => plan_Lengths_j2_E0 K x.1.1 x.1.2.1 x.1.2.2.2.2.1 x.1.2.2.2.2.2.2.1 x.1.2.2.2.2.2.2.2.1 x.2.1.1 x.2.1.2.1 x.2.1.2.2.1 x.2.1.2.2.2.1 x.2.1.2.2.2.2.1 x.2.2.1.1 y11) k x.1.2.2.2.2.2.1 x.1.2.2.2.2.2.2.2.2.1 x.2.2.1.2 }
def plan_Lengths_j3_E0 {R : Type} (K : EX → St → Option R) : Int → Int → Int → Int → Int → Int → Int → Int → Int → Int → Bool → List Int → Option R := fun v0 v1 v2 v3 v4 v5 v6 v7 v8 v9 v10 v11 => K .normal (mkSt 74 [] plan_Lengths_x3.keep [.int .i64 v0, .int .i64 v1, .ptr 0 0, .own 1 1, .int .i64 v2, .int .i64 v3, .int .i64 v4] [.blk [.int .i64 v5, .int .i64 v6, .int .i64 v7, .int .i64 v8, .int .i64 v9], .lst (.int .i64) 3 v10 1 v11])
def plan_Lengths_j3_S (zone_11065 : Int) (written_11066 : Int) (row_11067 : Int) (v_11068 : Int) (v_11069 : Int) (ga_11070 : Int) (gb_11071 : Int) (gc_11072 : Int) (gd_11073 : Int) (ge_11074 : Int) (outN_11075 : Bool) (out_11076 : List Int) : St := mkSt 74 [] plan_Lengths_c3.keep [.int .i64 zone_11065, .int .i64 written_11066, .ptr 0 0, .own 1 1, .int .i64 row_11067, .int .i64 v_11068, .int .i64 v_11069] [.blk [.int .i64 ga_11070, .int .i64 gb_11071, .int .i64 gc_11072, .int .i64 gd_11073, .int .i64 ge_11074], .lst (.int .i64) 3 outN_11075 1 out_11076]
def plan_Lengths_j3_sh : Rd (List AV × List HE) := .pair (.cons (.int .i64) (.cons (.int .i64) (.cons (.ptr 0 0) (.cons (.own 1 1) (.cons (.int .i64) (.cons (.int .i64) (.cons (.int .i64) Rd.nil))))))) (.cons (.blk (.cons (.int .i64) (.cons (.int .i64) (.cons (.int .i64) (.cons (.int .i64) (.cons (.int .i64) Rd.nil)))))) (.cons (.lst (.int .i64) 3 1) Rd.nil))
def plan_Lengths_j3_a {R : Type} (k : Nat) : Alt R := { n := 74, v := [], sh := plan_Lengths_j3_sh, g := fun K x => plan_Lengths_j3 (fun y4 => plan_Lengths_j3_E0 K x.1.1 x.1.2.1 x.1.2.2.2.2.1 x.1.2.2.2.2.2.1 y4 x.2.1.1 x.2.1.2.1 x.2.1.2.2.1 x.2.1.2.2.2.1 x.2.1.2.2.2.2.1 x.2.2.1.1 x.2.2.1.2) k x.1.2.2.2.2.2.2.1 }
def plan_Lengths_O {R : Type} (k : Nat) : CutK R := cutsO [[plan_Lengths_j0_a k], [plan_Lengths_l1_a k], [plan_Lengths_j2_a k], [plan_Lengths_j3_a k]]
noncomputable def plan_Lengths_b : List Ob := obs (bodyOf Try.f73) plan_Lengths_h
noncomputable def plan_Lengths_I {R : Type} (k : Nat) : InlT R := inone
theorem plan_Lengths_j0_eq {R : Type} (k : Nat) (K : EX → St → Option R) (zone_10997 : Int) (written_10998 : Int) (v_10999 : Bool) (ga_11000 : Int) (gb_11001 : Int) (gc_11002 : Int) (gd_11003 : Int) (ge_11004 : Int) : plan_Lengths_j0 (plan_Lengths_j0_E0 K zone_10997 written_10998 ga_11000 gb_11001 gc_11002 gd_11003 ge_11004) (plan_Lengths_j0_E1 K zone_10997 written_10998 ga_11000 gb_11001 gc_11002 gd_11003 ge_11004) k v_10999 = ev tab (plan_Lengths_F k) (inlK tab (plan_Lengths_F k) (plan_Lengths_I k) 0) (plan_Lengths_O k) (obB plan_Lengths_b 0) (obH plan_Lengths_b 0) (plan_Lengths_j0_S zone_10997 written_10998 v_10999 ga_11000 gb_11001 gc_11002 gd_11003 ge_11004) (fun e st => optb (clean plan_Lengths_x0 st) fun st => K e st) := by kernel_rfl
theorem plan_Lengths_j0_ok {R : Type} (k : Nat)  : ObOK (R := R) tab (plan_Lengths_F k) (inlK tab (plan_Lengths_F k) (plan_Lengths_I k) 0) (plan_Lengths_O k) (.join plan_Lengths_c0 plan_Lengths_x0 0 (obB plan_Lengths_b 0) (obH plan_Lengths_b 0)) :=
  join_ok (l := [plan_Lengths_j0_a k]) (by kernel_rfl) ⟨(fun K x => (plan_Lengths_j0_eq k K x.1.1 x.1.2.1 x.1.2.2.2.1 x.2.1.1 x.2.1.2.1 x.2.1.2.2.1 x.2.1.2.2.2.1 x.2.1.2.2.2.2.1).trans (by kernel_rfl)), trivial⟩
theorem plan_Lengths_l1_eq {R : Type} (k : Nat) (K : EX → St → Option R) (zone_11021 : Int) (written_11022 : Int) (row_11023 : Int) (v_11024 : Int) (ga_11026 : Int) (gb_11027 : Int) (gc_11028 : Int) (gd_11029 : Int) (ge_11030 : Int) (outN_11031 : Bool) : ∀ (j : Nat) (v_11025 : Int) (out_11032 : List Int), plan_Lengths_l1 (fun y6 => plan_Lengths_l1_E0 K ga_11026 gb_11027 gc_11028 gd_11029 ge_11030 outN_11031 y6) k zone_11021 written_11022 row_11023 v_11024 ga_11026 gb_11027 gc_11028 gd_11029 ge_11030 j v_11025 out_11032 = iter plan_Lengths_c1 plan_Lengths_x1 (ev tab (plan_Lengths_F k) (inlK tab (plan_Lengths_F k) (plan_Lengths_I k) 0) (plan_Lengths_O k) (obB plan_Lengths_b 1) (obH plan_Lengths_b 1)) j (plan_Lengths_l1_S zone_11021 written_11022 row_11023 v_11024 v_11025 ga_11026 gb_11027 gc_11028 gd_11029 ge_11030 outN_11031 out_11032) K
  | 0, _, _ => rfl
  | j + 1, v_11025, out_11032 => by
    have e : plan_Lengths_l1 (fun y6 => plan_Lengths_l1_E0 K ga_11026 gb_11027 gc_11028 gd_11029 ge_11030 outN_11031 y6) k zone_11021 written_11022 row_11023 v_11024 ga_11026 gb_11027 gc_11028 gd_11029 ge_11030 j = fun v_11025 out_11032 => iter plan_Lengths_c1 plan_Lengths_x1 (ev tab (plan_Lengths_F k) (inlK tab (plan_Lengths_F k) (plan_Lengths_I k) 0) (plan_Lengths_O k) (obB plan_Lengths_b 1) (obH plan_Lengths_b 1)) j (plan_Lengths_l1_S zone_11021 written_11022 row_11023 v_11024 v_11025 ga_11026 gb_11027 gc_11028 gd_11029 ge_11030 outN_11031 out_11032) K := by funext v_11025 out_11032; exact plan_Lengths_l1_eq k K zone_11021 written_11022 row_11023 v_11024 ga_11026 gb_11027 gc_11028 gd_11029 ge_11030 outN_11031 j v_11025 out_11032
    show plan_Lengths_l1s (plan_Lengths_l1 (fun y6 => plan_Lengths_l1_E0 K ga_11026 gb_11027 gc_11028 gd_11029 ge_11030 outN_11031 y6) k zone_11021 written_11022 row_11023 v_11024 ga_11026 gb_11027 gc_11028 gd_11029 ge_11030 j) (fun y6 => plan_Lengths_l1_E0 K ga_11026 gb_11027 gc_11028 gd_11029 ge_11030 outN_11031 y6) k zone_11021 written_11022 row_11023 v_11024 ga_11026 gb_11027 gc_11028 gd_11029 ge_11030 v_11025 out_11032 = _
    rw [e, iter_succ]; kernel_rfl
theorem plan_Lengths_l1_ok {R : Type} (k : Nat)  : ObOK (R := R) tab (plan_Lengths_F k) (inlK tab (plan_Lengths_F k) (plan_Lengths_I k) 0) (plan_Lengths_O k) (.loop plan_Lengths_c1 plan_Lengths_x1 1 (obB plan_Lengths_b 1) (obH plan_Lengths_b 1)) :=
  loop_ok (l := [plan_Lengths_l1_a k]) (by kernel_rfl) ⟨(fun K x => ⟨k, (plan_Lengths_l1_eq k K x.1.1 x.1.2.1 x.1.2.2.2.2.1 x.1.2.2.2.2.2.1 x.2.1.1 x.2.1.2.1 x.2.1.2.2.1 x.2.1.2.2.2.1 x.2.1.2.2.2.2.1 x.2.2.1.1 k x.1.2.2.2.2.2.2.1 x.2.2.1.2).trans (by kernel_rfl)⟩), trivial⟩
theorem plan_Lengths_j2_eq {R : Type} (k : Nat) (K : EX → St → Option R) (zone_11036 : Int) (written_11037 : Int) (row_11038 : Int) (s_11039 : Int) (v_11040 : Int) (v_11041 : Int) (v_11042 : Bool) (ga_11043 : Int) (gb_11044 : Int) (gc_11045 : Int) (gd_11046 : Int) (ge_11047 : Int) (outN_11048 : Bool) (out_11049 : List Int) : plan_Lengths_j2 (fun y11 => plan_Lengths_j2_E0 K zone_11036 written_11037 row_11038 v_11040 v_11041 ga_11043 gb_11044 gc_11045 gd_11046 ge_11047 outN_11048 y11) k s_11039 v_11042 out_11049 = ev tab (plan_Lengths_F k) (inlK tab (plan_Lengths_F k) (plan_Lengths_I k) 0) (plan_Lengths_O k) (obB plan_Lengths_b 2) (obH plan_Lengths_b 2) (plan_Lengths_j2_S zone_11036 written_11037 row_11038 s_11039 v_11040 v_11041 v_11042 ga_11043 gb_11044 gc_11045 gd_11046 ge_11047 outN_11048 out_11049) (fun e st => optb (clean plan_Lengths_x2 st) fun st => K e st) := by kernel_rfl
theorem plan_Lengths_j2_ok {R : Type} (k : Nat)  : ObOK (R := R) tab (plan_Lengths_F k) (inlK tab (plan_Lengths_F k) (plan_Lengths_I k) 0) (plan_Lengths_O k) (.join plan_Lengths_c2 plan_Lengths_x2 2 (obB plan_Lengths_b 2) (obH plan_Lengths_b 2)) :=
  join_ok (l := [plan_Lengths_j2_a k]) (by kernel_rfl) ⟨(fun K x => (plan_Lengths_j2_eq k K x.1.1 x.1.2.1 x.1.2.2.2.2.1 x.1.2.2.2.2.2.1 x.1.2.2.2.2.2.2.1 x.1.2.2.2.2.2.2.2.1 x.1.2.2.2.2.2.2.2.2.1 x.2.1.1 x.2.1.2.1 x.2.1.2.2.1 x.2.1.2.2.2.1 x.2.1.2.2.2.2.1 x.2.2.1.1 x.2.2.1.2).trans (by kernel_rfl)), trivial⟩
theorem plan_Lengths_j3_eq {R : Type} (k : Nat) (K : EX → St → Option R) (zone_11065 : Int) (written_11066 : Int) (row_11067 : Int) (v_11068 : Int) (v_11069 : Int) (ga_11070 : Int) (gb_11071 : Int) (gc_11072 : Int) (gd_11073 : Int) (ge_11074 : Int) (outN_11075 : Bool) (out_11076 : List Int) : plan_Lengths_j3 (fun y4 => plan_Lengths_j3_E0 K zone_11065 written_11066 row_11067 v_11068 y4 ga_11070 gb_11071 gc_11072 gd_11073 ge_11074 outN_11075 out_11076) k v_11069 = ev tab (plan_Lengths_F k) (inlK tab (plan_Lengths_F k) (plan_Lengths_I k) 0) (plan_Lengths_O k) (obB plan_Lengths_b 3) (obH plan_Lengths_b 3) (plan_Lengths_j3_S zone_11065 written_11066 row_11067 v_11068 v_11069 ga_11070 gb_11071 gc_11072 gd_11073 ge_11074 outN_11075 out_11076) (fun e st => optb (clean plan_Lengths_x3 st) fun st => K e st) := by kernel_rfl
theorem plan_Lengths_j3_ok {R : Type} (k : Nat)  : ObOK (R := R) tab (plan_Lengths_F k) (inlK tab (plan_Lengths_F k) (plan_Lengths_I k) 0) (plan_Lengths_O k) (.join plan_Lengths_c3 plan_Lengths_x3 3 (obB plan_Lengths_b 3) (obH plan_Lengths_b 3)) :=
  join_ok (l := [plan_Lengths_j3_a k]) (by kernel_rfl) ⟨(fun K x => (plan_Lengths_j3_eq k K x.1.1 x.1.2.1 x.1.2.2.2.2.1 x.1.2.2.2.2.2.1 x.1.2.2.2.2.2.2.1 x.2.1.1 x.2.1.2.1 x.2.1.2.2.1 x.2.1.2.2.2.1 x.2.1.2.2.2.2.1 x.2.2.1.1 x.2.2.1.2).trans (by kernel_rfl)), trivial⟩
theorem plan_Lengths_cuts {R : Type} (k : Nat) : ∀ c, Try.f73.body = some c → CutsOK (R := R) tab (plan_Lengths_F k) (inlK tab (plan_Lengths_F k) (plan_Lengths_I k) 0) (plan_Lengths_O k) c plan_Lengths_h :=
  cuts_of (l := [.join plan_Lengths_c0 plan_Lengths_x0 0 (obB plan_Lengths_b 0) (obH plan_Lengths_b 0), .loop plan_Lengths_c1 plan_Lengths_x1 1 (obB plan_Lengths_b 1) (obH plan_Lengths_b 1), .join plan_Lengths_c2 plan_Lengths_x2 2 (obB plan_Lengths_b 2) (obH plan_Lengths_b 2), .join plan_Lengths_c3 plan_Lengths_x3 3 (obB plan_Lengths_b 3) (obH plan_Lengths_b 3)]) (by kernel_rfl) ⟨plan_Lengths_j0_ok k, plan_Lengths_l1_ok k, plan_Lengths_j2_ok k, plan_Lengths_j3_ok k, trivial⟩
theorem plan_Lengths_iok {R : Type} (k : Nat) : IOK Try.prog tab (plan_Lengths_F k) (plan_Lengths_I (R := R) k) := iok_none
theorem plan_Lengths_ev (k : Nat) (x : (plan_Lengths_p k).τ.den) : evalF tab (plan_Lengths_F k) (plan_Lengths_p k) (plan_Lengths_I k) 0 (plan_Lengths_O k) plan_Lengths_h Try.f73 x = (plan_Lengths_p k).f x := by kernel_rfl
theorem plan_Lengths_ok (k : Nat) : PFOK Try.prog tab 73 (plan_Lengths_p k) := pfok mixed tabOK (plan_Lengths_fok k) Try.func73 (I := plan_Lengths_I k) (d := 0) (plan_Lengths_iok k) (Q := plan_Lengths_O k) (hi := plan_Lengths_h) (plan_Lengths_cuts k) (plan_Lengths_ev k)
end Go.Proofs.Ythilffdaofaalaa.Ev
