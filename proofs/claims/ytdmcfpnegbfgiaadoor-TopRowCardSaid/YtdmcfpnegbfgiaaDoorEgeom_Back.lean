/- geom_Back, told on plain data. Written by program. -/
import Derived.Test.YtdmcfpnegbfgiaaDoorEgeom_Parity
import Derived.Test.YtdmcfpnegbfgiaaDoorEgeom_within
set_option linter.unusedVariables false
set_option maxRecDepth 1000000
namespace Go.Proofs.YtdmcfpnegbfgiaaDoor.Ev
open Go Go.RowKit Go.Proofs
def geom_Back_j0 {R : Type} (e0 : Int → Bool → Option R) (e1 : Option R) (k : Nat) (v_1396 : Bool) : Option R :=
  bif v_1396 then
    e0 (0 : Int) false
  else e1
def geom_Back_j1 {R : Type} (e0 : Int → Bool → Option R) (k : Nat) (row_1420 : Int) (drive_1421 : Int) (p_1422 : Int) (ga_1423 : Int) : Option R :=
  bif (decide (ga_1423 = (0 : Int))) then
    none
  else e0 (wrap64 ((wrap64 (row_1420 * (wrap64 (ga_1423 - (1 : Int))))) + (Int.tmod (wrap64 ((wrap64 ((wrap64 (drive_1421 - p_1422)) - (1 : Int))) + ga_1423)) ga_1423))) true
def geom_Back_k0 (k : Nat) : Int → Bool → Int → Option (Int × Bool) := fun v_1404 v_1405 p_1406 =>
  some (v_1404, v_1405)
def geom_Back_k1 (k : Nat) (drive_1320 : Int) (ga_1313 : Int) (row_1319 : Int) : Int → Option (Int × Bool) := fun p_1414 =>
  geom_Back_j1 (fun v_1431 v_1432 =>
    some (v_1431, v_1432)) k row_1319 drive_1320 p_1414 ga_1313
def geom_Back (k : Nat) (ga_1313 : Int) (gb_1314 : Int) (gc_1315 : Int) (gd_1316 : Int) (ge_1317 : Int) (zone_1318 : Int) (row_1319 : Int) (drive_1320 : Int) : Option (Int × Bool) :=
  optb (geom_Parity k ga_1313 gb_1314 gc_1315 gd_1316 ge_1317 zone_1318 row_1319) fun r_1392 =>
  bif (decide (r_1392 < (0 : Int))) then
    geom_Back_j0 (fun v_1404 v_1405 => geom_Back_k0 k v_1404 v_1405 r_1392) (geom_Back_k1 k drive_1320 ga_1313 row_1319 r_1392) k true
  else bif (decide (r_1392 = drive_1320)) then
    geom_Back_j0 (fun v_1404 v_1405 => geom_Back_k0 k v_1404 v_1405 r_1392) (geom_Back_k1 k drive_1320 ga_1313 row_1319 r_1392) k true
  else optb (geom_within k drive_1320 (0 : Int) (wrap64 (ga_1313 - (1 : Int)))) fun r_1433 =>
  geom_Back_j0 (fun v_1404 v_1405 => geom_Back_k0 k v_1404 v_1405 r_1392) (geom_Back_k1 k drive_1320 ga_1313 row_1319 r_1392) k (!r_1433)
def geom_Back_p (k : Nat) : PF := { ps := [(true, 5), (false, 1), (false, 1), (false, 1)], rs := [(false, 1), (false, 1)], τ := (.pair (.pair (.int .i64) (.pair (.int .i64) (.pair (.int .i64) (.pair (.int .i64) (.int .i64))))) (.pair (.int .i64) (.pair (.int .i64) (.int .i64)))), σ := (.pair (.int .i64) .bool), f := fun x => geom_Back k x.1.1 x.1.2.1 x.1.2.2.1 x.1.2.2.2.1 x.1.2.2.2.2 x.2.1 x.2.2.1 x.2.2.2 }
def geom_Back_F (k : Nat) : PT := fcons 16 (geom_Parity_p k) <| fcons 25 (geom_within_p k) <| fnone
theorem geom_Back_fok (k : Nat) : FOK Tryd.prog tab (geom_Back_F k) := fok_cons (geom_Parity_ok k) Tryd.call16 <| fok_cons (geom_within_ok k) Tryd.call25 <| fok_none
def geom_Back_c0 : Cl := { keep := [2, 3, 4, 10, 29], hl := 1, ad := [], adc := [], bump := [] }
def geom_Back_x0 : Cl := { keep := [2, 3, 4, 8, 9, 10], hl := 1, ad := [], adc := [], bump := [] }
def geom_Back_c1 : Cl := { keep := [2, 3, 4, 10], hl := 1, ad := [], adc := [], bump := [] }
def geom_Back_x1 : Cl := { keep := [8, 9], hl := 0, ad := [], adc := [], bump := [] }
def geom_Back_h : Hint := (.sq .no (.sq .no (.ct geom_Back_c1 geom_Back_x1 1 (.ct geom_Back_c0 geom_Back_x0 0 .no .no) .no)))
def geom_Back_j0_E0 {R : Type} (K : EX → St → Option R) : Int → Int → Int → Bool → Int → Int → Int → Int → Int → Int → Option R := fun v0 v1 v2 v3 v4 v5 v6 v7 v8 v9 => K .ret (mkSt 46 [] geom_Back_x0.keep [.int .i64 v0, .int .i64 v1, .ptr 0 0, .int .i64 v2, .bool v3, .int .i64 v4] [.blk [.int .i64 v5, .int .i64 v6, .int .i64 v7, .int .i64 v8, .int .i64 v9]])
def geom_Back_j0_E1 {R : Type} (K : EX → St → Option R) : Int → Int → Int → Int → Int → Int → Int → Int → Option R := fun v0 v1 v2 v3 v4 v5 v6 v7 => K .normal (mkSt 46 [] geom_Back_x0.keep [.int .i64 v0, .int .i64 v1, .ptr 0 0, .junk, .junk, .int .i64 v2] [.blk [.int .i64 v3, .int .i64 v4, .int .i64 v5, .int .i64 v6, .int .i64 v7]])
def geom_Back_j0_S (row_1393 : Int) (drive_1394 : Int) (p_1395 : Int) (v_1396 : Bool) (ga_1397 : Int) (gb_1398 : Int) (gc_1399 : Int) (gd_1400 : Int) (ge_1401 : Int) : St := mkSt 46 [] geom_Back_c0.keep [.int .i64 row_1393, .int .i64 drive_1394, .ptr 0 0, .int .i64 p_1395, .bool v_1396] [.blk [.int .i64 ga_1397, .int .i64 gb_1398, .int .i64 gc_1399, .int .i64 gd_1400, .int .i64 ge_1401]]
def geom_Back_j0_sh : Rd (List AV × List HE) := .pair (.cons (.int .i64) (.cons (.int .i64) (.cons (.ptr 0 0) (.cons (.int .i64) (.cons .bool Rd.nil))))) (.cons (.blk (.cons (.int .i64) (.cons (.int .i64) (.cons (.int .i64) (.cons (.int .i64) (.cons (.int .i64) Rd.nil)))))) Rd.nil)
def geom_Back_j0_a {R : Type} (k : Nat) : Alt R := { n := 46, v := [], sh := geom_Back_j0_sh, g := fun K x => geom_Back_j0 (fun y2 y3 => geom_Back_j0_E0 K x.1.1 x.1.2.1 y2 y3 x.1.2.2.2.1 x.2.1.1 x.2.1.2.1 x.2.1.2.2.1 x.2.1.2.2.2.1 x.2.1.2.2.2.2.1) (geom_Back_j0_E1 K x.1.1 x.1.2.1 x.1.2.2.2.1 x.2.1.1 x.2.1.2.1 x.2.1.2.2.1 x.2.1.2.2.2.1 x.2.1.2.2.2.2.1) k x.1.2.2.2.2.1 }
def geom_Back_j1_E0 {R : Type} (K : EX → St → Option R) : Int → Bool → Option R := fun v0 v1 => K .ret (mkSt 46 [] geom_Back_x1.keep [.int .i64 v0, .bool v1] [])
def geom_Back_j1_S (row_1420 : Int) (drive_1421 : Int) (p_1422 : Int) (ga_1423 : Int) (gb_1424 : Int) (gc_1425 : Int) (gd_1426 : Int) (ge_1427 : Int) : St := mkSt 46 [] geom_Back_c1.keep [.int .i64 row_1420, .int .i64 drive_1421, .ptr 0 0, .int .i64 p_1422] [.blk [.int .i64 ga_1423, .int .i64 gb_1424, .int .i64 gc_1425, .int .i64 gd_1426, .int .i64 ge_1427]]
def geom_Back_j1_sh : Rd (List AV × List HE) := .pair (.cons (.int .i64) (.cons (.int .i64) (.cons (.ptr 0 0) (.cons (.int .i64) Rd.nil)))) (.cons (.blk (.cons (.int .i64) (.cons (.int .i64) (.cons (.int .i64) (.cons (.int .i64) (.cons (.int .i64) Rd.nil)))))) Rd.nil)
def geom_Back_j1_a {R : Type} (k : Nat) : Alt R := { n := 46, v := [], sh := geom_Back_j1_sh, g := fun K x => geom_Back_j1 (geom_Back_j1_E0 K) k x.1.1 x.1.2.1 x.1.2.2.2.1 x.2.1.1 }
def geom_Back_O {R : Type} (k : Nat) : CutK R := cutsO [[geom_Back_j0_a k], [geom_Back_j1_a k]]
noncomputable def geom_Back_b : List Ob := obs (bodyOf Tryd.f17) geom_Back_h
noncomputable def geom_Back_I {R : Type} (k : Nat) : InlT R := inone
theorem geom_Back_j0_eq {R : Type} (k : Nat) (K : EX → St → Option R) (row_1393 : Int) (drive_1394 : Int) (p_1395 : Int) (v_1396 : Bool) (ga_1397 : Int) (gb_1398 : Int) (gc_1399 : Int) (gd_1400 : Int) (ge_1401 : Int) : geom_Back_j0 (fun y2 y3 => geom_Back_j0_E0 K row_1393 drive_1394 y2 y3 p_1395 ga_1397 gb_1398 gc_1399 gd_1400 ge_1401) (geom_Back_j0_E1 K row_1393 drive_1394 p_1395 ga_1397 gb_1398 gc_1399 gd_1400 ge_1401) k v_1396 = ev tab (geom_Back_F k) (inlK tab (geom_Back_F k) (geom_Back_I k) 0) (geom_Back_O k) (obB geom_Back_b 0) (obH geom_Back_b 0) (geom_Back_j0_S row_1393 drive_1394 p_1395 v_1396 ga_1397 gb_1398 gc_1399 gd_1400 ge_1401) (fun e st => optb (clean geom_Back_x0 st) fun st => K e st) := by kernel_rfl
theorem geom_Back_j0_ok {R : Type} (k : Nat)  : ObOK (R := R) tab (geom_Back_F k) (inlK tab (geom_Back_F k) (geom_Back_I k) 0) (geom_Back_O k) (.join geom_Back_c0 geom_Back_x0 0 (obB geom_Back_b 0) (obH geom_Back_b 0)) :=
  join_ok (l := [geom_Back_j0_a k]) (by kernel_rfl) ⟨(fun K x => (geom_Back_j0_eq k K x.1.1 x.1.2.1 x.1.2.2.2.1 x.1.2.2.2.2.1 x.2.1.1 x.2.1.2.1 x.2.1.2.2.1 x.2.1.2.2.2.1 x.2.1.2.2.2.2.1).trans (by kernel_rfl)), trivial⟩
theorem geom_Back_j1_eq {R : Type} (k : Nat) (K : EX → St → Option R) (row_1420 : Int) (drive_1421 : Int) (p_1422 : Int) (ga_1423 : Int) (gb_1424 : Int) (gc_1425 : Int) (gd_1426 : Int) (ge_1427 : Int) : geom_Back_j1 (geom_Back_j1_E0 K) k row_1420 drive_1421 p_1422 ga_1423 = ev tab (geom_Back_F k) (inlK tab (geom_Back_F k) (geom_Back_I k) 0) (geom_Back_O k) (obB geom_Back_b 1) (obH geom_Back_b 1) (geom_Back_j1_S row_1420 drive_1421 p_1422 ga_1423 gb_1424 gc_1425 gd_1426 ge_1427) (fun e st => optb (clean geom_Back_x1 st) fun st => K e st) := by kernel_rfl
theorem geom_Back_j1_ok {R : Type} (k : Nat)  : ObOK (R := R) tab (geom_Back_F k) (inlK tab (geom_Back_F k) (geom_Back_I k) 0) (geom_Back_O k) (.join geom_Back_c1 geom_Back_x1 1 (obB geom_Back_b 1) (obH geom_Back_b 1)) :=
  join_ok (l := [geom_Back_j1_a k]) (by kernel_rfl) ⟨(fun K x => (geom_Back_j1_eq k K x.1.1 x.1.2.1 x.1.2.2.2.1 x.2.1.1 x.2.1.2.1 x.2.1.2.2.1 x.2.1.2.2.2.1 x.2.1.2.2.2.2.1).trans (by kernel_rfl)), trivial⟩
theorem geom_Back_cuts {R : Type} (k : Nat) : ∀ c, Tryd.f17.body = some c → CutsOK (R := R) tab (geom_Back_F k) (inlK tab (geom_Back_F k) (geom_Back_I k) 0) (geom_Back_O k) c geom_Back_h :=
  cuts_of (l := [.join geom_Back_c0 geom_Back_x0 0 (obB geom_Back_b 0) (obH geom_Back_b 0), .join geom_Back_c1 geom_Back_x1 1 (obB geom_Back_b 1) (obH geom_Back_b 1)]) (by kernel_rfl) ⟨geom_Back_j0_ok k, geom_Back_j1_ok k, trivial⟩
theorem geom_Back_iok {R : Type} (k : Nat) : IOK Tryd.prog tab (geom_Back_F k) (geom_Back_I (R := R) k) := iok_none
theorem geom_Back_ev (k : Nat) (x : (geom_Back_p k).τ.den) : evalF tab (geom_Back_F k) (geom_Back_p k) (geom_Back_I k) 0 (geom_Back_O k) geom_Back_h Tryd.f17 x = (geom_Back_p k).f x := by kernel_rfl
theorem geom_Back_ok (k : Nat) : PFOK Tryd.prog tab 17 (geom_Back_p k) := pfok mixed tabOK (geom_Back_fok k) Tryd.func17 (I := geom_Back_I k) (d := 0) (geom_Back_iok k) (Q := geom_Back_O k) (hi := geom_Back_h) (geom_Back_cuts k) (geom_Back_ev k)
end Go.Proofs.YtdmcfpnegbfgiaaDoor.Ev
