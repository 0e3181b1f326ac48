/- corbeltop_TopSpread, told on plain data. Written by program. -/
import Derived.Test.YtdmcfpnegbfgiaaDoorEcorbeltop_places
import Derived.Test.YtdmcfpnegbfgiaaDoorEcorbeltop_shape
import Derived.Test.YtdmcfpnegbfgiaaDoorEgeom_Zones
import Derived.Test.YtdmcfpnegbfgiaaDoorEgeom_Capacity
import Derived.Test.YtdmcfpnegbfgiaaDoorEgeom_Place
import Derived.Test.YtdmcfpnegbfgiaaDoorEgeom_Parity
set_option linter.unusedVariables false
set_option maxRecDepth 1000000
namespace Go.Proofs.YtdmcfpnegbfgiaaDoor.Ev
open Go Go.RowKit Go.Proofs
def corbeltop_TopSpread_j2 {R : Type} (e0 : Bool → Option R) (k : Nat) (zone_1345 : Int) (a_1346 : Int) (b_1347 : Int) (r_1348 : Int) (d_1349 : Int) (ok_1350 : Bool) (ga_1357 : Int) (gb_1358 : Int) (gc_1359 : Int) (gd_1360 : Int) (ge_1361 : Int) : Option R :=
  optb (geom_Place k ga_1357 gb_1358 gc_1359 gd_1360 ge_1361 zone_1345 b_1347) fun r_1362 =>
  bif ok_1350 then
    bif r_1362.2.2 then
      bif (!(decide (d_1349 = r_1362.2.1))) then
        bif (decide (a_1346 = b_1347)) then
          optb (geom_Parity k ga_1357 gb_1358 gc_1359 gd_1360 ge_1361 zone_1345 r_1348) fun r_1363 =>
          e0 (!(decide (d_1349 = r_1363)))
        else bif (!(decide (r_1348 = r_1362.1))) then
          optb (geom_Parity k ga_1357 gb_1358 gc_1359 gd_1360 ge_1361 zone_1345 r_1348) fun r_1364 =>
          e0 (!(decide (d_1349 = r_1364)))
        else bif (!(decide (d_1349 = r_1362.2.1))) then
          optb (geom_Parity k ga_1357 gb_1358 gc_1359 gd_1360 ge_1361 zone_1345 r_1348) fun r_1365 =>
          e0 (!(decide (d_1349 = r_1365)))
        else e0 false
      else bif ((decide (a_1346 < b_1347)) == (decide (r_1348 < r_1362.1))) then
        bif (decide (a_1346 = b_1347)) then
          optb (geom_Parity k ga_1357 gb_1358 gc_1359 gd_1360 ge_1361 zone_1345 r_1348) fun r_1367 =>
          e0 (!(decide (d_1349 = r_1367)))
        else bif (!(decide (r_1348 = r_1362.1))) then
          optb (geom_Parity k ga_1357 gb_1358 gc_1359 gd_1360 ge_1361 zone_1345 r_1348) fun r_1368 =>
          e0 (!(decide (d_1349 = r_1368)))
        else bif (!(decide (d_1349 = r_1362.2.1))) then
          optb (geom_Parity k ga_1357 gb_1358 gc_1359 gd_1360 ge_1361 zone_1345 r_1348) fun r_1369 =>
          e0 (!(decide (d_1349 = r_1369)))
        else e0 false
      else e0 false
    else e0 false
  else e0 false
def corbeltop_TopSpread_j1 {R : Type} (e0 : Bool → Option R) (k : Nat) (zone_1327 : Int) (a_1328 : Int) (b_1329 : Int) (n_1330 : Int) (ga_1337 : Int) (gb_1338 : Int) (gc_1339 : Int) (gd_1340 : Int) (ge_1341 : Int) : Option R :=
  bif (decide (n_1330 = (0 : Int))) then
    none
  else bif (decide (n_1330 = (0 : Int))) then
    none
  else let z_1342 := (Int.tmod (wrap64 ((Int.tmod a_1328 n_1330) + n_1330)) n_1330)
  bif (decide (n_1330 = (0 : Int))) then
    none
  else bif (decide (n_1330 = (0 : Int))) then
    none
  else optb (geom_Place k ga_1337 gb_1338 gc_1339 gd_1340 ge_1341 zone_1327 z_1342) fun r_1344 =>
  corbeltop_TopSpread_j2 (fun v_1370 =>
    e0 v_1370) k zone_1327 z_1342 (Int.tmod (wrap64 ((Int.tmod b_1329 n_1330) + n_1330)) n_1330) r_1344.1 r_1344.2.1 r_1344.2.2 ga_1337 gb_1338 gc_1339 gd_1340 ge_1341
def corbeltop_TopSpread_j0 {R : Type} (e0 : Bool → Option R) (k : Nat) (zone_1312 : Int) (a_1313 : Int) (b_1314 : Int) (ga_1321 : Int) (gb_1322 : Int) (gc_1323 : Int) (gd_1324 : Int) (ge_1325 : Int) : Option R :=
  optb (geom_Capacity k ga_1321 gb_1322 gc_1323 gd_1324 ge_1325) fun r_1326 =>
  corbeltop_TopSpread_j1 (fun v_1371 =>
    e0 v_1371) k zone_1312 a_1313 b_1314 r_1326 ga_1321 gb_1322 gc_1323 gd_1324 ge_1325
def corbeltop_TopSpread (k : Nat) (xa_1 : Int) (xb_2 : Int) (xc_3 : Int) (ata_4 : Int) (atb_5 : Int) (atc_6 : Int) : Option Bool :=
  optb (corbeltop_places k) fun r_1306 =>
  bif (!r_1306) then
    some false
  else optb (corbeltop_shape k xa_1 xb_2 xc_3) fun r_1307 =>
  optb (geom_Zones k r_1307.1 r_1307.2.1 r_1307.2.2.1 r_1307.2.2.2.1 r_1307.2.2.2.2) fun r_1308 =>
  bif (decide (r_1308 = (0 : Int))) then
    none
  else optb (geom_Zones k r_1307.1 r_1307.2.1 r_1307.2.2.1 r_1307.2.2.2.1 r_1307.2.2.2.2) fun r_1309 =>
  optb (geom_Zones k r_1307.1 r_1307.2.1 r_1307.2.2.1 r_1307.2.2.2.1 r_1307.2.2.2.2) fun r_1310 =>
  bif (decide (r_1310 = (0 : Int))) then
    none
  else corbeltop_TopSpread_j0 (fun v_1372 =>
    some v_1372) k (Int.tmod (wrap64 ((Int.tmod ata_4 r_1308) + r_1309)) r_1310) atb_5 atc_6 r_1307.1 r_1307.2.1 r_1307.2.2.1 r_1307.2.2.2.1 r_1307.2.2.2.2
def corbeltop_TopSpread_p (k : Nat) : PF := { ps := [(true, 3), (true, 3)], rs := [(false, 1)], τ := (.pair (.pair (.int .i64) (.pair (.int .i64) (.int .i64))) (.pair (.int .i64) (.pair (.int .i64) (.int .i64)))), σ := .bool, f := fun x => corbeltop_TopSpread k x.1.1 x.1.2.1 x.1.2.2 x.2.1 x.2.2.1 x.2.2.2 }
def corbeltop_TopSpread_F (k : Nat) : PT := fcons 11 (corbeltop_places_p k) <| fcons 12 (corbeltop_shape_p k) <| fcons 13 (geom_Zones_p k) <| fcons 14 (geom_Capacity_p k) <| fcons 15 (geom_Place_p k) <| fcons 16 (geom_Parity_p k) <| fnone
theorem corbeltop_TopSpread_fok (k : Nat) : FOK Tryd.prog tab (corbeltop_TopSpread_F k) := fok_cons (corbeltop_places_ok k) Tryd.call11 <| fok_cons (corbeltop_shape_ok k) Tryd.call12 <| fok_cons (geom_Zones_ok k) Tryd.call13 <| fok_cons (geom_Capacity_ok k) Tryd.call14 <| fok_cons (geom_Place_ok k) Tryd.call15 <| fok_cons (geom_Parity_ok k) Tryd.call16 <| fok_none
def corbeltop_TopSpread_c0 : Cl := { keep := [5, 6, 7, 8], hl := 3, ad := [], adc := [], bump := [] }
def corbeltop_TopSpread_x0 : Cl := { keep := [4], hl := 0, ad := [], adc := [], bump := [] }
def corbeltop_TopSpread_c1 : Cl := { keep := [5, 6, 7, 8, 9], hl := 3, ad := [], adc := [], bump := [] }
def corbeltop_TopSpread_x1 : Cl := { keep := [4], hl := 0, ad := [], adc := [], bump := [] }
def corbeltop_TopSpread_c2 : Cl := { keep := [5, 6, 7, 8, 10, 11, 12], hl := 3, ad := [], adc := [], bump := [] }
def corbeltop_TopSpread_x2 : Cl := { keep := [4], hl := 0, ad := [], adc := [], bump := [] }
def corbeltop_TopSpread_h : Hint := (.sq .no (.sq .no (.sq .no (.sq .no (.ct corbeltop_TopSpread_c0 corbeltop_TopSpread_x0 0 .no (.ct corbeltop_TopSpread_c1 corbeltop_TopSpread_x1 1 .no (.sq .no (.ct corbeltop_TopSpread_c2 corbeltop_TopSpread_x2 2 .no .no))))))))
def corbeltop_TopSpread_j0_E0 {R : Type} (K : EX → St → Option R) : Bool → Option R := fun v0 => K .ret (mkSt 109 [] corbeltop_TopSpread_x0.keep [.bool v0] [])
def corbeltop_TopSpread_j0_S (zone_1312 : Int) (a_1313 : Int) (b_1314 : Int) (ha_1315 : Int) (hb_1316 : Int) (hc_1317 : Int) (ha_1318 : Int) (hb_1319 : Int) (hc_1320 : Int) (ga_1321 : Int) (gb_1322 : Int) (gc_1323 : Int) (gd_1324 : Int) (ge_1325 : Int) : St := mkSt 109 [] corbeltop_TopSpread_c0.keep [.int .i64 zone_1312, .int .i64 a_1313, .int .i64 b_1314, .ptr 2 0] [.blk [.int .i64 ha_1315, .int .i64 hb_1316, .int .i64 hc_1317], .blk [.int .i64 ha_1318, .int .i64 hb_1319, .int .i64 hc_1320], .blk [.int .i64 ga_1321, .int .i64 gb_1322, .int .i64 gc_1323, .int .i64 gd_1324, .int .i64 ge_1325]]
def corbeltop_TopSpread_j0_sh : Rd (List AV × List HE) := .pair (.cons (.int .i64) (.cons (.int .i64) (.cons (.int .i64) (.cons (.ptr 2 0) Rd.nil)))) (.cons (.blk (.cons (.int .i64) (.cons (.int .i64) (.cons (.int .i64) Rd.nil)))) (.cons (.blk (.cons (.int .i64) (.cons (.int .i64) (.cons (.int .i64) Rd.nil)))) (.cons (.blk (.cons (.int .i64) (.cons (.int .i64) (.cons (.int .i64) (.cons (.int .i64) (.cons (.int .i64) Rd.nil)))))) Rd.nil)))
def corbeltop_TopSpread_j0_a {R : Type} (k : Nat) : Alt R := { n := 109, v := [], sh := corbeltop_TopSpread_j0_sh, g := fun K x => corbeltop_TopSpread_j0 (corbeltop_TopSpread_j0_E0 K) k x.1.1 x.1.2.1 x.1.2.2.1 x.2.2.2.1.1 x.2.2.2.1.2.1 x.2.2.2.1.2.2.1 x.2.2.2.1.2.2.2.1 x.2.2.2.1.2.2.2.2.1 }
def corbeltop_TopSpread_j1_E0 {R : Type} (K : EX → St → Option R) : Bool → Option R := fun v0 => K .ret (mkSt 109 [] corbeltop_TopSpread_x1.keep [.bool v0] [])
def corbeltop_TopSpread_j1_S (zone_1327 : Int) (a_1328 : Int) (b_1329 : Int) (n_1330 : Int) (ha_1331 : Int) (hb_1332 : Int) (hc_1333 : Int) (ha_1334 : Int) (hb_1335 : Int) (hc_1336 : Int) (ga_1337 : Int) (gb_1338 : Int) (gc_1339 : Int) (gd_1340 : Int) (ge_1341 : Int) : St := mkSt 109 [] corbeltop_TopSpread_c1.keep [.int .i64 zone_1327, .int .i64 a_1328, .int .i64 b_1329, .ptr 2 0, .int .i64 n_1330] [.blk [.int .i64 ha_1331, .int .i64 hb_1332, .int .i64 hc_1333], .blk [.int .i64 ha_1334, .int .i64 hb_1335, .int .i64 hc_1336], .blk [.int .i64 ga_1337, .int .i64 gb_1338, .int .i64 gc_1339, .int .i64 gd_1340, .int .i64 ge_1341]]
def corbeltop_TopSpread_j1_sh : Rd (List AV × List HE) := .pair (.cons (.int .i64) (.cons (.int .i64) (.cons (.int .i64) (.cons (.ptr 2 0) (.cons (.int .i64) Rd.nil))))) (.cons (.blk (.cons (.int .i64) (.cons (.int .i64) (.cons (.int .i64) Rd.nil)))) (.cons (.blk (.cons (.int .i64) (.cons (.int .i64) (.cons (.int .i64) Rd.nil)))) (.cons (.blk (.cons (.int .i64) (.cons (.int .i64) (.cons (.int .i64) (.cons (.int .i64) (.cons (.int .i64) Rd.nil)))))) Rd.nil)))
def corbeltop_TopSpread_j1_a {R : Type} (k : Nat) : Alt R := { n := 109, v := [], sh := corbeltop_TopSpread_j1_sh, g := fun K x => corbeltop_TopSpread_j1 (corbeltop_TopSpread_j1_E0 K) k x.1.1 x.1.2.1 x.1.2.2.1 x.1.2.2.2.2.1 x.2.2.2.1.1 x.2.2.2.1.2.1 x.2.2.2.1.2.2.1 x.2.2.2.1.2.2.2.1 x.2.2.2.1.2.2.2.2.1 }
def corbeltop_TopSpread_j2_E0 {R : Type} (K : EX → St → Option R) : Bool → Option R := fun v0 => K .ret (mkSt 109 [] corbeltop_TopSpread_x2.keep [.bool v0] [])
def corbeltop_TopSpread_j2_S (zone_1345 : Int) (a_1346 : Int) (b_1347 : Int) (r_1348 : Int) (d_1349 : Int) (ok_1350 : Bool) (ha_1351 : Int) (hb_1352 : Int) (hc_1353 : Int) (ha_1354 : Int) (hb_1355 : Int) (hc_1356 : Int) (ga_1357 : Int) (gb_1358 : Int) (gc_1359 : Int) (gd_1360 : Int) (ge_1361 : Int) : St := mkSt 109 [] corbeltop_TopSpread_c2.keep [.int .i64 zone_1345, .int .i64 a_1346, .int .i64 b_1347, .ptr 2 0, .int .i64 r_1348, .int .i64 d_1349, .bool ok_1350] [.blk [.int .i64 ha_1351, .int .i64 hb_1352, .int .i64 hc_1353], .blk [.int .i64 ha_1354, .int .i64 hb_1355, .int .i64 hc_1356], .blk [.int .i64 ga_1357, .int .i64 gb_1358, .int .i64 gc_1359, .int .i64 gd_1360, .int .i64 ge_1361]]
def corbeltop_TopSpread_j2_sh : Rd (List AV × List HE) := .pair (.cons (.int .i64) (.cons (.int .i64) (.cons (.int .i64) (.cons (.ptr 2 0) (.cons (.int .i64) (.cons (.int .i64) (.cons .bool Rd.nil))))))) (.cons (.blk (.cons (.int .i64) (.cons (.int .i64) (.cons (.int .i64) Rd.nil)))) (.cons (.blk (.cons (.int .i64) (.cons (.int .i64) (.cons (.int .i64) Rd.nil)))) (.cons (.blk (.cons (.int .i64) (.cons (.int .i64) (.cons (.int .i64) (.cons (.int .i64) (.cons (.int .i64) Rd.nil)))))) Rd.nil)))
def corbeltop_TopSpread_j2_a {R : Type} (k : Nat) : Alt R := { n := 109, v := [], sh := corbeltop_TopSpread_j2_sh, g := fun K x => corbeltop_TopSpread_j2 (corbeltop_TopSpread_j2_E0 K) k x.1.1 x.1.2.1 x.1.2.2.1 x.1.2.2.2.2.1 x.1.2.2.2.2.2.1 x.1.2.2.2.2.2.2.1 x.2.2.2.1.1 x.2.2.2.1.2.1 x.2.2.2.1.2.2.1 x.2.2.2.1.2.2.2.1 x.2.2.2.1.2.2.2.2.1 }
def corbeltop_TopSpread_O {R : Type} (k : Nat) : CutK R := cutsO [[corbeltop_TopSpread_j0_a k], [corbeltop_TopSpread_j1_a k], [corbeltop_TopSpread_j2_a k]]
noncomputable def corbeltop_TopSpread_b : List Ob := obs (bodyOf Tryd.f4) corbeltop_TopSpread_h
noncomputable def corbeltop_TopSpread_I {R : Type} (k : Nat) : InlT R := inone
theorem corbeltop_TopSpread_j0_eq {R : Type} (k : Nat) (K : EX → St → Option R) (zone_1312 : Int) (a_1313 : Int) (b_1314 : Int) (ha_1315 : Int) (hb_1316 : Int) (hc_1317 : Int) (ha_1318 : Int) (hb_1319 : Int) (hc_1320 : Int) (ga_1321 : Int) (gb_1322 : Int) (gc_1323 : Int) (gd_1324 : Int) (ge_1325 : Int) : corbeltop_TopSpread_j0 (corbeltop_TopSpread_j0_E0 K) k zone_1312 a_1313 b_1314 ga_1321 gb_1322 gc_1323 gd_1324 ge_1325 = ev tab (corbeltop_TopSpread_F k) (inlK tab (corbeltop_TopSpread_F k) (corbeltop_TopSpread_I k) 0) (corbeltop_TopSpread_O k) (obB corbeltop_TopSpread_b 0) (obH corbeltop_TopSpread_b 0) (corbeltop_TopSpread_j0_S zone_1312 a_1313 b_1314 ha_1315 hb_1316 hc_1317 ha_1318 hb_1319 hc_1320 ga_1321 gb_1322 gc_1323 gd_1324 ge_1325) (fun e st => optb (clean corbeltop_TopSpread_x0 st) fun st => K e st) := by kernel_rfl
theorem corbeltop_TopSpread_j0_ok {R : Type} (k : Nat)  : ObOK (R := R) tab (corbeltop_TopSpread_F k) (inlK tab (corbeltop_TopSpread_F k) (corbeltop_TopSpread_I k) 0) (corbeltop_TopSpread_O k) (.join corbeltop_TopSpread_c0 corbeltop_TopSpread_x0 0 (obB corbeltop_TopSpread_b 0) (obH corbeltop_TopSpread_b 0)) :=
  join_ok (l := [corbeltop_TopSpread_j0_a k]) (by kernel_rfl) ⟨(fun K x => (corbeltop_TopSpread_j0_eq k K x.1.1 x.1.2.1 x.1.2.2.1 x.2.1.1 x.2.1.2.1 x.2.1.2.2.1 x.2.2.1.1 x.2.2.1.2.1 x.2.2.1.2.2.1 x.2.2.2.1.1 x.2.2.2.1.2.1 x.2.2.2.1.2.2.1 x.2.2.2.1.2.2.2.1 x.2.2.2.1.2.2.2.2.1).trans (by kernel_rfl)), trivial⟩
theorem corbeltop_TopSpread_j1_eq {R : Type} (k : Nat) (K : EX → St → Option R) (zone_1327 : Int) (a_1328 : Int) (b_1329 : Int) (n_1330 : Int) (ha_1331 : Int) (hb_1332 : Int) (hc_1333 : Int) (ha_1334 : Int) (hb_1335 : Int) (hc_1336 : Int) (ga_1337 : Int) (gb_1338 : Int) (gc_1339 : Int) (gd_1340 : Int) (ge_1341 : Int) : corbeltop_TopSpread_j1 (corbeltop_TopSpread_j1_E0 K) k zone_1327 a_1328 b_1329 n_1330 ga_1337 gb_1338 gc_1339 gd_1340 ge_1341 = ev tab (corbeltop_TopSpread_F k) (inlK tab (corbeltop_TopSpread_F k) (corbeltop_TopSpread_I k) 0) (corbeltop_TopSpread_O k) (obB corbeltop_TopSpread_b 1) (obH corbeltop_TopSpread_b 1) (corbeltop_TopSpread_j1_S zone_1327 a_1328 b_1329 n_1330 ha_1331 hb_1332 hc_1333 ha_1334 hb_1335 hc_1336 ga_1337 gb_1338 gc_1339 gd_1340 ge_1341) (fun e st => optb (clean corbeltop_TopSpread_x1 st) fun st => K e st) := by kernel_rfl
theorem corbeltop_TopSpread_j1_ok {R : Type} (k : Nat)  : ObOK (R := R) tab (corbeltop_TopSpread_F k) (inlK tab (corbeltop_TopSpread_F k) (corbeltop_TopSpread_I k) 0) (corbeltop_TopSpread_O k) (.join corbeltop_TopSpread_c1 corbeltop_TopSpread_x1 1 (obB corbeltop_TopSpread_b 1) (obH corbeltop_TopSpread_b 1)) :=
  join_ok (l := [corbeltop_TopSpread_j1_a k]) (by kernel_rfl) ⟨(fun K x => (corbeltop_TopSpread_j1_eq k K x.1.1 x.1.2.1 x.1.2.2.1 x.1.2.2.2.2.1 x.2.1.1 x.2.1.2.1 x.2.1.2.2.1 x.2.2.1.1 x.2.2.1.2.1 x.2.2.1.2.2.1 x.2.2.2.1.1 x.2.2.2.1.2.1 x.2.2.2.1.2.2.1 x.2.2.2.1.2.2.2.1 x.2.2.2.1.2.2.2.2.1).trans (by kernel_rfl)), trivial⟩
theorem corbeltop_TopSpread_j2_eq {R : Type} (k : Nat) (K : EX → St → Option R) (zone_1345 : Int) (a_1346 : Int) (b_1347 : Int) (r_1348 : Int) (d_1349 : Int) (ok_1350 : Bool) (ha_1351 : Int) (hb_1352 : Int) (hc_1353 : Int) (ha_1354 : Int) (hb_1355 : Int) (hc_1356 : Int) (ga_1357 : Int) (gb_1358 : Int) (gc_1359 : Int) (gd_1360 : Int) (ge_1361 : Int) : corbeltop_TopSpread_j2 (corbeltop_TopSpread_j2_E0 K) k zone_1345 a_1346 b_1347 r_1348 d_1349 ok_1350 ga_1357 gb_1358 gc_1359 gd_1360 ge_1361 = ev tab (corbeltop_TopSpread_F k) (inlK tab (corbeltop_TopSpread_F k) (corbeltop_TopSpread_I k) 0) (corbeltop_TopSpread_O k) (obB corbeltop_TopSpread_b 2) (obH corbeltop_TopSpread_b 2) (corbeltop_TopSpread_j2_S zone_1345 a_1346 b_1347 r_1348 d_1349 ok_1350 ha_1351 hb_1352 hc_1353 ha_1354 hb_1355 hc_1356 ga_1357 gb_1358 gc_1359 gd_1360 ge_1361) (fun e st => optb (clean corbeltop_TopSpread_x2 st) fun st => K e st) := by kernel_rfl
theorem corbeltop_TopSpread_j2_ok {R : Type} (k : Nat)  : ObOK (R := R) tab (corbeltop_TopSpread_F k) (inlK tab (corbeltop_TopSpread_F k) (corbeltop_TopSpread_I k) 0) (corbeltop_TopSpread_O k) (.join corbeltop_TopSpread_c2 corbeltop_TopSpread_x2 2 (obB corbeltop_TopSpread_b 2) (obH corbeltop_TopSpread_b 2)) :=
  join_ok (l := [corbeltop_TopSpread_j2_a k]) (by kernel_rfl) ⟨(fun K x => (corbeltop_TopSpread_j2_eq k K x.1.1 x.1.2.1 x.1.2.2.1 x.1.2.2.2.2.1 x.1.2.2.2.2.2.1 x.1.2.2.2.2.2.2.1 x.2.1.1 x.2.1.2.1 x.2.1.2.2.1 x.2.2.1.1 x.2.2.1.2.1 x.2.2.1.2.2.1 x.2.2.2.1.1 x.2.2.2.1.2.1 x.2.2.2.1.2.2.1 x.2.2.2.1.2.2.2.1 x.2.2.2.1.2.2.2.2.1).trans (by kernel_rfl)), trivial⟩
theorem corbeltop_TopSpread_cuts {R : Type} (k : Nat) : ∀ c, Tryd.f4.body = some c → CutsOK (R := R) tab (corbeltop_TopSpread_F k) (inlK tab (corbeltop_TopSpread_F k) (corbeltop_TopSpread_I k) 0) (corbeltop_TopSpread_O k) c corbeltop_TopSpread_h :=
  cuts_of (l := [.join corbeltop_TopSpread_c0 corbeltop_TopSpread_x0 0 (obB corbeltop_TopSpread_b 0) (obH corbeltop_TopSpread_b 0), .join corbeltop_TopSpread_c1 corbeltop_TopSpread_x1 1 (obB corbeltop_TopSpread_b 1) (obH corbeltop_TopSpread_b 1), .join corbeltop_TopSpread_c2 corbeltop_TopSpread_x2 2 (obB corbeltop_TopSpread_b 2) (obH corbeltop_TopSpread_b 2)]) (by kernel_rfl) ⟨corbeltop_TopSpread_j0_ok k, corbeltop_TopSpread_j1_ok k, corbeltop_TopSpread_j2_ok k, trivial⟩
theorem corbeltop_TopSpread_iok {R : Type} (k : Nat) : IOK Tryd.prog tab (corbeltop_TopSpread_F k) (corbeltop_TopSpread_I (R := R) k) := iok_none
theorem corbeltop_TopSpread_ev (k : Nat) (x : (corbeltop_TopSpread_p k).τ.den) : evalF tab (corbeltop_TopSpread_F k) (corbeltop_TopSpread_p k) (corbeltop_TopSpread_I k) 0 (corbeltop_TopSpread_O k) corbeltop_TopSpread_h Tryd.f4 x = (corbeltop_TopSpread_p k).f x := by kernel_rfl
theorem corbeltop_TopSpread_ok (k : Nat) : PFOK Tryd.prog tab 4 (corbeltop_TopSpread_p k) := pfok mixed tabOK (corbeltop_TopSpread_fok k) Tryd.func4 (I := corbeltop_TopSpread_I k) (d := 0) (corbeltop_TopSpread_iok k) (Q := corbeltop_TopSpread_O k) (hi := corbeltop_TopSpread_h) (corbeltop_TopSpread_cuts k) (corbeltop_TopSpread_ev k)
end Go.Proofs.YtdmcfpnegbfgiaaDoor.Ev
