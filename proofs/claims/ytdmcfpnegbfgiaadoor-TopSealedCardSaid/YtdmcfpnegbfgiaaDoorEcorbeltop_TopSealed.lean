/- corbeltop_TopSealed, told on plain data. Written by program. -/
import Derived.Test.YtdmcfpnegbfgiaaDoorEcorbeltop_sums
import Derived.Test.YtdmcfpnegbfgiaaDoorEnums_Put
import Derived.Test.YtdmcfpnegbfgiaaDoorEnums_Get
import Derived.Test.YtdmcfpnegbfgiaaDoorEcrc_Sum
import Derived.Test.YtdmcfpnegbfgiaaDoorEcrc_Turn
set_option linter.unusedVariables false
set_option maxRecDepth 1000000
namespace Go.Proofs.YtdmcfpnegbfgiaaDoor.Ev
open Go Go.RowKit Go.Proofs
def corbeltop_TopSealed_l0s {R : Type} (rc : ByteArray → Int → Option R) (e0 : ByteArray → Option R) (k : Nat) (lb_1380 : List Int) (s_1383 : ByteArray) (i_1384 : Int) : Option R :=
  bif (decide (i_1384 < (lenI lb_1380))) then
    bif (decide (i_1384 < (200 : Int))) then
      bif (decide ((0 : Int) ≤ i_1384)) then
        optb (lb_1380[i_1384.toNat]?) fun x_1388 =>
        optb (nums_Put k (bitop .and .i64 x_1388 (1099511627775 : Int)) (6 : Int)) fun r_1390 =>
        bif (decide (s_1383.size + r_1390.size ≤ 4611686018427387904)) then
          rc (s_1383 ++ r_1390) (wrap64 (i_1384 + (1 : Int)))
        else none
      else none
    else e0 s_1383
  else e0 s_1383
def corbeltop_TopSealed_l0 {R : Type} (e0 : ByteArray → Option R) (k : Nat) (lb_1380 : List Int) : Nat → ByteArray → Int → Option R
  | 0 => fun _ _ => none
  | j + 1 => corbeltop_TopSealed_l0s (corbeltop_TopSealed_l0 e0 k lb_1380 j) e0 k lb_1380
def corbeltop_TopSealed_j2 {R : Type} (e0 : Bool → Option R) (e1 : Option R) (k : Nat) (v_1434 : Bool) : Option R :=
  bif v_1434 then
    e0 false
  else e1
def corbeltop_TopSealed_k0 {R : Type} (rc : Int → Option R) (e0 : Bool → Option R) (e1 : Option R) (k : Nat) : Bool → Option R := fun v_1439 =>
  e0 v_1439
def corbeltop_TopSealed_k1 {R : Type} (rc : Int → Option R) (e0 : Bool → Option R) (e1 : Option R) (k : Nat) (i_1401 : Int) : Option R := 
  rc (wrap64 (i_1401 + (1 : Int)))
def corbeltop_TopSealed_l1s {R : Type} (rc : Int → Option R) (e0 : Bool → Option R) (e1 : Option R) (k : Nat) (lb_1397 : List Int) (s_1400 : ByteArray) (i_1401 : Int) : Option R :=
  bif (decide ((wrap64 ((6 : Int) * i_1401)) < (sizeI s_1400))) then
    let z_1423 := (wrap64 ((wrap64 ((6 : Int) * i_1401)) + (6 : Int)))
    bif (((decide ((0 : Int) ≤ (wrap64 ((6 : Int) * i_1401)))) && (decide ((wrap64 ((6 : Int) * i_1401)) ≤ z_1423))) && (decide (z_1423 ≤ (sizeI s_1400)))) then
      optb (nums_Get k (s_1400.extract (wrap64 ((6 : Int) * i_1401)).toNat z_1423.toNat)) fun r_1425 =>
      bif (!r_1425.2) then
        corbeltop_TopSealed_j2 (corbeltop_TopSealed_k0 rc e0 e1 k) (corbeltop_TopSealed_k1 rc e0 e1 k i_1401) k true
      else bif (decide ((0 : Int) ≤ i_1401)) then
        optb (lb_1397[i_1401.toNat]?) fun x_1448 =>
        corbeltop_TopSealed_j2 (corbeltop_TopSealed_k0 rc e0 e1 k) (corbeltop_TopSealed_k1 rc e0 e1 k i_1401) k (!(decide (r_1425.1 = (bitop .and .i64 x_1448 (1099511627775 : Int)))))
      else none
    else none
  else e1
def corbeltop_TopSealed_l1 {R : Type} (e0 : Bool → Option R) (e1 : Option R) (k : Nat) (lb_1397 : List Int) (s_1400 : ByteArray) : Nat → Int → Option R
  | 0 => fun _ => none
  | j + 1 => corbeltop_TopSealed_l1s (corbeltop_TopSealed_l1 e0 e1 k lb_1397 s_1400 j) e0 e1 k lb_1397 s_1400
def corbeltop_TopSealed_j3 {R : Type} (e0 : Bool → Option R) (e1 : Option R) (k : Nat) (s_1463 : ByteArray) (v_1464 : Bool) : Option R :=
  bif v_1464 then
    optb (crc_Sum k false ([s_1463, (⟨#[]⟩ : ByteArray)] : List ByteArray)) fun r_1465 =>
    optb (crc_Sum k false ([s_1463] : List ByteArray)) fun r_1466 =>
    e0 (decide (r_1465 = r_1466))
  else e1
def corbeltop_TopSealed_k2 (k : Nat) : Bool → Option Bool := fun v_1469 =>
  some v_1469
def corbeltop_TopSealed_k3 (k : Nat) (at_1375 : Int) (by_1376 : Int) (s_1395 : ByteArray) : Option Bool := 
  bif (decide ((sizeI s_1395) = (0 : Int))) then
    none
  else let z_1474 := (wrap64 ((Int.tmod at_1375 (sizeI s_1395)) + (sizeI s_1395)))
  bif (decide ((sizeI s_1395) = (0 : Int))) then
    none
  else bif (decide (s_1395.size ≤ 1099511627776)) then
    bif ((decide ((0 : Int) ≤ (Int.tmod z_1474 (sizeI s_1395)))) && (decide ((Int.tmod z_1474 (sizeI s_1395)) < (lenI (intsOf s_1395))))) then
      optb ((intsOf s_1395)[(Int.tmod z_1474 (sizeI s_1395)).toNat]?) fun x_1478 =>
      bif ((decide ((0 : Int) ≤ (Int.tmod z_1474 (sizeI s_1395)))) && (decide ((Int.tmod z_1474 (sizeI s_1395)) < (lenI (intsOf s_1395))))) then
        optb ((intsOf s_1395)[(Int.tmod z_1474 (sizeI s_1395)).toNat]?) fun x_1479 =>
        let z_1480 := (List.set (intsOf s_1395) (Int.tmod z_1474 (sizeI s_1395)).toNat (bitop .xor .u8 x_1478 by_1376))
        optb (crc_Sum k false ([(bytesOf z_1480)] : List ByteArray)) fun r_1498 =>
        optb (crc_Sum k false ([s_1395] : List ByteArray)) fun r_1499 =>
        bif (!(decide (r_1498 = r_1499))) then
          optb (crc_Sum k false ([(bytesOf z_1480)] : List ByteArray)) fun r_1500 =>
          optb (crc_Sum k false ([s_1395] : List ByteArray)) fun r_1501 =>
          optb (crc_Turn k (wrap64 ((wrap64 ((sizeI s_1395) - (1 : Int))) - (Int.tmod z_1474 (sizeI s_1395)))) by_1376) fun r_1503 =>
          some (decide (r_1500 = (bitop .xor .u32 r_1501 r_1503)))
        else some false
      else none
    else none
  else none
def corbeltop_TopSealed (k : Nat) (la_1373 : Bool) (lb_1374 : List Int) (at_1375 : Int) (by_1376 : Int) : Option Bool :=
  optb (corbeltop_sums k) fun r_1378 =>
  bif (!r_1378) then
    some false
  else corbeltop_TopSealed_l0 (fun s_1395 =>
    corbeltop_TopSealed_l1 (fun v_1452 =>
      some v_1452) (bif (decide (s_1395 = (⟨#[]⟩ : ByteArray))) then
        corbeltop_TopSealed_j3 (corbeltop_TopSealed_k2 k) (corbeltop_TopSealed_k3 k at_1375 by_1376 s_1395) k s_1395 true
      else corbeltop_TopSealed_j3 (corbeltop_TopSealed_k2 k) (corbeltop_TopSealed_k3 k at_1375 by_1376 s_1395) k s_1395 (decide (by_1376 = (0 : Int)))) k lb_1374 s_1395 k (0 : Int)) k lb_1374 k (⟨#[]⟩ : ByteArray) (0 : Int)
def corbeltop_TopSealed_p (k : Nat) : PF := { ps := [(false, 1), (false, 1), (false, 1)], rs := [(false, 1)], τ := (.pair (.sl (.int .i64)) (.pair (.int .i64) (.int .u8))), σ := .bool, f := fun x => corbeltop_TopSealed k x.1.1 x.1.2 x.2.1 x.2.2 }
def corbeltop_TopSealed_F (k : Nat) : PT := fcons 6 (corbeltop_sums_p k) <| fcons 7 (nums_Put_p k) <| fcons 8 (nums_Get_p k) <| fcons 9 (crc_Sum_p k) <| fcons 10 (crc_Turn_p k) <| fbase [(9, 29)] false
theorem corbeltop_TopSealed_fok (k : Nat) : FOK Tryd.prog tab (corbeltop_TopSealed_F k) := fok_cons (corbeltop_sums_ok k) Tryd.call6 <| fok_cons (nums_Put_ok k) Tryd.call7 <| fok_cons (nums_Get_ok k) Tryd.call8 <| fok_cons (crc_Sum_ok k) Tryd.call9 <| fok_cons (crc_Turn_ok k) Tryd.call10 <| fok_base
def corbeltop_TopSealed_c0 : Cl := { keep := [0, 1, 2, 7, 8], hl := 0, ad := [], adc := [], bump := [] }
def corbeltop_TopSealed_x0 : Cl := { keep := [0, 1, 2, 7], hl := 0, ad := [], adc := [], bump := [] }
def corbeltop_TopSealed_c1 : Cl := { keep := [0, 1, 2, 7, 9], hl := 0, ad := [], adc := [], bump := [] }
def corbeltop_TopSealed_x1 : Cl := { keep := [1, 2, 6, 7], hl := 0, ad := [], adc := [], bump := [] }
def corbeltop_TopSealed_c2 : Cl := { keep := [0, 1, 2, 7, 9, 61], hl := 0, ad := [], adc := [], bump := [] }
def corbeltop_TopSealed_x2 : Cl := { keep := [0, 1, 2, 6, 7, 9], hl := 0, ad := [], adc := [], bump := [] }
def corbeltop_TopSealed_c3 : Cl := { keep := [1, 2, 7, 67], hl := 0, ad := [], adc := [], bump := [] }
def corbeltop_TopSealed_x3 : Cl := { keep := [1, 2, 6, 7], hl := 0, ad := [], adc := [], bump := [] }
def corbeltop_TopSealed_h : Hint := (.sq .no (.sq .no (.sq .no (.sq (.sq .no (.lp corbeltop_TopSealed_c0 corbeltop_TopSealed_x0 0 .no)) (.sq (.sq .no (.lp corbeltop_TopSealed_c1 corbeltop_TopSealed_x1 1 (.sq .no (.sq (.sq .no (.ct corbeltop_TopSealed_c2 corbeltop_TopSealed_x2 2 .no .no)) .no)))) (.sq (.ct corbeltop_TopSealed_c3 corbeltop_TopSealed_x3 3 .no .no) .no))))))
def corbeltop_TopSealed_l0_E0 {R : Type} (K : EX → St → Option R) : Bool → List Int → Int → Int → ByteArray → Option R := fun v0 v1 v2 v3 v4 => K (.exit 0) (mkSt 120 [] corbeltop_TopSealed_x0.keep [.sl (.int .i64) v0 v1, .int .i64 v2, .int .u8 v3, .str v4] [])
def corbeltop_TopSealed_l0_S (la_1379 : Bool) (lb_1380 : List Int) (at_1381 : Int) (by_1382 : Int) (s_1383 : ByteArray) (i_1384 : Int) : St := mkSt 120 [] corbeltop_TopSealed_c0.keep [.sl (.int .i64) la_1379 lb_1380, .int .i64 at_1381, .int .u8 by_1382, .str s_1383, .int .i64 i_1384] []
def corbeltop_TopSealed_l0_sh : Rd (List AV × List HE) := .pair (.cons (.sl (.int .i64)) (.cons (.int .i64) (.cons (.int .u8) (.cons .str (.cons (.int .i64) Rd.nil))))) Rd.nil
def corbeltop_TopSealed_l0_a {R : Type} (k : Nat) : Alt R := { n := 120, v := [], sh := corbeltop_TopSealed_l0_sh, g := fun K x => corbeltop_TopSealed_l0 (fun y4 => corbeltop_TopSealed_l0_E0 K x.1.1.1 x.1.1.2 x.1.2.1 x.1.2.2.1 y4) k x.1.1.2 k x.1.2.2.2.1 x.1.2.2.2.2.1 }
def corbeltop_TopSealed_l1_E0 {R : Type} (K : EX → St → Option R) : Int → Int → Bool → ByteArray → Option R := fun v0 v1 v2 v3 => K .ret (mkSt 120 [] corbeltop_TopSealed_x1.keep [.int .i64 v0, .int .u8 v1, .bool v2, .str v3] [])
def corbeltop_TopSealed_l1_E1 {R : Type} (K : EX → St → Option R) : Int → Int → ByteArray → Option R := fun v0 v1 v2 => K (.exit 2) (mkSt 120 [] corbeltop_TopSealed_x1.keep [.int .i64 v0, .int .u8 v1, .junk, .str v2] [])
def corbeltop_TopSealed_l1_S (la_1396 : Bool) (lb_1397 : List Int) (at_1398 : Int) (by_1399 : Int) (s_1400 : ByteArray) (i_1401 : Int) : St := mkSt 120 [] corbeltop_TopSealed_c1.keep [.sl (.int .i64) la_1396 lb_1397, .int .i64 at_1398, .int .u8 by_1399, .str s_1400, .int .i64 i_1401] []
def corbeltop_TopSealed_l1_sh : Rd (List AV × List HE) := .pair (.cons (.sl (.int .i64)) (.cons (.int .i64) (.cons (.int .u8) (.cons .str (.cons (.int .i64) Rd.nil))))) Rd.nil
def corbeltop_TopSealed_l1_a {R : Type} (k : Nat) : Alt R := { n := 120, v := [], sh := corbeltop_TopSealed_l1_sh, g := fun K x => corbeltop_TopSealed_l1 (fun y2 => corbeltop_TopSealed_l1_E0 K x.1.2.1 x.1.2.2.1 y2 x.1.2.2.2.1) (corbeltop_TopSealed_l1_E1 K x.1.2.1 x.1.2.2.1 x.1.2.2.2.1) k x.1.1.2 x.1.2.2.2.1 k x.1.2.2.2.2.1 }
def corbeltop_TopSealed_j2_E0 {R : Type} (K : EX → St → Option R) : Bool → List Int → Int → Int → Bool → ByteArray → Int → Option R := fun v0 v1 v2 v3 v4 v5 v6 => K .ret (mkSt 120 [] corbeltop_TopSealed_x2.keep [.sl (.int .i64) v0 v1, .int .i64 v2, .int .u8 v3, .bool v4, .str v5, .int .i64 v6] [])
def corbeltop_TopSealed_j2_E1 {R : Type} (K : EX → St → Option R) : Bool → List Int → Int → Int → ByteArray → Int → Option R := fun v0 v1 v2 v3 v4 v5 => K .normal (mkSt 120 [] corbeltop_TopSealed_x2.keep [.sl (.int .i64) v0 v1, .int .i64 v2, .int .u8 v3, .junk, .str v4, .int .i64 v5] [])
def corbeltop_TopSealed_j2_S (la_1428 : Bool) (lb_1429 : List Int) (at_1430 : Int) (by_1431 : Int) (s_1432 : ByteArray) (i_1433 : Int) (v_1434 : Bool) : St := mkSt 120 [] corbeltop_TopSealed_c2.keep [.sl (.int .i64) la_1428 lb_1429, .int .i64 at_1430, .int .u8 by_1431, .str s_1432, .int .i64 i_1433, .bool v_1434] []
def corbeltop_TopSealed_j2_sh : Rd (List AV × List HE) := .pair (.cons (.sl (.int .i64)) (.cons (.int .i64) (.cons (.int .u8) (.cons .str (.cons (.int .i64) (.cons .bool Rd.nil)))))) Rd.nil
def corbeltop_TopSealed_j2_a {R : Type} (k : Nat) : Alt R := { n := 120, v := [], sh := corbeltop_TopSealed_j2_sh, g := fun K x => corbeltop_TopSealed_j2 (fun y4 => corbeltop_TopSealed_j2_E0 K x.1.1.1 x.1.1.2 x.1.2.1 x.1.2.2.1 y4 x.1.2.2.2.1 x.1.2.2.2.2.1) (corbeltop_TopSealed_j2_E1 K x.1.1.1 x.1.1.2 x.1.2.1 x.1.2.2.1 x.1.2.2.2.1 x.1.2.2.2.2.1) k x.1.2.2.2.2.2.1 }
def corbeltop_TopSealed_j3_E0 {R : Type} (K : EX → St → Option R) : Int → Int → Bool → ByteArray → Option R := fun v0 v1 v2 v3 => K .ret (mkSt 120 [] corbeltop_TopSealed_x3.keep [.int .i64 v0, .int .u8 v1, .bool v2, .str v3] [])
def corbeltop_TopSealed_j3_E1 {R : Type} (K : EX → St → Option R) : Int → Int → ByteArray → Option R := fun v0 v1 v2 => K .normal (mkSt 120 [] corbeltop_TopSealed_x3.keep [.int .i64 v0, .int .u8 v1, .junk, .str v2] [])
def corbeltop_TopSealed_j3_S (at_1461 : Int) (by_1462 : Int) (s_1463 : ByteArray) (v_1464 : Bool) : St := mkSt 120 [] corbeltop_TopSealed_c3.keep [.int .i64 at_1461, .int .u8 by_1462, .str s_1463, .bool v_1464] []
def corbeltop_TopSealed_j3_sh : Rd (List AV × List HE) := .pair (.cons (.int .i64) (.cons (.int .u8) (.cons .str (.cons .bool Rd.nil)))) Rd.nil
def corbeltop_TopSealed_j3_a {R : Type} (k : Nat) : Alt R := { n := 120, v := [], sh := corbeltop_TopSealed_j3_sh, g := fun K x => corbeltop_TopSealed_j3 (fun y2 => corbeltop_TopSealed_j3_E0 K x.1.1 x.1.2.1 y2 x.1.2.2.1) (corbeltop_TopSealed_j3_E1 K x.1.1 x.1.2.1 x.1.2.2.1) k x.1.2.2.1 x.1.2.2.2.1 }
def corbeltop_TopSealed_O {R : Type} (k : Nat) : CutK R := cutsO [[corbeltop_TopSealed_l0_a k], [corbeltop_TopSealed_l1_a k], [corbeltop_TopSealed_j2_a k], [corbeltop_TopSealed_j3_a k]]
noncomputable def corbeltop_TopSealed_b : List Ob := obs (bodyOf Tryd.f3) corbeltop_TopSealed_h
noncomputable def corbeltop_TopSealed_I {R : Type} (k : Nat) : InlT R := inone
theorem corbeltop_TopSealed_l0_eq {R : Type} (k : Nat) (K : EX → St → Option R) (la_1379 : Bool) (lb_1380 : List Int) (at_1381 : Int) (by_1382 : Int) : ∀ (j : Nat) (s_1383 : ByteArray) (i_1384 : Int), corbeltop_TopSealed_l0 (fun y4 => corbeltop_TopSealed_l0_E0 K la_1379 lb_1380 at_1381 by_1382 y4) k lb_1380 j s_1383 i_1384 = iter corbeltop_TopSealed_c0 corbeltop_TopSealed_x0 (ev tab (corbeltop_TopSealed_F k) (inlK tab (corbeltop_TopSealed_F k) (corbeltop_TopSealed_I k) 0) (corbeltop_TopSealed_O k) (obB corbeltop_TopSealed_b 0) (obH corbeltop_TopSealed_b 0)) j (corbeltop_TopSealed_l0_S la_1379 lb_1380 at_1381 by_1382 s_1383 i_1384) K
  | 0, _, _ => rfl
  | j + 1, s_1383, i_1384 => by
    have e : corbeltop_TopSealed_l0 (fun y4 => corbeltop_TopSealed_l0_E0 K la_1379 lb_1380 at_1381 by_1382 y4) k lb_1380 j = fun s_1383 i_1384 => iter corbeltop_TopSealed_c0 corbeltop_TopSealed_x0 (ev tab (corbeltop_TopSealed_F k) (inlK tab (corbeltop_TopSealed_F k) (corbeltop_TopSealed_I k) 0) (corbeltop_TopSealed_O k) (obB corbeltop_TopSealed_b 0) (obH corbeltop_TopSealed_b 0)) j (corbeltop_TopSealed_l0_S la_1379 lb_1380 at_1381 by_1382 s_1383 i_1384) K := by funext s_1383 i_1384; exact corbeltop_TopSealed_l0_eq k K la_1379 lb_1380 at_1381 by_1382 j s_1383 i_1384
    show corbeltop_TopSealed_l0s (corbeltop_TopSealed_l0 (fun y4 => corbeltop_TopSealed_l0_E0 K la_1379 lb_1380 at_1381 by_1382 y4) k lb_1380 j) (fun y4 => corbeltop_TopSealed_l0_E0 K la_1379 lb_1380 at_1381 by_1382 y4) k lb_1380 s_1383 i_1384 = _
    rw [e, iter_succ]; kernel_rfl
theorem corbeltop_TopSealed_l0_ok {R : Type} (k : Nat)  : ObOK (R := R) tab (corbeltop_TopSealed_F k) (inlK tab (corbeltop_TopSealed_F k) (corbeltop_TopSealed_I k) 0) (corbeltop_TopSealed_O k) (.loop corbeltop_TopSealed_c0 corbeltop_TopSealed_x0 0 (obB corbeltop_TopSealed_b 0) (obH corbeltop_TopSealed_b 0)) :=
  loop_ok (l := [corbeltop_TopSealed_l0_a k]) (by kernel_rfl) ⟨(fun K x => ⟨k, (corbeltop_TopSealed_l0_eq k K x.1.1.1 x.1.1.2 x.1.2.1 x.1.2.2.1 k x.1.2.2.2.1 x.1.2.2.2.2.1).trans (by kernel_rfl)⟩), trivial⟩
theorem corbeltop_TopSealed_l1_eq {R : Type} (k : Nat) (K : EX → St → Option R) (la_1396 : Bool) (lb_1397 : List Int) (at_1398 : Int) (by_1399 : Int) (s_1400 : ByteArray) : ∀ (j : Nat) (i_1401 : Int), corbeltop_TopSealed_l1 (fun y2 => corbeltop_TopSealed_l1_E0 K at_1398 by_1399 y2 s_1400) (corbeltop_TopSealed_l1_E1 K at_1398 by_1399 s_1400) k lb_1397 s_1400 j i_1401 = iter corbeltop_TopSealed_c1 corbeltop_TopSealed_x1 (ev tab (corbeltop_TopSealed_F k) (inlK tab (corbeltop_TopSealed_F k) (corbeltop_TopSealed_I k) 0) (corbeltop_TopSealed_O k) (obB corbeltop_TopSealed_b 1) (obH corbeltop_TopSealed_b 1)) j (corbeltop_TopSealed_l1_S la_1396 lb_1397 at_1398 by_1399 s_1400 i_1401) K
  | 0, _ => rfl
  | j + 1, i_1401 => by
    have e : corbeltop_TopSealed_l1 (fun y2 => corbeltop_TopSealed_l1_E0 K at_1398 by_1399 y2 s_1400) (corbeltop_TopSealed_l1_E1 K at_1398 by_1399 s_1400) k lb_1397 s_1400 j = fun i_1401 => iter corbeltop_TopSealed_c1 corbeltop_TopSealed_x1 (ev tab (corbeltop_TopSealed_F k) (inlK tab (corbeltop_TopSealed_F k) (corbeltop_TopSealed_I k) 0) (corbeltop_TopSealed_O k) (obB corbeltop_TopSealed_b 1) (obH corbeltop_TopSealed_b 1)) j (corbeltop_TopSealed_l1_S la_1396 lb_1397 at_1398 by_1399 s_1400 i_1401) K := by funext i_1401; exact corbeltop_TopSealed_l1_eq k K la_1396 lb_1397 at_1398 by_1399 s_1400 j i_1401
    show corbeltop_TopSealed_l1s (corbeltop_TopSealed_l1 (fun y2 => corbeltop_TopSealed_l1_E0 K at_1398 by_1399 y2 s_1400) (corbeltop_TopSealed_l1_E1 K at_1398 by_1399 s_1400) k lb_1397 s_1400 j) (fun y2 => corbeltop_TopSealed_l1_E0 K at_1398 by_1399 y2 s_1400) (corbeltop_TopSealed_l1_E1 K at_1398 by_1399 s_1400) k lb_1397 s_1400 i_1401 = _
    rw [e, iter_succ]; kernel_rfl
theorem corbeltop_TopSealed_l1_ok {R : Type} (k : Nat)  : ObOK (R := R) tab (corbeltop_TopSealed_F k) (inlK tab (corbeltop_TopSealed_F k) (corbeltop_TopSealed_I k) 0) (corbeltop_TopSealed_O k) (.loop corbeltop_TopSealed_c1 corbeltop_TopSealed_x1 1 (obB corbeltop_TopSealed_b 1) (obH corbeltop_TopSealed_b 1)) :=
  loop_ok (l := [corbeltop_TopSealed_l1_a k]) (by kernel_rfl) ⟨(fun K x => ⟨k, (corbeltop_TopSealed_l1_eq k K x.1.1.1 x.1.1.2 x.1.2.1 x.1.2.2.1 x.1.2.2.2.1 k x.1.2.2.2.2.1).trans (by kernel_rfl)⟩), trivial⟩
theorem corbeltop_TopSealed_j2_eq {R : Type} (k : Nat) (K : EX → St → Option R) (la_1428 : Bool) (lb_1429 : List Int) (at_1430 : Int) (by_1431 : Int) (s_1432 : ByteArray) (i_1433 : Int) (v_1434 : Bool) : corbeltop_TopSealed_j2 (fun y4 => corbeltop_TopSealed_j2_E0 K la_1428 lb_1429 at_1430 by_1431 y4 s_1432 i_1433) (corbeltop_TopSealed_j2_E1 K la_1428 lb_1429 at_1430 by_1431 s_1432 i_1433) k v_1434 = ev tab (corbeltop_TopSealed_F k) (inlK tab (corbeltop_TopSealed_F k) (corbeltop_TopSealed_I k) 0) (corbeltop_TopSealed_O k) (obB corbeltop_TopSealed_b 2) (obH corbeltop_TopSealed_b 2) (corbeltop_TopSealed_j2_S la_1428 lb_1429 at_1430 by_1431 s_1432 i_1433 v_1434) (fun e st => optb (clean corbeltop_TopSealed_x2 st) fun st => K e st) := by kernel_rfl
theorem corbeltop_TopSealed_j2_ok {R : Type} (k : Nat)  : ObOK (R := R) tab (corbeltop_TopSealed_F k) (inlK tab (corbeltop_TopSealed_F k) (corbeltop_TopSealed_I k) 0) (corbeltop_TopSealed_O k) (.join corbeltop_TopSealed_c2 corbeltop_TopSealed_x2 2 (obB corbeltop_TopSealed_b 2) (obH corbeltop_TopSealed_b 2)) :=
  join_ok (l := [corbeltop_TopSealed_j2_a k]) (by kernel_rfl) ⟨(fun K x => (corbeltop_TopSealed_j2_eq k K x.1.1.1 x.1.1.2 x.1.2.1 x.1.2.2.1 x.1.2.2.2.1 x.1.2.2.2.2.1 x.1.2.2.2.2.2.1).trans (by kernel_rfl)), trivial⟩
theorem corbeltop_TopSealed_j3_eq {R : Type} (k : Nat) (K : EX → St → Option R) (at_1461 : Int) (by_1462 : Int) (s_1463 : ByteArray) (v_1464 : Bool) : corbeltop_TopSealed_j3 (fun y2 => corbeltop_TopSealed_j3_E0 K at_1461 by_1462 y2 s_1463) (corbeltop_TopSealed_j3_E1 K at_1461 by_1462 s_1463) k s_1463 v_1464 = ev tab (corbeltop_TopSealed_F k) (inlK tab (corbeltop_TopSealed_F k) (corbeltop_TopSealed_I k) 0) (corbeltop_TopSealed_O k) (obB corbeltop_TopSealed_b 3) (obH corbeltop_TopSealed_b 3) (corbeltop_TopSealed_j3_S at_1461 by_1462 s_1463 v_1464) (fun e st => optb (clean corbeltop_TopSealed_x3 st) fun st => K e st) := by kernel_rfl
theorem corbeltop_TopSealed_j3_ok {R : Type} (k : Nat)  : ObOK (R := R) tab (corbeltop_TopSealed_F k) (inlK tab (corbeltop_TopSealed_F k) (corbeltop_TopSealed_I k) 0) (corbeltop_TopSealed_O k) (.join corbeltop_TopSealed_c3 corbeltop_TopSealed_x3 3 (obB corbeltop_TopSealed_b 3) (obH corbeltop_TopSealed_b 3)) :=
  join_ok (l := [corbeltop_TopSealed_j3_a k]) (by kernel_rfl) ⟨(fun K x => (corbeltop_TopSealed_j3_eq k K x.1.1 x.1.2.1 x.1.2.2.1 x.1.2.2.2.1).trans (by kernel_rfl)), trivial⟩
theorem corbeltop_TopSealed_cuts {R : Type} (k : Nat) : ∀ c, Tryd.f3.body = some c → CutsOK (R := R) tab (corbeltop_TopSealed_F k) (inlK tab (corbeltop_TopSealed_F k) (corbeltop_TopSealed_I k) 0) (corbeltop_TopSealed_O k) c corbeltop_TopSealed_h :=
  cuts_of (l := [.loop corbeltop_TopSealed_c0 corbeltop_TopSealed_x0 0 (obB corbeltop_TopSealed_b 0) (obH corbeltop_TopSealed_b 0), .loop corbeltop_TopSealed_c1 corbeltop_TopSealed_x1 1 (obB corbeltop_TopSealed_b 1) (obH corbeltop_TopSealed_b 1), .join corbeltop_TopSealed_c2 corbeltop_TopSealed_x2 2 (obB corbeltop_TopSealed_b 2) (obH corbeltop_TopSealed_b 2), .join corbeltop_TopSealed_c3 corbeltop_TopSealed_x3 3 (obB corbeltop_TopSealed_b 3) (obH corbeltop_TopSealed_b 3)]) (by kernel_rfl) ⟨corbeltop_TopSealed_l0_ok k, corbeltop_TopSealed_l1_ok k, corbeltop_TopSealed_j2_ok k, corbeltop_TopSealed_j3_ok k, trivial⟩
theorem corbeltop_TopSealed_iok {R : Type} (k : Nat) : IOK Tryd.prog tab (corbeltop_TopSealed_F k) (corbeltop_TopSealed_I (R := R) k) := iok_none
theorem corbeltop_TopSealed_ev (k : Nat) (x : (corbeltop_TopSealed_p k).τ.den) : evalF tab (corbeltop_TopSealed_F k) (corbeltop_TopSealed_p k) (corbeltop_TopSealed_I k) 0 (corbeltop_TopSealed_O k) corbeltop_TopSealed_h Tryd.f3 x = (corbeltop_TopSealed_p k).f x := by kernel_rfl
theorem corbeltop_TopSealed_ok (k : Nat) : PFOK Tryd.prog tab 3 (corbeltop_TopSealed_p k) := pfok mixed tabOK (corbeltop_TopSealed_fok k) Tryd.func3 (I := corbeltop_TopSealed_I k) (d := 0) (corbeltop_TopSealed_iok k) (Q := corbeltop_TopSealed_O k) (hi := corbeltop_TopSealed_h) (corbeltop_TopSealed_cuts k) (corbeltop_TopSealed_ev k)
end Go.Proofs.YtdmcfpnegbfgiaaDoor.Ev
