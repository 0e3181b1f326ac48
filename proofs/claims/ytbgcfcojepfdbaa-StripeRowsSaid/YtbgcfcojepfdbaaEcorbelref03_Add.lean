/- corbelref03_Add, told on plain data. Written by program. -/
import Derived.Test.YtbgcfcojepfdbaaEtab
set_option linter.unusedVariables false
set_option maxRecDepth 1000000
namespace Go.Proofs.Ytbgcfcojepfdbaa.Ev
open Go Go.RowKit Go.Proofs
def corbelref03_Add_j3 {R : Type} (e0 : List Int → Bool → List Int → Option R) (k : Nat) (c_1392 : Int) (out_1394 : List Int) : Option R :=
  bif (decide (out_1394.length + ([c_1392] : List Int).length ≤ 1099511627776)) then
    e0 (out_1394 ++ ([c_1392] : List Int)) false ([c_1392] : List Int)
  else none
def corbelref03_Add_k0 {R : Type} (e0 : List Int → Bool → List Int → Option R) (k : Nat) : List Int → Bool → List Int → Option R := fun out_1399 hN_1400 h_1401 =>
  e0 out_1399 hN_1400 h_1401
def corbelref03_Add_j2 {R : Type} (e0 : List Int → Bool → List Int → Option R) (k : Nat) (b_1384 : ByteArray) (i_1385 : Int) (c_1386 : Int) (out_1388 : List Int) : Option R :=
  bif (decide (i_1385 < (sizeI b_1384))) then
    bif ((decide ((0 : Int) ≤ i_1385)) && (decide (i_1385 < (sizeI b_1384)))) then
      corbelref03_Add_j3 (corbelref03_Add_k0 e0 k) k (bitop .xor .u8 c_1386 (bt b_1384 i_1385)) out_1388
    else none
  else corbelref03_Add_j3 (corbelref03_Add_k0 e0 k) k c_1386 out_1388
def corbelref03_Add_j4 {R : Type} (e0 : Int → Option R) (k : Nat) (i_1411 : Int) : Option R :=
  e0 (wrap64 (i_1411 + (1 : Int)))
def corbelref03_Add_k1 {R : Type} (e0 : Int → List Int → Bool → List Int → Option R) (k : Nat) (i_1380 : Int) : List Int → Bool → List Int → Option R := fun out_1406 hN_1407 h_1408 =>
  corbelref03_Add_j4 (fun i_1418 =>
    e0 i_1418 out_1406 hN_1407 h_1408) k i_1380
def corbelref03_Add_j1 {R : Type} (e0 : Int → List Int → Bool → List Int → Option R) (k : Nat) (a_1378 : ByteArray) (b_1379 : ByteArray) (i_1380 : Int) (out_1382 : List Int) : Option R :=
  bif (decide (i_1380 < (sizeI a_1378))) then
    bif ((decide ((0 : Int) ≤ i_1380)) && (decide (i_1380 < (sizeI a_1378)))) then
      corbelref03_Add_j2 (corbelref03_Add_k1 e0 k i_1380) k b_1379 i_1380 (bt a_1378 i_1380) out_1382
    else none
  else corbelref03_Add_j2 (corbelref03_Add_k1 e0 k i_1380) k b_1379 i_1380 (0 : Int) out_1382
def corbelref03_Add_k2 {R : Type} (rc : Int → List Int → Option R) (e0 : List Int → Option R) (k : Nat) : Int → List Int → Bool → List Int → Option R := fun i_1425 out_1427 hN_1428 h_1429 =>
  rc i_1425 out_1427
def corbelref03_Add_l0s {R : Type} (rc : Int → List Int → Option R) (e0 : List Int → Option R) (k : Nat) (a_1373 : ByteArray) (b_1374 : ByteArray) (i_1375 : Int) (out_1377 : List Int) : Option R :=
  bif (decide (i_1375 < (sizeI a_1373))) then
    corbelref03_Add_j1 (corbelref03_Add_k2 rc e0 k) k a_1373 b_1374 i_1375 out_1377
  else bif (decide (i_1375 < (sizeI b_1374))) then
    corbelref03_Add_j1 (corbelref03_Add_k2 rc e0 k) k a_1373 b_1374 i_1375 out_1377
  else e0 out_1377
def corbelref03_Add_l0 {R : Type} (e0 : List Int → Option R) (k : Nat) (a_1373 : ByteArray) (b_1374 : ByteArray) : Nat → Int → List Int → Option R
  | 0 => fun _ _ => none
  | j + 1 => corbelref03_Add_l0s (corbelref03_Add_l0 e0 k a_1373 b_1374 j) e0 k a_1373 b_1374
def corbelref03_Add (k : Nat) (a_1092 : ByteArray) (b_1093 : ByteArray) : Option ByteArray :=
  corbelref03_Add_l0 (fun out_1431 =>
    some (bytesOf out_1431)) k a_1092 b_1093 k (0 : Int) ([] : List Int)
def corbelref03_Add_p (k : Nat) : PF := { ps := [(false, 1), (false, 1)], rs := [(false, 1)], τ := (.pair .str .str), σ := .str, f := fun x => corbelref03_Add k x.1 x.2 }
def corbelref03_Add_F (k : Nat) : PT := fnone
theorem corbelref03_Add_fok (k : Nat) : FOK Try.prog tab (corbelref03_Add_F k) := fok_none
def corbelref03_Add_c0 : Cl := { keep := [0, 1, 5, 6], hl := 1, ad := [(5, (.int .u8), 5)], adc := [], bump := [] }
def corbelref03_Add_x0 : Cl := { keep := [5], hl := 1, ad := [], adc := [], bump := [] }
def corbelref03_Add_c1 : Cl := { keep := [0, 1, 5, 6], hl := 1, ad := [], adc := [], bump := [] }
def corbelref03_Add_x1 : Cl := { keep := [0, 1, 5, 6], hl := 2, ad := [], adc := [], bump := [] }
def corbelref03_Add_c2 : Cl := { keep := [0, 1, 5, 6, 7], hl := 1, ad := [], adc := [], bump := [] }
def corbelref03_Add_x2 : Cl := { keep := [0, 1, 5, 6], hl := 2, ad := [], adc := [], bump := [] }
def corbelref03_Add_c3 : Cl := { keep := [0, 1, 5, 6, 7], hl := 1, ad := [], adc := [], bump := [] }
def corbelref03_Add_x3 : Cl := { keep := [0, 1, 5, 6], hl := 2, ad := [], adc := [], bump := [] }
def corbelref03_Add_c4 : Cl := { keep := [0, 1, 5, 6], hl := 2, ad := [], adc := [], bump := [] }
def corbelref03_Add_x4 : Cl := { keep := [0, 1, 5, 6], hl := 2, ad := [], adc := [], bump := [] }
def corbelref03_Add_h : Hint := (.sq .no (.sq .no (.sq (.sq .no (.lp corbelref03_Add_c0 corbelref03_Add_x0 0 (.ct corbelref03_Add_c1 corbelref03_Add_x1 1 .no (.ct corbelref03_Add_c4 corbelref03_Add_x4 4 (.sq .no (.ct corbelref03_Add_c2 corbelref03_Add_x2 2 .no (.ct corbelref03_Add_c3 corbelref03_Add_x3 3 .no .no))) .no)))) .no)))
def corbelref03_Add_l0_E0 {R : Type} (K : EX → St → Option R) : Bool → List Int → Option R := fun v0 v1 => K (.exit 0) (mkSt 42 [] corbelref03_Add_x0.keep [.own 0 1] [.lst (.int .u8) 5 v0 1 v1])
def corbelref03_Add_l0_S (a_1373 : ByteArray) (b_1374 : ByteArray) (i_1375 : Int) (outN_1376 : Bool) (out_1377 : List Int) : St := mkSt 42 [] corbelref03_Add_c0.keep [.str a_1373, .str b_1374, .own 0 1, .int .i64 i_1375] [.lst (.int .u8) 5 outN_1376 1 out_1377]
def corbelref03_Add_l0_sh : Rd (List AV × List HE) := .pair (.cons .str (.cons .str (.cons (.own 0 1) (.cons (.int .i64) Rd.nil)))) (.cons (.lst (.int .u8) 5 1) Rd.nil)
def corbelref03_Add_l0_a {R : Type} (k : Nat) : Alt R := { n := 42, v := [], sh := corbelref03_Add_l0_sh, g := fun K x => corbelref03_Add_l0 (fun y1 => corbelref03_Add_l0_E0 K x.2.1.1 y1) k x.1.1 x.1.2.1 k x.1.2.2.2.1 x.2.1.2 }
def corbelref03_Add_j1_E0 {R : Type} (K : EX → St → Option R) : ByteArray → ByteArray → Int → Bool → List Int → Bool → List Int → Option R := fun v0 v1 v2 v3 v4 v5 v6 => K .normal (mkSt 42 [] corbelref03_Add_x1.keep [.str v0, .str v1, .own 0 1, .int .i64 v2] [.lst (.int .u8) 5 v3 1 v4, .lst (.int .u8) 5 v5 1 v6])
def corbelref03_Add_j1_S (a_1378 : ByteArray) (b_1379 : ByteArray) (i_1380 : Int) (outN_1381 : Bool) (out_1382 : List Int) : St := mkSt 42 [] corbelref03_Add_c1.keep [.str a_1378, .str b_1379, .own 0 1, .int .i64 i_1380] [.lst (.int .u8) 5 outN_1381 1 out_1382]
def corbelref03_Add_j1_sh : Rd (List AV × List HE) := .pair (.cons .str (.cons .str (.cons (.own 0 1) (.cons (.int .i64) Rd.nil)))) (.cons (.lst (.int .u8) 5 1) Rd.nil)
def corbelref03_Add_j1_a {R : Type} (k : Nat) : Alt R := { n := 42, v := [], sh := corbelref03_Add_j1_sh, g := fun K x => corbelref03_Add_j1 (fun y2 y4 y5 y6 => corbelref03_Add_j1_E0 K x.1.1 x.1.2.1 y2 x.2.1.1 y4 y5 y6) k x.1.1 x.1.2.1 x.1.2.2.2.1 x.2.1.2 }
def corbelref03_Add_j2_E0 {R : Type} (K : EX → St → Option R) : ByteArray → ByteArray → Int → Bool → List Int → Bool → List Int → Option R := fun v0 v1 v2 v3 v4 v5 v6 => K .normal (mkSt 42 [] corbelref03_Add_x2.keep [.str v0, .str v1, .own 0 1, .int .i64 v2] [.lst (.int .u8) 5 v3 1 v4, .lst (.int .u8) 5 v5 1 v6])
def corbelref03_Add_j2_S (a_1383 : ByteArray) (b_1384 : ByteArray) (i_1385 : Int) (c_1386 : Int) (outN_1387 : Bool) (out_1388 : List Int) : St := mkSt 42 [] corbelref03_Add_c2.keep [.str a_1383, .str b_1384, .own 0 1, .int .i64 i_1385, .int .u8 c_1386] [.lst (.int .u8) 5 outN_1387 1 out_1388]
def corbelref03_Add_j2_sh : Rd (List AV × List HE) := .pair (.cons .str (.cons .str (.cons (.own 0 1) (.cons (.int .i64) (.cons (.int .u8) Rd.nil))))) (.cons (.lst (.int .u8) 5 1) Rd.nil)
def corbelref03_Add_j2_a {R : Type} (k : Nat) : Alt R := { n := 42, v := [], sh := corbelref03_Add_j2_sh, g := fun K x => corbelref03_Add_j2 (fun y4 y5 y6 => corbelref03_Add_j2_E0 K x.1.1 x.1.2.1 x.1.2.2.2.1 x.2.1.1 y4 y5 y6) k x.1.2.1 x.1.2.2.2.1 x.1.2.2.2.2.1 x.2.1.2 }
def corbelref03_Add_j3_E0 {R : Type} (K : EX → St → Option R) : ByteArray → ByteArray → Int → Bool → List Int → Bool → List Int → Option R := fun v0 v1 v2 v3 v4 v5 v6 => K .normal (mkSt 42 [] corbelref03_Add_x3.keep [.str v0, .str v1, .own 0 1, .int .i64 v2] [.lst (.int .u8) 5 v3 1 v4, .lst (.int .u8) 5 v5 1 v6])
def corbelref03_Add_j3_S (a_1389 : ByteArray) (b_1390 : ByteArray) (i_1391 : Int) (c_1392 : Int) (outN_1393 : Bool) (out_1394 : List Int) : St := mkSt 42 [] corbelref03_Add_c3.keep [.str a_1389, .str b_1390, .own 0 1, .int .i64 i_1391, .int .u8 c_1392] [.lst (.int .u8) 5 outN_1393 1 out_1394]
def corbelref03_Add_j3_sh : Rd (List AV × List HE) := .pair (.cons .str (.cons .str (.cons (.own 0 1) (.cons (.int .i64) (.cons (.int .u8) Rd.nil))))) (.cons (.lst (.int .u8) 5 1) Rd.nil)
def corbelref03_Add_j3_a {R : Type} (k : Nat) : Alt R := { n := 42, v := [], sh := corbelref03_Add_j3_sh, g := fun K x => corbelref03_Add_j3 (fun y4 y5 y6 => corbelref03_Add_j3_E0 K x.1.1 x.1.2.1 x.1.2.2.2.1 x.2.1.1 y4 y5 y6) k x.1.2.2.2.2.1 x.2.1.2 }
def corbelref03_Add_j4_E0 {R : Type} (K : EX → St → Option R) : ByteArray → ByteArray → Int → Bool → List Int → Bool → List Int → Option R := fun v0 v1 v2 v3 v4 v5 v6 => K .normal (mkSt 42 [] corbelref03_Add_x4.keep [.str v0, .str v1, .own 0 1, .int .i64 v2] [.lst (.int .u8) 5 v3 1 v4, .lst (.int .u8) 5 v5 1 v6])
def corbelref03_Add_j4_S (a_1409 : ByteArray) (b_1410 : ByteArray) (i_1411 : Int) (outN_1412 : Bool) (out_1413 : List Int) (hN_1414 : Bool) (h_1415 : List Int) : St := mkSt 42 [] corbelref03_Add_c4.keep [.str a_1409, .str b_1410, .own 0 1, .int .i64 i_1411] [.lst (.int .u8) 5 outN_1412 1 out_1413, .lst (.int .u8) 5 hN_1414 1 h_1415]
def corbelref03_Add_j4_sh : Rd (List AV × List HE) := .pair (.cons .str (.cons .str (.cons (.own 0 1) (.cons (.int .i64) Rd.nil)))) (.cons (.lst (.int .u8) 5 1) (.cons (.lst (.int .u8) 5 1) Rd.nil))
def corbelref03_Add_j4_a {R : Type} (k : Nat) : Alt R := { n := 42, v := [], sh := corbelref03_Add_j4_sh, g := fun K x => corbelref03_Add_j4 (fun y2 => corbelref03_Add_j4_E0 K x.1.1 x.1.2.1 y2 x.2.1.1 x.2.1.2 x.2.2.1.1 x.2.2.1.2) k x.1.2.2.2.1 }
def corbelref03_Add_O {R : Type} (k : Nat) : CutK R := cutsO [[corbelref03_Add_l0_a k], [corbelref03_Add_j1_a k], [corbelref03_Add_j2_a k], [corbelref03_Add_j3_a k], [corbelref03_Add_j4_a k]]
noncomputable def corbelref03_Add_b : List Ob := obs (bodyOf Try.f46) corbelref03_Add_h
noncomputable def corbelref03_Add_I {R : Type} (k : Nat) : InlT R := inone
theorem corbelref03_Add_l0_eq {R : Type} (k : Nat) (K : EX → St → Option R) (a_1373 : ByteArray) (b_1374 : ByteArray) (outN_1376 : Bool) : ∀ (j : Nat) (i_1375 : Int) (out_1377 : List Int), corbelref03_Add_l0 (fun y1 => corbelref03_Add_l0_E0 K outN_1376 y1) k a_1373 b_1374 j i_1375 out_1377 = iter corbelref03_Add_c0 corbelref03_Add_x0 (ev tab (corbelref03_Add_F k) (inlK tab (corbelref03_Add_F k) (corbelref03_Add_I k) 0) (corbelref03_Add_O k) (obB corbelref03_Add_b 0) (obH corbelref03_Add_b 0)) j (corbelref03_Add_l0_S a_1373 b_1374 i_1375 outN_1376 out_1377) K
  | 0, _, _ => rfl
  | j + 1, i_1375, out_1377 => by
    have e : corbelref03_Add_l0 (fun y1 => corbelref03_Add_l0_E0 K outN_1376 y1) k a_1373 b_1374 j = fun i_1375 out_1377 => iter corbelref03_Add_c0 corbelref03_Add_x0 (ev tab (corbelref03_Add_F k) (inlK tab (corbelref03_Add_F k) (corbelref03_Add_I k) 0) (corbelref03_Add_O k) (obB corbelref03_Add_b 0) (obH corbelref03_Add_b 0)) j (corbelref03_Add_l0_S a_1373 b_1374 i_1375 outN_1376 out_1377) K := by funext i_1375 out_1377; exact corbelref03_Add_l0_eq k K a_1373 b_1374 outN_1376 j i_1375 out_1377
    show corbelref03_Add_l0s (corbelref03_Add_l0 (fun y1 => corbelref03_Add_l0_E0 K outN_1376 y1) k a_1373 b_1374 j) (fun y1 => corbelref03_Add_l0_E0 K outN_1376 y1) k a_1373 b_1374 i_1375 out_1377 = _
    rw [e, iter_succ]; kernel_rfl
theorem corbelref03_Add_l0_ok {R : Type} (k : Nat)  : ObOK (R := R) tab (corbelref03_Add_F k) (inlK tab (corbelref03_Add_F k) (corbelref03_Add_I k) 0) (corbelref03_Add_O k) (.loop corbelref03_Add_c0 corbelref03_Add_x0 0 (obB corbelref03_Add_b 0) (obH corbelref03_Add_b 0)) :=
  loop_ok (l := [corbelref03_Add_l0_a k]) (by kernel_rfl) ⟨(fun K x => ⟨k, (corbelref03_Add_l0_eq k K x.1.1 x.1.2.1 x.2.1.1 k x.1.2.2.2.1 x.2.1.2).trans (by kernel_rfl)⟩), trivial⟩
theorem corbelref03_Add_j1_eq {R : Type} (k : Nat) (K : EX → St → Option R) (a_1378 : ByteArray) (b_1379 : ByteArray) (i_1380 : Int) (outN_1381 : Bool) (out_1382 : List Int) : corbelref03_Add_j1 (fun y2 y4 y5 y6 => corbelref03_Add_j1_E0 K a_1378 b_1379 y2 outN_1381 y4 y5 y6) k a_1378 b_1379 i_1380 out_1382 = ev tab (corbelref03_Add_F k) (inlK tab (corbelref03_Add_F k) (corbelref03_Add_I k) 0) (corbelref03_Add_O k) (obB corbelref03_Add_b 1) (obH corbelref03_Add_b 1) (corbelref03_Add_j1_S a_1378 b_1379 i_1380 outN_1381 out_1382) (fun e st => optb (clean corbelref03_Add_x1 st) fun st => K e st) := by kernel_rfl
theorem corbelref03_Add_j1_ok {R : Type} (k : Nat)  : ObOK (R := R) tab (corbelref03_Add_F k) (inlK tab (corbelref03_Add_F k) (corbelref03_Add_I k) 0) (corbelref03_Add_O k) (.join corbelref03_Add_c1 corbelref03_Add_x1 1 (obB corbelref03_Add_b 1) (obH corbelref03_Add_b 1)) :=
  join_ok (l := [corbelref03_Add_j1_a k]) (by kernel_rfl) ⟨(fun K x => (corbelref03_Add_j1_eq k K x.1.1 x.1.2.1 x.1.2.2.2.1 x.2.1.1 x.2.1.2).trans (by kernel_rfl)), trivial⟩
theorem corbelref03_Add_j2_eq {R : Type} (k : Nat) (K : EX → St → Option R) (a_1383 : ByteArray) (b_1384 : ByteArray) (i_1385 : Int) (c_1386 : Int) (outN_1387 : Bool) (out_1388 : List Int) : corbelref03_Add_j2 (fun y4 y5 y6 => corbelref03_Add_j2_E0 K a_1383 b_1384 i_1385 outN_1387 y4 y5 y6) k b_1384 i_1385 c_1386 out_1388 = ev tab (corbelref03_Add_F k) (inlK tab (corbelref03_Add_F k) (corbelref03_Add_I k) 0) (corbelref03_Add_O k) (obB corbelref03_Add_b 2) (obH corbelref03_Add_b 2) (corbelref03_Add_j2_S a_1383 b_1384 i_1385 c_1386 outN_1387 out_1388) (fun e st => optb (clean corbelref03_Add_x2 st) fun st => K e st) := by kernel_rfl
theorem corbelref03_Add_j2_ok {R : Type} (k : Nat)  : ObOK (R := R) tab (corbelref03_Add_F k) (inlK tab (corbelref03_Add_F k) (corbelref03_Add_I k) 0) (corbelref03_Add_O k) (.join corbelref03_Add_c2 corbelref03_Add_x2 2 (obB corbelref03_Add_b 2) (obH corbelref03_Add_b 2)) :=
  join_ok (l := [corbelref03_Add_j2_a k]) (by kernel_rfl) ⟨(fun K x => (corbelref03_Add_j2_eq k K x.1.1 x.1.2.1 x.1.2.2.2.1 x.1.2.2.2.2.1 x.2.1.1 x.2.1.2).trans (by kernel_rfl)), trivial⟩
theorem corbelref03_Add_j3_eq {R : Type} (k : Nat) (K : EX → St → Option R) (a_1389 : ByteArray) (b_1390 : ByteArray) (i_1391 : Int) (c_1392 : Int) (outN_1393 : Bool) (out_1394 : List Int) : corbelref03_Add_j3 (fun y4 y5 y6 => corbelref03_Add_j3_E0 K a_1389 b_1390 i_1391 outN_1393 y4 y5 y6) k c_1392 out_1394 = ev tab (corbelref03_Add_F k) (inlK tab (corbelref03_Add_F k) (corbelref03_Add_I k) 0) (corbelref03_Add_O k) (obB corbelref03_Add_b 3) (obH corbelref03_Add_b 3) (corbelref03_Add_j3_S a_1389 b_1390 i_1391 c_1392 outN_1393 out_1394) (fun e st => optb (clean corbelref03_Add_x3 st) fun st => K e st) := by kernel_rfl
theorem corbelref03_Add_j3_ok {R : Type} (k : Nat)  : ObOK (R := R) tab (corbelref03_Add_F k) (inlK tab (corbelref03_Add_F k) (corbelref03_Add_I k) 0) (corbelref03_Add_O k) (.join corbelref03_Add_c3 corbelref03_Add_x3 3 (obB corbelref03_Add_b 3) (obH corbelref03_Add_b 3)) :=
  join_ok (l := [corbelref03_Add_j3_a k]) (by kernel_rfl) ⟨(fun K x => (corbelref03_Add_j3_eq k K x.1.1 x.1.2.1 x.1.2.2.2.1 x.1.2.2.2.2.1 x.2.1.1 x.2.1.2).trans (by kernel_rfl)), trivial⟩
theorem corbelref03_Add_j4_eq {R : Type} (k : Nat) (K : EX → St → Option R) (a_1409 : ByteArray) (b_1410 : ByteArray) (i_1411 : Int) (outN_1412 : Bool) (out_1413 : List Int) (hN_1414 : Bool) (h_1415 : List Int) : corbelref03_Add_j4 (fun y2 => corbelref03_Add_j4_E0 K a_1409 b_1410 y2 outN_1412 out_1413 hN_1414 h_1415) k i_1411 = ev tab (corbelref03_Add_F k) (inlK tab (corbelref03_Add_F k) (corbelref03_Add_I k) 0) (corbelref03_Add_O k) (obB corbelref03_Add_b 4) (obH corbelref03_Add_b 4) (corbelref03_Add_j4_S a_1409 b_1410 i_1411 outN_1412 out_1413 hN_1414 h_1415) (fun e st => optb (clean corbelref03_Add_x4 st) fun st => K e st) := by kernel_rfl
theorem corbelref03_Add_j4_ok {R : Type} (k : Nat)  : ObOK (R := R) tab (corbelref03_Add_F k) (inlK tab (corbelref03_Add_F k) (corbelref03_Add_I k) 0) (corbelref03_Add_O k) (.join corbelref03_Add_c4 corbelref03_Add_x4 4 (obB corbelref03_Add_b 4) (obH corbelref03_Add_b 4)) :=
  join_ok (l := [corbelref03_Add_j4_a k]) (by kernel_rfl) ⟨(fun K x => (corbelref03_Add_j4_eq k K x.1.1 x.1.2.1 x.1.2.2.2.1 x.2.1.1 x.2.1.2 x.2.2.1.1 x.2.2.1.2).trans (by kernel_rfl)), trivial⟩
theorem corbelref03_Add_cuts {R : Type} (k : Nat) : ∀ c, Try.f46.body = some c → CutsOK (R := R) tab (corbelref03_Add_F k) (inlK tab (corbelref03_Add_F k) (corbelref03_Add_I k) 0) (corbelref03_Add_O k) c corbelref03_Add_h :=
  cuts_of (l := [.loop corbelref03_Add_c0 corbelref03_Add_x0 0 (obB corbelref03_Add_b 0) (obH corbelref03_Add_b 0), .join corbelref03_Add_c1 corbelref03_Add_x1 1 (obB corbelref03_Add_b 1) (obH corbelref03_Add_b 1), .join corbelref03_Add_c2 corbelref03_Add_x2 2 (obB corbelref03_Add_b 2) (obH corbelref03_Add_b 2), .join corbelref03_Add_c3 corbelref03_Add_x3 3 (obB corbelref03_Add_b 3) (obH corbelref03_Add_b 3), .join corbelref03_Add_c4 corbelref03_Add_x4 4 (obB corbelref03_Add_b 4) (obH corbelref03_Add_b 4)]) (by kernel_rfl) ⟨corbelref03_Add_l0_ok k, corbelref03_Add_j1_ok k, corbelref03_Add_j2_ok k, corbelref03_Add_j3_ok k, corbelref03_Add_j4_ok k, trivial⟩
theorem corbelref03_Add_iok {R : Type} (k : Nat) : IOK Try.prog tab (corbelref03_Add_F k) (corbelref03_Add_I (R := R) k) := iok_none
theorem corbelref03_Add_ev (k : Nat) (x : (corbelref03_Add_p k).τ.den) : evalF tab (corbelref03_Add_F k) (corbelref03_Add_p k) (corbelref03_Add_I k) 0 (corbelref03_Add_O k) corbelref03_Add_h Try.f46 x = (corbelref03_Add_p k).f x := by kernel_rfl
theorem corbelref03_Add_ok (k : Nat) : PFOK Try.prog tab 46 (corbelref03_Add_p k) := pfok mixed tabOK (corbelref03_Add_fok k) Try.func46 (I := corbelref03_Add_I k) (d := 0) (corbelref03_Add_iok k) (Q := corbelref03_Add_O k) (hi := corbelref03_Add_h) (corbelref03_Add_cuts k) (corbelref03_Add_ev k)
end Go.Proofs.Ytbgcfcojepfdbaa.Ev
