/- stripe_Restore, told on plain data. Written by program. -/
import Derived.Test.YtbgcfcojepfdbaaEstripe_get
import Derived.Test.YtbgcfcojepfdbaaEslices_Clone
import Derived.Test.YtbgcfcojepfdbaaEstripe_Restore_1
import Derived.Test.YtbgcfcojepfdbaaExor_Missing
set_option linter.unusedVariables false
set_option maxRecDepth 1000000
namespace Go.Proofs.Ytbgcfcojepfdbaa.Ev
open Go Go.RowKit Go.Proofs
def stripe_Restore_j0 {R : Type} (e0 : ByteArray → Int → Option R) (e1 : Option R) (k : Nat) (v_1460 : Bool) : Option R :=
  bif v_1460 then
    e0 (⟨#[]⟩ : ByteArray) (1 : Int)
  else e1
def stripe_Restore_i55_1_l0s {R : Type} (rc : Int → Option R) (e0 : Int → Option R) (e1 : Option R) (k : Nat) (v_1474 : Int) (s_1477 : List ByteArray) (v_1475 : Int) : Option R :=
  bif (decide (v_1475 < v_1474)) then
    bif ((decide ((0 : Int) ≤ v_1475)) && (decide (v_1475 < (lenI s_1477)))) then
      optb (s_1477[v_1475.toNat]?) fun x_1482 =>
      optb (stripe_Restore_1 k x_1482) fun r_1483 =>
      bif r_1483 then
        e0 v_1475
      else rc (wrap64 (v_1475 + (1 : Int)))
    else none
  else e1
def stripe_Restore_i55_1_l0 {R : Type} (e0 : Int → Option R) (e1 : Option R) (k : Nat) (v_1474 : Int) (s_1477 : List ByteArray) : Nat → Int → Option R
  | 0 => fun _ => none
  | j + 1 => stripe_Restore_i55_1_l0s (stripe_Restore_i55_1_l0 e0 e1 k v_1474 s_1477 j) e0 e1 k v_1474 s_1477
def stripe_Restore_i55_2_l0s {R : Type} (rc : Int → Option R) (e0 : Int → Option R) (e1 : Option R) (k : Nat) (sb_1498 : List ByteArray) (v_1499 : Int) (v_1500 : Int) : Option R :=
  bif (decide (v_1500 < v_1499)) then
    bif (decide ((0 : Int) ≤ v_1500)) then
      optb (sb_1498[v_1500.toNat]?) fun x_1505 =>
      optb (stripe_Restore_1 k x_1505) fun r_1506 =>
      bif r_1506 then
        e0 v_1500
      else rc (wrap64 (v_1500 + (1 : Int)))
    else none
  else e1
def stripe_Restore_i55_2_l0 {R : Type} (e0 : Int → Option R) (e1 : Option R) (k : Nat) (sb_1498 : List ByteArray) (v_1499 : Int) : Nat → Int → Option R
  | 0 => fun _ => none
  | j + 1 => stripe_Restore_i55_2_l0s (stripe_Restore_i55_2_l0 e0 e1 k sb_1498 v_1499 j) e0 e1 k sb_1498 v_1499
def stripe_Restore_k0 (k : Nat) : ByteArray → Int → Option (ByteArray × Int) := fun v_1465 v_1466 =>
  some (v_1465, v_1466)
def stripe_Restore_k1 (k : Nat) (blocksa_1299 : Bool) (blocksb_1300 : List ByteArray) (parity_1298 : ByteArray) (wanting_1301 : Int) : Option (ByteArray × Int) := 
  optb (slices_Clone k blocksa_1299 blocksb_1300) fun r_1471 =>
  bif ((((decide ((0 : Int) ≤ wanting_1301)) && (decide (wanting_1301 ≤ (wrap64 (wanting_1301 + (1 : Int)))))) && (decide ((wrap64 (wanting_1301 + (1 : Int))) ≤ (lenI r_1471.2)))) && (decide (((0 : Int) + (lenI r_1471.2)) ≤ (lenI r_1471.2)))) then
    bif (decide (wanting_1301 = (wrap64 (wanting_1301 + (1 : Int))))) then
      stripe_Restore_i55_1_l0 (fun v_1484 =>
        bif (decide ((0 : Int) ≤ v_1484)) then
          some ((⟨#[]⟩ : ByteArray), (1 : Int))
        else optb (xor_Missing k parity_1298 r_1471.1 r_1471.2) fun r_1487 =>
        some (r_1487, (0 : Int))) (optb (xor_Missing k parity_1298 r_1471.1 r_1471.2) fun r_1490 =>
        some (r_1490, (0 : Int))) k (lenI r_1471.2) r_1471.2 k (0 : Int)
    else bif ((decide ((0 : Int) ≤ wanting_1301)) && (decide (((0 : Int) + wanting_1301) ≤ (lenI r_1471.2)))) then
      bif (((decide ((0 : Int) ≤ (wrap64 (wanting_1301 + (1 : Int))))) && (decide ((wrap64 (wanting_1301 + (1 : Int))) ≤ (lenI r_1471.2)))) && (decide (((0 : Int) + (lenI r_1471.2)) ≤ (lenI r_1471.2)))) then
        let z_1491 := ((0 : Int) + (wrap64 (wanting_1301 + (1 : Int))))
        let z_1492 := ((lenI r_1471.2) - (wrap64 (wanting_1301 + (1 : Int))))
        bif (decide (((wanting_1301 - (0 : Int)) + (lenI (List.take z_1492.toNat (List.drop z_1491.toNat r_1471.2)))) ≤ (lenI r_1471.2))) then
          let z_1493 := ((wanting_1301 - (0 : Int)) + (lenI (List.take z_1492.toNat (List.drop z_1491.toNat r_1471.2))))
          let z_1494 := (lay r_1471.2 (wanting_1301 - (0 : Int)).toNat (List.take z_1492.toNat (List.drop z_1491.toNat r_1471.2)))
          bif (((decide ((0 : Int) ≤ z_1493)) && (decide (z_1493 ≤ (lenI r_1471.2)))) && (decide (((0 : Int) + (lenI r_1471.2)) ≤ (lenI z_1494)))) then
            let z_1495 := (lay z_1494 ((0 : Int) + z_1493).toNat (List.replicate ((lenI r_1471.2) - z_1493).toNat (Ty.zero .str)))
            let z_1496 := ((z_1495.drop (0 : Int).toNat).take z_1493.toNat)
            stripe_Restore_i55_2_l0 (fun v_1507 =>
              bif (decide ((0 : Int) ≤ v_1507)) then
                some ((⟨#[]⟩ : ByteArray), (1 : Int))
              else optb (xor_Missing k parity_1298 (r_1471.1 && (z_1495.isEmpty)) z_1496) fun r_1508 =>
              some (r_1508, (0 : Int))) (optb (xor_Missing k parity_1298 (r_1471.1 && (z_1495.isEmpty)) z_1496) fun r_1509 =>
              some (r_1509, (0 : Int))) k z_1496 (lenI z_1496) k (0 : Int)
          else none
        else none
      else none
    else none
  else none
def stripe_Restore (k : Nat) (parity_1298 : ByteArray) (blocksa_1299 : Bool) (blocksb_1300 : List ByteArray) (wanting_1301 : Int) : Option (ByteArray × Int) :=
  optb (stripe_get k blocksa_1299 blocksb_1300 wanting_1301) fun r_1455 =>
  bif (!r_1455.2) then
    stripe_Restore_j0 (stripe_Restore_k0 k) (stripe_Restore_k1 k blocksa_1299 blocksb_1300 parity_1298 wanting_1301) k true
  else stripe_Restore_j0 (stripe_Restore_k0 k) (stripe_Restore_k1 k blocksa_1299 blocksb_1300 parity_1298 wanting_1301) k (!(decide ((sizeI parity_1298) = (64 : Int))))
def stripe_Restore_p (k : Nat) : PF := { ps := [(false, 1), (false, 1), (false, 1)], rs := [(false, 1), (false, 1)], τ := (.pair .str (.pair (.sl .str) (.int .i64))), σ := (.pair .str (.int .i64)), f := fun x => stripe_Restore k x.1 x.2.1.1 x.2.1.2 x.2.2 }
def stripe_Restore_F (k : Nat) : PT := fcons 37 (stripe_get_p k) <| fcons 39 (slices_Clone_p k) <| fcons 41 (stripe_Restore_1_p k) <| fcons 42 (xor_Missing_p k) <| fbase [] true
theorem stripe_Restore_fok (k : Nat) : FOK Try.prog tab (stripe_Restore_F k) := fok_cons (stripe_get_ok k) Try.call37 <| fok_cons (slices_Clone_ok k) Try.call39 <| fok_cons (stripe_Restore_1_ok k) Try.call41 <| fok_cons (xor_Missing_ok k) Try.call42 <| fok_base
def stripe_Restore_c0 : Cl := { keep := [0, 1, 2, 23], hl := 0, ad := [], adc := [], bump := [] }
def stripe_Restore_x0 : Cl := { keep := [0, 1, 2, 6, 7], hl := 0, ad := [], adc := [], bump := [] }
def stripe_Restore_h : Hint := (.sq .no (.sq (.sq .no (.ct stripe_Restore_c0 stripe_Restore_x0 0 .no .no)) .no))
def stripe_Restore_j0_E0 {R : Type} (K : EX → St → Option R) : ByteArray → Bool → List ByteArray → Int → ByteArray → Int → Option R := fun v0 v1 v2 v3 v4 v5 => K .ret (mkSt 35 [] stripe_Restore_x0.keep [.str v0, .sl .str v1 v2, .int .i64 v3, .str v4, .int .i64 v5] [])
def stripe_Restore_j0_E1 {R : Type} (K : EX → St → Option R) : ByteArray → Bool → List ByteArray → Int → Option R := fun v0 v1 v2 v3 => K .normal (mkSt 35 [] stripe_Restore_x0.keep [.str v0, .sl .str v1 v2, .int .i64 v3, .junk, .junk] [])
def stripe_Restore_j0_S (parity_1456 : ByteArray) (blocksa_1457 : Bool) (blocksb_1458 : List ByteArray) (wanting_1459 : Int) (v_1460 : Bool) : St := mkSt 35 [] stripe_Restore_c0.keep [.str parity_1456, .sl .str blocksa_1457 blocksb_1458, .int .i64 wanting_1459, .bool v_1460] []
def stripe_Restore_j0_sh : Rd (List AV × List HE) := .pair (.cons .str (.cons (.sl .str) (.cons (.int .i64) (.cons .bool Rd.nil)))) Rd.nil
def stripe_Restore_j0_a {R : Type} (k : Nat) : Alt R := { n := 35, v := [], sh := stripe_Restore_j0_sh, g := fun K x => stripe_Restore_j0 (fun y4 y5 => stripe_Restore_j0_E0 K x.1.1 x.1.2.1.1 x.1.2.1.2 x.1.2.2.1 y4 y5) (stripe_Restore_j0_E1 K x.1.1 x.1.2.1.1 x.1.2.1.2 x.1.2.2.1) k x.1.2.2.2.1 }
def stripe_Restore_O {R : Type} (k : Nat) : CutK R := cutsO [[stripe_Restore_j0_a k]]
noncomputable def stripe_Restore_b : List Ob := obs (bodyOf Try.f12) stripe_Restore_h
def stripe_Restore_i38_1_h : Hint := .no
def stripe_Restore_i38_1_O {R : Type} (k : Nat) : CutK R := cutsO []
def stripe_Restore_i40_1_h : Hint := .no
def stripe_Restore_i40_1_O {R : Type} (k : Nat) : CutK R := cutsO []
def stripe_Restore_i55_1_c0 : Cl := { keep := [0, 1, 7, 8], hl := 1, ad := [], adc := [], bump := [] }
def stripe_Restore_i55_1_x0 : Cl := { keep := [4], hl := 1, ad := [], adc := [], bump := [] }
def stripe_Restore_i55_1_h : Hint := (.sq .no (.sq (.sq .no (.lp stripe_Restore_i55_1_c0 stripe_Restore_i55_1_x0 0 .no)) .no))
def stripe_Restore_i55_1_l0_E0 {R : Type} (K : EX → St → Option R) : Int → Bool → List ByteArray → Option R := fun v0 v1 v2 => K .ret (mkSt 19 [1] stripe_Restore_i55_1_x0.keep [.int .i64 v0] [.lst .str 9 v1 1 v2])
def stripe_Restore_i55_1_l0_E1 {R : Type} (K : EX → St → Option R) : Bool → List ByteArray → Option R := fun v0 v1 => K (.exit 0) (mkSt 19 [1] stripe_Restore_i55_1_x0.keep [.junk] [.lst .str 9 v0 1 v1])
def stripe_Restore_i55_1_l0_S (v_1474 : Int) (v_1475 : Int) (sN_1476 : Bool) (s_1477 : List ByteArray) : St := mkSt 19 [1] stripe_Restore_i55_1_c0.keep [.own 0 1, .fn (.func 41) [] [], .int .i64 v_1474, .int .i64 v_1475] [.lst .str 9 sN_1476 1 s_1477]
def stripe_Restore_i55_1_l0_sh : Rd (List AV × List HE) := .pair (.cons (.own 0 1) (.cons (.fn 41 Rd.nil Rd.nil) (.cons (.int .i64) (.cons (.int .i64) Rd.nil)))) (.cons (.lst .str 9 1) Rd.nil)
def stripe_Restore_i55_1_l0_a {R : Type} (k : Nat) : Alt R := { n := 19, v := [1], sh := stripe_Restore_i55_1_l0_sh, g := fun K x => stripe_Restore_i55_1_l0 (fun y0 => stripe_Restore_i55_1_l0_E0 K y0 x.2.1.1 x.2.1.2) (stripe_Restore_i55_1_l0_E1 K x.2.1.1 x.2.1.2) k x.1.2.2.1 x.2.1.2 k x.1.2.2.2.1 }
def stripe_Restore_i55_1_O {R : Type} (k : Nat) : CutK R := cutsO [[stripe_Restore_i55_1_l0_a k]]
noncomputable def stripe_Restore_i55_1_b : List Ob := obs (bodyOf Try.f55) stripe_Restore_i55_1_h
def stripe_Restore_i40_2_h : Hint := .no
def stripe_Restore_i40_2_O {R : Type} (k : Nat) : CutK R := cutsO []
def stripe_Restore_i55_2_c0 : Cl := { keep := [0, 1, 7, 8], hl := 2, ad := [], adc := [], bump := [] }
def stripe_Restore_i55_2_x0 : Cl := { keep := [4], hl := 2, ad := [], adc := [], bump := [] }
def stripe_Restore_i55_2_h : Hint := (.sq .no (.sq (.sq .no (.lp stripe_Restore_i55_2_c0 stripe_Restore_i55_2_x0 0 .no)) .no))
def stripe_Restore_i55_2_l0_E0 {R : Type} (K : EX → St → Option R) : Int → Option R := fun v0 => K .ret (mkSt 19 [2, 0] stripe_Restore_i55_2_x0.keep [.int .i64 v0] [.dead 2, .dead 0])
def stripe_Restore_i55_2_l0_E1 {R : Type} (K : EX → St → Option R) : Option R := K (.exit 0) (mkSt 19 [2, 0] stripe_Restore_i55_2_x0.keep [.junk] [.dead 2, .dead 0])
def stripe_Restore_i55_2_l0_S (sa_1497 : Bool) (sb_1498 : List ByteArray) (v_1499 : Int) (v_1500 : Int) : St := mkSt 19 [2, 0] stripe_Restore_i55_2_c0.keep [.sl .str sa_1497 sb_1498, .fn (.func 41) [] [], .int .i64 v_1499, .int .i64 v_1500] [.dead 2, .dead 0]
def stripe_Restore_i55_2_l0_sh : Rd (List AV × List HE) := .pair (.cons (.sl .str) (.cons (.fn 41 Rd.nil Rd.nil) (.cons (.int .i64) (.cons (.int .i64) Rd.nil)))) (.cons (.dead 2) (.cons (.dead 0) Rd.nil))
def stripe_Restore_i55_2_l0_a {R : Type} (k : Nat) : Alt R := { n := 19, v := [2, 0], sh := stripe_Restore_i55_2_l0_sh, g := fun K x => stripe_Restore_i55_2_l0 (stripe_Restore_i55_2_l0_E0 K) (stripe_Restore_i55_2_l0_E1 K) k x.1.1.2 x.1.2.2.1 k x.1.2.2.2.1 }
def stripe_Restore_i55_2_O {R : Type} (k : Nat) : CutK R := cutsO [[stripe_Restore_i55_2_l0_a k]]
noncomputable def stripe_Restore_i55_2_b : List Ob := obs (bodyOf Try.f55) stripe_Restore_i55_2_h
noncomputable def stripe_Restore_I {R : Type} (k : Nat) : InlT R := icons 38 1 (stripe_Restore_i38_1_h, Try.f38, deepO 0 (stripe_Restore_i38_1_O k)) <| icons 40 1 (stripe_Restore_i40_1_h, Try.f40, deepO 1 (stripe_Restore_i40_1_O k)) <| icons 55 1 (stripe_Restore_i55_1_h, Try.f55, deepO 0 (stripe_Restore_i55_1_O k)) <| icons 40 2 (stripe_Restore_i40_2_h, Try.f40, deepO 1 (stripe_Restore_i40_2_O k)) <| icons 55 2 (stripe_Restore_i55_2_h, Try.f55, deepO 0 (stripe_Restore_i55_2_O k)) <| inone
theorem stripe_Restore_j0_eq {R : Type} (k : Nat) (K : EX → St → Option R) (parity_1456 : ByteArray) (blocksa_1457 : Bool) (blocksb_1458 : List ByteArray) (wanting_1459 : Int) (v_1460 : Bool) : stripe_Restore_j0 (fun y4 y5 => stripe_Restore_j0_E0 K parity_1456 blocksa_1457 blocksb_1458 wanting_1459 y4 y5) (stripe_Restore_j0_E1 K parity_1456 blocksa_1457 blocksb_1458 wanting_1459) k v_1460 = ev tab (stripe_Restore_F k) (inlK tab (stripe_Restore_F k) (stripe_Restore_I k) 2) (stripe_Restore_O k) (obB stripe_Restore_b 0) (obH stripe_Restore_b 0) (stripe_Restore_j0_S parity_1456 blocksa_1457 blocksb_1458 wanting_1459 v_1460) (fun e st => optb (clean stripe_Restore_x0 st) fun st => K e st) := by kernel_rfl
theorem stripe_Restore_j0_ok {R : Type} (k : Nat)  : ObOK (R := R) tab (stripe_Restore_F k) (inlK tab (stripe_Restore_F k) (stripe_Restore_I k) 2) (stripe_Restore_O k) (.join stripe_Restore_c0 stripe_Restore_x0 0 (obB stripe_Restore_b 0) (obH stripe_Restore_b 0)) :=
  join_ok (l := [stripe_Restore_j0_a k]) (by kernel_rfl) ⟨(fun K x => (stripe_Restore_j0_eq k K x.1.1 x.1.2.1.1 x.1.2.1.2 x.1.2.2.1 x.1.2.2.2.1).trans (by kernel_rfl)), trivial⟩
theorem stripe_Restore_cuts {R : Type} (k : Nat) : ∀ c, Try.f12.body = some c → CutsOK (R := R) tab (stripe_Restore_F k) (inlK tab (stripe_Restore_F k) (stripe_Restore_I k) 2) (stripe_Restore_O k) c stripe_Restore_h :=
  cuts_of (l := [.join stripe_Restore_c0 stripe_Restore_x0 0 (obB stripe_Restore_b 0) (obH stripe_Restore_b 0)]) (by kernel_rfl) ⟨stripe_Restore_j0_ok k, trivial⟩
theorem stripe_Restore_i55_1_l0_eq {R : Type} (k : Nat) (d : Nat) (K : EX → St → Option R) (v_1474 : Int) (sN_1476 : Bool) (s_1477 : List ByteArray) : ∀ (j : Nat) (v_1475 : Int), stripe_Restore_i55_1_l0 (fun y0 => stripe_Restore_i55_1_l0_E0 K y0 sN_1476 s_1477) (stripe_Restore_i55_1_l0_E1 K sN_1476 s_1477) k v_1474 s_1477 j v_1475 = iter stripe_Restore_i55_1_c0 stripe_Restore_i55_1_x0 (ev tab (stripe_Restore_F k) (inlK tab (stripe_Restore_F k) (stripe_Restore_I k) (d + 0)) (deepO 0 (stripe_Restore_i55_1_O k) (d + 0)) (obB stripe_Restore_i55_1_b 0) (obH stripe_Restore_i55_1_b 0)) j (stripe_Restore_i55_1_l0_S v_1474 v_1475 sN_1476 s_1477) K
  | 0, _ => rfl
  | j + 1, v_1475 => by
    have e : stripe_Restore_i55_1_l0 (fun y0 => stripe_Restore_i55_1_l0_E0 K y0 sN_1476 s_1477) (stripe_Restore_i55_1_l0_E1 K sN_1476 s_1477) k v_1474 s_1477 j = fun v_1475 => iter stripe_Restore_i55_1_c0 stripe_Restore_i55_1_x0 (ev tab (stripe_Restore_F k) (inlK tab (stripe_Restore_F k) (stripe_Restore_I k) (d + 0)) (deepO 0 (stripe_Restore_i55_1_O k) (d + 0)) (obB stripe_Restore_i55_1_b 0) (obH stripe_Restore_i55_1_b 0)) j (stripe_Restore_i55_1_l0_S v_1474 v_1475 sN_1476 s_1477) K := by funext v_1475; exact stripe_Restore_i55_1_l0_eq k d K v_1474 sN_1476 s_1477 j v_1475
    show stripe_Restore_i55_1_l0s (stripe_Restore_i55_1_l0 (fun y0 => stripe_Restore_i55_1_l0_E0 K y0 sN_1476 s_1477) (stripe_Restore_i55_1_l0_E1 K sN_1476 s_1477) k v_1474 s_1477 j) (fun y0 => stripe_Restore_i55_1_l0_E0 K y0 sN_1476 s_1477) (stripe_Restore_i55_1_l0_E1 K sN_1476 s_1477) k v_1474 s_1477 v_1475 = _
    rw [e, iter_succ]; kernel_rfl
theorem stripe_Restore_i55_1_l0_ok {R : Type} (k : Nat) (d : Nat)  : ObOK (R := R) tab (stripe_Restore_F k) (inlK tab (stripe_Restore_F k) (stripe_Restore_I k) d) (deepO 0 (stripe_Restore_i55_1_O k) d) (.loop stripe_Restore_i55_1_c0 stripe_Restore_i55_1_x0 0 (obB stripe_Restore_i55_1_b 0) (obH stripe_Restore_i55_1_b 0)) :=
  deep_ob fun hd => by
    obtain ⟨d, rfl⟩ := Nat.exists_eq_add_of_le' hd
    exact loop_ok (l := [stripe_Restore_i55_1_l0_a k]) (by kernel_rfl) ⟨(fun K x => ⟨k, (stripe_Restore_i55_1_l0_eq k d K x.1.2.2.1 x.2.1.1 x.2.1.2 k x.1.2.2.2.1).trans (by kernel_rfl)⟩), trivial⟩
theorem stripe_Restore_i55_1_cuts {R : Type} (k : Nat) : ∀ (d : Nat), ∀ c, Try.f55.body = some c → CutsOK (R := R) tab (stripe_Restore_F k) (inlK tab (stripe_Restore_F k) (stripe_Restore_I k) d) (deepO 0 (stripe_Restore_i55_1_O k) d) c stripe_Restore_i55_1_h :=
  fun d => cuts_of (l := [.loop stripe_Restore_i55_1_c0 stripe_Restore_i55_1_x0 0 (obB stripe_Restore_i55_1_b 0) (obH stripe_Restore_i55_1_b 0)]) (by kernel_rfl) ⟨stripe_Restore_i55_1_l0_ok k d, trivial⟩
theorem stripe_Restore_i55_2_l0_eq {R : Type} (k : Nat) (d : Nat) (K : EX → St → Option R) (sa_1497 : Bool) (sb_1498 : List ByteArray) (v_1499 : Int) : ∀ (j : Nat) (v_1500 : Int), stripe_Restore_i55_2_l0 (stripe_Restore_i55_2_l0_E0 K) (stripe_Restore_i55_2_l0_E1 K) k sb_1498 v_1499 j v_1500 = iter stripe_Restore_i55_2_c0 stripe_Restore_i55_2_x0 (ev tab (stripe_Restore_F k) (inlK tab (stripe_Restore_F k) (stripe_Restore_I k) (d + 0)) (deepO 0 (stripe_Restore_i55_2_O k) (d + 0)) (obB stripe_Restore_i55_2_b 0) (obH stripe_Restore_i55_2_b 0)) j (stripe_Restore_i55_2_l0_S sa_1497 sb_1498 v_1499 v_1500) K
  | 0, _ => rfl
  | j + 1, v_1500 => by
    have e : stripe_Restore_i55_2_l0 (stripe_Restore_i55_2_l0_E0 K) (stripe_Restore_i55_2_l0_E1 K) k sb_1498 v_1499 j = fun v_1500 => iter stripe_Restore_i55_2_c0 stripe_Restore_i55_2_x0 (ev tab (stripe_Restore_F k) (inlK tab (stripe_Restore_F k) (stripe_Restore_I k) (d + 0)) (deepO 0 (stripe_Restore_i55_2_O k) (d + 0)) (obB stripe_Restore_i55_2_b 0) (obH stripe_Restore_i55_2_b 0)) j (stripe_Restore_i55_2_l0_S sa_1497 sb_1498 v_1499 v_1500) K := by funext v_1500; exact stripe_Restore_i55_2_l0_eq k d K sa_1497 sb_1498 v_1499 j v_1500
    show stripe_Restore_i55_2_l0s (stripe_Restore_i55_2_l0 (stripe_Restore_i55_2_l0_E0 K) (stripe_Restore_i55_2_l0_E1 K) k sb_1498 v_1499 j) (stripe_Restore_i55_2_l0_E0 K) (stripe_Restore_i55_2_l0_E1 K) k sb_1498 v_1499 v_1500 = _
    rw [e, iter_succ]; kernel_rfl
theorem stripe_Restore_i55_2_l0_ok {R : Type} (k : Nat) (d : Nat)  : ObOK (R := R) tab (stripe_Restore_F k) (inlK tab (stripe_Restore_F k) (stripe_Restore_I k) d) (deepO 0 (stripe_Restore_i55_2_O k) d) (.loop stripe_Restore_i55_2_c0 stripe_Restore_i55_2_x0 0 (obB stripe_Restore_i55_2_b 0) (obH stripe_Restore_i55_2_b 0)) :=
  deep_ob fun hd => by
    obtain ⟨d, rfl⟩ := Nat.exists_eq_add_of_le' hd
    exact loop_ok (l := [stripe_Restore_i55_2_l0_a k]) (by kernel_rfl) ⟨(fun K x => ⟨k, (stripe_Restore_i55_2_l0_eq k d K x.1.1.1 x.1.1.2 x.1.2.2.1 k x.1.2.2.2.1).trans (by kernel_rfl)⟩), trivial⟩
theorem stripe_Restore_i55_2_cuts {R : Type} (k : Nat) : ∀ (d : Nat), ∀ c, Try.f55.body = some c → CutsOK (R := R) tab (stripe_Restore_F k) (inlK tab (stripe_Restore_F k) (stripe_Restore_I k) d) (deepO 0 (stripe_Restore_i55_2_O k) d) c stripe_Restore_i55_2_h :=
  fun d => cuts_of (l := [.loop stripe_Restore_i55_2_c0 stripe_Restore_i55_2_x0 0 (obB stripe_Restore_i55_2_b 0) (obH stripe_Restore_i55_2_b 0)]) (by kernel_rfl) ⟨stripe_Restore_i55_2_l0_ok k d, trivial⟩
theorem stripe_Restore_iok {R : Type} (k : Nat) : IOK Try.prog tab (stripe_Restore_F k) (stripe_Restore_I (R := R) k) := iok_cons Try.func38 Try.call38 (plainO (by kernel_rfl)) <| iok_cons Try.func40 Try.call40 (plainO (by kernel_rfl)) <| iok_cons Try.func55 Try.call55 (stripe_Restore_i55_1_cuts k) <| iok_cons Try.func40 Try.call40 (plainO (by kernel_rfl)) <| iok_cons Try.func55 Try.call55 (stripe_Restore_i55_2_cuts k) <| iok_none
theorem stripe_Restore_ev (k : Nat) (x : (stripe_Restore_p k).τ.den) : evalF tab (stripe_Restore_F k) (stripe_Restore_p k) (stripe_Restore_I k) 2 (stripe_Restore_O k) stripe_Restore_h Try.f12 x = (stripe_Restore_p k).f x := by kernel_rfl
theorem stripe_Restore_ok (k : Nat) : PFOK Try.prog tab 12 (stripe_Restore_p k) := pfok mixed tabOK (stripe_Restore_fok k) Try.func12 (I := stripe_Restore_I k) (d := 2) (stripe_Restore_iok k) (Q := stripe_Restore_O k) (hi := stripe_Restore_h) (stripe_Restore_cuts k) (stripe_Restore_ev k)
end Go.Proofs.Ytbgcfcojepfdbaa.Ev
