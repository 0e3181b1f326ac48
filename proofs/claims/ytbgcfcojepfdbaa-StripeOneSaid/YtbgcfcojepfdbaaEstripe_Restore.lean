/- stripe_Restore, told on plain data. Written by program. -/
import Derived.Test.YtbgcfcojepfdbaaEstripe_get
import Derived.Test.YtbgcfcojepfdbaaEslices_Clone
import Derived.Test.YtbgcfcojepfdbaaEstripe_Restore_1
import Derived.Test.YtbgcfcojepfdbaaExor_Missing
set_option linter.unusedVariables false
set_option maxRecDepth 1000000
namespace Go.Proofs.Ytbgcfcojepfdbaa.Ev
open Go Go.RowKit Go.Proofs
def stripe_Restore_j0 {R : Type} (e0 : ByteArray → Int → Option R) (e1 : Option R) (k : Nat) (v_20029 : Bool) : Option R :=
  bif v_20029 then
    e0 (⟨#[]⟩ : ByteArray) (1 : Int)
  else e1
def stripe_Restore_i55_1_l0s {R : Type} (rc : Int → Option R) (e0 : Int → Option R) (e1 : Option R) (k : Nat) (v_20043 : Int) (s_20046 : List ByteArray) (v_20044 : Int) : Option R :=
  bif (decide (v_20044 < v_20043)) then
    bif ((decide ((0 : Int) ≤ v_20044)) && (decide (v_20044 < (lenI s_20046)))) then
      optb (s_20046[v_20044.toNat]?) fun x_20051 =>
      optb (stripe_Restore_1 k x_20051) fun r_20052 =>
      bif r_20052 then
        e0 v_20044
      else rc (wrap64 (v_20044 + (1 : Int)))
    else none
  else e1
def stripe_Restore_i55_1_l0 {R : Type} (e0 : Int → Option R) (e1 : Option R) (k : Nat) (v_20043 : Int) (s_20046 : List ByteArray) : Nat → Int → Option R
  | 0 => fun _ => none
  | j + 1 => stripe_Restore_i55_1_l0s (stripe_Restore_i55_1_l0 e0 e1 k v_20043 s_20046 j) e0 e1 k v_20043 s_20046
def stripe_Restore_i55_2_l0s {R : Type} (rc : Int → Option R) (e0 : Int → Option R) (e1 : Option R) (k : Nat) (sb_20067 : List ByteArray) (v_20068 : Int) (v_20069 : Int) : Option R :=
  bif (decide (v_20069 < v_20068)) then
    bif (decide ((0 : Int) ≤ v_20069)) then
      optb (sb_20067[v_20069.toNat]?) fun x_20074 =>
      optb (stripe_Restore_1 k x_20074) fun r_20075 =>
      bif r_20075 then
        e0 v_20069
      else rc (wrap64 (v_20069 + (1 : Int)))
    else none
  else e1
def stripe_Restore_i55_2_l0 {R : Type} (e0 : Int → Option R) (e1 : Option R) (k : Nat) (sb_20067 : List ByteArray) (v_20068 : Int) : Nat → Int → Option R
  | 0 => fun _ => none
  | j + 1 => stripe_Restore_i55_2_l0s (stripe_Restore_i55_2_l0 e0 e1 k sb_20067 v_20068 j) e0 e1 k sb_20067 v_20068
def stripe_Restore_k0 (k : Nat) : ByteArray → Int → Option (ByteArray × Int) := fun v_20034 v_20035 =>
  some (v_20034, v_20035)
def stripe_Restore_k1 (k : Nat) (blocksa_19868 : Bool) (blocksb_19869 : List ByteArray) (parity_19867 : ByteArray) (wanting_19870 : Int) : Option (ByteArray × Int) := 
  optb (slices_Clone k blocksa_19868 blocksb_19869) fun r_20040 =>
  bif ((((decide ((0 : Int) ≤ wanting_19870)) && (decide (wanting_19870 ≤ (wrap64 (wanting_19870 + (1 : Int)))))) && (decide ((wrap64 (wanting_19870 + (1 : Int))) ≤ (lenI r_20040.2)))) && (decide (((0 : Int) + (lenI r_20040.2)) ≤ (lenI r_20040.2)))) then
    bif (decide (wanting_19870 = (wrap64 (wanting_19870 + (1 : Int))))) then
      stripe_Restore_i55_1_l0 (fun v_20053 =>
        bif (decide ((0 : Int) ≤ v_20053)) then
          some ((⟨#[]⟩ : ByteArray), (1 : Int))
        else optb (xor_Missing k parity_19867 r_20040.1 r_20040.2) fun r_20056 =>
        some (r_20056, (0 : Int))) (optb (xor_Missing k parity_19867 r_20040.1 r_20040.2) fun r_20059 =>
        some (r_20059, (0 : Int))) k (lenI r_20040.2) r_20040.2 k (0 : Int)
    else bif ((decide ((0 : Int) ≤ wanting_19870)) && (decide (((0 : Int) + wanting_19870) ≤ (lenI r_20040.2)))) then
      bif (((decide ((0 : Int) ≤ (wrap64 (wanting_19870 + (1 : Int))))) && (decide ((wrap64 (wanting_19870 + (1 : Int))) ≤ (lenI r_20040.2)))) && (decide (((0 : Int) + (lenI r_20040.2)) ≤ (lenI r_20040.2)))) then
        let z_20060 := ((0 : Int) + (wrap64 (wanting_19870 + (1 : Int))))
        let z_20061 := ((lenI r_20040.2) - (wrap64 (wanting_19870 + (1 : Int))))
        bif (decide (((wanting_19870 - (0 : Int)) + (lenI (List.take z_20061.toNat (List.drop z_20060.toNat r_20040.2)))) ≤ (lenI r_20040.2))) then
          let z_20062 := ((wanting_19870 - (0 : Int)) + (lenI (List.take z_20061.toNat (List.drop z_20060.toNat r_20040.2))))
          let z_20063 := (lay r_20040.2 (wanting_19870 - (0 : Int)).toNat (List.take z_20061.toNat (List.drop z_20060.toNat r_20040.2)))
          bif (((decide ((0 : Int) ≤ z_20062)) && (decide (z_20062 ≤ (lenI r_20040.2)))) && (decide (((0 : Int) + (lenI r_20040.2)) ≤ (lenI z_20063)))) then
            let z_20064 := (lay z_20063 ((0 : Int) + z_20062).toNat (List.replicate ((lenI r_20040.2) - z_20062).toNat (Ty.zero .str)))
            let z_20065 := ((z_20064.drop (0 : Int).toNat).take z_20062.toNat)
            stripe_Restore_i55_2_l0 (fun v_20076 =>
              bif (decide ((0 : Int) ≤ v_20076)) then
                some ((⟨#[]⟩ : ByteArray), (1 : Int))
              else optb (xor_Missing k parity_19867 (r_20040.1 && (z_20064.isEmpty)) z_20065) fun r_20077 =>
              some (r_20077, (0 : Int))) (optb (xor_Missing k parity_19867 (r_20040.1 && (z_20064.isEmpty)) z_20065) fun r_20078 =>
              some (r_20078, (0 : Int))) k z_20065 (lenI z_20065) k (0 : Int)
          else none
        else none
      else none
    else none
  else none
def stripe_Restore (k : Nat) (parity_19867 : ByteArray) (blocksa_19868 : Bool) (blocksb_19869 : List ByteArray) (wanting_19870 : Int) : Option (ByteArray × Int) :=
  optb (stripe_get k blocksa_19868 blocksb_19869 wanting_19870) fun r_20024 =>
  bif (!r_20024.2) then
    stripe_Restore_j0 (stripe_Restore_k0 k) (stripe_Restore_k1 k blocksa_19868 blocksb_19869 parity_19867 wanting_19870) k true
  else stripe_Restore_j0 (stripe_Restore_k0 k) (stripe_Restore_k1 k blocksa_19868 blocksb_19869 parity_19867 wanting_19870) k (!(decide ((sizeI parity_19867) = (64 : Int))))
def stripe_Restore_p (k : Nat) : PF := { ps := [(false, 1), (false, 1), (false, 1)], rs := [(false, 1), (false, 1)], τ := (.pair .str (.pair (.sl .str) (.int .i64))), σ := (.pair .str (.int .i64)), f := fun x => stripe_Restore k x.1 x.2.1.1 x.2.1.2 x.2.2 }
def stripe_Restore_F (k : Nat) : PT := fcons 37 (stripe_get_p k) <| fcons 39 (slices_Clone_p k) <| fcons 41 (stripe_Restore_1_p k) <| fcons 42 (xor_Missing_p k) <| fbase [] true
theorem stripe_Restore_fok (k : Nat) : FOK Try.prog tab (stripe_Restore_F k) := fok_cons (stripe_get_ok k) Try.call37 <| fok_cons (slices_Clone_ok k) Try.call39 <| fok_cons (stripe_Restore_1_ok k) Try.call41 <| fok_cons (xor_Missing_ok k) Try.call42 <| fok_base
def stripe_Restore_c0 : Cl := { keep := [0, 1, 2, 23], hl := 0, ad := [], adc := [], bump := [] }
def stripe_Restore_x0 : Cl := { keep := [0, 1, 2, 6, 7], hl := 0, ad := [], adc := [], bump := [] }
def stripe_Restore_h : Hint := (.sq .no (.sq (.sq .no (.ct stripe_Restore_c0 stripe_Restore_x0 0 .no .no)) .no))
def stripe_Restore_j0_E0 {R : Type} (K : EX → St → Option R) : ByteArray → Bool → List ByteArray → Int → ByteArray → Int → Option R := fun v0 v1 v2 v3 v4 v5 => K .ret (mkSt 35 [] stripe_Restore_x0.keep [.str v0, .sl .str v1 v2, .int .i64 v3, .str v4, .int .i64 v5] [])
def stripe_Restore_j0_E1 {R : Type} (K : EX → St → Option R) : ByteArray → Bool → List ByteArray → Int → Option R := fun v0 v1 v2 v3 => K .normal (mkSt 35 [] stripe_Restore_x0.keep [.str v0, .sl .str v1 v2, .int .i64 v3, .junk, .junk] [])
def stripe_Restore_j0_S (parity_20025 : ByteArray) (blocksa_20026 : Bool) (blocksb_20027 : List ByteArray) (wanting_20028 : Int) (v_20029 : Bool) : St := mkSt 35 [] stripe_Restore_c0.keep [.str parity_20025, .sl .str blocksa_20026 blocksb_20027, .int .i64 wanting_20028, .bool v_20029] []
def stripe_Restore_j0_sh : Rd (List AV × List HE) := .pair (.cons .str (.cons (.sl .str) (.cons (.int .i64) (.cons .bool Rd.nil)))) Rd.nil
def stripe_Restore_j0_a {R : Type} (k : Nat) : Alt R := { n := 35, v := [], sh := stripe_Restore_j0_sh, g := fun K x => stripe_Restore_j0 (fun y4 y5 => stripe_Restore_j0_E0 K x.1.1 x.1.2.1.1 x.1.2.1.2 x.1.2.2.1 y4 y5) (stripe_Restore_j0_E1 K x.1.1 x.1.2.1.1 x.1.2.1.2 x.1.2.2.1) k x.1.2.2.2.1 }
def stripe_Restore_O {R : Type} (k : Nat) : CutK R := cutsO [[stripe_Restore_j0_a k]]
noncomputable def stripe_Restore_b : List Ob := obs (bodyOf Try.f12) stripe_Restore_h
def stripe_Restore_i38_1_h : Hint := .no
def stripe_Restore_i38_1_O {R : Type} (k : Nat) : CutK R := cutsO []
def stripe_Restore_i40_1_h : Hint := .no
def stripe_Restore_i40_1_O {R : Type} (k : Nat) : CutK R := cutsO []
def stripe_Restore_i55_1_c0 : Cl := { keep := [0, 1, 7, 8], hl := 1, ad := [], adc := [], bump := [] }
def stripe_Restore_i55_1_x0 : Cl := { keep := [4], hl := 1, ad := [], adc := [], bump := [] }
def stripe_Restore_i55_1_h : Hint := (.sq .no (.sq (.sq .no (.lp stripe_Restore_i55_1_c0 stripe_Restore_i55_1_x0 0 .no)) .no))
def stripe_Restore_i55_1_l0_E0 {R : Type} (K : EX → St → Option R) : Int → Bool → List ByteArray → Option R := fun v0 v1 v2 => K .ret (mkSt 19 [1] stripe_Restore_i55_1_x0.keep [.int .i64 v0] [.lst .str 9 v1 1 v2])
def stripe_Restore_i55_1_l0_E1 {R : Type} (K : EX → St → Option R) : Bool → List ByteArray → Option R := fun v0 v1 => K (.exit 0) (mkSt 19 [1] stripe_Restore_i55_1_x0.keep [.junk] [.lst .str 9 v0 1 v1])
def stripe_Restore_i55_1_l0_S (v_20043 : Int) (v_20044 : Int) (sN_20045 : Bool) (s_20046 : List ByteArray) : St := mkSt 19 [1] stripe_Restore_i55_1_c0.keep [.own 0 1, .fn (.func 41) [] [], .int .i64 v_20043, .int .i64 v_20044] [.lst .str 9 sN_20045 1 s_20046]
def stripe_Restore_i55_1_l0_sh : Rd (List AV × List HE) := .pair (.cons (.own 0 1) (.cons (.fn 41 Rd.nil Rd.nil) (.cons (.int .i64) (.cons (.int .i64) Rd.nil)))) (.cons (.lst .str 9 1) Rd.nil)
def stripe_Restore_i55_1_l0_a {R : Type} (k : Nat) : Alt R := { n := 19, v := [1], sh := stripe_Restore_i55_1_l0_sh, g := fun K x => stripe_Restore_i55_1_l0 (fun y0 => stripe_Restore_i55_1_l0_E0 K y0 x.2.1.1 x.2.1.2) (stripe_Restore_i55_1_l0_E1 K x.2.1.1 x.2.1.2) k x.1.2.2.1 x.2.1.2 k x.1.2.2.2.1 }
def stripe_Restore_i55_1_O {R : Type} (k : Nat) : CutK R := cutsO [[stripe_Restore_i55_1_l0_a k]]
noncomputable def stripe_Restore_i55_1_b : List Ob := obs (bodyOf Try.f55) stripe_Restore_i55_1_h
def stripe_Restore_i40_2_h : Hint := .no
def stripe_Restore_i40_2_O {R : Type} (k : Nat) : CutK R := cutsO []
def stripe_Restore_i55_2_c0 : Cl := { keep := [0, 1, 7, 8], hl := 2, ad := [], adc := [], bump := [] }
def stripe_Restore_i55_2_x0 : Cl := { keep := [4], hl := 2, ad := [], adc := [], bump := [] }
def stripe_Restore_i55_2_h : Hint := (.sq .no (.sq (.sq .no (.lp stripe_Restore_i55_2_c0 stripe_Restore_i55_2_x0 0 .no)) .no))
def stripe_Restore_i55_2_l0_E0 {R : Type} (K : EX → St → Option R) : Int → Option R := fun v0 => K .ret (mkSt 19 [2, 0] stripe_Restore_i55_2_x0.keep [.int .i64 v0] [.dead 2, .dead 0])
def stripe_Restore_i55_2_l0_E1 {R : Type} (K : EX → St → Option R) : Option R := K (.exit 0) (mkSt 19 [2, 0] stripe_Restore_i55_2_x0.keep [.junk] [.dead 2, .dead 0])
def stripe_Restore_i55_2_l0_S (sa_20066 : Bool) (sb_20067 : List ByteArray) (v_20068 : Int) (v_20069 : Int) : St := mkSt 19 [2, 0] stripe_Restore_i55_2_c0.keep [.sl .str sa_20066 sb_20067, .fn (.func 41) [] [], .int .i64 v_20068, .int .i64 v_20069] [.dead 2, .dead 0]
def stripe_Restore_i55_2_l0_sh : Rd (List AV × List HE) := .pair (.cons (.sl .str) (.cons (.fn 41 Rd.nil Rd.nil) (.cons (.int .i64) (.cons (.int .i64) Rd.nil)))) (.cons (.dead 2) (.cons (.dead 0) Rd.nil))
def stripe_Restore_i55_2_l0_a {R : Type} (k : Nat) : Alt R := { n := 19, v := [2, 0], sh := stripe_Restore_i55_2_l0_sh, g := fun K x => stripe_Restore_i55_2_l0 (stripe_Restore_i55_2_l0_E0 K) (stripe_Restore_i55_2_l0_E1 K) k x.1.1.2 x.1.2.2.1 k x.1.2.2.2.1 }
def stripe_Restore_i55_2_O {R : Type} (k : Nat) : CutK R := cutsO [[stripe_Restore_i55_2_l0_a k]]
noncomputable def stripe_Restore_i55_2_b : List Ob := obs (bodyOf Try.f55) stripe_Restore_i55_2_h
noncomputable def stripe_Restore_I {R : Type} (k : Nat) : InlT R := icons 38 1 (stripe_Restore_i38_1_h, Try.f38, deepO 0 (stripe_Restore_i38_1_O k)) <| icons 40 1 (stripe_Restore_i40_1_h, Try.f40, deepO 1 (stripe_Restore_i40_1_O k)) <| icons 55 1 (stripe_Restore_i55_1_h, Try.f55, deepO 0 (stripe_Restore_i55_1_O k)) <| icons 40 2 (stripe_Restore_i40_2_h, Try.f40, deepO 1 (stripe_Restore_i40_2_O k)) <| icons 55 2 (stripe_Restore_i55_2_h, Try.f55, deepO 0 (stripe_Restore_i55_2_O k)) <| inone
theorem stripe_Restore_j0_eq {R : Type} (k : Nat) (K : EX → St → Option R) (parity_20025 : ByteArray) (blocksa_20026 : Bool) (blocksb_20027 : List ByteArray) (wanting_20028 : Int) (v_20029 : Bool) : stripe_Restore_j0 (fun y4 y5 => stripe_Restore_j0_E0 K parity_20025 blocksa_20026 blocksb_20027 wanting_20028 y4 y5) (stripe_Restore_j0_E1 K parity_20025 blocksa_20026 blocksb_20027 wanting_20028) k v_20029 = ev tab (stripe_Restore_F k) (inlK tab (stripe_Restore_F k) (stripe_Restore_I k) 2) (stripe_Restore_O k) (obB stripe_Restore_b 0) (obH stripe_Restore_b 0) (stripe_Restore_j0_S parity_20025 blocksa_20026 blocksb_20027 wanting_20028 v_20029) (fun e st => optb (clean stripe_Restore_x0 st) fun st => K e st) := by kernel_rfl
theorem stripe_Restore_j0_ok {R : Type} (k : Nat)  : ObOK (R := R) tab (stripe_Restore_F k) (inlK tab (stripe_Restore_F k) (stripe_Restore_I k) 2) (stripe_Restore_O k) (.join stripe_Restore_c0 stripe_Restore_x0 0 (obB stripe_Restore_b 0) (obH stripe_Restore_b 0)) :=
  join_ok (l := [stripe_Restore_j0_a k]) (by kernel_rfl) ⟨(fun K x => (stripe_Restore_j0_eq k K x.1.1 x.1.2.1.1 x.1.2.1.2 x.1.2.2.1 x.1.2.2.2.1).trans (by kernel_rfl)), trivial⟩
theorem stripe_Restore_cuts {R : Type} (k : Nat) : ∀ c, Try.f12.body = some c → CutsOK (R := R) tab (stripe_Restore_F k) (inlK tab (stripe_Restore_F k) (stripe_Restore_I k) 2) (stripe_Restore_O k) c stripe_Restore_h :=
  cuts_of (l := [.join stripe_Restore_c0 stripe_Restore_x0 0 (obB stripe_Restore_b 0) (obH stripe_Restore_b 0)]) (by kernel_rfl) ⟨stripe_Restore_j0_ok k, trivial⟩
theorem stripe_Restore_i55_1_l0_eq {R : Type} (k : Nat) (d : Nat) (K : EX → St → Option R) (v_20043 : Int) (sN_20045 : Bool) (s_20046 : List ByteArray) : ∀ (j : Nat) (v_20044 : Int), stripe_Restore_i55_1_l0 (fun y0 => stripe_Restore_i55_1_l0_E0 K y0 sN_20045 s_20046) (stripe_Restore_i55_1_l0_E1 K sN_20045 s_20046) k v_20043 s_20046 j v_20044 = iter stripe_Restore_i55_1_c0 stripe_Restore_i55_1_x0 (ev tab (stripe_Restore_F k) (inlK tab (stripe_Restore_F k) (stripe_Restore_I k) (d + 0)) (deepO 0 (stripe_Restore_i55_1_O k) (d + 0)) (obB stripe_Restore_i55_1_b 0) (obH stripe_Restore_i55_1_b 0)) j (stripe_Restore_i55_1_l0_S v_20043 v_20044 sN_20045 s_20046) K
  | 0, _ => rfl
  | j + 1, v_20044 => by
    have e : stripe_Restore_i55_1_l0 (fun y0 => stripe_Restore_i55_1_l0_E0 K y0 sN_20045 s_20046) (stripe_Restore_i55_1_l0_E1 K sN_20045 s_20046) k v_20043 s_20046 j = fun v_20044 => iter stripe_Restore_i55_1_c0 stripe_Restore_i55_1_x0 (ev tab (stripe_Restore_F k) (inlK tab (stripe_Restore_F k) (stripe_Restore_I k) (d + 0)) (deepO 0 (stripe_Restore_i55_1_O k) (d + 0)) (obB stripe_Restore_i55_1_b 0) (obH stripe_Restore_i55_1_b 0)) j (stripe_Restore_i55_1_l0_S v_20043 v_20044 sN_20045 s_20046) K := by funext v_20044; exact stripe_Restore_i55_1_l0_eq k d K v_20043 sN_20045 s_20046 j v_20044
    show stripe_Restore_i55_1_l0s (stripe_Restore_i55_1_l0 (fun y0 => stripe_Restore_i55_1_l0_E0 K y0 sN_20045 s_20046) (stripe_Restore_i55_1_l0_E1 K sN_20045 s_20046) k v_20043 s_20046 j) (fun y0 => stripe_Restore_i55_1_l0_E0 K y0 sN_20045 s_20046) (stripe_Restore_i55_1_l0_E1 K sN_20045 s_20046) k v_20043 s_20046 v_20044 = _
    rw [e, iter_succ]; kernel_rfl
theorem stripe_Restore_i55_1_l0_ok {R : Type} (k : Nat) (d : Nat)  : ObOK (R := R) tab (stripe_Restore_F k) (inlK tab (stripe_Restore_F k) (stripe_Restore_I k) d) (deepO 0 (stripe_Restore_i55_1_O k) d) (.loop stripe_Restore_i55_1_c0 stripe_Restore_i55_1_x0 0 (obB stripe_Restore_i55_1_b 0) (obH stripe_Restore_i55_1_b 0)) :=
  deep_ob fun hd => by
    obtain ⟨d, rfl⟩ := Nat.exists_eq_add_of_le' hd
    exact loop_ok (l := [stripe_Restore_i55_1_l0_a k]) (by kernel_rfl) ⟨(fun K x => ⟨k, (stripe_Restore_i55_1_l0_eq k d K x.1.2.2.1 x.2.1.1 x.2.1.2 k x.1.2.2.2.1).trans (by kernel_rfl)⟩), trivial⟩
theorem stripe_Restore_i55_1_cuts {R : Type} (k : Nat) : ∀ (d : Nat), ∀ c, Try.f55.body = some c → CutsOK (R := R) tab (stripe_Restore_F k) (inlK tab (stripe_Restore_F k) (stripe_Restore_I k) d) (deepO 0 (stripe_Restore_i55_1_O k) d) c stripe_Restore_i55_1_h :=
  fun d => cuts_of (l := [.loop stripe_Restore_i55_1_c0 stripe_Restore_i55_1_x0 0 (obB stripe_Restore_i55_1_b 0) (obH stripe_Restore_i55_1_b 0)]) (by kernel_rfl) ⟨stripe_Restore_i55_1_l0_ok k d, trivial⟩
theorem stripe_Restore_i55_2_l0_eq {R : Type} (k : Nat) (d : Nat) (K : EX → St → Option R) (sa_20066 : Bool) (sb_20067 : List ByteArray) (v_20068 : Int) : ∀ (j : Nat) (v_20069 : Int), stripe_Restore_i55_2_l0 (stripe_Restore_i55_2_l0_E0 K) (stripe_Restore_i55_2_l0_E1 K) k sb_20067 v_20068 j v_20069 = iter stripe_Restore_i55_2_c0 stripe_Restore_i55_2_x0 (ev tab (stripe_Restore_F k) (inlK tab (stripe_Restore_F k) (stripe_Restore_I k) (d + 0)) (deepO 0 (stripe_Restore_i55_2_O k) (d + 0)) (obB stripe_Restore_i55_2_b 0) (obH stripe_Restore_i55_2_b 0)) j (stripe_Restore_i55_2_l0_S sa_20066 sb_20067 v_20068 v_20069) K
  | 0, _ => rfl
  | j + 1, v_20069 => by
    have e : stripe_Restore_i55_2_l0 (stripe_Restore_i55_2_l0_E0 K) (stripe_Restore_i55_2_l0_E1 K) k sb_20067 v_20068 j = fun v_20069 => iter stripe_Restore_i55_2_c0 stripe_Restore_i55_2_x0 (ev tab (stripe_Restore_F k) (inlK tab (stripe_Restore_F k) (stripe_Restore_I k) (d + 0)) (deepO 0 (stripe_Restore_i55_2_O k) (d + 0)) (obB stripe_Restore_i55_2_b 0) (obH stripe_Restore_i55_2_b 0)) j (stripe_Restore_i55_2_l0_S sa_20066 sb_20067 v_20068 v_20069) K := by funext v_20069; exact stripe_Restore_i55_2_l0_eq k d K sa_20066 sb_20067 v_20068 j v_20069
    show stripe_Restore_i55_2_l0s (stripe_Restore_i55_2_l0 (stripe_Restore_i55_2_l0_E0 K) (stripe_Restore_i55_2_l0_E1 K) k sb_20067 v_20068 j) (stripe_Restore_i55_2_l0_E0 K) (stripe_Restore_i55_2_l0_E1 K) k sb_20067 v_20068 v_20069 = _
    rw [e, iter_succ]; kernel_rfl
theorem stripe_Restore_i55_2_l0_ok {R : Type} (k : Nat) (d : Nat)  : ObOK (R := R) tab (stripe_Restore_F k) (inlK tab (stripe_Restore_F k) (stripe_Restore_I k) d) (deepO 0 (stripe_Restore_i55_2_O k) d) (.loop stripe_Restore_i55_2_c0 stripe_Restore_i55_2_x0 0 (obB stripe_Restore_i55_2_b 0) (obH stripe_Restore_i55_2_b 0)) :=
  deep_ob fun hd => by
    obtain ⟨d, rfl⟩ := Nat.exists_eq_add_of_le' hd
    exact loop_ok (l := [stripe_Restore_i55_2_l0_a k]) (by kernel_rfl) ⟨(fun K x => ⟨k, (stripe_Restore_i55_2_l0_eq k d K x.1.1.1 x.1.1.2 x.1.2.2.1 k x.1.2.2.2.1).trans (by kernel_rfl)⟩), trivial⟩
theorem stripe_Restore_i55_2_cuts {R : Type} (k : Nat) : ∀ (d : Nat), ∀ c, Try.f55.body = some c → CutsOK (R := R) tab (stripe_Restore_F k) (inlK tab (stripe_Restore_F k) (stripe_Restore_I k) d) (deepO 0 (stripe_Restore_i55_2_O k) d) c stripe_Restore_i55_2_h :=
  fun d => cuts_of (l := [.loop stripe_Restore_i55_2_c0 stripe_Restore_i55_2_x0 0 (obB stripe_Restore_i55_2_b 0) (obH stripe_Restore_i55_2_b 0)]) (by kernel_rfl) ⟨stripe_Restore_i55_2_l0_ok k d, trivial⟩
theorem stripe_Restore_iok {R : Type} (k : Nat) : IOK Try.prog tab (stripe_Restore_F k) (stripe_Restore_I (R := R) k) := iok_cons Try.func38 Try.call38 (plainO (by kernel_rfl)) <| iok_cons Try.func40 Try.call40 (plainO (by kernel_rfl)) <| iok_cons Try.func55 Try.call55 (stripe_Restore_i55_1_cuts k) <| iok_cons Try.func40 Try.call40 (plainO (by kernel_rfl)) <| iok_cons Try.func55 Try.call55 (stripe_Restore_i55_2_cuts k) <| iok_none
theorem stripe_Restore_ev (k : Nat) (x : (stripe_Restore_p k).τ.den) : evalF tab (stripe_Restore_F k) (stripe_Restore_p k) (stripe_Restore_I k) 2 (stripe_Restore_O k) stripe_Restore_h Try.f12 x = (stripe_Restore_p k).f x := by kernel_rfl
theorem stripe_Restore_ok (k : Nat) : PFOK Try.prog tab 12 (stripe_Restore_p k) := pfok mixed tabOK (stripe_Restore_fok k) Try.func12 (I := stripe_Restore_I k) (d := 2) (stripe_Restore_iok k) (Q := stripe_Restore_O k) (hi := stripe_Restore_h) (stripe_Restore_cuts k) (stripe_Restore_ev k)
end Go.Proofs.Ytbgcfcojepfdbaa.Ev
