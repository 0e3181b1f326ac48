/- corbelref19_Live, told on plain data. Written by program. -/
import Derived.Test.YtbaikphpohdmoaaEcorbelref19_Newest
set_option linter.unusedVariables false
set_option maxRecDepth 1000000
namespace Go.Proofs.Ytbaikphpohdmoaa.Ev
open Go Go.RowKit Go.Proofs
noncomputable def corbelref19_Live_j4 {R : Type} (e0 : Int → Option R) (k : Nat) (i_13206 : Int) : Option R :=
  e0 (wrap64 (i_13206 + (1 : Int)))
noncomputable def corbelref19_Live_j3 {R : Type} (e0 : Int → Option R) (k : Nat) (k_13236 : Int) : Option R :=
  e0 (wrap64 (k_13236 + (1 : Int)))
noncomputable def corbelref19_Live_k1 {R : Type} (rc : Int → Option R) (e0 : Int → Option R) (k : Nat) : Int → Option R := fun k_13243 =>
  rc k_13243
noncomputable def corbelref19_Live_l2s {R : Type} (rc : Int → Option R) (e0 : Int → Option R) (k : Nat) (lb_13222 : List (Int × (Int × (Int × (Int × (Int × Bool)))))) (outb_13225 : List (Int × (Int × (Int × (Int × (Int × Bool)))))) (i_13226 : Int) (k_13227 : Int) : Option R :=
  bif (decide (k_13227 < (lenI outb_13225))) then
    bif (decide ((0 : Int) ≤ k_13227)) then
      optb (outb_13225[k_13227.toNat]?) fun x_13228 =>
      bif (decide ((0 : Int) ≤ i_13226)) then
        optb (lb_13222[i_13226.toNat]?) fun x_13229 =>
        bif (decide (x_13228.2.1 < x_13229.2.1)) then
          corbelref19_Live_j3 (corbelref19_Live_k1 rc e0 k) k k_13227
        else bif (decide ((0 : Int) ≤ k_13227)) then
          optb (outb_13225[k_13227.toNat]?) fun x_13244 =>
          bif (decide ((0 : Int) ≤ i_13226)) then
            optb (lb_13222[i_13226.toNat]?) fun x_13245 =>
            bif (decide (x_13244.2.1 = x_13245.2.1)) then
              bif (decide ((0 : Int) ≤ k_13227)) then
                optb (outb_13225[k_13227.toNat]?) fun x_13246 =>
                bif (decide ((0 : Int) ≤ i_13226)) then
                  optb (lb_13222[i_13226.toNat]?) fun x_13247 =>
                  bif (decide (x_13246.2.2.1 ≤ x_13247.2.2.1)) then
                    corbelref19_Live_j3 (corbelref19_Live_k1 rc e0 k) k k_13227
                  else e0 k_13227
                else none
              else none
            else e0 k_13227
          else none
        else none
      else none
    else none
  else e0 k_13227
noncomputable def corbelref19_Live_l2 {R : Type} (e0 : Int → Option R) (k : Nat) (lb_13222 : List (Int × (Int × (Int × (Int × (Int × Bool)))))) (outb_13225 : List (Int × (Int × (Int × (Int × (Int × Bool)))))) (i_13226 : Int) : Nat → Int → Option R
  | 0 => fun _ => none
  | j + 1 => corbelref19_Live_l2s (corbelref19_Live_l2 e0 k lb_13222 outb_13225 i_13226 j) e0 k lb_13222 outb_13225 i_13226
noncomputable def corbelref19_Live_j1 {R : Type} (e0 : Bool → List (Int × (Int × (Int × (Int × (Int × Bool))))) → Bool → List (Int × (Int × (Int × (Int × (Int × Bool))))) → Option R) (k : Nat) (lb_13216 : List (Int × (Int × (Int × (Int × (Int × Bool)))))) (outb_13219 : List (Int × (Int × (Int × (Int × (Int × Bool)))))) (i_13220 : Int) : Option R :=
  corbelref19_Live_l2 (fun k_13254 =>
    bif ((decide ((0 : Int) ≤ k_13254)) && (decide (k_13254 ≤ (lenI outb_13219)))) then
      let z_13255 := ((outb_13219.drop (0 : Int).toNat).take (k_13254 - (0 : Int)).toNat)
      bif (decide (z_13255.length ≤ 1099511627776)) then
        bif (decide ((0 : Int) ≤ i_13220)) then
          optb (lb_13216[i_13220.toNat]?) fun x_13258 =>
          bif (decide (z_13255.length + ([(x_13258.1, (x_13258.2.1, (x_13258.2.2.1, (x_13258.2.2.2.1, (x_13258.2.2.2.2.1, x_13258.2.2.2.2.2)))))] : List (Int × (Int × (Int × (Int × (Int × Bool)))))).length ≤ 1099511627776)) then
            let z_13259 := (z_13255 ++ ([(x_13258.1, (x_13258.2.1, (x_13258.2.2.1, (x_13258.2.2.2.1, (x_13258.2.2.2.2.1, x_13258.2.2.2.2.2)))))] : List (Int × (Int × (Int × (Int × (Int × Bool)))))))
            bif (((decide ((0 : Int) ≤ k_13254)) && (decide (k_13254 ≤ (lenI outb_13219)))) && (decide ((lenI outb_13219) ≤ (lenI outb_13219)))) then
              let z_13260 := ((outb_13219.drop k_13254.toNat).take ((lenI outb_13219) - k_13254).toNat)
              bif (decide (z_13259.length + z_13260.length ≤ 1099511627776)) then
                e0 true (z_13259 ++ z_13260) false ([(x_13258.1, (x_13258.2.1, (x_13258.2.2.1, (x_13258.2.2.2.1, (x_13258.2.2.2.2.1, x_13258.2.2.2.2.2)))))] : List (Int × (Int × (Int × (Int × (Int × Bool))))))
              else none
            else none
          else none
        else none
      else none
    else none) k lb_13216 outb_13219 i_13220 k (0 : Int)
noncomputable def corbelref19_Live_j4b {R : Type} (e0 : Int → Option R) (k : Nat) (i_13272 : Int) : Option R :=
  e0 (wrap64 (i_13272 + (1 : Int)))
noncomputable def corbelref19_Live_k0 {R : Type} (rc : Bool → List (Int × (Int × (Int × (Int × (Int × Bool))))) → Int → Option R) (e0 : Bool → List (Int × (Int × (Int × (Int × (Int × Bool))))) → Option R) (k : Nat) (outa_13197 : Bool) (outb_13198 : List (Int × (Int × (Int × (Int × (Int × Bool)))))) : Int → Option R := fun i_13212 =>
  rc outa_13197 outb_13198 i_13212
noncomputable def corbelref19_Live_l0s {R : Type} (rc : Bool → List (Int × (Int × (Int × (Int × (Int × Bool))))) → Int → Option R) (e0 : Bool → List (Int × (Int × (Int × (Int × (Int × Bool))))) → Option R) (k : Nat) (la_13194 : Bool) (lb_13195 : List (Int × (Int × (Int × (Int × (Int × Bool)))))) (zone_13196 : Int) (outa_13197 : Bool) (outb_13198 : List (Int × (Int × (Int × (Int × (Int × Bool)))))) (i_13199 : Int) : Option R :=
  bif (decide (i_13199 < (lenI lb_13195))) then
    bif (decide ((0 : Int) ≤ i_13199)) then
      optb (lb_13195[i_13199.toNat]?) fun x_13200 =>
      bif (!(decide (x_13200.1 = zone_13196))) then
        corbelref19_Live_j4 (corbelref19_Live_k0 rc e0 k outa_13197 outb_13198) k i_13199
      else bif (decide ((0 : Int) ≤ i_13199)) then
        optb (lb_13195[i_13199.toNat]?) fun x_13213 =>
        optb (corbelref19_Newest k la_13194 lb_13195 x_13213.2.2.2.2.1) fun r_13214 =>
        bif (!(decide (r_13214 = i_13199))) then
          corbelref19_Live_j4 (corbelref19_Live_k0 rc e0 k outa_13197 outb_13198) k i_13199
        else corbelref19_Live_j1 (fun outN_13265 out_13266 hN_13267 h_13268 =>
          corbelref19_Live_j4b (fun i_13280 =>
            rc outN_13265 out_13266 i_13280) k i_13199) k lb_13195 outb_13198 i_13199
      else none
    else none
  else e0 outa_13197 outb_13198
noncomputable def corbelref19_Live_l0 {R : Type} (e0 : Bool → List (Int × (Int × (Int × (Int × (Int × Bool))))) → Option R) (k : Nat) (la_13194 : Bool) (lb_13195 : List (Int × (Int × (Int × (Int × (Int × Bool)))))) (zone_13196 : Int) : Nat → Bool → List (Int × (Int × (Int × (Int × (Int × Bool))))) → Int → Option R
  | 0 => fun _ _ _ => none
  | j + 1 => corbelref19_Live_l0s (corbelref19_Live_l0 e0 k la_13194 lb_13195 zone_13196 j) e0 k la_13194 lb_13195 zone_13196
noncomputable def corbelref19_Live (k : Nat) (la_12466 : Bool) (lb_12467 : List (Int × (Int × (Int × (Int × (Int × Bool)))))) (zone_12468 : Int) : Option (Bool × List (Int × (Int × (Int × (Int × (Int × Bool)))))) :=
  corbelref19_Live_l0 (fun outa_13285 outb_13286 =>
    some (outa_13285, outb_13286)) k la_12466 lb_12467 zone_12468 k true ([] : List (Int × (Int × (Int × (Int × (Int × Bool)))))) (0 : Int)
noncomputable def corbelref19_Live_p (k : Nat) : PF := { ps := [(false, 1), (false, 1)], rs := [(false, 1)], τ := (.pair (.sl (.pair (.int .i64) (.pair (.int .i64) (.pair (.int .i64) (.pair (.int .i64) (.pair (.int .i64) .bool)))))) (.int .i64)), σ := (.sl (.pair (.int .i64) (.pair (.int .i64) (.pair (.int .i64) (.pair (.int .i64) (.pair (.int .i64) .bool)))))), f := fun x => corbelref19_Live k x.1.1 x.1.2 x.2 }
noncomputable def corbelref19_Live_F (k : Nat) : PT := fcons 16 (corbelref19_Newest_p k) <| fbase [] true
theorem corbelref19_Live_fok (k : Nat) : FOK Try.prog tab (corbelref19_Live_F k) := fok_cons (corbelref19_Newest_ok k) Try.call16 <| fok_base
noncomputable def corbelref19_Live_c0 : Cl := { keep := [0, 1, 5, 6], hl := 0, ad := [(5, (.pair (.int .i64) (.pair (.int .i64) (.pair (.int .i64) (.pair (.int .i64) (.pair (.int .i64) .bool))))), 38)], adc := [], bump := [], dm := [(5, 0, (.pair (.int .i64) (.pair (.int .i64) (.pair (.int .i64) (.pair (.int .i64) (.pair (.int .i64) .bool))))))] }
noncomputable def corbelref19_Live_x0 : Cl := { keep := [5], hl := 0, ad := [], adc := [], bump := [] }
noncomputable def corbelref19_Live_c1 : Cl := { keep := [0, 1, 5, 6], hl := 1, ad := [], adc := [], bump := [] }
noncomputable def corbelref19_Live_x1 : Cl := { keep := [0, 1, 5, 6], hl := 2, ad := [], adc := [], bump := [] }
noncomputable def corbelref19_Live_c2 : Cl := { keep := [0, 1, 5, 6, 7], hl := 1, ad := [], adc := [], bump := [] }
noncomputable def corbelref19_Live_x2 : Cl := { keep := [0, 1, 5, 6, 7], hl := 1, ad := [], adc := [], bump := [] }
noncomputable def corbelref19_Live_c3 : Cl := { keep := [0, 1, 5, 6, 7], hl := 1, ad := [], adc := [], bump := [] }
noncomputable def corbelref19_Live_x3 : Cl := { keep := [0, 1, 5, 6, 7], hl := 1, ad := [], adc := [], bump := [] }
noncomputable def corbelref19_Live_c4 : Cl := { keep := [0, 1, 5, 6], hl := 2, ad := [(5, (.pair (.int .i64) (.pair (.int .i64) (.pair (.int .i64) (.pair (.int .i64) (.pair (.int .i64) .bool))))), 38)], adc := [], bump := [] }
noncomputable def corbelref19_Live_x4 : Cl := { keep := [0, 1, 5, 6], hl := 2, ad := [], adc := [], bump := [] }
noncomputable def corbelref19_Live_h : Hint := (.sq .no (.sq .no (.sq (.sq .no (.lp corbelref19_Live_c0 corbelref19_Live_x0 0 (.sq .no (.ct corbelref19_Live_c4 corbelref19_Live_x4 4 (.ct corbelref19_Live_c1 corbelref19_Live_x1 1 .no (.sq .no (.sq (.lp corbelref19_Live_c2 corbelref19_Live_x2 2 (.ct corbelref19_Live_c3 corbelref19_Live_x3 3 .no .no)) .no))) .no)))) .no)))
noncomputable def corbelref19_Live_l0_E0 {R : Type} (K : EX → St → Option R) : Bool → List (Int × (Int × (Int × (Int × (Int × Bool))))) → Option R := fun v0 v1 => K (.exit 0) (mkSt 96 [] corbelref19_Live_x0.keep [.sl (.pair (.int .i64) (.pair (.int .i64) (.pair (.int .i64) (.pair (.int .i64) (.pair (.int .i64) .bool))))) v0 v1] [])
noncomputable def corbelref19_Live_l0_S (la_13194 : Bool) (lb_13195 : List (Int × (Int × (Int × (Int × (Int × Bool)))))) (zone_13196 : Int) (outa_13197 : Bool) (outb_13198 : List (Int × (Int × (Int × (Int × (Int × Bool)))))) (i_13199 : Int) : St := mkSt 96 [] corbelref19_Live_c0.keep [.sl (.pair (.int .i64) (.pair (.int .i64) (.pair (.int .i64) (.pair (.int .i64) (.pair (.int .i64) .bool))))) la_13194 lb_13195, .int .i64 zone_13196, .sl (.pair (.int .i64) (.pair (.int .i64) (.pair (.int .i64) (.pair (.int .i64) (.pair (.int .i64) .bool))))) outa_13197 outb_13198, .int .i64 i_13199] []
noncomputable def corbelref19_Live_l0_sh : Rd (List AV × List HE) := .pair (.cons (.sl (.pair (.int .i64) (.pair (.int .i64) (.pair (.int .i64) (.pair (.int .i64) (.pair (.int .i64) .bool)))))) (.cons (.int .i64) (.cons (.sl (.pair (.int .i64) (.pair (.int .i64) (.pair (.int .i64) (.pair (.int .i64) (.pair (.int .i64) .bool)))))) (.cons (.int .i64) Rd.nil)))) Rd.nil
noncomputable def corbelref19_Live_l0_a {R : Type} (k : Nat) : Alt R := { n := 96, v := [], sh := corbelref19_Live_l0_sh, g := fun K x => corbelref19_Live_l0 (corbelref19_Live_l0_E0 K) k x.1.1.1 x.1.1.2 x.1.2.1 k x.1.2.2.1.1 x.1.2.2.1.2 x.1.2.2.2.1 }
noncomputable def corbelref19_Live_j1_E0 {R : Type} (K : EX → St → Option R) : Bool → List (Int × (Int × (Int × (Int × (Int × Bool))))) → Int → Int → Bool → List (Int × (Int × (Int × (Int × (Int × Bool))))) → Bool → List (Int × (Int × (Int × (Int × (Int × Bool))))) → Option R := fun v0 v1 v2 v3 v4 v5 v6 v7 => K .normal (mkSt 96 [] corbelref19_Live_x1.keep [.sl (.pair (.int .i64) (.pair (.int .i64) (.pair (.int .i64) (.pair (.int .i64) (.pair (.int .i64) .bool))))) v0 v1, .int .i64 v2, .own 0 1, .int .i64 v3] [.lst (.pair (.int .i64) (.pair (.int .i64) (.pair (.int .i64) (.pair (.int .i64) (.pair (.int .i64) .bool))))) 38 v4 1 v5, .lst (.pair (.int .i64) (.pair (.int .i64) (.pair (.int .i64) (.pair (.int .i64) (.pair (.int .i64) .bool))))) 38 v6 1 v7])
noncomputable def corbelref19_Live_j1_S (la_13215 : Bool) (lb_13216 : List (Int × (Int × (Int × (Int × (Int × Bool)))))) (zone_13217 : Int) (outa_13218 : Bool) (outb_13219 : List (Int × (Int × (Int × (Int × (Int × Bool)))))) (i_13220 : Int) : St := mkSt 96 [] corbelref19_Live_c1.keep [.sl (.pair (.int .i64) (.pair (.int .i64) (.pair (.int .i64) (.pair (.int .i64) (.pair (.int .i64) .bool))))) la_13215 lb_13216, .int .i64 zone_13217, .sl (.pair (.int .i64) (.pair (.int .i64) (.pair (.int .i64) (.pair (.int .i64) (.pair (.int .i64) .bool))))) outa_13218 outb_13219, .int .i64 i_13220] []
noncomputable def corbelref19_Live_j1_sh : Rd (List AV × List HE) := .pair (.cons (.sl (.pair (.int .i64) (.pair (.int .i64) (.pair (.int .i64) (.pair (.int .i64) (.pair (.int .i64) .bool)))))) (.cons (.int .i64) (.cons (.sl (.pair (.int .i64) (.pair (.int .i64) (.pair (.int .i64) (.pair (.int .i64) (.pair (.int .i64) .bool)))))) (.cons (.int .i64) Rd.nil)))) Rd.nil
noncomputable def corbelref19_Live_j1_a {R : Type} (k : Nat) : Alt R := { n := 96, v := [], sh := corbelref19_Live_j1_sh, g := fun K x => corbelref19_Live_j1 (fun y4 y5 y6 y7 => corbelref19_Live_j1_E0 K x.1.1.1 x.1.1.2 x.1.2.1 x.1.2.2.2.1 y4 y5 y6 y7) k x.1.1.2 x.1.2.2.1.2 x.1.2.2.2.1 }
noncomputable def corbelref19_Live_l2_E0 {R : Type} (K : EX → St → Option R) : Bool → List (Int × (Int × (Int × (Int × (Int × Bool))))) → Int → Bool → List (Int × (Int × (Int × (Int × (Int × Bool))))) → Int → Int → Option R := fun v0 v1 v2 v3 v4 v5 v6 => K (.exit 2) (mkSt 96 [] corbelref19_Live_x2.keep [.sl (.pair (.int .i64) (.pair (.int .i64) (.pair (.int .i64) (.pair (.int .i64) (.pair (.int .i64) .bool))))) v0 v1, .int .i64 v2, .sl (.pair (.int .i64) (.pair (.int .i64) (.pair (.int .i64) (.pair (.int .i64) (.pair (.int .i64) .bool))))) v3 v4, .int .i64 v5, .int .i64 v6] [])
noncomputable def corbelref19_Live_l2_S (la_13221 : Bool) (lb_13222 : List (Int × (Int × (Int × (Int × (Int × Bool)))))) (zone_13223 : Int) (outa_13224 : Bool) (outb_13225 : List (Int × (Int × (Int × (Int × (Int × Bool)))))) (i_13226 : Int) (k_13227 : Int) : St := mkSt 96 [] corbelref19_Live_c2.keep [.sl (.pair (.int .i64) (.pair (.int .i64) (.pair (.int .i64) (.pair (.int .i64) (.pair (.int .i64) .bool))))) la_13221 lb_13222, .int .i64 zone_13223, .sl (.pair (.int .i64) (.pair (.int .i64) (.pair (.int .i64) (.pair (.int .i64) (.pair (.int .i64) .bool))))) outa_13224 outb_13225, .int .i64 i_13226, .int .i64 k_13227] []
noncomputable def corbelref19_Live_l2_sh : Rd (List AV × List HE) := .pair (.cons (.sl (.pair (.int .i64) (.pair (.int .i64) (.pair (.int .i64) (.pair (.int .i64) (.pair (.int .i64) .bool)))))) (.cons (.int .i64) (.cons (.sl (.pair (.int .i64) (.pair (.int .i64) (.pair (.int .i64) (.pair (.int .i64) (.pair (.int .i64) .bool)))))) (.cons (.int .i64) (.cons (.int .i64) Rd.nil))))) Rd.nil
noncomputable def corbelref19_Live_l2_a {R : Type} (k : Nat) : Alt R := { n := 96, v := [], sh := corbelref19_Live_l2_sh, g := fun K x => corbelref19_Live_l2 (fun y6 => corbelref19_Live_l2_E0 K x.1.1.1 x.1.1.2 x.1.2.1 x.1.2.2.1.1 x.1.2.2.1.2 x.1.2.2.2.1 y6) k x.1.1.2 x.1.2.2.1.2 x.1.2.2.2.1 k x.1.2.2.2.2.1 }
noncomputable def corbelref19_Live_j3_E0 {R : Type} (K : EX → St → Option R) : Bool → List (Int × (Int × (Int × (Int × (Int × Bool))))) → Int → Bool → List (Int × (Int × (Int × (Int × (Int × Bool))))) → Int → Int → Option R := fun v0 v1 v2 v3 v4 v5 v6 => K .normal (mkSt 96 [] corbelref19_Live_x3.keep [.sl (.pair (.int .i64) (.pair (.int .i64) (.pair (.int .i64) (.pair (.int .i64) (.pair (.int .i64) .bool))))) v0 v1, .int .i64 v2, .sl (.pair (.int .i64) (.pair (.int .i64) (.pair (.int .i64) (.pair (.int .i64) (.pair (.int .i64) .bool))))) v3 v4, .int .i64 v5, .int .i64 v6] [])
noncomputable def corbelref19_Live_j3_S (la_13230 : Bool) (lb_13231 : List (Int × (Int × (Int × (Int × (Int × Bool)))))) (zone_13232 : Int) (outa_13233 : Bool) (outb_13234 : List (Int × (Int × (Int × (Int × (Int × Bool)))))) (i_13235 : Int) (k_13236 : Int) : St := mkSt 96 [] corbelref19_Live_c3.keep [.sl (.pair (.int .i64) (.pair (.int .i64) (.pair (.int .i64) (.pair (.int .i64) (.pair (.int .i64) .bool))))) la_13230 lb_13231, .int .i64 zone_13232, .sl (.pair (.int .i64) (.pair (.int .i64) (.pair (.int .i64) (.pair (.int .i64) (.pair (.int .i64) .bool))))) outa_13233 outb_13234, .int .i64 i_13235, .int .i64 k_13236] []
noncomputable def corbelref19_Live_j3_sh : Rd (List AV × List HE) := .pair (.cons (.sl (.pair (.int .i64) (.pair (.int .i64) (.pair (.int .i64) (.pair (.int .i64) (.pair (.int .i64) .bool)))))) (.cons (.int .i64) (.cons (.sl (.pair (.int .i64) (.pair (.int .i64) (.pair (.int .i64) (.pair (.int .i64) (.pair (.int .i64) .bool)))))) (.cons (.int .i64) (.cons (.int .i64) Rd.nil))))) Rd.nil
noncomputable def corbelref19_Live_j3_a {R : Type} (k : Nat) : Alt R := { n := 96, v := [], sh := corbelref19_Live_j3_sh, g := fun K x => corbelref19_Live_j3 (fun y6 => corbelref19_Live_j3_E0 K x.1.1.1 x.1.1.2 x.1.2.1 x.1.2.2.1.1 x.1.2.2.1.2 x.1.2.2.2.1 y6) k x.1.2.2.2.2.1 }
noncomputable def corbelref19_Live_j4_E0 {R : Type} (K : EX → St → Option R) : Bool → List (Int × (Int × (Int × (Int × (Int × Bool))))) → Int → Bool → List (Int × (Int × (Int × (Int × (Int × Bool))))) → Int → Option R := fun v0 v1 v2 v3 v4 v5 => K .normal (mkSt 96 [] corbelref19_Live_x4.keep [.sl (.pair (.int .i64) (.pair (.int .i64) (.pair (.int .i64) (.pair (.int .i64) (.pair (.int .i64) .bool))))) v0 v1, .int .i64 v2, .sl (.pair (.int .i64) (.pair (.int .i64) (.pair (.int .i64) (.pair (.int .i64) (.pair (.int .i64) .bool))))) v3 v4, .int .i64 v5] [])
noncomputable def corbelref19_Live_j4_S (la_13201 : Bool) (lb_13202 : List (Int × (Int × (Int × (Int × (Int × Bool)))))) (zone_13203 : Int) (outa_13204 : Bool) (outb_13205 : List (Int × (Int × (Int × (Int × (Int × Bool)))))) (i_13206 : Int) : St := mkSt 96 [] corbelref19_Live_c4.keep [.sl (.pair (.int .i64) (.pair (.int .i64) (.pair (.int .i64) (.pair (.int .i64) (.pair (.int .i64) .bool))))) la_13201 lb_13202, .int .i64 zone_13203, .sl (.pair (.int .i64) (.pair (.int .i64) (.pair (.int .i64) (.pair (.int .i64) (.pair (.int .i64) .bool))))) outa_13204 outb_13205, .int .i64 i_13206] []
noncomputable def corbelref19_Live_j4_sh : Rd (List AV × List HE) := .pair (.cons (.sl (.pair (.int .i64) (.pair (.int .i64) (.pair (.int .i64) (.pair (.int .i64) (.pair (.int .i64) .bool)))))) (.cons (.int .i64) (.cons (.sl (.pair (.int .i64) (.pair (.int .i64) (.pair (.int .i64) (.pair (.int .i64) (.pair (.int .i64) .bool)))))) (.cons (.int .i64) Rd.nil)))) Rd.nil
noncomputable def corbelref19_Live_j4_a {R : Type} (k : Nat) : Alt R := { n := 96, v := [], sh := corbelref19_Live_j4_sh, g := fun K x => corbelref19_Live_j4 (fun y5 => corbelref19_Live_j4_E0 K x.1.1.1 x.1.1.2 x.1.2.1 x.1.2.2.1.1 x.1.2.2.1.2 y5) k x.1.2.2.2.1 }
noncomputable def corbelref19_Live_j4b_E0 {R : Type} (K : EX → St → Option R) : Bool → List (Int × (Int × (Int × (Int × (Int × Bool))))) → Int → Int → Bool → List (Int × (Int × (Int × (Int × (Int × Bool))))) → Bool → List (Int × (Int × (Int × (Int × (Int × Bool))))) → Option R := fun v0 v1 v2 v3 v4 v5 v6 v7 => K .normal (mkSt 96 [] corbelref19_Live_x4.keep [.sl (.pair (.int .i64) (.pair (.int .i64) (.pair (.int .i64) (.pair (.int .i64) (.pair (.int .i64) .bool))))) v0 v1, .int .i64 v2, .own 0 1, .int .i64 v3] [.lst (.pair (.int .i64) (.pair (.int .i64) (.pair (.int .i64) (.pair (.int .i64) (.pair (.int .i64) .bool))))) 38 v4 1 v5, .lst (.pair (.int .i64) (.pair (.int .i64) (.pair (.int .i64) (.pair (.int .i64) (.pair (.int .i64) .bool))))) 38 v6 1 v7])
noncomputable def corbelref19_Live_j4b_S (la_13269 : Bool) (lb_13270 : List (Int × (Int × (Int × (Int × (Int × Bool)))))) (zone_13271 : Int) (i_13272 : Int) (outN_13273 : Bool) (out_13274 : List (Int × (Int × (Int × (Int × (Int × Bool)))))) (hN_13275 : Bool) (h_13276 : List (Int × (Int × (Int × (Int × (Int × Bool)))))) : St := mkSt 96 [] corbelref19_Live_c4.keep [.sl (.pair (.int .i64) (.pair (.int .i64) (.pair (.int .i64) (.pair (.int .i64) (.pair (.int .i64) .bool))))) la_13269 lb_13270, .int .i64 zone_13271, .own 0 1, .int .i64 i_13272] [.lst (.pair (.int .i64) (.pair (.int .i64) (.pair (.int .i64) (.pair (.int .i64) (.pair (.int .i64) .bool))))) 38 outN_13273 1 out_13274, .lst (.pair (.int .i64) (.pair (.int .i64) (.pair (.int .i64) (.pair (.int .i64) (.pair (.int .i64) .bool))))) 38 hN_13275 1 h_13276]
noncomputable def corbelref19_Live_j4b_sh : Rd (List AV × List HE) := .pair (.cons (.sl (.pair (.int .i64) (.pair (.int .i64) (.pair (.int .i64) (.pair (.int .i64) (.pair (.int .i64) .bool)))))) (.cons (.int .i64) (.cons (.own 0 1) (.cons (.int .i64) Rd.nil)))) (.cons (.lst (.pair (.int .i64) (.pair (.int .i64) (.pair (.int .i64) (.pair (.int .i64) (.pair (.int .i64) .bool))))) 38 1) (.cons (.lst (.pair (.int .i64) (.pair (.int .i64) (.pair (.int .i64) (.pair (.int .i64) (.pair (.int .i64) .bool))))) 38 1) Rd.nil))
noncomputable def corbelref19_Live_j4b_a {R : Type} (k : Nat) : Alt R := { n := 96, v := [], sh := corbelref19_Live_j4b_sh, g := fun K x => corbelref19_Live_j4b (fun y3 => corbelref19_Live_j4b_E0 K x.1.1.1 x.1.1.2 x.1.2.1 y3 x.2.1.1 x.2.1.2 x.2.2.1.1 x.2.2.1.2) k x.1.2.2.2.1 }
noncomputable def corbelref19_Live_O {R : Type} (k : Nat) : CutK R := cutsO [[corbelref19_Live_l0_a k], [corbelref19_Live_j1_a k], [corbelref19_Live_l2_a k], [corbelref19_Live_j3_a k], [corbelref19_Live_j4_a k, corbelref19_Live_j4b_a k]]
noncomputable def corbelref19_Live_b : List Ob := obs (bodyOf Try.f18) corbelref19_Live_h
noncomputable def corbelref19_Live_I {R : Type} (k : Nat) : InlT R := inone
theorem corbelref19_Live_l0_eq {R : Type} (k : Nat) (K : EX → St → Option R) (la_13194 : Bool) (lb_13195 : List (Int × (Int × (Int × (Int × (Int × Bool)))))) (zone_13196 : Int) : ∀ (j : Nat) (outa_13197 : Bool) (outb_13198 : List (Int × (Int × (Int × (Int × (Int × Bool)))))) (i_13199 : Int), corbelref19_Live_l0 (corbelref19_Live_l0_E0 K) k la_13194 lb_13195 zone_13196 j outa_13197 outb_13198 i_13199 = iter corbelref19_Live_c0 corbelref19_Live_x0 (ev tab (corbelref19_Live_F k) (inlK tab (corbelref19_Live_F k) (corbelref19_Live_I k) 0) (corbelref19_Live_O k) (obB corbelref19_Live_b 0) (obH corbelref19_Live_b 0)) j (corbelref19_Live_l0_S la_13194 lb_13195 zone_13196 outa_13197 outb_13198 i_13199) K
  | 0, _, _, _ => rfl
  | j + 1, outa_13197, outb_13198, i_13199 => by
    have e : corbelref19_Live_l0 (corbelref19_Live_l0_E0 K) k la_13194 lb_13195 zone_13196 j = fun outa_13197 outb_13198 i_13199 => iter corbelref19_Live_c0 corbelref19_Live_x0 (ev tab (corbelref19_Live_F k) (inlK tab (corbelref19_Live_F k) (corbelref19_Live_I k) 0) (corbelref19_Live_O k) (obB corbelref19_Live_b 0) (obH corbelref19_Live_b 0)) j (corbelref19_Live_l0_S la_13194 lb_13195 zone_13196 outa_13197 outb_13198 i_13199) K := by funext outa_13197 outb_13198 i_13199; exact corbelref19_Live_l0_eq k K la_13194 lb_13195 zone_13196 j outa_13197 outb_13198 i_13199
    show corbelref19_Live_l0s (corbelref19_Live_l0 (corbelref19_Live_l0_E0 K) k la_13194 lb_13195 zone_13196 j) (corbelref19_Live_l0_E0 K) k la_13194 lb_13195 zone_13196 outa_13197 outb_13198 i_13199 = _
    rw [e, iter_succ]; kernel_rfl
theorem corbelref19_Live_l0_ok {R : Type} (k : Nat)  : ObOK (R := R) tab (corbelref19_Live_F k) (inlK tab (corbelref19_Live_F k) (corbelref19_Live_I k) 0) (corbelref19_Live_O k) (.loop corbelref19_Live_c0 corbelref19_Live_x0 0 (obB corbelref19_Live_b 0) (obH corbelref19_Live_b 0)) :=
  loop_ok (l := [corbelref19_Live_l0_a k]) (by kernel_rfl) ⟨(fun K x => ⟨k, (corbelref19_Live_l0_eq k K x.1.1.1 x.1.1.2 x.1.2.1 k x.1.2.2.1.1 x.1.2.2.1.2 x.1.2.2.2.1).trans (by kernel_rfl)⟩), trivial⟩
theorem corbelref19_Live_j1_eq {R : Type} (k : Nat) (K : EX → St → Option R) (la_13215 : Bool) (lb_13216 : List (Int × (Int × (Int × (Int × (Int × Bool)))))) (zone_13217 : Int) (outa_13218 : Bool) (outb_13219 : List (Int × (Int × (Int × (Int × (Int × Bool)))))) (i_13220 : Int) : corbelref19_Live_j1 (fun y4 y5 y6 y7 => corbelref19_Live_j1_E0 K la_13215 lb_13216 zone_13217 i_13220 y4 y5 y6 y7) k lb_13216 outb_13219 i_13220 = ev tab (corbelref19_Live_F k) (inlK tab (corbelref19_Live_F k) (corbelref19_Live_I k) 0) (corbelref19_Live_O k) (obB corbelref19_Live_b 1) (obH corbelref19_Live_b 1) (corbelref19_Live_j1_S la_13215 lb_13216 zone_13217 outa_13218 outb_13219 i_13220) (fun e st => optb (clean corbelref19_Live_x1 st) fun st => K e st) := by kernel_rfl
theorem corbelref19_Live_j1_ok {R : Type} (k : Nat)  : ObOK (R := R) tab (corbelref19_Live_F k) (inlK tab (corbelref19_Live_F k) (corbelref19_Live_I k) 0) (corbelref19_Live_O k) (.join corbelref19_Live_c1 corbelref19_Live_x1 1 (obB corbelref19_Live_b 1) (obH corbelref19_Live_b 1)) :=
  join_ok (l := [corbelref19_Live_j1_a k]) (by kernel_rfl) ⟨(fun K x => (corbelref19_Live_j1_eq k K x.1.1.1 x.1.1.2 x.1.2.1 x.1.2.2.1.1 x.1.2.2.1.2 x.1.2.2.2.1).trans (by kernel_rfl)), trivial⟩
theorem corbelref19_Live_l2_eq {R : Type} (k : Nat) (K : EX → St → Option R) (la_13221 : Bool) (lb_13222 : List (Int × (Int × (Int × (Int × (Int × Bool)))))) (zone_13223 : Int) (outa_13224 : Bool) (outb_13225 : List (Int × (Int × (Int × (Int × (Int × Bool)))))) (i_13226 : Int) : ∀ (j : Nat) (k_13227 : Int), corbelref19_Live_l2 (fun y6 => corbelref19_Live_l2_E0 K la_13221 lb_13222 zone_13223 outa_13224 outb_13225 i_13226 y6) k lb_13222 outb_13225 i_13226 j k_13227 = iter corbelref19_Live_c2 corbelref19_Live_x2 (ev tab (corbelref19_Live_F k) (inlK tab (corbelref19_Live_F k) (corbelref19_Live_I k) 0) (corbelref19_Live_O k) (obB corbelref19_Live_b 2) (obH corbelref19_Live_b 2)) j (corbelref19_Live_l2_S la_13221 lb_13222 zone_13223 outa_13224 outb_13225 i_13226 k_13227) K
  | 0, _ => rfl
  | j + 1, k_13227 => by
    have e : corbelref19_Live_l2 (fun y6 => corbelref19_Live_l2_E0 K la_13221 lb_13222 zone_13223 outa_13224 outb_13225 i_13226 y6) k lb_13222 outb_13225 i_13226 j = fun k_13227 => iter corbelref19_Live_c2 corbelref19_Live_x2 (ev tab (corbelref19_Live_F k) (inlK tab (corbelref19_Live_F k) (corbelref19_Live_I k) 0) (corbelref19_Live_O k) (obB corbelref19_Live_b 2) (obH corbelref19_Live_b 2)) j (corbelref19_Live_l2_S la_13221 lb_13222 zone_13223 outa_13224 outb_13225 i_13226 k_13227) K := by funext k_13227; exact corbelref19_Live_l2_eq k K la_13221 lb_13222 zone_13223 outa_13224 outb_13225 i_13226 j k_13227
    show corbelref19_Live_l2s (corbelref19_Live_l2 (fun y6 => corbelref19_Live_l2_E0 K la_13221 lb_13222 zone_13223 outa_13224 outb_13225 i_13226 y6) k lb_13222 outb_13225 i_13226 j) (fun y6 => corbelref19_Live_l2_E0 K la_13221 lb_13222 zone_13223 outa_13224 outb_13225 i_13226 y6) k lb_13222 outb_13225 i_13226 k_13227 = _
    rw [e, iter_succ]; kernel_rfl
theorem corbelref19_Live_l2_ok {R : Type} (k : Nat)  : ObOK (R := R) tab (corbelref19_Live_F k) (inlK tab (corbelref19_Live_F k) (corbelref19_Live_I k) 0) (corbelref19_Live_O k) (.loop corbelref19_Live_c2 corbelref19_Live_x2 2 (obB corbelref19_Live_b 2) (obH corbelref19_Live_b 2)) :=
  loop_ok (l := [corbelref19_Live_l2_a k]) (by kernel_rfl) ⟨(fun K x => ⟨k, (corbelref19_Live_l2_eq k K x.1.1.1 x.1.1.2 x.1.2.1 x.1.2.2.1.1 x.1.2.2.1.2 x.1.2.2.2.1 k x.1.2.2.2.2.1).trans (by kernel_rfl)⟩), trivial⟩
theorem corbelref19_Live_j3_eq {R : Type} (k : Nat) (K : EX → St → Option R) (la_13230 : Bool) (lb_13231 : List (Int × (Int × (Int × (Int × (Int × Bool)))))) (zone_13232 : Int) (outa_13233 : Bool) (outb_13234 : List (Int × (Int × (Int × (Int × (Int × Bool)))))) (i_13235 : Int) (k_13236 : Int) : corbelref19_Live_j3 (fun y6 => corbelref19_Live_j3_E0 K la_13230 lb_13231 zone_13232 outa_13233 outb_13234 i_13235 y6) k k_13236 = ev tab (corbelref19_Live_F k) (inlK tab (corbelref19_Live_F k) (corbelref19_Live_I k) 0) (corbelref19_Live_O k) (obB corbelref19_Live_b 3) (obH corbelref19_Live_b 3) (corbelref19_Live_j3_S la_13230 lb_13231 zone_13232 outa_13233 outb_13234 i_13235 k_13236) (fun e st => optb (clean corbelref19_Live_x3 st) fun st => K e st) := by kernel_rfl
theorem corbelref19_Live_j3_ok {R : Type} (k : Nat)  : ObOK (R := R) tab (corbelref19_Live_F k) (inlK tab (corbelref19_Live_F k) (corbelref19_Live_I k) 0) (corbelref19_Live_O k) (.join corbelref19_Live_c3 corbelref19_Live_x3 3 (obB corbelref19_Live_b 3) (obH corbelref19_Live_b 3)) :=
  join_ok (l := [corbelref19_Live_j3_a k]) (by kernel_rfl) ⟨(fun K x => (corbelref19_Live_j3_eq k K x.1.1.1 x.1.1.2 x.1.2.1 x.1.2.2.1.1 x.1.2.2.1.2 x.1.2.2.2.1 x.1.2.2.2.2.1).trans (by kernel_rfl)), trivial⟩
theorem corbelref19_Live_j4_eq {R : Type} (k : Nat) (K : EX → St → Option R) (la_13201 : Bool) (lb_13202 : List (Int × (Int × (Int × (Int × (Int × Bool)))))) (zone_13203 : Int) (outa_13204 : Bool) (outb_13205 : List (Int × (Int × (Int × (Int × (Int × Bool)))))) (i_13206 : Int) : corbelref19_Live_j4 (fun y5 => corbelref19_Live_j4_E0 K la_13201 lb_13202 zone_13203 outa_13204 outb_13205 y5) k i_13206 = ev tab (corbelref19_Live_F k) (inlK tab (corbelref19_Live_F k) (corbelref19_Live_I k) 0) (corbelref19_Live_O k) (obB corbelref19_Live_b 4) (obH corbelref19_Live_b 4) (corbelref19_Live_j4_S la_13201 lb_13202 zone_13203 outa_13204 outb_13205 i_13206) (fun e st => optb (clean corbelref19_Live_x4 st) fun st => K e st) := by kernel_rfl
theorem corbelref19_Live_j4b_eq {R : Type} (k : Nat) (K : EX → St → Option R) (la_13269 : Bool) (lb_13270 : List (Int × (Int × (Int × (Int × (Int × Bool)))))) (zone_13271 : Int) (i_13272 : Int) (outN_13273 : Bool) (out_13274 : List (Int × (Int × (Int × (Int × (Int × Bool)))))) (hN_13275 : Bool) (h_13276 : List (Int × (Int × (Int × (Int × (Int × Bool)))))) : corbelref19_Live_j4b (fun y3 => corbelref19_Live_j4b_E0 K la_13269 lb_13270 zone_13271 y3 outN_13273 out_13274 hN_13275 h_13276) k i_13272 = ev tab (corbelref19_Live_F k) (inlK tab (corbelref19_Live_F k) (corbelref19_Live_I k) 0) (corbelref19_Live_O k) (obB corbelref19_Live_b 4) (obH corbelref19_Live_b 4) (corbelref19_Live_j4b_S la_13269 lb_13270 zone_13271 i_13272 outN_13273 out_13274 hN_13275 h_13276) (fun e st => optb (clean corbelref19_Live_x4 st) fun st => K e st) := by kernel_rfl
theorem corbelref19_Live_j4_ok {R : Type} (k : Nat)  : ObOK (R := R) tab (corbelref19_Live_F k) (inlK tab (corbelref19_Live_F k) (corbelref19_Live_I k) 0) (corbelref19_Live_O k) (.join corbelref19_Live_c4 corbelref19_Live_x4 4 (obB corbelref19_Live_b 4) (obH corbelref19_Live_b 4)) :=
  join_ok (l := [corbelref19_Live_j4_a k, corbelref19_Live_j4b_a k]) (by kernel_rfl) ⟨(fun K x => (corbelref19_Live_j4_eq k K x.1.1.1 x.1.1.2 x.1.2.1 x.1.2.2.1.1 x.1.2.2.1.2 x.1.2.2.2.1).trans (by kernel_rfl)), (fun K x => (corbelref19_Live_j4b_eq k K x.1.1.1 x.1.1.2 x.1.2.1 x.1.2.2.2.1 x.2.1.1 x.2.1.2 x.2.2.1.1 x.2.2.1.2).trans (by kernel_rfl)), trivial⟩
theorem corbelref19_Live_cuts {R : Type} (k : Nat) : ∀ c, Try.f18.body = some c → CutsOK (R := R) tab (corbelref19_Live_F k) (inlK tab (corbelref19_Live_F k) (corbelref19_Live_I k) 0) (corbelref19_Live_O k) c corbelref19_Live_h :=
  cuts_of (l := [.loop corbelref19_Live_c0 corbelref19_Live_x0 0 (obB corbelref19_Live_b 0) (obH corbelref19_Live_b 0), .join corbelref19_Live_c1 corbelref19_Live_x1 1 (obB corbelref19_Live_b 1) (obH corbelref19_Live_b 1), .loop corbelref19_Live_c2 corbelref19_Live_x2 2 (obB corbelref19_Live_b 2) (obH corbelref19_Live_b 2), .join corbelref19_Live_c3 corbelref19_Live_x3 3 (obB corbelref19_Live_b 3) (obH corbelref19_Live_b 3), .join corbelref19_Live_c4 corbelref19_Live_x4 4 (obB corbelref19_Live_b 4) (obH corbelref19_Live_b 4)]) (by kernel_rfl) ⟨corbelref19_Live_l0_ok k, corbelref19_Live_j1_ok k, corbelref19_Live_l2_ok k, corbelref19_Live_j3_ok k, corbelref19_Live_j4_ok k, trivial⟩
theorem corbelref19_Live_iok {R : Type} (k : Nat) : IOK Try.prog tab (corbelref19_Live_F k) (corbelref19_Live_I (R := R) k) := iok_none
theorem corbelref19_Live_ev (k : Nat) (x : (corbelref19_Live_p k).τ.den) : evalF tab (corbelref19_Live_F k) (corbelref19_Live_p k) (corbelref19_Live_I k) 0 (corbelref19_Live_O k) corbelref19_Live_h Try.f18 x = (corbelref19_Live_p k).f x := by kernel_rfl
theorem corbelref19_Live_ok (k : Nat) : PFOK Try.prog tab 18 (corbelref19_Live_p k) := pfok mixed tabOK (corbelref19_Live_fok k) Try.func18 (I := corbelref19_Live_I k) (d := 0) (corbelref19_Live_iok k) (Q := corbelref19_Live_O k) (hi := corbelref19_Live_h) (corbelref19_Live_cuts k) (corbelref19_Live_ev k)
end Go.Proofs.Ytbaikphpohdmoaa.Ev
