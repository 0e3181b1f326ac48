/- corbellaw20_PickTurned, told on plain data. Written by program. -/
import Derived.Test.YtcikcikcjimcjaaEcorbellaw20_speaks
import Derived.Test.YtcikcikcjimcjaaEcorbellaw20_zones
import Derived.Test.YtcikcikcjimcjaaEpick_Empty
import Derived.Test.YtcikcikcjimcjaaEpick_Victim
set_option linter.unusedVariables false
set_option maxRecDepth 1000000
namespace Go.Proofs.Ytcikcikcjimcjaa.Ev
open Go Go.RowKit Go.Proofs
def corbellaw20_PickTurned_j1 {R : Type} (e0 : Bool → Option R) (k : Nat) (v_2220 : Int) (w_2221 : Int) (n_2222 : Int) (m_2223 : Int) (a_2225 : List (Int × (Int × Bool))) (b_2229 : List (Int × (Int × Bool))) : Option R :=
  bif (decide (n_2222 = m_2223)) then
    bif ((decide (v_2220 < (0 : Int))) == (decide (w_2221 < (0 : Int)))) then
      bif (decide (v_2220 < (0 : Int))) then
        e0 true
      else bif ((decide ((0 : Int) ≤ v_2220)) && (decide (v_2220 < (lenI a_2225)))) then
        optb (a_2225[v_2220.toNat]?) fun x_2231 =>
        bif ((decide ((0 : Int) ≤ w_2221)) && (decide (w_2221 < (lenI b_2229)))) then
          optb (b_2229[w_2221.toNat]?) fun x_2232 =>
          e0 ((decide (x_2231.1 = x_2232.1)) && ((decide (x_2231.2.1 = x_2232.2.1)) && ((x_2231.2.2 == x_2232.2.2) && true)))
        else none
      else none
    else e0 false
  else e0 false
def corbellaw20_PickTurned_j0 {R : Type} (e0 : Bool → Option R) (k : Nat) (aN_2210 : Bool) (a_2211 : List (Int × (Int × Bool))) (bN_2214 : Bool) (b_2215 : List (Int × (Int × Bool))) : Option R :=
  optb (pick_Victim k aN_2210 a_2211) fun r_2216 =>
  optb (pick_Victim k bN_2214 b_2215) fun r_2217 =>
  optb (pick_Empty k aN_2210 a_2211) fun r_2218 =>
  optb (pick_Empty k bN_2214 b_2215) fun r_2219 =>
  corbellaw20_PickTurned_j1 (fun v_2234 =>
    e0 v_2234) k r_2216 r_2217 r_2218.2 r_2219.2 a_2211 b_2215
def corbellaw20_PickTurned (k : Nat) (la_2122 : Bool) (lb_2123 : List (Int × (Int × Bool))) (by_2124 : Int) : Option Bool :=
  optb (corbellaw20_speaks k) fun r_2198 =>
  bif (!r_2198) then
    some false
  else optb (corbellaw20_zones k la_2122 lb_2123) fun r_2199 =>
  bif (decide ((lenI r_2199.1.2) = (0 : Int))) then
    optb (pick_Empty k r_2199.1.1 r_2199.1.2) fun r_2202 =>
    optb (pick_Victim k r_2199.1.1 r_2199.1.2) fun r_2203 =>
    bif (decide (r_2203 = (-1 : Int))) then
      bif (decide (r_2202.1 = (-1 : Int))) then
        some (decide (r_2202.2 = (0 : Int)))
      else some false
    else some false
  else bif (decide ((lenI r_2199.1.2) = (0 : Int))) then
    none
  else let z_2204 := (wrap64 ((Int.tmod by_2124 (lenI r_2199.1.2)) + (lenI r_2199.1.2)))
  bif (decide ((lenI r_2199.1.2) = (0 : Int))) then
    none
  else bif (((decide ((0 : Int) ≤ (Int.tmod z_2204 (lenI r_2199.1.2)))) && (decide ((Int.tmod z_2204 (lenI r_2199.1.2)) ≤ (lenI r_2199.1.2)))) && (decide (((0 : Int) + (lenI r_2199.1.2)) ≤ (lenI r_2199.1.2)))) then
    let z_2205 := ((0 : Int) + (Int.tmod z_2204 (lenI r_2199.1.2)))
    let z_2206 := ((lenI r_2199.1.2) - (Int.tmod z_2204 (lenI r_2199.1.2)))
    bif (decide (([] : List (Int × (Int × Bool))).length + (List.take z_2206.toNat (List.drop z_2205.toNat r_2199.1.2)).length ≤ 1099511627776)) then
      let z_2207 := (([] : List (Int × (Int × Bool))) ++ (List.take z_2206.toNat (List.drop z_2205.toNat r_2199.1.2)))
      bif ((decide ((0 : Int) ≤ (Int.tmod z_2204 (lenI r_2199.1.2)))) && (decide (((0 : Int) + (Int.tmod z_2204 (lenI r_2199.1.2))) ≤ (lenI r_2199.1.2)))) then
        let z_2208 := ((Int.tmod z_2204 (lenI r_2199.1.2)) - (0 : Int))
        bif (decide (z_2207.length + (List.take z_2208.toNat (List.drop (0 : Int).toNat r_2199.1.2)).length ≤ 1099511627776)) then
          corbellaw20_PickTurned_j0 (fun v_2235 =>
            some v_2235) k r_2199.1.1 r_2199.1.2 false (z_2207 ++ (List.take z_2208.toNat (List.drop (0 : Int).toNat r_2199.1.2)))
        else none
      else none
    else none
  else none
def corbellaw20_PickTurned_p (k : Nat) : PF := { ps := [(false, 1), (false, 1)], rs := [(false, 1)], τ := (.pair (.sl (.pair (.int .i64) (.pair (.int .i64) .bool))) (.int .i64)), σ := .bool, f := fun x => corbellaw20_PickTurned k x.1.1 x.1.2 x.2 }
def corbellaw20_PickTurned_F (k : Nat) : PT := fcons 28 (corbellaw20_speaks_p k) <| fcons 29 (corbellaw20_zones_p k) <| fcons 33 (pick_Empty_p k) <| fcons 30 (pick_Victim_p k) <| fbase [] true
theorem corbellaw20_PickTurned_fok (k : Nat) : FOK Try.prog tab (corbellaw20_PickTurned_F k) := fok_cons (corbellaw20_speaks_ok k) Try.call28 <| fok_cons (corbellaw20_zones_ok k) Try.call29 <| fok_cons (pick_Empty_ok k) Try.call33 <| fok_cons (pick_Victim_ok k) Try.call30 <| fok_base
def corbellaw20_PickTurned_c0 : Cl := { keep := [5, 9], hl := 3, ad := [], adc := [], bump := [] }
def corbellaw20_PickTurned_x0 : Cl := { keep := [4], hl := 0, ad := [], adc := [], bump := [] }
def corbellaw20_PickTurned_c1 : Cl := { keep := [5, 9, 10, 11, 13, 15], hl := 3, ad := [], adc := [], bump := [] }
def corbellaw20_PickTurned_x1 : Cl := { keep := [4], hl := 0, ad := [], adc := [], bump := [] }
def corbellaw20_PickTurned_h : Hint := (.sq .no (.sq .no (.sq .no (.sq .no (.sq .no (.ct corbellaw20_PickTurned_c0 corbellaw20_PickTurned_x0 0 .no (.sq .no (.sq .no (.ct corbellaw20_PickTurned_c1 corbellaw20_PickTurned_x1 1 .no .no)))))))))
def corbellaw20_PickTurned_j0_E0 {R : Type} (K : EX → St → Option R) : Bool → Option R := fun v0 => K .ret (mkSt 100 [] corbellaw20_PickTurned_x0.keep [.bool v0] [])
def corbellaw20_PickTurned_j0_S (aN_2210 : Bool) (a_2211 : List (Int × (Int × Bool))) (hN_2212 : Bool) (h_2213 : List (Int × (Int × Bool))) (bN_2214 : Bool) (b_2215 : List (Int × (Int × Bool))) : St := mkSt 100 [] corbellaw20_PickTurned_c0.keep [.own 0 1, .own 2 1] [.lst (.pair (.int .i64) (.pair (.int .i64) .bool)) 71 aN_2210 1 a_2211, .lst (.pair (.int .i64) (.pair (.int .i64) .bool)) 102 hN_2212 1 h_2213, .lst (.pair (.int .i64) (.pair (.int .i64) .bool)) 71 bN_2214 1 b_2215]
def corbellaw20_PickTurned_j0_sh : Rd (List AV × List HE) := .pair (.cons (.own 0 1) (.cons (.own 2 1) Rd.nil)) (.cons (.lst (.pair (.int .i64) (.pair (.int .i64) .bool)) 71 1) (.cons (.lst (.pair (.int .i64) (.pair (.int .i64) .bool)) 102 1) (.cons (.lst (.pair (.int .i64) (.pair (.int .i64) .bool)) 71 1) Rd.nil)))
def corbellaw20_PickTurned_j0_a {R : Type} (k : Nat) : Alt R := { n := 100, v := [], sh := corbellaw20_PickTurned_j0_sh, g := fun K x => corbellaw20_PickTurned_j0 (corbellaw20_PickTurned_j0_E0 K) k x.2.1.1 x.2.1.2 x.2.2.2.1.1 x.2.2.2.1.2 }
def corbellaw20_PickTurned_j1_E0 {R : Type} (K : EX → St → Option R) : Bool → Option R := fun v0 => K .ret (mkSt 100 [] corbellaw20_PickTurned_x1.keep [.bool v0] [])
def corbellaw20_PickTurned_j1_S (v_2220 : Int) (w_2221 : Int) (n_2222 : Int) (m_2223 : Int) (aN_2224 : Bool) (a_2225 : List (Int × (Int × Bool))) (hN_2226 : Bool) (h_2227 : List (Int × (Int × Bool))) (bN_2228 : Bool) (b_2229 : List (Int × (Int × Bool))) : St := mkSt 100 [] corbellaw20_PickTurned_c1.keep [.own 0 1, .own 2 1, .int .i64 v_2220, .int .i64 w_2221, .int .i64 n_2222, .int .i64 m_2223] [.lst (.pair (.int .i64) (.pair (.int .i64) .bool)) 71 aN_2224 1 a_2225, .lst (.pair (.int .i64) (.pair (.int .i64) .bool)) 102 hN_2226 1 h_2227, .lst (.pair (.int .i64) (.pair (.int .i64) .bool)) 71 bN_2228 1 b_2229]
def corbellaw20_PickTurned_j1_sh : Rd (List AV × List HE) := .pair (.cons (.own 0 1) (.cons (.own 2 1) (.cons (.int .i64) (.cons (.int .i64) (.cons (.int .i64) (.cons (.int .i64) Rd.nil)))))) (.cons (.lst (.pair (.int .i64) (.pair (.int .i64) .bool)) 71 1) (.cons (.lst (.pair (.int .i64) (.pair (.int .i64) .bool)) 102 1) (.cons (.lst (.pair (.int .i64) (.pair (.int .i64) .bool)) 71 1) Rd.nil)))
def corbellaw20_PickTurned_j1_a {R : Type} (k : Nat) : Alt R := { n := 100, v := [], sh := corbellaw20_PickTurned_j1_sh, g := fun K x => corbellaw20_PickTurned_j1 (corbellaw20_PickTurned_j1_E0 K) k x.1.2.2.1 x.1.2.2.2.1 x.1.2.2.2.2.1 x.1.2.2.2.2.2.1 x.2.1.2 x.2.2.2.1.2 }
def corbellaw20_PickTurned_O {R : Type} (k : Nat) : CutK R := cutsO [[corbellaw20_PickTurned_j0_a k], [corbellaw20_PickTurned_j1_a k]]
noncomputable def corbellaw20_PickTurned_b : List Ob := obs (bodyOf Try.f14) corbellaw20_PickTurned_h
noncomputable def corbellaw20_PickTurned_I {R : Type} (k : Nat) : InlT R := inone
theorem corbellaw20_PickTurned_j0_eq {R : Type} (k : Nat) (K : EX → St → Option R) (aN_2210 : Bool) (a_2211 : List (Int × (Int × Bool))) (hN_2212 : Bool) (h_2213 : List (Int × (Int × Bool))) (bN_2214 : Bool) (b_2215 : List (Int × (Int × Bool))) : corbellaw20_PickTurned_j0 (corbellaw20_PickTurned_j0_E0 K) k aN_2210 a_2211 bN_2214 b_2215 = ev tab (corbellaw20_PickTurned_F k) (inlK tab (corbellaw20_PickTurned_F k) (corbellaw20_PickTurned_I k) 0) (corbellaw20_PickTurned_O k) (obB corbellaw20_PickTurned_b 0) (obH corbellaw20_PickTurned_b 0) (corbellaw20_PickTurned_j0_S aN_2210 a_2211 hN_2212 h_2213 bN_2214 b_2215) (fun e st => optb (clean corbellaw20_PickTurned_x0 st) fun st => K e st) := by kernel_rfl
theorem corbellaw20_PickTurned_j0_ok {R : Type} (k : Nat)  : ObOK (R := R) tab (corbellaw20_PickTurned_F k) (inlK tab (corbellaw20_PickTurned_F k) (corbellaw20_PickTurned_I k) 0) (corbellaw20_PickTurned_O k) (.join corbellaw20_PickTurned_c0 corbellaw20_PickTurned_x0 0 (obB corbellaw20_PickTurned_b 0) (obH corbellaw20_PickTurned_b 0)) :=
  join_ok (l := [corbellaw20_PickTurned_j0_a k]) (by kernel_rfl) ⟨(fun K x => (corbellaw20_PickTurned_j0_eq k K x.2.1.1 x.2.1.2 x.2.2.1.1 x.2.2.1.2 x.2.2.2.1.1 x.2.2.2.1.2).trans (by kernel_rfl)), trivial⟩
theorem corbellaw20_PickTurned_j1_eq {R : Type} (k : Nat) (K : EX → St → Option R) (v_2220 : Int) (w_2221 : Int) (n_2222 : Int) (m_2223 : Int) (aN_2224 : Bool) (a_2225 : List (Int × (Int × Bool))) (hN_2226 : Bool) (h_2227 : List (Int × (Int × Bool))) (bN_2228 : Bool) (b_2229 : List (Int × (Int × Bool))) : corbellaw20_PickTurned_j1 (corbellaw20_PickTurned_j1_E0 K) k v_2220 w_2221 n_2222 m_2223 a_2225 b_2229 = ev tab (corbellaw20_PickTurned_F k) (inlK tab (corbellaw20_PickTurned_F k) (corbellaw20_PickTurned_I k) 0) (corbellaw20_PickTurned_O k) (obB corbellaw20_PickTurned_b 1) (obH corbellaw20_PickTurned_b 1) (corbellaw20_PickTurned_j1_S v_2220 w_2221 n_2222 m_2223 aN_2224 a_2225 hN_2226 h_2227 bN_2228 b_2229) (fun e st => optb (clean corbellaw20_PickTurned_x1 st) fun st => K e st) := by kernel_rfl
theorem corbellaw20_PickTurned_j1_ok {R : Type} (k : Nat)  : ObOK (R := R) tab (corbellaw20_PickTurned_F k) (inlK tab (corbellaw20_PickTurned_F k) (corbellaw20_PickTurned_I k) 0) (corbellaw20_PickTurned_O k) (.join corbellaw20_PickTurned_c1 corbellaw20_PickTurned_x1 1 (obB corbellaw20_PickTurned_b 1) (obH corbellaw20_PickTurned_b 1)) :=
  join_ok (l := [corbellaw20_PickTurned_j1_a k]) (by kernel_rfl) ⟨(fun K x => (corbellaw20_PickTurned_j1_eq k K x.1.2.2.1 x.1.2.2.2.1 x.1.2.2.2.2.1 x.1.2.2.2.2.2.1 x.2.1.1 x.2.1.2 x.2.2.1.1 x.2.2.1.2 x.2.2.2.1.1 x.2.2.2.1.2).trans (by kernel_rfl)), trivial⟩
theorem corbellaw20_PickTurned_cuts {R : Type} (k : Nat) : ∀ c, Try.f14.body = some c → CutsOK (R := R) tab (corbellaw20_PickTurned_F k) (inlK tab (corbellaw20_PickTurned_F k) (corbellaw20_PickTurned_I k) 0) (corbellaw20_PickTurned_O k) c corbellaw20_PickTurned_h :=
  cuts_of (l := [.join corbellaw20_PickTurned_c0 corbellaw20_PickTurned_x0 0 (obB corbellaw20_PickTurned_b 0) (obH corbellaw20_PickTurned_b 0), .join corbellaw20_PickTurned_c1 corbellaw20_PickTurned_x1 1 (obB corbellaw20_PickTurned_b 1) (obH corbellaw20_PickTurned_b 1)]) (by kernel_rfl) ⟨corbellaw20_PickTurned_j0_ok k, corbellaw20_PickTurned_j1_ok k, trivial⟩
theorem corbellaw20_PickTurned_iok {R : Type} (k : Nat) : IOK Try.prog tab (corbellaw20_PickTurned_F k) (corbellaw20_PickTurned_I (R := R) k) := iok_none
theorem corbellaw20_PickTurned_ev (k : Nat) (x : (corbellaw20_PickTurned_p k).τ.den) : evalF tab (corbellaw20_PickTurned_F k) (corbellaw20_PickTurned_p k) (corbellaw20_PickTurned_I k) 0 (corbellaw20_PickTurned_O k) corbellaw20_PickTurned_h Try.f14 x = (corbellaw20_PickTurned_p k).f x := by kernel_rfl
theorem corbellaw20_PickTurned_ok (k : Nat) : PFOK Try.prog tab 14 (corbellaw20_PickTurned_p k) := pfok mixed tabOK (corbellaw20_PickTurned_fok k) Try.func14 (I := corbellaw20_PickTurned_I k) (d := 0) (corbellaw20_PickTurned_iok k) (Q := corbellaw20_PickTurned_O k) (hi := corbellaw20_PickTurned_h) (corbellaw20_PickTurned_cuts k) (corbellaw20_PickTurned_ev k)
end Go.Proofs.Ytcikcikcjimcjaa.Ev
