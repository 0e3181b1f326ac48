/- pick_Empty, told on plain data. Written by program. -/
import Derived.Test.YtcikcikcjimcjaaEpick_Empty_1
set_option linter.unusedVariables false
set_option maxRecDepth 1000000
namespace Go.Proofs.Ytcikcikcjimcjaa.Ev
open Go Go.RowKit Go.Proofs
def pick_Empty_i47_0_j1 {R : Type} (e0 : Int → Option R) (k : Nat) (v_1265 : Int) : Option R :=
  e0 (wrap64 (v_1265 + (1 : Int)))
def pick_Empty_i47_0_j1b {R : Type} (e0 : Int → Option R) (k : Nat) (v_1287 : Int) : Option R :=
  e0 (wrap64 (v_1287 + (1 : Int)))
def pick_Empty_i47_0_l0s {R : Type} (rc : Int → List Int → Option R) (e0 : List Int → Option R) (k : Nat) (vb_1254 : List (Int × (Int × Bool))) (v_1255 : Int) (v_1256 : Int) (out_1258 : List Int) : Option R :=
  bif (decide (v_1256 < v_1255)) then
    bif (decide ((0 : Int) ≤ v_1256)) then
      optb (vb_1254[v_1256.toNat]?) fun x_1260 =>
      optb (pick_Empty_1 k x_1260.1 x_1260.2.1 x_1260.2.2) fun r_1261 =>
      bif r_1261 then
        bif (decide (out_1258.length + ([v_1256] : List Int).length ≤ 1099511627776)) then
          pick_Empty_i47_0_j1 (fun v_1276 =>
            rc v_1276 (out_1258 ++ ([v_1256] : List Int))) k v_1256
        else none
      else pick_Empty_i47_0_j1b (fun v_1296 =>
        rc v_1296 out_1258) k v_1256
    else none
  else e0 out_1258
def pick_Empty_i47_0_l0 {R : Type} (e0 : List Int → Option R) (k : Nat) (vb_1254 : List (Int × (Int × Bool))) (v_1255 : Int) : Nat → Int → List Int → Option R
  | 0 => fun _ _ => none
  | j + 1 => pick_Empty_i47_0_l0s (pick_Empty_i47_0_l0 e0 k vb_1254 v_1255 j) e0 k vb_1254 v_1255
def pick_Empty (k : Nat) (la_1143 : Bool) (lb_1144 : List (Int × (Int × Bool))) : Option (Int × Int) :=
  pick_Empty_i47_0_l0 (fun out_1303 =>
    bif (decide ((lenI out_1303) = (0 : Int))) then
      some ((-1 : Int), (0 : Int))
    else bif (decide ((0 : Int) < (lenI out_1303))) then
      optb (out_1303[(0 : Int).toNat]?) fun x_1304 =>
      some (x_1304, (lenI out_1303))
    else none) k lb_1144 (lenI lb_1144) k (0 : Int) ([] : List Int)
def pick_Empty_p (k : Nat) : PF := { ps := [(false, 1)], rs := [(false, 1), (false, 1)], τ := (.sl (.pair (.int .i64) (.pair (.int .i64) .bool))), σ := (.pair (.int .i64) (.int .i64)), f := fun x => pick_Empty k x.1 x.2 }
def pick_Empty_F (k : Nat) : PT := fcons 54 (pick_Empty_1_p k) <| fnone
theorem pick_Empty_fok (k : Nat) : FOK Try.prog tab (pick_Empty_F k) := fok_cons (pick_Empty_1_ok k) Try.call54 <| fok_none
def pick_Empty_h : Hint := .no
def pick_Empty_O {R : Type} (k : Nat) : CutK R := cutsO []
def pick_Empty_i47_0_c0 : Cl := { keep := [1, 5, 8, 9, 10], hl := 1, ad := [(5, (.int .i64), 3)], adc := [], bump := [] }
def pick_Empty_i47_0_x0 : Cl := { keep := [5], hl := 1, ad := [], adc := [], bump := [] }
def pick_Empty_i47_0_c1 : Cl := { keep := [1, 5, 8, 9, 10], hl := 3, ad := [], adc := [], bump := [] }
def pick_Empty_i47_0_x1 : Cl := { keep := [1, 5, 8, 9, 10], hl := 3, ad := [], adc := [], bump := [] }
def pick_Empty_i47_0_h : Hint := (.sq .no (.sq .no (.sq (.sq .no (.lp pick_Empty_i47_0_c0 pick_Empty_i47_0_x0 0 (.sq .no (.sq .no (.ct pick_Empty_i47_0_c1 pick_Empty_i47_0_x1 1 .no .no))))) .no)))
def pick_Empty_i47_0_l0_E0 {R : Type} (K : EX → St → Option R) : Bool → List Int → Option R := fun v0 v1 => K (.exit 0) (mkSt 24 [] pick_Empty_i47_0_x0.keep [.own 0 1] [.lst (.int .i64) 3 v0 1 v1])
def pick_Empty_i47_0_l0_S (va_1253 : Bool) (vb_1254 : List (Int × (Int × Bool))) (v_1255 : Int) (v_1256 : Int) (outN_1257 : Bool) (out_1258 : List Int) : St := mkSt 24 [] pick_Empty_i47_0_c0.keep [.fn (.func 54) [] [], .own 0 1, .sl (.pair (.int .i64) (.pair (.int .i64) .bool)) va_1253 vb_1254, .int .i64 v_1255, .int .i64 v_1256] [.lst (.int .i64) 3 outN_1257 1 out_1258]
def pick_Empty_i47_0_l0_sh : Rd (List AV × List HE) := .pair (.cons (.fn 54 Rd.nil Rd.nil) (.cons (.own 0 1) (.cons (.sl (.pair (.int .i64) (.pair (.int .i64) .bool))) (.cons (.int .i64) (.cons (.int .i64) Rd.nil))))) (.cons (.lst (.int .i64) 3 1) Rd.nil)
def pick_Empty_i47_0_l0_a {R : Type} (k : Nat) : Alt R := { n := 24, v := [], sh := pick_Empty_i47_0_l0_sh, g := fun K x => pick_Empty_i47_0_l0 (fun y1 => pick_Empty_i47_0_l0_E0 K x.2.1.1 y1) k x.1.2.2.1.2 x.1.2.2.2.1 k x.1.2.2.2.2.1 x.2.1.2 }
def pick_Empty_i47_0_j1_E0 {R : Type} (K : EX → St → Option R) : Bool → List (Int × (Int × Bool)) → Int → Int → Bool → List Int → Int → Int → Bool → Bool → List Int → Option R := fun v0 v1 v2 v3 v4 v5 v6 v7 v8 v9 v10 => K .normal (mkSt 24 [] pick_Empty_i47_0_x1.keep [.fn (.func 54) [] [], .own 0 1, .sl (.pair (.int .i64) (.pair (.int .i64) .bool)) v0 v1, .int .i64 v2, .int .i64 v3] [.lst (.int .i64) 3 v4 1 v5, .blk [.int .i64 v6, .int .i64 v7, .bool v8], .lst (.int .i64) 3 v9 1 v10])
def pick_Empty_i47_0_j1_S (va_1262 : Bool) (vb_1263 : List (Int × (Int × Bool))) (v_1264 : Int) (v_1265 : Int) (outN_1266 : Bool) (out_1267 : List Int) (ha_1268 : Int) (hb_1269 : Int) (hc_1270 : Bool) (hN_1271 : Bool) (h_1272 : List Int) : St := mkSt 24 [] pick_Empty_i47_0_c1.keep [.fn (.func 54) [] [], .own 0 1, .sl (.pair (.int .i64) (.pair (.int .i64) .bool)) va_1262 vb_1263, .int .i64 v_1264, .int .i64 v_1265] [.lst (.int .i64) 3 outN_1266 1 out_1267, .blk [.int .i64 ha_1268, .int .i64 hb_1269, .bool hc_1270], .lst (.int .i64) 3 hN_1271 1 h_1272]
def pick_Empty_i47_0_j1_sh : Rd (List AV × List HE) := .pair (.cons (.fn 54 Rd.nil Rd.nil) (.cons (.own 0 1) (.cons (.sl (.pair (.int .i64) (.pair (.int .i64) .bool))) (.cons (.int .i64) (.cons (.int .i64) Rd.nil))))) (.cons (.lst (.int .i64) 3 1) (.cons (.blk (.cons (.int .i64) (.cons (.int .i64) (.cons .bool Rd.nil)))) (.cons (.lst (.int .i64) 3 1) Rd.nil)))
def pick_Empty_i47_0_j1_a {R : Type} (k : Nat) : Alt R := { n := 24, v := [], sh := pick_Empty_i47_0_j1_sh, g := fun K x => pick_Empty_i47_0_j1 (fun y3 => pick_Empty_i47_0_j1_E0 K x.1.2.2.1.1 x.1.2.2.1.2 x.1.2.2.2.1 y3 x.2.1.1 x.2.1.2 x.2.2.1.1 x.2.2.1.2.1 x.2.2.1.2.2.1 x.2.2.2.1.1 x.2.2.2.1.2) k x.1.2.2.2.2.1 }
def pick_Empty_i47_0_j1b_E0 {R : Type} (K : EX → St → Option R) : Bool → List (Int × (Int × Bool)) → Int → Int → Bool → List Int → Int → Int → Bool → Option R := fun v0 v1 v2 v3 v4 v5 v6 v7 v8 => K .normal (mkSt 24 [] pick_Empty_i47_0_x1.keep [.fn (.func 54) [] [], .own 0 1, .sl (.pair (.int .i64) (.pair (.int .i64) .bool)) v0 v1, .int .i64 v2, .int .i64 v3] [.lst (.int .i64) 3 v4 1 v5, .blk [.int .i64 v6, .int .i64 v7, .bool v8]])
def pick_Empty_i47_0_j1b_S (va_1284 : Bool) (vb_1285 : List (Int × (Int × Bool))) (v_1286 : Int) (v_1287 : Int) (outN_1288 : Bool) (out_1289 : List Int) (ha_1290 : Int) (hb_1291 : Int) (hc_1292 : Bool) : St := mkSt 24 [] pick_Empty_i47_0_c1.keep [.fn (.func 54) [] [], .own 0 1, .sl (.pair (.int .i64) (.pair (.int .i64) .bool)) va_1284 vb_1285, .int .i64 v_1286, .int .i64 v_1287] [.lst (.int .i64) 3 outN_1288 1 out_1289, .blk [.int .i64 ha_1290, .int .i64 hb_1291, .bool hc_1292]]
def pick_Empty_i47_0_j1b_sh : Rd (List AV × List HE) := .pair (.cons (.fn 54 Rd.nil Rd.nil) (.cons (.own 0 1) (.cons (.sl (.pair (.int .i64) (.pair (.int .i64) .bool))) (.cons (.int .i64) (.cons (.int .i64) Rd.nil))))) (.cons (.lst (.int .i64) 3 1) (.cons (.blk (.cons (.int .i64) (.cons (.int .i64) (.cons .bool Rd.nil)))) Rd.nil))
def pick_Empty_i47_0_j1b_a {R : Type} (k : Nat) : Alt R := { n := 24, v := [], sh := pick_Empty_i47_0_j1b_sh, g := fun K x => pick_Empty_i47_0_j1b (fun y3 => pick_Empty_i47_0_j1b_E0 K x.1.2.2.1.1 x.1.2.2.1.2 x.1.2.2.2.1 y3 x.2.1.1 x.2.1.2 x.2.2.1.1 x.2.2.1.2.1 x.2.2.1.2.2.1) k x.1.2.2.2.2.1 }
def pick_Empty_i47_0_O {R : Type} (k : Nat) : CutK R := cutsO [[pick_Empty_i47_0_l0_a k], [pick_Empty_i47_0_j1_a k, pick_Empty_i47_0_j1b_a k]]
noncomputable def pick_Empty_i47_0_b : List Ob := obs (bodyOf Try.f47) pick_Empty_i47_0_h
noncomputable def pick_Empty_I {R : Type} (k : Nat) : InlT R := icons 47 0 (pick_Empty_i47_0_h, Try.f47, deepO 0 (pick_Empty_i47_0_O k)) <| inone
theorem pick_Empty_i47_0_l0_eq {R : Type} (k : Nat) (d : Nat) (K : EX → St → Option R) (va_1253 : Bool) (vb_1254 : List (Int × (Int × Bool))) (v_1255 : Int) (outN_1257 : Bool) : ∀ (j : Nat) (v_1256 : Int) (out_1258 : List Int), pick_Empty_i47_0_l0 (fun y1 => pick_Empty_i47_0_l0_E0 K outN_1257 y1) k vb_1254 v_1255 j v_1256 out_1258 = iter pick_Empty_i47_0_c0 pick_Empty_i47_0_x0 (ev tab (pick_Empty_F k) (inlK tab (pick_Empty_F k) (pick_Empty_I k) (d + 0)) (deepO 0 (pick_Empty_i47_0_O k) (d + 0)) (obB pick_Empty_i47_0_b 0) (obH pick_Empty_i47_0_b 0)) j (pick_Empty_i47_0_l0_S va_1253 vb_1254 v_1255 v_1256 outN_1257 out_1258) K
  | 0, _, _ => rfl
  | j + 1, v_1256, out_1258 => by
    have e : pick_Empty_i47_0_l0 (fun y1 => pick_Empty_i47_0_l0_E0 K outN_1257 y1) k vb_1254 v_1255 j = fun v_1256 out_1258 => iter pick_Empty_i47_0_c0 pick_Empty_i47_0_x0 (ev tab (pick_Empty_F k) (inlK tab (pick_Empty_F k) (pick_Empty_I k) (d + 0)) (deepO 0 (pick_Empty_i47_0_O k) (d + 0)) (obB pick_Empty_i47_0_b 0) (obH pick_Empty_i47_0_b 0)) j (pick_Empty_i47_0_l0_S va_1253 vb_1254 v_1255 v_1256 outN_1257 out_1258) K := by funext v_1256 out_1258; exact pick_Empty_i47_0_l0_eq k d K va_1253 vb_1254 v_1255 outN_1257 j v_1256 out_1258
    show pick_Empty_i47_0_l0s (pick_Empty_i47_0_l0 (fun y1 => pick_Empty_i47_0_l0_E0 K outN_1257 y1) k vb_1254 v_1255 j) (fun y1 => pick_Empty_i47_0_l0_E0 K outN_1257 y1) k vb_1254 v_1255 v_1256 out_1258 = _
    rw [e, iter_succ]; kernel_rfl
theorem pick_Empty_i47_0_l0_ok {R : Type} (k : Nat) (d : Nat)  : ObOK (R := R) tab (pick_Empty_F k) (inlK tab (pick_Empty_F k) (pick_Empty_I k) d) (deepO 0 (pick_Empty_i47_0_O k) d) (.loop pick_Empty_i47_0_c0 pick_Empty_i47_0_x0 0 (obB pick_Empty_i47_0_b 0) (obH pick_Empty_i47_0_b 0)) :=
  deep_ob fun hd => by
    obtain ⟨d, rfl⟩ := Nat.exists_eq_add_of_le' hd
    exact loop_ok (l := [pick_Empty_i47_0_l0_a k]) (by kernel_rfl) ⟨(fun K x => ⟨k, (pick_Empty_i47_0_l0_eq k d K x.1.2.2.1.1 x.1.2.2.1.2 x.1.2.2.2.1 x.2.1.1 k x.1.2.2.2.2.1 x.2.1.2).trans (by kernel_rfl)⟩), trivial⟩
theorem pick_Empty_i47_0_j1_eq {R : Type} (k : Nat) (d : Nat) (K : EX → St → Option R) (va_1262 : Bool) (vb_1263 : List (Int × (Int × Bool))) (v_1264 : Int) (v_1265 : Int) (outN_1266 : Bool) (out_1267 : List Int) (ha_1268 : Int) (hb_1269 : Int) (hc_1270 : Bool) (hN_1271 : Bool) (h_1272 : List Int) : pick_Empty_i47_0_j1 (fun y3 => pick_Empty_i47_0_j1_E0 K va_1262 vb_1263 v_1264 y3 outN_1266 out_1267 ha_1268 hb_1269 hc_1270 hN_1271 h_1272) k v_1265 = ev tab (pick_Empty_F k) (inlK tab (pick_Empty_F k) (pick_Empty_I k) (d + 0)) (deepO 0 (pick_Empty_i47_0_O k) (d + 0)) (obB pick_Empty_i47_0_b 1) (obH pick_Empty_i47_0_b 1) (pick_Empty_i47_0_j1_S va_1262 vb_1263 v_1264 v_1265 outN_1266 out_1267 ha_1268 hb_1269 hc_1270 hN_1271 h_1272) (fun e st => optb (clean pick_Empty_i47_0_x1 st) fun st => K e st) := by kernel_rfl
theorem pick_Empty_i47_0_j1b_eq {R : Type} (k : Nat) (d : Nat) (K : EX → St → Option R) (va_1284 : Bool) (vb_1285 : List (Int × (Int × Bool))) (v_1286 : Int) (v_1287 : Int) (outN_1288 : Bool) (out_1289 : List Int) (ha_1290 : Int) (hb_1291 : Int) (hc_1292 : Bool) : pick_Empty_i47_0_j1b (fun y3 => pick_Empty_i47_0_j1b_E0 K va_1284 vb_1285 v_1286 y3 outN_1288 out_1289 ha_1290 hb_1291 hc_1292) k v_1287 = ev tab (pick_Empty_F k) (inlK tab (pick_Empty_F k) (pick_Empty_I k) (d + 0)) (deepO 0 (pick_Empty_i47_0_O k) (d + 0)) (obB pick_Empty_i47_0_b 1) (obH pick_Empty_i47_0_b 1) (pick_Empty_i47_0_j1b_S va_1284 vb_1285 v_1286 v_1287 outN_1288 out_1289 ha_1290 hb_1291 hc_1292) (fun e st => optb (clean pick_Empty_i47_0_x1 st) fun st => K e st) := by kernel_rfl
theorem pick_Empty_i47_0_j1_ok {R : Type} (k : Nat) (d : Nat)  : ObOK (R := R) tab (pick_Empty_F k) (inlK tab (pick_Empty_F k) (pick_Empty_I k) d) (deepO 0 (pick_Empty_i47_0_O k) d) (.join pick_Empty_i47_0_c1 pick_Empty_i47_0_x1 1 (obB pick_Empty_i47_0_b 1) (obH pick_Empty_i47_0_b 1)) :=
  deep_ob fun hd => by
    obtain ⟨d, rfl⟩ := Nat.exists_eq_add_of_le' hd
    exact join_ok (l := [pick_Empty_i47_0_j1_a k, pick_Empty_i47_0_j1b_a k]) (by kernel_rfl) ⟨(fun K x => (pick_Empty_i47_0_j1_eq k d K x.1.2.2.1.1 x.1.2.2.1.2 x.1.2.2.2.1 x.1.2.2.2.2.1 x.2.1.1 x.2.1.2 x.2.2.1.1 x.2.2.1.2.1 x.2.2.1.2.2.1 x.2.2.2.1.1 x.2.2.2.1.2).trans (by kernel_rfl)), (fun K x => (pick_Empty_i47_0_j1b_eq k d K x.1.2.2.1.1 x.1.2.2.1.2 x.1.2.2.2.1 x.1.2.2.2.2.1 x.2.1.1 x.2.1.2 x.2.2.1.1 x.2.2.1.2.1 x.2.2.1.2.2.1).trans (by kernel_rfl)), trivial⟩
theorem pick_Empty_i47_0_cuts {R : Type} (k : Nat) : ∀ (d : Nat), ∀ c, Try.f47.body = some c → CutsOK (R := R) tab (pick_Empty_F k) (inlK tab (pick_Empty_F k) (pick_Empty_I k) d) (deepO 0 (pick_Empty_i47_0_O k) d) c pick_Empty_i47_0_h :=
  fun d => cuts_of (l := [.loop pick_Empty_i47_0_c0 pick_Empty_i47_0_x0 0 (obB pick_Empty_i47_0_b 0) (obH pick_Empty_i47_0_b 0), .join pick_Empty_i47_0_c1 pick_Empty_i47_0_x1 1 (obB pick_Empty_i47_0_b 1) (obH pick_Empty_i47_0_b 1)]) (by kernel_rfl) ⟨pick_Empty_i47_0_l0_ok k d, pick_Empty_i47_0_j1_ok k d, trivial⟩
theorem pick_Empty_iok {R : Type} (k : Nat) : IOK Try.prog tab (pick_Empty_F k) (pick_Empty_I (R := R) k) := iok_cons Try.func47 Try.call47 (pick_Empty_i47_0_cuts k) <| iok_none
theorem pick_Empty_ev (k : Nat) (x : (pick_Empty_p k).τ.den) : evalF tab (pick_Empty_F k) (pick_Empty_p k) (pick_Empty_I k) 1 (pick_Empty_O k) pick_Empty_h Try.f33 x = (pick_Empty_p k).f x := by kernel_rfl
theorem pick_Empty_ok (k : Nat) : PFOK Try.prog tab 33 (pick_Empty_p k) := pfok mixed tabOK (pick_Empty_fok k) Try.func33 (I := pick_Empty_I k) (d := 1) (pick_Empty_iok k) (Q := pick_Empty_O k) (hi := pick_Empty_h) (cuts_of (l := []) (by kernel_rfl) trivial) (pick_Empty_ev k)
end Go.Proofs.Ytcikcikcjimcjaa.Ev
