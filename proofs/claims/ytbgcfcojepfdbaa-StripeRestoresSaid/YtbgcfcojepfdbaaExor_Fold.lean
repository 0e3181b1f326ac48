/- xor_Fold, told on plain data. Written by program. -/
import Derived.Test.YtbgcfcojepfdbaaExor_load
set_option linter.unusedVariables false
set_option maxRecDepth 1000000
namespace Go.Proofs.Ytbgcfcojepfdbaa.Ev
open Go Go.RowKit Go.Proofs
def xor_Fold_l0s {R : Type} (rc : Int → Int → Option R) (e0 : Int → Option R) (k : Nat) (vb_1200 : List ByteArray) (v_1201 : Int) (long_1198 : Int) (v_1202 : Int) : Option R :=
  bif (decide (v_1202 < v_1201)) then
    bif (decide ((0 : Int) ≤ v_1202)) then
      optb (vb_1200[v_1202.toNat]?) fun x_1206 =>
      rc (bif (decide ((sizeI x_1206) > long_1198)) then (sizeI x_1206) else long_1198) (wrap64 (v_1202 + (1 : Int)))
    else none
  else e0 long_1198
def xor_Fold_l0 {R : Type} (e0 : Int → Option R) (k : Nat) (vb_1200 : List ByteArray) (v_1201 : Int) : Nat → Int → Int → Option R
  | 0 => fun _ _ => none
  | j + 1 => xor_Fold_l0s (xor_Fold_l0 e0 k vb_1200 v_1201 j) e0 k vb_1200 v_1201
def xor_Fold_i64_1_j1 {R : Type} (e0 : List Int → Option R) (k : Nat) (at_1239 : Int) (w_1240 : Int) (k_1241 : Int) (to_1244 : List Int) : Option R :=
  bif ((decide ((0 : Int) ≤ (wrap64 (at_1239 + k_1241)))) && (decide ((wrap64 (at_1239 + k_1241)) < (lenI to_1244)))) then
    optb (to_1244[(wrap64 (at_1239 + k_1241)).toNat]?) fun x_1245 =>
    bif (decide ((wrap64 ((8 : Int) * k_1241)) < (0 : Int))) then
      none
    else bif ((decide ((0 : Int) ≤ (wrap64 (at_1239 + k_1241)))) && (decide ((wrap64 (at_1239 + k_1241)) < (lenI to_1244)))) then
      optb (to_1244[(wrap64 (at_1239 + k_1241)).toNat]?) fun x_1248 =>
      e0 (List.set to_1244 (wrap64 (at_1239 + k_1241)).toNat (bitop .xor .u8 x_1245 (IntKind.u8.wrap (shrv .u64 w_1240 (wrap64 ((8 : Int) * k_1241))))))
    else none
  else none
def xor_Fold_i64_1_l0s {R : Type} (rc : Int → List Int → Option R) (e0 : List Int → Option R) (k : Nat) (at_1229 : Int) (w_1230 : Int) (v_1231 : Int) (to_1233 : List Int) : Option R :=
  bif (decide (v_1231 < (8 : Int))) then
    xor_Fold_i64_1_j1 (fun to_1254 =>
      rc (wrap64 (v_1231 + (1 : Int))) to_1254) k at_1229 w_1230 v_1231 to_1233
  else e0 to_1233
def xor_Fold_i64_1_l0 {R : Type} (e0 : List Int → Option R) (k : Nat) (at_1229 : Int) (w_1230 : Int) : Nat → Int → List Int → Option R
  | 0 => fun _ _ => none
  | j + 1 => xor_Fold_i64_1_l0s (xor_Fold_i64_1_l0 e0 k at_1229 w_1230 j) e0 k at_1229 w_1230
def xor_Fold_i56_1_j1 {R : Type} (e0 : Int → Option R) (k : Nat) (i_1258 : Int) : Option R :=
  e0 (wrap64 (i_1258 + (8 : Int)))
def xor_Fold_i56_1_l0s {R : Type} (rc : Int → List Int → Option R) (e0 : Int → List Int → Option R) (k : Nat) (s_1221 : ByteArray) (i_1222 : Int) (to_1224 : List Int) : Option R :=
  bif (decide ((wrap64 (i_1222 + (8 : Int))) ≤ (sizeI s_1221))) then
    optb (xor_load k s_1221 i_1222) fun r_1227 =>
    bif (!(decide (r_1227 = (0 : Int)))) then
      optb (xor_load k s_1221 i_1222) fun r_1228 =>
      xor_Fold_i64_1_l0 (fun h_1256 =>
        xor_Fold_i56_1_j1 (fun i_1262 =>
          rc i_1262 h_1256) k i_1222) k i_1222 r_1228 k (0 : Int) to_1224
    else xor_Fold_i56_1_j1 (fun i_1266 =>
      rc i_1266 to_1224) k i_1222
  else e0 i_1222 to_1224
def xor_Fold_i56_1_l0 {R : Type} (e0 : Int → List Int → Option R) (k : Nat) (s_1221 : ByteArray) : Nat → Int → List Int → Option R
  | 0 => fun _ _ => none
  | j + 1 => xor_Fold_i56_1_l0s (xor_Fold_i56_1_l0 e0 k s_1221 j) e0 k s_1221
def xor_Fold_i56_1_l2s {R : Type} (rc : Int → List Int → Option R) (e0 : List Int → Option R) (k : Nat) (s_1273 : ByteArray) (i_1274 : Int) (to_1276 : List Int) : Option R :=
  bif (decide (i_1274 < (sizeI s_1273))) then
    bif ((decide ((0 : Int) ≤ i_1274)) && (decide (i_1274 < (lenI to_1276)))) then
      optb (to_1276[i_1274.toNat]?) fun x_1280 =>
      bif ((decide ((0 : Int) ≤ i_1274)) && (decide (i_1274 < (sizeI s_1273)))) then
        bif ((decide ((0 : Int) ≤ i_1274)) && (decide (i_1274 < (lenI to_1276)))) then
          optb (to_1276[i_1274.toNat]?) fun x_1281 =>
          rc (wrap64 (i_1274 + (1 : Int))) (List.set to_1276 i_1274.toNat (bitop .xor .u8 x_1280 (bt s_1273 i_1274)))
        else none
      else none
    else none
  else e0 to_1276
def xor_Fold_i56_1_l2 {R : Type} (e0 : List Int → Option R) (k : Nat) (s_1273 : ByteArray) : Nat → Int → List Int → Option R
  | 0 => fun _ _ => none
  | j + 1 => xor_Fold_i56_1_l2s (xor_Fold_i56_1_l2 e0 k s_1273 j) e0 k s_1273
def xor_Fold_l1s {R : Type} (rc : Int → List Int → Option R) (e0 : List Int → Option R) (k : Nat) (vb_1213 : List ByteArray) (v_1214 : Int) (v_1215 : Int) (out_1217 : List Int) : Option R :=
  bif (decide (v_1215 < v_1214)) then
    bif (decide ((0 : Int) ≤ v_1215)) then
      optb (vb_1213[v_1215.toNat]?) fun x_1220 =>
      xor_Fold_i56_1_l0 (fun i_1270 to_1272 =>
        xor_Fold_i56_1_l2 (fun h_1284 =>
          rc (wrap64 (v_1215 + (1 : Int))) h_1284) k x_1220 k i_1270 to_1272) k x_1220 k (0 : Int) out_1217
    else none
  else e0 out_1217
def xor_Fold_l1 {R : Type} (e0 : List Int → Option R) (k : Nat) (vb_1213 : List ByteArray) (v_1214 : Int) : Nat → Int → List Int → Option R
  | 0 => fun _ _ => none
  | j + 1 => xor_Fold_l1s (xor_Fold_l1 e0 k vb_1213 v_1214 j) e0 k vb_1213 v_1214
def xor_Fold (k : Nat) (partsa_456 : Bool) (partsb_457 : List ByteArray) : Option ByteArray :=
  xor_Fold_l0 (fun long_1210 =>
    bif (((decide ((0 : Int) ≤ long_1210)) && (decide (long_1210 ≤ long_1210))) && (decide (long_1210 ≤ (1099511627776 : Int)))) then
      xor_Fold_l1 (fun out_1286 =>
        some (bytesOf out_1286)) k partsb_457 (lenI partsb_457) k (0 : Int) (List.replicate long_1210.toNat (Ty.zero (.int .u8)))
    else none) k partsb_457 (lenI partsb_457) k (0 : Int) (0 : Int)
def xor_Fold_p (k : Nat) : PF := { ps := [(false, 1)], rs := [(false, 1)], τ := (.sl .str), σ := .str, f := fun x => xor_Fold k x.1 x.2 }
def xor_Fold_F (k : Nat) : PT := fcons 63 (xor_load_p k) <| fnone
theorem xor_Fold_fok (k : Nat) : FOK Try.prog tab (xor_Fold_F k) := fok_cons (xor_load_ok k) Try.call63 <| fok_none
def xor_Fold_c0 : Cl := { keep := [0, 3, 9, 10, 11], hl := 0, ad := [], adc := [], bump := [] }
def xor_Fold_x0 : Cl := { keep := [0, 3], hl := 0, ad := [], adc := [], bump := [] }
def xor_Fold_c1 : Cl := { keep := [6, 22, 23, 24], hl := 1, ad := [], adc := [], bump := [] }
def xor_Fold_x1 : Cl := { keep := [6], hl := 1, ad := [], adc := [], bump := [] }
def xor_Fold_h : Hint := (.sq .no (.sq .no (.sq (.sq .no (.lp xor_Fold_c0 xor_Fold_x0 0 .no)) (.sq .no (.sq (.sq .no (.lp xor_Fold_c1 xor_Fold_x1 1 .no)) .no)))))
def xor_Fold_l0_E0 {R : Type} (K : EX → St → Option R) : Bool → List ByteArray → Int → Option R := fun v0 v1 v2 => K (.exit 0) (mkSt 34 [] xor_Fold_x0.keep [.sl .str v0 v1, .int .i64 v2] [])
def xor_Fold_l0_S (partsa_1196 : Bool) (partsb_1197 : List ByteArray) (long_1198 : Int) (va_1199 : Bool) (vb_1200 : List ByteArray) (v_1201 : Int) (v_1202 : Int) : St := mkSt 34 [] xor_Fold_c0.keep [.sl .str partsa_1196 partsb_1197, .int .i64 long_1198, .sl .str va_1199 vb_1200, .int .i64 v_1201, .int .i64 v_1202] []
def xor_Fold_l0_sh : Rd (List AV × List HE) := .pair (.cons (.sl .str) (.cons (.int .i64) (.cons (.sl .str) (.cons (.int .i64) (.cons (.int .i64) Rd.nil))))) Rd.nil
def xor_Fold_l0_a {R : Type} (k : Nat) : Alt R := { n := 34, v := [], sh := xor_Fold_l0_sh, g := fun K x => xor_Fold_l0 (fun y2 => xor_Fold_l0_E0 K x.1.1.1 x.1.1.2 y2) k x.1.2.2.1.2 x.1.2.2.2.1 k x.1.2.1 x.1.2.2.2.2.1 }
def xor_Fold_l1_E0 {R : Type} (K : EX → St → Option R) : Bool → List Int → Option R := fun v0 v1 => K (.exit 2) (mkSt 34 [] xor_Fold_x1.keep [.own 0 1] [.lst (.int .u8) 5 v0 1 v1])
def xor_Fold_l1_S (va_1212 : Bool) (vb_1213 : List ByteArray) (v_1214 : Int) (v_1215 : Int) (outN_1216 : Bool) (out_1217 : List Int) : St := mkSt 34 [] xor_Fold_c1.keep [.own 0 1, .sl .str va_1212 vb_1213, .int .i64 v_1214, .int .i64 v_1215] [.lst (.int .u8) 5 outN_1216 1 out_1217]
def xor_Fold_l1_sh : Rd (List AV × List HE) := .pair (.cons (.own 0 1) (.cons (.sl .str) (.cons (.int .i64) (.cons (.int .i64) Rd.nil)))) (.cons (.lst (.int .u8) 5 1) Rd.nil)
def xor_Fold_l1_a {R : Type} (k : Nat) : Alt R := { n := 34, v := [], sh := xor_Fold_l1_sh, g := fun K x => xor_Fold_l1 (fun y1 => xor_Fold_l1_E0 K x.2.1.1 y1) k x.1.2.1.2 x.1.2.2.1 k x.1.2.2.2.1 x.2.1.2 }
def xor_Fold_O {R : Type} (k : Nat) : CutK R := cutsO [[xor_Fold_l0_a k], [xor_Fold_l1_a k]]
noncomputable def xor_Fold_b : List Ob := obs (bodyOf Try.f45) xor_Fold_h
def xor_Fold_i56_1_c0 : Cl := { keep := [0, 1, 4], hl := 1, ad := [], adc := [], bump := [] }
def xor_Fold_i56_1_x0 : Cl := { keep := [0, 1, 4], hl := 1, ad := [], adc := [], bump := [] }
def xor_Fold_i56_1_c1 : Cl := { keep := [0, 1, 4], hl := 1, ad := [], adc := [], bump := [] }
def xor_Fold_i56_1_x1 : Cl := { keep := [0, 1, 4], hl := 1, ad := [], adc := [], bump := [] }
def xor_Fold_i56_1_c2 : Cl := { keep := [0, 1, 4], hl := 1, ad := [], adc := [], bump := [] }
def xor_Fold_i56_1_x2 : Cl := { keep := [], hl := 1, ad := [], adc := [], bump := [] }
def xor_Fold_i56_1_h : Hint := (.sq .no (.sq (.lp xor_Fold_i56_1_c0 xor_Fold_i56_1_x0 0 (.sq .no (.ct xor_Fold_i56_1_c1 xor_Fold_i56_1_x1 1 .no .no))) (.lp xor_Fold_i56_1_c2 xor_Fold_i56_1_x2 2 .no)))
def xor_Fold_i56_1_l0_E0 {R : Type} (K : EX → St → Option R) : ByteArray → Int → Bool → List Int → Option R := fun v0 v1 v2 v3 => K (.exit 0) (mkSt 37 [1] xor_Fold_i56_1_x0.keep [.own 0 1, .str v0, .int .i64 v1] [.lst (.int .u8) 5 v2 1 v3])
def xor_Fold_i56_1_l0_S (s_1221 : ByteArray) (i_1222 : Int) (toN_1223 : Bool) (to_1224 : List Int) : St := mkSt 37 [1] xor_Fold_i56_1_c0.keep [.own 0 1, .str s_1221, .int .i64 i_1222] [.lst (.int .u8) 5 toN_1223 1 to_1224]
def xor_Fold_i56_1_l0_sh : Rd (List AV × List HE) := .pair (.cons (.own 0 1) (.cons .str (.cons (.int .i64) Rd.nil))) (.cons (.lst (.int .u8) 5 1) Rd.nil)
def xor_Fold_i56_1_l0_a {R : Type} (k : Nat) : Alt R := { n := 37, v := [1], sh := xor_Fold_i56_1_l0_sh, g := fun K x => xor_Fold_i56_1_l0 (fun y1 y3 => xor_Fold_i56_1_l0_E0 K x.1.2.1 y1 x.2.1.1 y3) k x.1.2.1 k x.1.2.2.1 x.2.1.2 }
def xor_Fold_i56_1_j1_E0 {R : Type} (K : EX → St → Option R) : ByteArray → Int → Bool → List Int → Option R := fun v0 v1 v2 v3 => K .normal (mkSt 37 [1] xor_Fold_i56_1_x1.keep [.own 0 1, .str v0, .int .i64 v1] [.lst (.int .u8) 5 v2 1 v3])
def xor_Fold_i56_1_j1_S (s_1257 : ByteArray) (i_1258 : Int) (toN_1259 : Bool) (to_1260 : List Int) : St := mkSt 37 [1] xor_Fold_i56_1_c1.keep [.own 0 1, .str s_1257, .int .i64 i_1258] [.lst (.int .u8) 5 toN_1259 1 to_1260]
def xor_Fold_i56_1_j1_sh : Rd (List AV × List HE) := .pair (.cons (.own 0 1) (.cons .str (.cons (.int .i64) Rd.nil))) (.cons (.lst (.int .u8) 5 1) Rd.nil)
def xor_Fold_i56_1_j1_a {R : Type} (k : Nat) : Alt R := { n := 37, v := [1], sh := xor_Fold_i56_1_j1_sh, g := fun K x => xor_Fold_i56_1_j1 (fun y1 => xor_Fold_i56_1_j1_E0 K x.1.2.1 y1 x.2.1.1 x.2.1.2) k x.1.2.2.1 }
def xor_Fold_i56_1_l2_E0 {R : Type} (K : EX → St → Option R) : Bool → List Int → Option R := fun v0 v1 => K (.exit 2) (mkSt 37 [1] xor_Fold_i56_1_x2.keep [] [.lst (.int .u8) 5 v0 1 v1])
def xor_Fold_i56_1_l2_S (s_1273 : ByteArray) (i_1274 : Int) (toN_1275 : Bool) (to_1276 : List Int) : St := mkSt 37 [1] xor_Fold_i56_1_c2.keep [.own 0 1, .str s_1273, .int .i64 i_1274] [.lst (.int .u8) 5 toN_1275 1 to_1276]
def xor_Fold_i56_1_l2_sh : Rd (List AV × List HE) := .pair (.cons (.own 0 1) (.cons .str (.cons (.int .i64) Rd.nil))) (.cons (.lst (.int .u8) 5 1) Rd.nil)
def xor_Fold_i56_1_l2_a {R : Type} (k : Nat) : Alt R := { n := 37, v := [1], sh := xor_Fold_i56_1_l2_sh, g := fun K x => xor_Fold_i56_1_l2 (fun y1 => xor_Fold_i56_1_l2_E0 K x.2.1.1 y1) k x.1.2.1 k x.1.2.2.1 x.2.1.2 }
def xor_Fold_i56_1_O {R : Type} (k : Nat) : CutK R := cutsO [[xor_Fold_i56_1_l0_a k], [xor_Fold_i56_1_j1_a k], [xor_Fold_i56_1_l2_a k]]
noncomputable def xor_Fold_i56_1_b : List Ob := obs (bodyOf Try.f56) xor_Fold_i56_1_h
def xor_Fold_i64_1_c0 : Cl := { keep := [0, 1, 2, 7], hl := 1, ad := [], adc := [], bump := [] }
def xor_Fold_i64_1_x0 : Cl := { keep := [], hl := 1, ad := [], adc := [], bump := [] }
def xor_Fold_i64_1_c1 : Cl := { keep := [0, 1, 2, 6, 7], hl := 1, ad := [], adc := [], bump := [] }
def xor_Fold_i64_1_x1 : Cl := { keep := [0, 1, 2, 7], hl := 1, ad := [], adc := [], bump := [] }
def xor_Fold_i64_1_h : Hint := (.sq .no (.lp xor_Fold_i64_1_c0 xor_Fold_i64_1_x0 0 (.sq .no (.sq .no (.sq (.ct xor_Fold_i64_1_c1 xor_Fold_i64_1_x1 1 .no .no) .no)))))
def xor_Fold_i64_1_l0_E0 {R : Type} (K : EX → St → Option R) : Bool → List Int → Option R := fun v0 v1 => K (.exit 0) (mkSt 24 [1] xor_Fold_i64_1_x0.keep [] [.lst (.int .u8) 5 v0 1 v1])
def xor_Fold_i64_1_l0_S (at_1229 : Int) (w_1230 : Int) (v_1231 : Int) (toN_1232 : Bool) (to_1233 : List Int) : St := mkSt 24 [1] xor_Fold_i64_1_c0.keep [.own 0 1, .int .i64 at_1229, .int .u64 w_1230, .int .i64 v_1231] [.lst (.int .u8) 5 toN_1232 1 to_1233]
def xor_Fold_i64_1_l0_sh : Rd (List AV × List HE) := .pair (.cons (.own 0 1) (.cons (.int .i64) (.cons (.int .u64) (.cons (.int .i64) Rd.nil)))) (.cons (.lst (.int .u8) 5 1) Rd.nil)
def xor_Fold_i64_1_l0_a {R : Type} (k : Nat) : Alt R := { n := 24, v := [1], sh := xor_Fold_i64_1_l0_sh, g := fun K x => xor_Fold_i64_1_l0 (fun y1 => xor_Fold_i64_1_l0_E0 K x.2.1.1 y1) k x.1.2.1 x.1.2.2.1 k x.1.2.2.2.1 x.2.1.2 }
def xor_Fold_i64_1_j1_E0 {R : Type} (K : EX → St → Option R) : Int → Int → Int → Bool → List Int → Option R := fun v0 v1 v2 v3 v4 => K .normal (mkSt 24 [1] xor_Fold_i64_1_x1.keep [.own 0 1, .int .i64 v0, .int .u64 v1, .int .i64 v2] [.lst (.int .u8) 5 v3 1 v4])
def xor_Fold_i64_1_j1_S (at_1239 : Int) (w_1240 : Int) (k_1241 : Int) (v_1242 : Int) (toN_1243 : Bool) (to_1244 : List Int) : St := mkSt 24 [1] xor_Fold_i64_1_c1.keep [.own 0 1, .int .i64 at_1239, .int .u64 w_1240, .int .i64 k_1241, .int .i64 v_1242] [.lst (.int .u8) 5 toN_1243 1 to_1244]
def xor_Fold_i64_1_j1_sh : Rd (List AV × List HE) := .pair (.cons (.own 0 1) (.cons (.int .i64) (.cons (.int .u64) (.cons (.int .i64) (.cons (.int .i64) Rd.nil))))) (.cons (.lst (.int .u8) 5 1) Rd.nil)
def xor_Fold_i64_1_j1_a {R : Type} (k : Nat) : Alt R := { n := 24, v := [1], sh := xor_Fold_i64_1_j1_sh, g := fun K x => xor_Fold_i64_1_j1 (fun y4 => xor_Fold_i64_1_j1_E0 K x.1.2.1 x.1.2.2.1 x.1.2.2.2.2.1 x.2.1.1 y4) k x.1.2.1 x.1.2.2.1 x.1.2.2.2.1 x.2.1.2 }
def xor_Fold_i64_1_O {R : Type} (k : Nat) : CutK R := cutsO [[xor_Fold_i64_1_l0_a k], [xor_Fold_i64_1_j1_a k]]
noncomputable def xor_Fold_i64_1_b : List Ob := obs (bodyOf Try.f64) xor_Fold_i64_1_h
noncomputable def xor_Fold_I {R : Type} (k : Nat) : InlT R := icons 56 1 (xor_Fold_i56_1_h, Try.f56, deepO 1 (xor_Fold_i56_1_O k)) <| icons 64 1 (xor_Fold_i64_1_h, Try.f64, deepO 0 (xor_Fold_i64_1_O k)) <| inone
theorem xor_Fold_l0_eq {R : Type} (k : Nat) (K : EX → St → Option R) (partsa_1196 : Bool) (partsb_1197 : List ByteArray) (va_1199 : Bool) (vb_1200 : List ByteArray) (v_1201 : Int) : ∀ (j : Nat) (long_1198 : Int) (v_1202 : Int), xor_Fold_l0 (fun y2 => xor_Fold_l0_E0 K partsa_1196 partsb_1197 y2) k vb_1200 v_1201 j long_1198 v_1202 = iter xor_Fold_c0 xor_Fold_x0 (ev tab (xor_Fold_F k) (inlK tab (xor_Fold_F k) (xor_Fold_I k) 2) (xor_Fold_O k) (obB xor_Fold_b 0) (obH xor_Fold_b 0)) j (xor_Fold_l0_S partsa_1196 partsb_1197 long_1198 va_1199 vb_1200 v_1201 v_1202) K
  | 0, _, _ => rfl
  | j + 1, long_1198, v_1202 => by
    have e : xor_Fold_l0 (fun y2 => xor_Fold_l0_E0 K partsa_1196 partsb_1197 y2) k vb_1200 v_1201 j = fun long_1198 v_1202 => iter xor_Fold_c0 xor_Fold_x0 (ev tab (xor_Fold_F k) (inlK tab (xor_Fold_F k) (xor_Fold_I k) 2) (xor_Fold_O k) (obB xor_Fold_b 0) (obH xor_Fold_b 0)) j (xor_Fold_l0_S partsa_1196 partsb_1197 long_1198 va_1199 vb_1200 v_1201 v_1202) K := by funext long_1198 v_1202; exact xor_Fold_l0_eq k K partsa_1196 partsb_1197 va_1199 vb_1200 v_1201 j long_1198 v_1202
    show xor_Fold_l0s (xor_Fold_l0 (fun y2 => xor_Fold_l0_E0 K partsa_1196 partsb_1197 y2) k vb_1200 v_1201 j) (fun y2 => xor_Fold_l0_E0 K partsa_1196 partsb_1197 y2) k vb_1200 v_1201 long_1198 v_1202 = _
    rw [e, iter_succ]; kernel_rfl
theorem xor_Fold_l0_ok {R : Type} (k : Nat)  : ObOK (R := R) tab (xor_Fold_F k) (inlK tab (xor_Fold_F k) (xor_Fold_I k) 2) (xor_Fold_O k) (.loop xor_Fold_c0 xor_Fold_x0 0 (obB xor_Fold_b 0) (obH xor_Fold_b 0)) :=
  loop_ok (l := [xor_Fold_l0_a k]) (by kernel_rfl) ⟨(fun K x => ⟨k, (xor_Fold_l0_eq k K x.1.1.1 x.1.1.2 x.1.2.2.1.1 x.1.2.2.1.2 x.1.2.2.2.1 k x.1.2.1 x.1.2.2.2.2.1).trans (by kernel_rfl)⟩), trivial⟩
theorem xor_Fold_l1_eq {R : Type} (k : Nat) (K : EX → St → Option R) (va_1212 : Bool) (vb_1213 : List ByteArray) (v_1214 : Int) (outN_1216 : Bool) : ∀ (j : Nat) (v_1215 : Int) (out_1217 : List Int), xor_Fold_l1 (fun y1 => xor_Fold_l1_E0 K outN_1216 y1) k vb_1213 v_1214 j v_1215 out_1217 = iter xor_Fold_c1 xor_Fold_x1 (ev tab (xor_Fold_F k) (inlK tab (xor_Fold_F k) (xor_Fold_I k) 2) (xor_Fold_O k) (obB xor_Fold_b 1) (obH xor_Fold_b 1)) j (xor_Fold_l1_S va_1212 vb_1213 v_1214 v_1215 outN_1216 out_1217) K
  | 0, _, _ => rfl
  | j + 1, v_1215, out_1217 => by
    have e : xor_Fold_l1 (fun y1 => xor_Fold_l1_E0 K outN_1216 y1) k vb_1213 v_1214 j = fun v_1215 out_1217 => iter xor_Fold_c1 xor_Fold_x1 (ev tab (xor_Fold_F k) (inlK tab (xor_Fold_F k) (xor_Fold_I k) 2) (xor_Fold_O k) (obB xor_Fold_b 1) (obH xor_Fold_b 1)) j (xor_Fold_l1_S va_1212 vb_1213 v_1214 v_1215 outN_1216 out_1217) K := by funext v_1215 out_1217; exact xor_Fold_l1_eq k K va_1212 vb_1213 v_1214 outN_1216 j v_1215 out_1217
    show xor_Fold_l1s (xor_Fold_l1 (fun y1 => xor_Fold_l1_E0 K outN_1216 y1) k vb_1213 v_1214 j) (fun y1 => xor_Fold_l1_E0 K outN_1216 y1) k vb_1213 v_1214 v_1215 out_1217 = _
    rw [e, iter_succ]; kernel_rfl
theorem xor_Fold_l1_ok {R : Type} (k : Nat)  : ObOK (R := R) tab (xor_Fold_F k) (inlK tab (xor_Fold_F k) (xor_Fold_I k) 2) (xor_Fold_O k) (.loop xor_Fold_c1 xor_Fold_x1 1 (obB xor_Fold_b 1) (obH xor_Fold_b 1)) :=
  loop_ok (l := [xor_Fold_l1_a k]) (by kernel_rfl) ⟨(fun K x => ⟨k, (xor_Fold_l1_eq k K x.1.2.1.1 x.1.2.1.2 x.1.2.2.1 x.2.1.1 k x.1.2.2.2.1 x.2.1.2).trans (by kernel_rfl)⟩), trivial⟩
theorem xor_Fold_cuts {R : Type} (k : Nat) : ∀ c, Try.f45.body = some c → CutsOK (R := R) tab (xor_Fold_F k) (inlK tab (xor_Fold_F k) (xor_Fold_I k) 2) (xor_Fold_O k) c xor_Fold_h :=
  cuts_of (l := [.loop xor_Fold_c0 xor_Fold_x0 0 (obB xor_Fold_b 0) (obH xor_Fold_b 0), .loop xor_Fold_c1 xor_Fold_x1 1 (obB xor_Fold_b 1) (obH xor_Fold_b 1)]) (by kernel_rfl) ⟨xor_Fold_l0_ok k, xor_Fold_l1_ok k, trivial⟩
theorem xor_Fold_i56_1_l0_eq {R : Type} (k : Nat) (d : Nat) (K : EX → St → Option R) (s_1221 : ByteArray) (toN_1223 : Bool) : ∀ (j : Nat) (i_1222 : Int) (to_1224 : List Int), xor_Fold_i56_1_l0 (fun y1 y3 => xor_Fold_i56_1_l0_E0 K s_1221 y1 toN_1223 y3) k s_1221 j i_1222 to_1224 = iter xor_Fold_i56_1_c0 xor_Fold_i56_1_x0 (ev tab (xor_Fold_F k) (inlK tab (xor_Fold_F k) (xor_Fold_I k) (d + 1)) (deepO 1 (xor_Fold_i56_1_O k) (d + 1)) (obB xor_Fold_i56_1_b 0) (obH xor_Fold_i56_1_b 0)) j (xor_Fold_i56_1_l0_S s_1221 i_1222 toN_1223 to_1224) K
  | 0, _, _ => rfl
  | j + 1, i_1222, to_1224 => by
    have e : xor_Fold_i56_1_l0 (fun y1 y3 => xor_Fold_i56_1_l0_E0 K s_1221 y1 toN_1223 y3) k s_1221 j = fun i_1222 to_1224 => iter xor_Fold_i56_1_c0 xor_Fold_i56_1_x0 (ev tab (xor_Fold_F k) (inlK tab (xor_Fold_F k) (xor_Fold_I k) (d + 1)) (deepO 1 (xor_Fold_i56_1_O k) (d + 1)) (obB xor_Fold_i56_1_b 0) (obH xor_Fold_i56_1_b 0)) j (xor_Fold_i56_1_l0_S s_1221 i_1222 toN_1223 to_1224) K := by funext i_1222 to_1224; exact xor_Fold_i56_1_l0_eq k d K s_1221 toN_1223 j i_1222 to_1224
    show xor_Fold_i56_1_l0s (xor_Fold_i56_1_l0 (fun y1 y3 => xor_Fold_i56_1_l0_E0 K s_1221 y1 toN_1223 y3) k s_1221 j) (fun y1 y3 => xor_Fold_i56_1_l0_E0 K s_1221 y1 toN_1223 y3) k s_1221 i_1222 to_1224 = _
    rw [e, iter_succ]; kernel_rfl
theorem xor_Fold_i56_1_l0_ok {R : Type} (k : Nat) (d : Nat)  : ObOK (R := R) tab (xor_Fold_F k) (inlK tab (xor_Fold_F k) (xor_Fold_I k) d) (deepO 1 (xor_Fold_i56_1_O k) d) (.loop xor_Fold_i56_1_c0 xor_Fold_i56_1_x0 0 (obB xor_Fold_i56_1_b 0) (obH xor_Fold_i56_1_b 0)) :=
  deep_ob fun hd => by
    obtain ⟨d, rfl⟩ := Nat.exists_eq_add_of_le' hd
    exact loop_ok (l := [xor_Fold_i56_1_l0_a k]) (by kernel_rfl) ⟨(fun K x => ⟨k, (xor_Fold_i56_1_l0_eq k d K x.1.2.1 x.2.1.1 k x.1.2.2.1 x.2.1.2).trans (by kernel_rfl)⟩), trivial⟩
theorem xor_Fold_i56_1_j1_eq {R : Type} (k : Nat) (d : Nat) (K : EX → St → Option R) (s_1257 : ByteArray) (i_1258 : Int) (toN_1259 : Bool) (to_1260 : List Int) : xor_Fold_i56_1_j1 (fun y1 => xor_Fold_i56_1_j1_E0 K s_1257 y1 toN_1259 to_1260) k i_1258 = ev tab (xor_Fold_F k) (inlK tab (xor_Fold_F k) (xor_Fold_I k) (d + 1)) (deepO 1 (xor_Fold_i56_1_O k) (d + 1)) (obB xor_Fold_i56_1_b 1) (obH xor_Fold_i56_1_b 1) (xor_Fold_i56_1_j1_S s_1257 i_1258 toN_1259 to_1260) (fun e st => optb (clean xor_Fold_i56_1_x1 st) fun st => K e st) := by kernel_rfl
theorem xor_Fold_i56_1_j1_ok {R : Type} (k : Nat) (d : Nat)  : ObOK (R := R) tab (xor_Fold_F k) (inlK tab (xor_Fold_F k) (xor_Fold_I k) d) (deepO 1 (xor_Fold_i56_1_O k) d) (.join xor_Fold_i56_1_c1 xor_Fold_i56_1_x1 1 (obB xor_Fold_i56_1_b 1) (obH xor_Fold_i56_1_b 1)) :=
  deep_ob fun hd => by
    obtain ⟨d, rfl⟩ := Nat.exists_eq_add_of_le' hd
    exact join_ok (l := [xor_Fold_i56_1_j1_a k]) (by kernel_rfl) ⟨(fun K x => (xor_Fold_i56_1_j1_eq k d K x.1.2.1 x.1.2.2.1 x.2.1.1 x.2.1.2).trans (by kernel_rfl)), trivial⟩
theorem xor_Fold_i56_1_l2_eq {R : Type} (k : Nat) (d : Nat) (K : EX → St → Option R) (s_1273 : ByteArray) (toN_1275 : Bool) : ∀ (j : Nat) (i_1274 : Int) (to_1276 : List Int), xor_Fold_i56_1_l2 (fun y1 => xor_Fold_i56_1_l2_E0 K toN_1275 y1) k s_1273 j i_1274 to_1276 = iter xor_Fold_i56_1_c2 xor_Fold_i56_1_x2 (ev tab (xor_Fold_F k) (inlK tab (xor_Fold_F k) (xor_Fold_I k) (d + 1)) (deepO 1 (xor_Fold_i56_1_O k) (d + 1)) (obB xor_Fold_i56_1_b 2) (obH xor_Fold_i56_1_b 2)) j (xor_Fold_i56_1_l2_S s_1273 i_1274 toN_1275 to_1276) K
  | 0, _, _ => rfl
  | j + 1, i_1274, to_1276 => by
    have e : xor_Fold_i56_1_l2 (fun y1 => xor_Fold_i56_1_l2_E0 K toN_1275 y1) k s_1273 j = fun i_1274 to_1276 => iter xor_Fold_i56_1_c2 xor_Fold_i56_1_x2 (ev tab (xor_Fold_F k) (inlK tab (xor_Fold_F k) (xor_Fold_I k) (d + 1)) (deepO 1 (xor_Fold_i56_1_O k) (d + 1)) (obB xor_Fold_i56_1_b 2) (obH xor_Fold_i56_1_b 2)) j (xor_Fold_i56_1_l2_S s_1273 i_1274 toN_1275 to_1276) K := by funext i_1274 to_1276; exact xor_Fold_i56_1_l2_eq k d K s_1273 toN_1275 j i_1274 to_1276
    show xor_Fold_i56_1_l2s (xor_Fold_i56_1_l2 (fun y1 => xor_Fold_i56_1_l2_E0 K toN_1275 y1) k s_1273 j) (fun y1 => xor_Fold_i56_1_l2_E0 K toN_1275 y1) k s_1273 i_1274 to_1276 = _
    rw [e, iter_succ]; kernel_rfl
theorem xor_Fold_i56_1_l2_ok {R : Type} (k : Nat) (d : Nat)  : ObOK (R := R) tab (xor_Fold_F k) (inlK tab (xor_Fold_F k) (xor_Fold_I k) d) (deepO 1 (xor_Fold_i56_1_O k) d) (.loop xor_Fold_i56_1_c2 xor_Fold_i56_1_x2 2 (obB xor_Fold_i56_1_b 2) (obH xor_Fold_i56_1_b 2)) :=
  deep_ob fun hd => by
    obtain ⟨d, rfl⟩ := Nat.exists_eq_add_of_le' hd
    exact loop_ok (l := [xor_Fold_i56_1_l2_a k]) (by kernel_rfl) ⟨(fun K x => ⟨k, (xor_Fold_i56_1_l2_eq k d K x.1.2.1 x.2.1.1 k x.1.2.2.1 x.2.1.2).trans (by kernel_rfl)⟩), trivial⟩
theorem xor_Fold_i56_1_cuts {R : Type} (k : Nat) : ∀ (d : Nat), ∀ c, Try.f56.body = some c → CutsOK (R := R) tab (xor_Fold_F k) (inlK tab (xor_Fold_F k) (xor_Fold_I k) d) (deepO 1 (xor_Fold_i56_1_O k) d) c xor_Fold_i56_1_h :=
  fun d => cuts_of (l := [.loop xor_Fold_i56_1_c0 xor_Fold_i56_1_x0 0 (obB xor_Fold_i56_1_b 0) (obH xor_Fold_i56_1_b 0), .join xor_Fold_i56_1_c1 xor_Fold_i56_1_x1 1 (obB xor_Fold_i56_1_b 1) (obH xor_Fold_i56_1_b 1), .loop xor_Fold_i56_1_c2 xor_Fold_i56_1_x2 2 (obB xor_Fold_i56_1_b 2) (obH xor_Fold_i56_1_b 2)]) (by kernel_rfl) ⟨xor_Fold_i56_1_l0_ok k d, xor_Fold_i56_1_j1_ok k d, xor_Fold_i56_1_l2_ok k d, trivial⟩
theorem xor_Fold_i64_1_l0_eq {R : Type} (k : Nat) (d : Nat) (K : EX → St → Option R) (at_1229 : Int) (w_1230 : Int) (toN_1232 : Bool) : ∀ (j : Nat) (v_1231 : Int) (to_1233 : List Int), xor_Fold_i64_1_l0 (fun y1 => xor_Fold_i64_1_l0_E0 K toN_1232 y1) k at_1229 w_1230 j v_1231 to_1233 = iter xor_Fold_i64_1_c0 xor_Fold_i64_1_x0 (ev tab (xor_Fold_F k) (inlK tab (xor_Fold_F k) (xor_Fold_I k) (d + 0)) (deepO 0 (xor_Fold_i64_1_O k) (d + 0)) (obB xor_Fold_i64_1_b 0) (obH xor_Fold_i64_1_b 0)) j (xor_Fold_i64_1_l0_S at_1229 w_1230 v_1231 toN_1232 to_1233) K
  | 0, _, _ => rfl
  | j + 1, v_1231, to_1233 => by
    have e : xor_Fold_i64_1_l0 (fun y1 => xor_Fold_i64_1_l0_E0 K toN_1232 y1) k at_1229 w_1230 j = fun v_1231 to_1233 => iter xor_Fold_i64_1_c0 xor_Fold_i64_1_x0 (ev tab (xor_Fold_F k) (inlK tab (xor_Fold_F k) (xor_Fold_I k) (d + 0)) (deepO 0 (xor_Fold_i64_1_O k) (d + 0)) (obB xor_Fold_i64_1_b 0) (obH xor_Fold_i64_1_b 0)) j (xor_Fold_i64_1_l0_S at_1229 w_1230 v_1231 toN_1232 to_1233) K := by funext v_1231 to_1233; exact xor_Fold_i64_1_l0_eq k d K at_1229 w_1230 toN_1232 j v_1231 to_1233
    show xor_Fold_i64_1_l0s (xor_Fold_i64_1_l0 (fun y1 => xor_Fold_i64_1_l0_E0 K toN_1232 y1) k at_1229 w_1230 j) (fun y1 => xor_Fold_i64_1_l0_E0 K toN_1232 y1) k at_1229 w_1230 v_1231 to_1233 = _
    rw [e, iter_succ]; kernel_rfl
theorem xor_Fold_i64_1_l0_ok {R : Type} (k : Nat) (d : Nat)  : ObOK (R := R) tab (xor_Fold_F k) (inlK tab (xor_Fold_F k) (xor_Fold_I k) d) (deepO 0 (xor_Fold_i64_1_O k) d) (.loop xor_Fold_i64_1_c0 xor_Fold_i64_1_x0 0 (obB xor_Fold_i64_1_b 0) (obH xor_Fold_i64_1_b 0)) :=
  deep_ob fun hd => by
    obtain ⟨d, rfl⟩ := Nat.exists_eq_add_of_le' hd
    exact loop_ok (l := [xor_Fold_i64_1_l0_a k]) (by kernel_rfl) ⟨(fun K x => ⟨k, (xor_Fold_i64_1_l0_eq k d K x.1.2.1 x.1.2.2.1 x.2.1.1 k x.1.2.2.2.1 x.2.1.2).trans (by kernel_rfl)⟩), trivial⟩
theorem xor_Fold_i64_1_j1_eq {R : Type} (k : Nat) (d : Nat) (K : EX → St → Option R) (at_1239 : Int) (w_1240 : Int) (k_1241 : Int) (v_1242 : Int) (toN_1243 : Bool) (to_1244 : List Int) : xor_Fold_i64_1_j1 (fun y4 => xor_Fold_i64_1_j1_E0 K at_1239 w_1240 v_1242 toN_1243 y4) k at_1239 w_1240 k_1241 to_1244 = ev tab (xor_Fold_F k) (inlK tab (xor_Fold_F k) (xor_Fold_I k) (d + 0)) (deepO 0 (xor_Fold_i64_1_O k) (d + 0)) (obB xor_Fold_i64_1_b 1) (obH xor_Fold_i64_1_b 1) (xor_Fold_i64_1_j1_S at_1239 w_1240 k_1241 v_1242 toN_1243 to_1244) (fun e st => optb (clean xor_Fold_i64_1_x1 st) fun st => K e st) := by kernel_rfl
theorem xor_Fold_i64_1_j1_ok {R : Type} (k : Nat) (d : Nat)  : ObOK (R := R) tab (xor_Fold_F k) (inlK tab (xor_Fold_F k) (xor_Fold_I k) d) (deepO 0 (xor_Fold_i64_1_O k) d) (.join xor_Fold_i64_1_c1 xor_Fold_i64_1_x1 1 (obB xor_Fold_i64_1_b 1) (obH xor_Fold_i64_1_b 1)) :=
  deep_ob fun hd => by
    obtain ⟨d, rfl⟩ := Nat.exists_eq_add_of_le' hd
    exact join_ok (l := [xor_Fold_i64_1_j1_a k]) (by kernel_rfl) ⟨(fun K x => (xor_Fold_i64_1_j1_eq k d K x.1.2.1 x.1.2.2.1 x.1.2.2.2.1 x.1.2.2.2.2.1 x.2.1.1 x.2.1.2).trans (by kernel_rfl)), trivial⟩
theorem xor_Fold_i64_1_cuts {R : Type} (k : Nat) : ∀ (d : Nat), ∀ c, Try.f64.body = some c → CutsOK (R := R) tab (xor_Fold_F k) (inlK tab (xor_Fold_F k) (xor_Fold_I k) d) (deepO 0 (xor_Fold_i64_1_O k) d) c xor_Fold_i64_1_h :=
  fun d => cuts_of (l := [.loop xor_Fold_i64_1_c0 xor_Fold_i64_1_x0 0 (obB xor_Fold_i64_1_b 0) (obH xor_Fold_i64_1_b 0), .join xor_Fold_i64_1_c1 xor_Fold_i64_1_x1 1 (obB xor_Fold_i64_1_b 1) (obH xor_Fold_i64_1_b 1)]) (by kernel_rfl) ⟨xor_Fold_i64_1_l0_ok k d, xor_Fold_i64_1_j1_ok k d, trivial⟩
theorem xor_Fold_iok {R : Type} (k : Nat) : IOK Try.prog tab (xor_Fold_F k) (xor_Fold_I (R := R) k) := iok_cons Try.func56 Try.call56 (xor_Fold_i56_1_cuts k) <| iok_cons Try.func64 Try.call64 (xor_Fold_i64_1_cuts k) <| iok_none
theorem xor_Fold_ev (k : Nat) (x : (xor_Fold_p k).τ.den) : evalF tab (xor_Fold_F k) (xor_Fold_p k) (xor_Fold_I k) 2 (xor_Fold_O k) xor_Fold_h Try.f45 x = (xor_Fold_p k).f x := by kernel_rfl
theorem xor_Fold_ok (k : Nat) : PFOK Try.prog tab 45 (xor_Fold_p k) := pfok mixed tabOK (xor_Fold_fok k) Try.func45 (I := xor_Fold_I k) (d := 2) (xor_Fold_iok k) (Q := xor_Fold_O k) (hi := xor_Fold_h) (xor_Fold_cuts k) (xor_Fold_ev k)
end Go.Proofs.Ytbgcfcojepfdbaa.Ev
