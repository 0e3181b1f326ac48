/- xor_Fold, told on plain data. Written by program. -/
import Derived.Test.YtdmcfpnegbfgiaaDoorExor_load
set_option linter.unusedVariables false
set_option maxRecDepth 1000000
namespace Go.Proofs.YtdmcfpnegbfgiaaDoor.Ev
open Go Go.RowKit Go.Proofs
def xor_Fold_l0s {R : Type} (rc : Int → Int → Option R) (e0 : Int → Option R) (k : Nat) (vb_1070 : List ByteArray) (v_1071 : Int) (long_1068 : Int) (v_1072 : Int) : Option R :=
  bif (decide (v_1072 < v_1071)) then
    bif (decide ((0 : Int) ≤ v_1072)) then
      optb (vb_1070[v_1072.toNat]?) fun x_1076 =>
      rc (bif (decide ((sizeI x_1076) > long_1068)) then (sizeI x_1076) else long_1068) (wrap64 (v_1072 + (1 : Int)))
    else none
  else e0 long_1068
def xor_Fold_l0 {R : Type} (e0 : Int → Option R) (k : Nat) (vb_1070 : List ByteArray) (v_1071 : Int) : Nat → Int → Int → Option R
  | 0 => fun _ _ => none
  | j + 1 => xor_Fold_l0s (xor_Fold_l0 e0 k vb_1070 v_1071 j) e0 k vb_1070 v_1071
def xor_Fold_i29_1_j1 {R : Type} (e0 : List Int → Option R) (k : Nat) (at_1109 : Int) (w_1110 : Int) (k_1111 : Int) (to_1114 : List Int) : Option R :=
  bif ((decide ((0 : Int) ≤ (wrap64 (at_1109 + k_1111)))) && (decide ((wrap64 (at_1109 + k_1111)) < (lenI to_1114)))) then
    optb (to_1114[(wrap64 (at_1109 + k_1111)).toNat]?) fun x_1115 =>
    bif (decide ((wrap64 ((8 : Int) * k_1111)) < (0 : Int))) then
      none
    else bif ((decide ((0 : Int) ≤ (wrap64 (at_1109 + k_1111)))) && (decide ((wrap64 (at_1109 + k_1111)) < (lenI to_1114)))) then
      optb (to_1114[(wrap64 (at_1109 + k_1111)).toNat]?) fun x_1118 =>
      e0 (List.set to_1114 (wrap64 (at_1109 + k_1111)).toNat (bitop .xor .u8 x_1115 (IntKind.u8.wrap (shrv .u64 w_1110 (wrap64 ((8 : Int) * k_1111))))))
    else none
  else none
def xor_Fold_i29_1_l0s {R : Type} (rc : Int → List Int → Option R) (e0 : List Int → Option R) (k : Nat) (at_1099 : Int) (w_1100 : Int) (v_1101 : Int) (to_1103 : List Int) : Option R :=
  bif (decide (v_1101 < (8 : Int))) then
    xor_Fold_i29_1_j1 (fun to_1124 =>
      rc (wrap64 (v_1101 + (1 : Int))) to_1124) k at_1099 w_1100 v_1101 to_1103
  else e0 to_1103
def xor_Fold_i29_1_l0 {R : Type} (e0 : List Int → Option R) (k : Nat) (at_1099 : Int) (w_1100 : Int) : Nat → Int → List Int → Option R
  | 0 => fun _ _ => none
  | j + 1 => xor_Fold_i29_1_l0s (xor_Fold_i29_1_l0 e0 k at_1099 w_1100 j) e0 k at_1099 w_1100
def xor_Fold_i26_1_j1 {R : Type} (e0 : Int → Option R) (k : Nat) (i_1128 : Int) : Option R :=
  e0 (wrap64 (i_1128 + (8 : Int)))
def xor_Fold_i26_1_l0s {R : Type} (rc : Int → List Int → Option R) (e0 : Int → List Int → Option R) (k : Nat) (s_1091 : ByteArray) (i_1092 : Int) (to_1094 : List Int) : Option R :=
  bif (decide ((wrap64 (i_1092 + (8 : Int))) ≤ (sizeI s_1091))) then
    optb (xor_load k s_1091 i_1092) fun r_1097 =>
    bif (!(decide (r_1097 = (0 : Int)))) then
      optb (xor_load k s_1091 i_1092) fun r_1098 =>
      xor_Fold_i29_1_l0 (fun h_1126 =>
        xor_Fold_i26_1_j1 (fun i_1132 =>
          rc i_1132 h_1126) k i_1092) k i_1092 r_1098 k (0 : Int) to_1094
    else xor_Fold_i26_1_j1 (fun i_1136 =>
      rc i_1136 to_1094) k i_1092
  else e0 i_1092 to_1094
def xor_Fold_i26_1_l0 {R : Type} (e0 : Int → List Int → Option R) (k : Nat) (s_1091 : ByteArray) : Nat → Int → List Int → Option R
  | 0 => fun _ _ => none
  | j + 1 => xor_Fold_i26_1_l0s (xor_Fold_i26_1_l0 e0 k s_1091 j) e0 k s_1091
def xor_Fold_i26_1_l2s {R : Type} (rc : Int → List Int → Option R) (e0 : List Int → Option R) (k : Nat) (s_1143 : ByteArray) (i_1144 : Int) (to_1146 : List Int) : Option R :=
  bif (decide (i_1144 < (sizeI s_1143))) then
    bif ((decide ((0 : Int) ≤ i_1144)) && (decide (i_1144 < (lenI to_1146)))) then
      optb (to_1146[i_1144.toNat]?) fun x_1150 =>
      bif ((decide ((0 : Int) ≤ i_1144)) && (decide (i_1144 < (sizeI s_1143)))) then
        bif ((decide ((0 : Int) ≤ i_1144)) && (decide (i_1144 < (lenI to_1146)))) then
          optb (to_1146[i_1144.toNat]?) fun x_1151 =>
          rc (wrap64 (i_1144 + (1 : Int))) (List.set to_1146 i_1144.toNat (bitop .xor .u8 x_1150 (bt s_1143 i_1144)))
        else none
      else none
    else none
  else e0 to_1146
def xor_Fold_i26_1_l2 {R : Type} (e0 : List Int → Option R) (k : Nat) (s_1143 : ByteArray) : Nat → Int → List Int → Option R
  | 0 => fun _ _ => none
  | j + 1 => xor_Fold_i26_1_l2s (xor_Fold_i26_1_l2 e0 k s_1143 j) e0 k s_1143
def xor_Fold_l1s {R : Type} (rc : Int → List Int → Option R) (e0 : List Int → Option R) (k : Nat) (vb_1083 : List ByteArray) (v_1084 : Int) (v_1085 : Int) (out_1087 : List Int) : Option R :=
  bif (decide (v_1085 < v_1084)) then
    bif (decide ((0 : Int) ≤ v_1085)) then
      optb (vb_1083[v_1085.toNat]?) fun x_1090 =>
      xor_Fold_i26_1_l0 (fun i_1140 to_1142 =>
        xor_Fold_i26_1_l2 (fun h_1154 =>
          rc (wrap64 (v_1085 + (1 : Int))) h_1154) k x_1090 k i_1140 to_1142) k x_1090 k (0 : Int) out_1087
    else none
  else e0 out_1087
def xor_Fold_l1 {R : Type} (e0 : List Int → Option R) (k : Nat) (vb_1083 : List ByteArray) (v_1084 : Int) : Nat → Int → List Int → Option R
  | 0 => fun _ _ => none
  | j + 1 => xor_Fold_l1s (xor_Fold_l1 e0 k vb_1083 v_1084 j) e0 k vb_1083 v_1084
def xor_Fold (k : Nat) (partsa_326 : Bool) (partsb_327 : List ByteArray) : Option ByteArray :=
  xor_Fold_l0 (fun long_1080 =>
    bif (((decide ((0 : Int) ≤ long_1080)) && (decide (long_1080 ≤ long_1080))) && (decide (long_1080 ≤ (1099511627776 : Int)))) then
      xor_Fold_l1 (fun out_1156 =>
        some (bytesOf out_1156)) k partsb_327 (lenI partsb_327) k (0 : Int) (List.replicate long_1080.toNat (Ty.zero (.int .u8)))
    else none) k partsb_327 (lenI partsb_327) k (0 : Int) (0 : Int)
def xor_Fold_p (k : Nat) : PF := { ps := [(false, 1)], rs := [(false, 1)], τ := (.sl .str), σ := .str, f := fun x => xor_Fold k x.1 x.2 }
def xor_Fold_F (k : Nat) : PT := fcons 28 (xor_load_p k) <| fnone
theorem xor_Fold_fok (k : Nat) : FOK Tryd.prog tab (xor_Fold_F k) := fok_cons (xor_load_ok k) Tryd.call28 <| fok_none
def xor_Fold_c0 : Cl := { keep := [0, 3, 9, 10, 11], hl := 0, ad := [], adc := [], bump := [] }
def xor_Fold_x0 : Cl := { keep := [0, 3], hl := 0, ad := [], adc := [], bump := [] }
def xor_Fold_c1 : Cl := { keep := [6, 22, 23, 24], hl := 1, ad := [], adc := [], bump := [] }
def xor_Fold_x1 : Cl := { keep := [6], hl := 1, ad := [], adc := [], bump := [] }
def xor_Fold_h : Hint := (.sq .no (.sq .no (.sq (.sq .no (.lp xor_Fold_c0 xor_Fold_x0 0 .no)) (.sq .no (.sq (.sq .no (.lp xor_Fold_c1 xor_Fold_x1 1 .no)) .no)))))
def xor_Fold_l0_E0 {R : Type} (K : EX → St → Option R) : Bool → List ByteArray → Int → Option R := fun v0 v1 v2 => K (.exit 0) (mkSt 34 [] xor_Fold_x0.keep [.sl .str v0 v1, .int .i64 v2] [])
def xor_Fold_l0_S (partsa_1066 : Bool) (partsb_1067 : List ByteArray) (long_1068 : Int) (va_1069 : Bool) (vb_1070 : List ByteArray) (v_1071 : Int) (v_1072 : Int) : St := mkSt 34 [] xor_Fold_c0.keep [.sl .str partsa_1066 partsb_1067, .int .i64 long_1068, .sl .str va_1069 vb_1070, .int .i64 v_1071, .int .i64 v_1072] []
def xor_Fold_l0_sh : Rd (List AV × List HE) := .pair (.cons (.sl .str) (.cons (.int .i64) (.cons (.sl .str) (.cons (.int .i64) (.cons (.int .i64) Rd.nil))))) Rd.nil
def xor_Fold_l0_a {R : Type} (k : Nat) : Alt R := { n := 34, v := [], sh := xor_Fold_l0_sh, g := fun K x => xor_Fold_l0 (fun y2 => xor_Fold_l0_E0 K x.1.1.1 x.1.1.2 y2) k x.1.2.2.1.2 x.1.2.2.2.1 k x.1.2.1 x.1.2.2.2.2.1 }
def xor_Fold_l1_E0 {R : Type} (K : EX → St → Option R) : Bool → List Int → Option R := fun v0 v1 => K (.exit 2) (mkSt 34 [] xor_Fold_x1.keep [.own 0 1] [.lst (.int .u8) 5 v0 1 v1])
def xor_Fold_l1_S (va_1082 : Bool) (vb_1083 : List ByteArray) (v_1084 : Int) (v_1085 : Int) (outN_1086 : Bool) (out_1087 : List Int) : St := mkSt 34 [] xor_Fold_c1.keep [.own 0 1, .sl .str va_1082 vb_1083, .int .i64 v_1084, .int .i64 v_1085] [.lst (.int .u8) 5 outN_1086 1 out_1087]
def xor_Fold_l1_sh : Rd (List AV × List HE) := .pair (.cons (.own 0 1) (.cons (.sl .str) (.cons (.int .i64) (.cons (.int .i64) Rd.nil)))) (.cons (.lst (.int .u8) 5 1) Rd.nil)
def xor_Fold_l1_a {R : Type} (k : Nat) : Alt R := { n := 34, v := [], sh := xor_Fold_l1_sh, g := fun K x => xor_Fold_l1 (fun y1 => xor_Fold_l1_E0 K x.2.1.1 y1) k x.1.2.1.2 x.1.2.2.1 k x.1.2.2.2.1 x.2.1.2 }
def xor_Fold_O {R : Type} (k : Nat) : CutK R := cutsO [[xor_Fold_l0_a k], [xor_Fold_l1_a k]]
noncomputable def xor_Fold_b : List Ob := obs (bodyOf Tryd.f20) xor_Fold_h
def xor_Fold_i26_1_c0 : Cl := { keep := [0, 1, 4], hl := 1, ad := [], adc := [], bump := [] }
def xor_Fold_i26_1_x0 : Cl := { keep := [0, 1, 4], hl := 1, ad := [], adc := [], bump := [] }
def xor_Fold_i26_1_c1 : Cl := { keep := [0, 1, 4], hl := 1, ad := [], adc := [], bump := [] }
def xor_Fold_i26_1_x1 : Cl := { keep := [0, 1, 4], hl := 1, ad := [], adc := [], bump := [] }
def xor_Fold_i26_1_c2 : Cl := { keep := [0, 1, 4], hl := 1, ad := [], adc := [], bump := [] }
def xor_Fold_i26_1_x2 : Cl := { keep := [], hl := 1, ad := [], adc := [], bump := [] }
def xor_Fold_i26_1_h : Hint := (.sq .no (.sq (.lp xor_Fold_i26_1_c0 xor_Fold_i26_1_x0 0 (.sq .no (.ct xor_Fold_i26_1_c1 xor_Fold_i26_1_x1 1 .no .no))) (.lp xor_Fold_i26_1_c2 xor_Fold_i26_1_x2 2 .no)))
def xor_Fold_i26_1_l0_E0 {R : Type} (K : EX → St → Option R) : ByteArray → Int → Bool → List Int → Option R := fun v0 v1 v2 v3 => K (.exit 0) (mkSt 37 [1] xor_Fold_i26_1_x0.keep [.own 0 1, .str v0, .int .i64 v1] [.lst (.int .u8) 5 v2 1 v3])
def xor_Fold_i26_1_l0_S (s_1091 : ByteArray) (i_1092 : Int) (toN_1093 : Bool) (to_1094 : List Int) : St := mkSt 37 [1] xor_Fold_i26_1_c0.keep [.own 0 1, .str s_1091, .int .i64 i_1092] [.lst (.int .u8) 5 toN_1093 1 to_1094]
def xor_Fold_i26_1_l0_sh : Rd (List AV × List HE) := .pair (.cons (.own 0 1) (.cons .str (.cons (.int .i64) Rd.nil))) (.cons (.lst (.int .u8) 5 1) Rd.nil)
def xor_Fold_i26_1_l0_a {R : Type} (k : Nat) : Alt R := { n := 37, v := [1], sh := xor_Fold_i26_1_l0_sh, g := fun K x => xor_Fold_i26_1_l0 (fun y1 y3 => xor_Fold_i26_1_l0_E0 K x.1.2.1 y1 x.2.1.1 y3) k x.1.2.1 k x.1.2.2.1 x.2.1.2 }
def xor_Fold_i26_1_j1_E0 {R : Type} (K : EX → St → Option R) : ByteArray → Int → Bool → List Int → Option R := fun v0 v1 v2 v3 => K .normal (mkSt 37 [1] xor_Fold_i26_1_x1.keep [.own 0 1, .str v0, .int .i64 v1] [.lst (.int .u8) 5 v2 1 v3])
def xor_Fold_i26_1_j1_S (s_1127 : ByteArray) (i_1128 : Int) (toN_1129 : Bool) (to_1130 : List Int) : St := mkSt 37 [1] xor_Fold_i26_1_c1.keep [.own 0 1, .str s_1127, .int .i64 i_1128] [.lst (.int .u8) 5 toN_1129 1 to_1130]
def xor_Fold_i26_1_j1_sh : Rd (List AV × List HE) := .pair (.cons (.own 0 1) (.cons .str (.cons (.int .i64) Rd.nil))) (.cons (.lst (.int .u8) 5 1) Rd.nil)
def xor_Fold_i26_1_j1_a {R : Type} (k : Nat) : Alt R := { n := 37, v := [1], sh := xor_Fold_i26_1_j1_sh, g := fun K x => xor_Fold_i26_1_j1 (fun y1 => xor_Fold_i26_1_j1_E0 K x.1.2.1 y1 x.2.1.1 x.2.1.2) k x.1.2.2.1 }
def xor_Fold_i26_1_l2_E0 {R : Type} (K : EX → St → Option R) : Bool → List Int → Option R := fun v0 v1 => K (.exit 2) (mkSt 37 [1] xor_Fold_i26_1_x2.keep [] [.lst (.int .u8) 5 v0 1 v1])
def xor_Fold_i26_1_l2_S (s_1143 : ByteArray) (i_1144 : Int) (toN_1145 : Bool) (to_1146 : List Int) : St := mkSt 37 [1] xor_Fold_i26_1_c2.keep [.own 0 1, .str s_1143, .int .i64 i_1144] [.lst (.int .u8) 5 toN_1145 1 to_1146]
def xor_Fold_i26_1_l2_sh : Rd (List AV × List HE) := .pair (.cons (.own 0 1) (.cons .str (.cons (.int .i64) Rd.nil))) (.cons (.lst (.int .u8) 5 1) Rd.nil)
def xor_Fold_i26_1_l2_a {R : Type} (k : Nat) : Alt R := { n := 37, v := [1], sh := xor_Fold_i26_1_l2_sh, g := fun K x => xor_Fold_i26_1_l2 (fun y1 => xor_Fold_i26_1_l2_E0 K x.2.1.1 y1) k x.1.2.1 k x.1.2.2.1 x.2.1.2 }
def xor_Fold_i26_1_O {R : Type} (k : Nat) : CutK R := cutsO [[xor_Fold_i26_1_l0_a k], [xor_Fold_i26_1_j1_a k], [xor_Fold_i26_1_l2_a k]]
noncomputable def xor_Fold_i26_1_b : List Ob := obs (bodyOf Tryd.f26) xor_Fold_i26_1_h
def xor_Fold_i29_1_c0 : Cl := { keep := [0, 1, 2, 7], hl := 1, ad := [], adc := [], bump := [] }
def xor_Fold_i29_1_x0 : Cl := { keep := [], hl := 1, ad := [], adc := [], bump := [] }
def xor_Fold_i29_1_c1 : Cl := { keep := [0, 1, 2, 6, 7], hl := 1, ad := [], adc := [], bump := [] }
def xor_Fold_i29_1_x1 : Cl := { keep := [0, 1, 2, 7], hl := 1, ad := [], adc := [], bump := [] }
def xor_Fold_i29_1_h : Hint := (.sq .no (.lp xor_Fold_i29_1_c0 xor_Fold_i29_1_x0 0 (.sq .no (.sq .no (.sq (.ct xor_Fold_i29_1_c1 xor_Fold_i29_1_x1 1 .no .no) .no)))))
def xor_Fold_i29_1_l0_E0 {R : Type} (K : EX → St → Option R) : Bool → List Int → Option R := fun v0 v1 => K (.exit 0) (mkSt 24 [1] xor_Fold_i29_1_x0.keep [] [.lst (.int .u8) 5 v0 1 v1])
def xor_Fold_i29_1_l0_S (at_1099 : Int) (w_1100 : Int) (v_1101 : Int) (toN_1102 : Bool) (to_1103 : List Int) : St := mkSt 24 [1] xor_Fold_i29_1_c0.keep [.own 0 1, .int .i64 at_1099, .int .u64 w_1100, .int .i64 v_1101] [.lst (.int .u8) 5 toN_1102 1 to_1103]
def xor_Fold_i29_1_l0_sh : Rd (List AV × List HE) := .pair (.cons (.own 0 1) (.cons (.int .i64) (.cons (.int .u64) (.cons (.int .i64) Rd.nil)))) (.cons (.lst (.int .u8) 5 1) Rd.nil)
def xor_Fold_i29_1_l0_a {R : Type} (k : Nat) : Alt R := { n := 24, v := [1], sh := xor_Fold_i29_1_l0_sh, g := fun K x => xor_Fold_i29_1_l0 (fun y1 => xor_Fold_i29_1_l0_E0 K x.2.1.1 y1) k x.1.2.1 x.1.2.2.1 k x.1.2.2.2.1 x.2.1.2 }
def xor_Fold_i29_1_j1_E0 {R : Type} (K : EX → St → Option R) : Int → Int → Int → Bool → List Int → Option R := fun v0 v1 v2 v3 v4 => K .normal (mkSt 24 [1] xor_Fold_i29_1_x1.keep [.own 0 1, .int .i64 v0, .int .u64 v1, .int .i64 v2] [.lst (.int .u8) 5 v3 1 v4])
def xor_Fold_i29_1_j1_S (at_1109 : Int) (w_1110 : Int) (k_1111 : Int) (v_1112 : Int) (toN_1113 : Bool) (to_1114 : List Int) : St := mkSt 24 [1] xor_Fold_i29_1_c1.keep [.own 0 1, .int .i64 at_1109, .int .u64 w_1110, .int .i64 k_1111, .int .i64 v_1112] [.lst (.int .u8) 5 toN_1113 1 to_1114]
def xor_Fold_i29_1_j1_sh : Rd (List AV × List HE) := .pair (.cons (.own 0 1) (.cons (.int .i64) (.cons (.int .u64) (.cons (.int .i64) (.cons (.int .i64) Rd.nil))))) (.cons (.lst (.int .u8) 5 1) Rd.nil)
def xor_Fold_i29_1_j1_a {R : Type} (k : Nat) : Alt R := { n := 24, v := [1], sh := xor_Fold_i29_1_j1_sh, g := fun K x => xor_Fold_i29_1_j1 (fun y4 => xor_Fold_i29_1_j1_E0 K x.1.2.1 x.1.2.2.1 x.1.2.2.2.2.1 x.2.1.1 y4) k x.1.2.1 x.1.2.2.1 x.1.2.2.2.1 x.2.1.2 }
def xor_Fold_i29_1_O {R : Type} (k : Nat) : CutK R := cutsO [[xor_Fold_i29_1_l0_a k], [xor_Fold_i29_1_j1_a k]]
noncomputable def xor_Fold_i29_1_b : List Ob := obs (bodyOf Tryd.f29) xor_Fold_i29_1_h
noncomputable def xor_Fold_I {R : Type} (k : Nat) : InlT R := icons 26 1 (xor_Fold_i26_1_h, Tryd.f26, deepO 1 (xor_Fold_i26_1_O k)) <| icons 29 1 (xor_Fold_i29_1_h, Tryd.f29, deepO 0 (xor_Fold_i29_1_O k)) <| inone
theorem xor_Fold_l0_eq {R : Type} (k : Nat) (K : EX → St → Option R) (partsa_1066 : Bool) (partsb_1067 : List ByteArray) (va_1069 : Bool) (vb_1070 : List ByteArray) (v_1071 : Int) : ∀ (j : Nat) (long_1068 : Int) (v_1072 : Int), xor_Fold_l0 (fun y2 => xor_Fold_l0_E0 K partsa_1066 partsb_1067 y2) k vb_1070 v_1071 j long_1068 v_1072 = iter xor_Fold_c0 xor_Fold_x0 (ev tab (xor_Fold_F k) (inlK tab (xor_Fold_F k) (xor_Fold_I k) 2) (xor_Fold_O k) (obB xor_Fold_b 0) (obH xor_Fold_b 0)) j (xor_Fold_l0_S partsa_1066 partsb_1067 long_1068 va_1069 vb_1070 v_1071 v_1072) K
  | 0, _, _ => rfl
  | j + 1, long_1068, v_1072 => by
    have e : xor_Fold_l0 (fun y2 => xor_Fold_l0_E0 K partsa_1066 partsb_1067 y2) k vb_1070 v_1071 j = fun long_1068 v_1072 => iter xor_Fold_c0 xor_Fold_x0 (ev tab (xor_Fold_F k) (inlK tab (xor_Fold_F k) (xor_Fold_I k) 2) (xor_Fold_O k) (obB xor_Fold_b 0) (obH xor_Fold_b 0)) j (xor_Fold_l0_S partsa_1066 partsb_1067 long_1068 va_1069 vb_1070 v_1071 v_1072) K := by funext long_1068 v_1072; exact xor_Fold_l0_eq k K partsa_1066 partsb_1067 va_1069 vb_1070 v_1071 j long_1068 v_1072
    show xor_Fold_l0s (xor_Fold_l0 (fun y2 => xor_Fold_l0_E0 K partsa_1066 partsb_1067 y2) k vb_1070 v_1071 j) (fun y2 => xor_Fold_l0_E0 K partsa_1066 partsb_1067 y2) k vb_1070 v_1071 long_1068 v_1072 = _
    rw [e, iter_succ]; kernel_rfl
theorem xor_Fold_l0_ok {R : Type} (k : Nat)  : ObOK (R := R) tab (xor_Fold_F k) (inlK tab (xor_Fold_F k) (xor_Fold_I k) 2) (xor_Fold_O k) (.loop xor_Fold_c0 xor_Fold_x0 0 (obB xor_Fold_b 0) (obH xor_Fold_b 0)) :=
  loop_ok (l := [xor_Fold_l0_a k]) (by kernel_rfl) ⟨(fun K x => ⟨k, (xor_Fold_l0_eq k K x.1.1.1 x.1.1.2 x.1.2.2.1.1 x.1.2.2.1.2 x.1.2.2.2.1 k x.1.2.1 x.1.2.2.2.2.1).trans (by kernel_rfl)⟩), trivial⟩
theorem xor_Fold_l1_eq {R : Type} (k : Nat) (K : EX → St → Option R) (va_1082 : Bool) (vb_1083 : List ByteArray) (v_1084 : Int) (outN_1086 : Bool) : ∀ (j : Nat) (v_1085 : Int) (out_1087 : List Int), xor_Fold_l1 (fun y1 => xor_Fold_l1_E0 K outN_1086 y1) k vb_1083 v_1084 j v_1085 out_1087 = iter xor_Fold_c1 xor_Fold_x1 (ev tab (xor_Fold_F k) (inlK tab (xor_Fold_F k) (xor_Fold_I k) 2) (xor_Fold_O k) (obB xor_Fold_b 1) (obH xor_Fold_b 1)) j (xor_Fold_l1_S va_1082 vb_1083 v_1084 v_1085 outN_1086 out_1087) K
  | 0, _, _ => rfl
  | j + 1, v_1085, out_1087 => by
    have e : xor_Fold_l1 (fun y1 => xor_Fold_l1_E0 K outN_1086 y1) k vb_1083 v_1084 j = fun v_1085 out_1087 => iter xor_Fold_c1 xor_Fold_x1 (ev tab (xor_Fold_F k) (inlK tab (xor_Fold_F k) (xor_Fold_I k) 2) (xor_Fold_O k) (obB xor_Fold_b 1) (obH xor_Fold_b 1)) j (xor_Fold_l1_S va_1082 vb_1083 v_1084 v_1085 outN_1086 out_1087) K := by funext v_1085 out_1087; exact xor_Fold_l1_eq k K va_1082 vb_1083 v_1084 outN_1086 j v_1085 out_1087
    show xor_Fold_l1s (xor_Fold_l1 (fun y1 => xor_Fold_l1_E0 K outN_1086 y1) k vb_1083 v_1084 j) (fun y1 => xor_Fold_l1_E0 K outN_1086 y1) k vb_1083 v_1084 v_1085 out_1087 = _
    rw [e, iter_succ]; kernel_rfl
theorem xor_Fold_l1_ok {R : Type} (k : Nat)  : ObOK (R := R) tab (xor_Fold_F k) (inlK tab (xor_Fold_F k) (xor_Fold_I k) 2) (xor_Fold_O k) (.loop xor_Fold_c1 xor_Fold_x1 1 (obB xor_Fold_b 1) (obH xor_Fold_b 1)) :=
  loop_ok (l := [xor_Fold_l1_a k]) (by kernel_rfl) ⟨(fun K x => ⟨k, (xor_Fold_l1_eq k K x.1.2.1.1 x.1.2.1.2 x.1.2.2.1 x.2.1.1 k x.1.2.2.2.1 x.2.1.2).trans (by kernel_rfl)⟩), trivial⟩
theorem xor_Fold_cuts {R : Type} (k : Nat) : ∀ c, Tryd.f20.body = some c → CutsOK (R := R) tab (xor_Fold_F k) (inlK tab (xor_Fold_F k) (xor_Fold_I k) 2) (xor_Fold_O k) c xor_Fold_h :=
  cuts_of (l := [.loop xor_Fold_c0 xor_Fold_x0 0 (obB xor_Fold_b 0) (obH xor_Fold_b 0), .loop xor_Fold_c1 xor_Fold_x1 1 (obB xor_Fold_b 1) (obH xor_Fold_b 1)]) (by kernel_rfl) ⟨xor_Fold_l0_ok k, xor_Fold_l1_ok k, trivial⟩
theorem xor_Fold_i26_1_l0_eq {R : Type} (k : Nat) (d : Nat) (K : EX → St → Option R) (s_1091 : ByteArray) (toN_1093 : Bool) : ∀ (j : Nat) (i_1092 : Int) (to_1094 : List Int), xor_Fold_i26_1_l0 (fun y1 y3 => xor_Fold_i26_1_l0_E0 K s_1091 y1 toN_1093 y3) k s_1091 j i_1092 to_1094 = iter xor_Fold_i26_1_c0 xor_Fold_i26_1_x0 (ev tab (xor_Fold_F k) (inlK tab (xor_Fold_F k) (xor_Fold_I k) (d + 1)) (deepO 1 (xor_Fold_i26_1_O k) (d + 1)) (obB xor_Fold_i26_1_b 0) (obH xor_Fold_i26_1_b 0)) j (xor_Fold_i26_1_l0_S s_1091 i_1092 toN_1093 to_1094) K
  | 0, _, _ => rfl
  | j + 1, i_1092, to_1094 => by
    have e : xor_Fold_i26_1_l0 (fun y1 y3 => xor_Fold_i26_1_l0_E0 K s_1091 y1 toN_1093 y3) k s_1091 j = fun i_1092 to_1094 => iter xor_Fold_i26_1_c0 xor_Fold_i26_1_x0 (ev tab (xor_Fold_F k) (inlK tab (xor_Fold_F k) (xor_Fold_I k) (d + 1)) (deepO 1 (xor_Fold_i26_1_O k) (d + 1)) (obB xor_Fold_i26_1_b 0) (obH xor_Fold_i26_1_b 0)) j (xor_Fold_i26_1_l0_S s_1091 i_1092 toN_1093 to_1094) K := by funext i_1092 to_1094; exact xor_Fold_i26_1_l0_eq k d K s_1091 toN_1093 j i_1092 to_1094
    show xor_Fold_i26_1_l0s (xor_Fold_i26_1_l0 (fun y1 y3 => xor_Fold_i26_1_l0_E0 K s_1091 y1 toN_1093 y3) k s_1091 j) (fun y1 y3 => xor_Fold_i26_1_l0_E0 K s_1091 y1 toN_1093 y3) k s_1091 i_1092 to_1094 = _
    rw [e, iter_succ]; kernel_rfl
theorem xor_Fold_i26_1_l0_ok {R : Type} (k : Nat) (d : Nat)  : ObOK (R := R) tab (xor_Fold_F k) (inlK tab (xor_Fold_F k) (xor_Fold_I k) d) (deepO 1 (xor_Fold_i26_1_O k) d) (.loop xor_Fold_i26_1_c0 xor_Fold_i26_1_x0 0 (obB xor_Fold_i26_1_b 0) (obH xor_Fold_i26_1_b 0)) :=
  deep_ob fun hd => by
    obtain ⟨d, rfl⟩ := Nat.exists_eq_add_of_le' hd
    exact loop_ok (l := [xor_Fold_i26_1_l0_a k]) (by kernel_rfl) ⟨(fun K x => ⟨k, (xor_Fold_i26_1_l0_eq k d K x.1.2.1 x.2.1.1 k x.1.2.2.1 x.2.1.2).trans (by kernel_rfl)⟩), trivial⟩
theorem xor_Fold_i26_1_j1_eq {R : Type} (k : Nat) (d : Nat) (K : EX → St → Option R) (s_1127 : ByteArray) (i_1128 : Int) (toN_1129 : Bool) (to_1130 : List Int) : xor_Fold_i26_1_j1 (fun y1 => xor_Fold_i26_1_j1_E0 K s_1127 y1 toN_1129 to_1130) k i_1128 = ev tab (xor_Fold_F k) (inlK tab (xor_Fold_F k) (xor_Fold_I k) (d + 1)) (deepO 1 (xor_Fold_i26_1_O k) (d + 1)) (obB xor_Fold_i26_1_b 1) (obH xor_Fold_i26_1_b 1) (xor_Fold_i26_1_j1_S s_1127 i_1128 toN_1129 to_1130) (fun e st => optb (clean xor_Fold_i26_1_x1 st) fun st => K e st) := by kernel_rfl
theorem xor_Fold_i26_1_j1_ok {R : Type} (k : Nat) (d : Nat)  : ObOK (R := R) tab (xor_Fold_F k) (inlK tab (xor_Fold_F k) (xor_Fold_I k) d) (deepO 1 (xor_Fold_i26_1_O k) d) (.join xor_Fold_i26_1_c1 xor_Fold_i26_1_x1 1 (obB xor_Fold_i26_1_b 1) (obH xor_Fold_i26_1_b 1)) :=
  deep_ob fun hd => by
    obtain ⟨d, rfl⟩ := Nat.exists_eq_add_of_le' hd
    exact join_ok (l := [xor_Fold_i26_1_j1_a k]) (by kernel_rfl) ⟨(fun K x => (xor_Fold_i26_1_j1_eq k d K x.1.2.1 x.1.2.2.1 x.2.1.1 x.2.1.2).trans (by kernel_rfl)), trivial⟩
theorem xor_Fold_i26_1_l2_eq {R : Type} (k : Nat) (d : Nat) (K : EX → St → Option R) (s_1143 : ByteArray) (toN_1145 : Bool) : ∀ (j : Nat) (i_1144 : Int) (to_1146 : List Int), xor_Fold_i26_1_l2 (fun y1 => xor_Fold_i26_1_l2_E0 K toN_1145 y1) k s_1143 j i_1144 to_1146 = iter xor_Fold_i26_1_c2 xor_Fold_i26_1_x2 (ev tab (xor_Fold_F k) (inlK tab (xor_Fold_F k) (xor_Fold_I k) (d + 1)) (deepO 1 (xor_Fold_i26_1_O k) (d + 1)) (obB xor_Fold_i26_1_b 2) (obH xor_Fold_i26_1_b 2)) j (xor_Fold_i26_1_l2_S s_1143 i_1144 toN_1145 to_1146) K
  | 0, _, _ => rfl
  | j + 1, i_1144, to_1146 => by
    have e : xor_Fold_i26_1_l2 (fun y1 => xor_Fold_i26_1_l2_E0 K toN_1145 y1) k s_1143 j = fun i_1144 to_1146 => iter xor_Fold_i26_1_c2 xor_Fold_i26_1_x2 (ev tab (xor_Fold_F k) (inlK tab (xor_Fold_F k) (xor_Fold_I k) (d + 1)) (deepO 1 (xor_Fold_i26_1_O k) (d + 1)) (obB xor_Fold_i26_1_b 2) (obH xor_Fold_i26_1_b 2)) j (xor_Fold_i26_1_l2_S s_1143 i_1144 toN_1145 to_1146) K := by funext i_1144 to_1146; exact xor_Fold_i26_1_l2_eq k d K s_1143 toN_1145 j i_1144 to_1146
    show xor_Fold_i26_1_l2s (xor_Fold_i26_1_l2 (fun y1 => xor_Fold_i26_1_l2_E0 K toN_1145 y1) k s_1143 j) (fun y1 => xor_Fold_i26_1_l2_E0 K toN_1145 y1) k s_1143 i_1144 to_1146 = _
    rw [e, iter_succ]; kernel_rfl
theorem xor_Fold_i26_1_l2_ok {R : Type} (k : Nat) (d : Nat)  : ObOK (R := R) tab (xor_Fold_F k) (inlK tab (xor_Fold_F k) (xor_Fold_I k) d) (deepO 1 (xor_Fold_i26_1_O k) d) (.loop xor_Fold_i26_1_c2 xor_Fold_i26_1_x2 2 (obB xor_Fold_i26_1_b 2) (obH xor_Fold_i26_1_b 2)) :=
  deep_ob fun hd => by
    obtain ⟨d, rfl⟩ := Nat.exists_eq_add_of_le' hd
    exact loop_ok (l := [xor_Fold_i26_1_l2_a k]) (by kernel_rfl) ⟨(fun K x => ⟨k, (xor_Fold_i26_1_l2_eq k d K x.1.2.1 x.2.1.1 k x.1.2.2.1 x.2.1.2).trans (by kernel_rfl)⟩), trivial⟩
theorem xor_Fold_i26_1_cuts {R : Type} (k : Nat) : ∀ (d : Nat), ∀ c, Tryd.f26.body = some c → CutsOK (R := R) tab (xor_Fold_F k) (inlK tab (xor_Fold_F k) (xor_Fold_I k) d) (deepO 1 (xor_Fold_i26_1_O k) d) c xor_Fold_i26_1_h :=
  fun d => cuts_of (l := [.loop xor_Fold_i26_1_c0 xor_Fold_i26_1_x0 0 (obB xor_Fold_i26_1_b 0) (obH xor_Fold_i26_1_b 0), .join xor_Fold_i26_1_c1 xor_Fold_i26_1_x1 1 (obB xor_Fold_i26_1_b 1) (obH xor_Fold_i26_1_b 1), .loop xor_Fold_i26_1_c2 xor_Fold_i26_1_x2 2 (obB xor_Fold_i26_1_b 2) (obH xor_Fold_i26_1_b 2)]) (by kernel_rfl) ⟨xor_Fold_i26_1_l0_ok k d, xor_Fold_i26_1_j1_ok k d, xor_Fold_i26_1_l2_ok k d, trivial⟩
theorem xor_Fold_i29_1_l0_eq {R : Type} (k : Nat) (d : Nat) (K : EX → St → Option R) (at_1099 : Int) (w_1100 : Int) (toN_1102 : Bool) : ∀ (j : Nat) (v_1101 : Int) (to_1103 : List Int), xor_Fold_i29_1_l0 (fun y1 => xor_Fold_i29_1_l0_E0 K toN_1102 y1) k at_1099 w_1100 j v_1101 to_1103 = iter xor_Fold_i29_1_c0 xor_Fold_i29_1_x0 (ev tab (xor_Fold_F k) (inlK tab (xor_Fold_F k) (xor_Fold_I k) (d + 0)) (deepO 0 (xor_Fold_i29_1_O k) (d + 0)) (obB xor_Fold_i29_1_b 0) (obH xor_Fold_i29_1_b 0)) j (xor_Fold_i29_1_l0_S at_1099 w_1100 v_1101 toN_1102 to_1103) K
  | 0, _, _ => rfl
  | j + 1, v_1101, to_1103 => by
    have e : xor_Fold_i29_1_l0 (fun y1 => xor_Fold_i29_1_l0_E0 K toN_1102 y1) k at_1099 w_1100 j = fun v_1101 to_1103 => iter xor_Fold_i29_1_c0 xor_Fold_i29_1_x0 (ev tab (xor_Fold_F k) (inlK tab (xor_Fold_F k) (xor_Fold_I k) (d + 0)) (deepO 0 (xor_Fold_i29_1_O k) (d + 0)) (obB xor_Fold_i29_1_b 0) (obH xor_Fold_i29_1_b 0)) j (xor_Fold_i29_1_l0_S at_1099 w_1100 v_1101 toN_1102 to_1103) K := by funext v_1101 to_1103; exact xor_Fold_i29_1_l0_eq k d K at_1099 w_1100 toN_1102 j v_1101 to_1103
    show xor_Fold_i29_1_l0s (xor_Fold_i29_1_l0 (fun y1 => xor_Fold_i29_1_l0_E0 K toN_1102 y1) k at_1099 w_1100 j) (fun y1 => xor_Fold_i29_1_l0_E0 K toN_1102 y1) k at_1099 w_1100 v_1101 to_1103 = _
    rw [e, iter_succ]; kernel_rfl
theorem xor_Fold_i29_1_l0_ok {R : Type} (k : Nat) (d : Nat)  : ObOK (R := R) tab (xor_Fold_F k) (inlK tab (xor_Fold_F k) (xor_Fold_I k) d) (deepO 0 (xor_Fold_i29_1_O k) d) (.loop xor_Fold_i29_1_c0 xor_Fold_i29_1_x0 0 (obB xor_Fold_i29_1_b 0) (obH xor_Fold_i29_1_b 0)) :=
  deep_ob fun hd => by
    obtain ⟨d, rfl⟩ := Nat.exists_eq_add_of_le' hd
    exact loop_ok (l := [xor_Fold_i29_1_l0_a k]) (by kernel_rfl) ⟨(fun K x => ⟨k, (xor_Fold_i29_1_l0_eq k d K x.1.2.1 x.1.2.2.1 x.2.1.1 k x.1.2.2.2.1 x.2.1.2).trans (by kernel_rfl)⟩), trivial⟩
theorem xor_Fold_i29_1_j1_eq {R : Type} (k : Nat) (d : Nat) (K : EX → St → Option R) (at_1109 : Int) (w_1110 : Int) (k_1111 : Int) (v_1112 : Int) (toN_1113 : Bool) (to_1114 : List Int) : xor_Fold_i29_1_j1 (fun y4 => xor_Fold_i29_1_j1_E0 K at_1109 w_1110 v_1112 toN_1113 y4) k at_1109 w_1110 k_1111 to_1114 = ev tab (xor_Fold_F k) (inlK tab (xor_Fold_F k) (xor_Fold_I k) (d + 0)) (deepO 0 (xor_Fold_i29_1_O k) (d + 0)) (obB xor_Fold_i29_1_b 1) (obH xor_Fold_i29_1_b 1) (xor_Fold_i29_1_j1_S at_1109 w_1110 k_1111 v_1112 toN_1113 to_1114) (fun e st => optb (clean xor_Fold_i29_1_x1 st) fun st => K e st) := by kernel_rfl
theorem xor_Fold_i29_1_j1_ok {R : Type} (k : Nat) (d : Nat)  : ObOK (R := R) tab (xor_Fold_F k) (inlK tab (xor_Fold_F k) (xor_Fold_I k) d) (deepO 0 (xor_Fold_i29_1_O k) d) (.join xor_Fold_i29_1_c1 xor_Fold_i29_1_x1 1 (obB xor_Fold_i29_1_b 1) (obH xor_Fold_i29_1_b 1)) :=
  deep_ob fun hd => by
    obtain ⟨d, rfl⟩ := Nat.exists_eq_add_of_le' hd
    exact join_ok (l := [xor_Fold_i29_1_j1_a k]) (by kernel_rfl) ⟨(fun K x => (xor_Fold_i29_1_j1_eq k d K x.1.2.1 x.1.2.2.1 x.1.2.2.2.1 x.1.2.2.2.2.1 x.2.1.1 x.2.1.2).trans (by kernel_rfl)), trivial⟩
theorem xor_Fold_i29_1_cuts {R : Type} (k : Nat) : ∀ (d : Nat), ∀ c, Tryd.f29.body = some c → CutsOK (R := R) tab (xor_Fold_F k) (inlK tab (xor_Fold_F k) (xor_Fold_I k) d) (deepO 0 (xor_Fold_i29_1_O k) d) c xor_Fold_i29_1_h :=
  fun d => cuts_of (l := [.loop xor_Fold_i29_1_c0 xor_Fold_i29_1_x0 0 (obB xor_Fold_i29_1_b 0) (obH xor_Fold_i29_1_b 0), .join xor_Fold_i29_1_c1 xor_Fold_i29_1_x1 1 (obB xor_Fold_i29_1_b 1) (obH xor_Fold_i29_1_b 1)]) (by kernel_rfl) ⟨xor_Fold_i29_1_l0_ok k d, xor_Fold_i29_1_j1_ok k d, trivial⟩
theorem xor_Fold_iok {R : Type} (k : Nat) : IOK Tryd.prog tab (xor_Fold_F k) (xor_Fold_I (R := R) k) := iok_cons Tryd.func26 Tryd.call26 (xor_Fold_i26_1_cuts k) <| iok_cons Tryd.func29 Tryd.call29 (xor_Fold_i29_1_cuts k) <| iok_none
theorem xor_Fold_ev (k : Nat) (x : (xor_Fold_p k).τ.den) : evalF tab (xor_Fold_F k) (xor_Fold_p k) (xor_Fold_I k) 2 (xor_Fold_O k) xor_Fold_h Tryd.f20 x = (xor_Fold_p k).f x := by kernel_rfl
theorem xor_Fold_ok (k : Nat) : PFOK Tryd.prog tab 20 (xor_Fold_p k) := pfok mixed tabOK (xor_Fold_fok k) Tryd.func20 (I := xor_Fold_I k) (d := 2) (xor_Fold_iok k) (Q := xor_Fold_O k) (hi := xor_Fold_h) (xor_Fold_cuts k) (xor_Fold_ev k)
end Go.Proofs.YtdmcfpnegbfgiaaDoor.Ev
