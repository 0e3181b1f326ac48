/- xor_Fold, told on plain data. Written by program. -/
import Derived.Test.YtbgcfcojepfdbaaExor_load
set_option linter.unusedVariables false
set_option maxRecDepth 1000000
namespace Go.Proofs.Ytbgcfcojepfdbaa.Ev
open Go Go.RowKit Go.Proofs
def xor_Fold_l0s {R : Type} (rc : Int → Int → Option R) (e0 : Int → Option R) (k : Nat) (vb_990 : List ByteArray) (v_991 : Int) (long_988 : Int) (v_992 : Int) : Option R :=
  bif (decide (v_992 < v_991)) then
    bif (decide ((0 : Int) ≤ v_992)) then
      optb (vb_990[v_992.toNat]?) fun x_996 =>
      rc (bif (decide ((sizeI x_996) > long_988)) then (sizeI x_996) else long_988) (wrap64 (v_992 + (1 : Int)))
    else none
  else e0 long_988
def xor_Fold_l0 {R : Type} (e0 : Int → Option R) (k : Nat) (vb_990 : List ByteArray) (v_991 : Int) : Nat → Int → Int → Option R
  | 0 => fun _ _ => none
  | j + 1 => xor_Fold_l0s (xor_Fold_l0 e0 k vb_990 v_991 j) e0 k vb_990 v_991
def xor_Fold_i64_1_j1 {R : Type} (e0 : List Int → Option R) (k : Nat) (at_1029 : Int) (w_1030 : Int) (k_1031 : Int) (to_1034 : List Int) : Option R :=
  bif ((decide ((0 : Int) ≤ (wrap64 (at_1029 + k_1031)))) && (decide ((wrap64 (at_1029 + k_1031)) < (lenI to_1034)))) then
    optb (to_1034[(wrap64 (at_1029 + k_1031)).toNat]?) fun x_1035 =>
    bif (decide ((wrap64 ((8 : Int) * k_1031)) < (0 : Int))) then
      none
    else bif ((decide ((0 : Int) ≤ (wrap64 (at_1029 + k_1031)))) && (decide ((wrap64 (at_1029 + k_1031)) < (lenI to_1034)))) then
      optb (to_1034[(wrap64 (at_1029 + k_1031)).toNat]?) fun x_1038 =>
      e0 (List.set to_1034 (wrap64 (at_1029 + k_1031)).toNat (bitop .xor .u8 x_1035 (IntKind.u8.wrap (shrv .u64 w_1030 (wrap64 ((8 : Int) * k_1031))))))
    else none
  else none
def xor_Fold_i64_1_l0s {R : Type} (rc : Int → List Int → Option R) (e0 : List Int → Option R) (k : Nat) (at_1019 : Int) (w_1020 : Int) (v_1021 : Int) (to_1023 : List Int) : Option R :=
  bif (decide (v_1021 < (8 : Int))) then
    xor_Fold_i64_1_j1 (fun to_1044 =>
      rc (wrap64 (v_1021 + (1 : Int))) to_1044) k at_1019 w_1020 v_1021 to_1023
  else e0 to_1023
def xor_Fold_i64_1_l0 {R : Type} (e0 : List Int → Option R) (k : Nat) (at_1019 : Int) (w_1020 : Int) : Nat → Int → List Int → Option R
  | 0 => fun _ _ => none
  | j + 1 => xor_Fold_i64_1_l0s (xor_Fold_i64_1_l0 e0 k at_1019 w_1020 j) e0 k at_1019 w_1020
def xor_Fold_i56_1_j1 {R : Type} (e0 : Int → Option R) (k : Nat) (i_1048 : Int) : Option R :=
  e0 (wrap64 (i_1048 + (8 : Int)))
def xor_Fold_i56_1_l0s {R : Type} (rc : Int → List Int → Option R) (e0 : Int → List Int → Option R) (k : Nat) (s_1011 : ByteArray) (i_1012 : Int) (to_1014 : List Int) : Option R :=
  bif (decide ((wrap64 (i_1012 + (8 : Int))) ≤ (sizeI s_1011))) then
    optb (xor_load k s_1011 i_1012) fun r_1017 =>
    bif (!(decide (r_1017 = (0 : Int)))) then
      optb (xor_load k s_1011 i_1012) fun r_1018 =>
      xor_Fold_i64_1_l0 (fun h_1046 =>
        xor_Fold_i56_1_j1 (fun i_1052 =>
          rc i_1052 h_1046) k i_1012) k i_1012 r_1018 k (0 : Int) to_1014
    else xor_Fold_i56_1_j1 (fun i_1056 =>
      rc i_1056 to_1014) k i_1012
  else e0 i_1012 to_1014
def xor_Fold_i56_1_l0 {R : Type} (e0 : Int → List Int → Option R) (k : Nat) (s_1011 : ByteArray) : Nat → Int → List Int → Option R
  | 0 => fun _ _ => none
  | j + 1 => xor_Fold_i56_1_l0s (xor_Fold_i56_1_l0 e0 k s_1011 j) e0 k s_1011
def xor_Fold_i56_1_l2s {R : Type} (rc : Int → List Int → Option R) (e0 : List Int → Option R) (k : Nat) (s_1063 : ByteArray) (i_1064 : Int) (to_1066 : List Int) : Option R :=
  bif (decide (i_1064 < (sizeI s_1063))) then
    bif ((decide ((0 : Int) ≤ i_1064)) && (decide (i_1064 < (lenI to_1066)))) then
      optb (to_1066[i_1064.toNat]?) fun x_1070 =>
      bif ((decide ((0 : Int) ≤ i_1064)) && (decide (i_1064 < (sizeI s_1063)))) then
        bif ((decide ((0 : Int) ≤ i_1064)) && (decide (i_1064 < (lenI to_1066)))) then
          optb (to_1066[i_1064.toNat]?) fun x_1071 =>
          rc (wrap64 (i_1064 + (1 : Int))) (List.set to_1066 i_1064.toNat (bitop .xor .u8 x_1070 (bt s_1063 i_1064)))
        else none
      else none
    else none
  else e0 to_1066
def xor_Fold_i56_1_l2 {R : Type} (e0 : List Int → Option R) (k : Nat) (s_1063 : ByteArray) : Nat → Int → List Int → Option R
  | 0 => fun _ _ => none
  | j + 1 => xor_Fold_i56_1_l2s (xor_Fold_i56_1_l2 e0 k s_1063 j) e0 k s_1063
def xor_Fold_l1s {R : Type} (rc : Int → List Int → Option R) (e0 : List Int → Option R) (k : Nat) (vb_1003 : List ByteArray) (v_1004 : Int) (v_1005 : Int) (out_1007 : List Int) : Option R :=
  bif (decide (v_1005 < v_1004)) then
    bif (decide ((0 : Int) ≤ v_1005)) then
      optb (vb_1003[v_1005.toNat]?) fun x_1010 =>
      xor_Fold_i56_1_l0 (fun i_1060 to_1062 =>
        xor_Fold_i56_1_l2 (fun h_1074 =>
          rc (wrap64 (v_1005 + (1 : Int))) h_1074) k x_1010 k i_1060 to_1062) k x_1010 k (0 : Int) out_1007
    else none
  else e0 out_1007
def xor_Fold_l1 {R : Type} (e0 : List Int → Option R) (k : Nat) (vb_1003 : List ByteArray) (v_1004 : Int) : Nat → Int → List Int → Option R
  | 0 => fun _ _ => none
  | j + 1 => xor_Fold_l1s (xor_Fold_l1 e0 k vb_1003 v_1004 j) e0 k vb_1003 v_1004
def xor_Fold (k : Nat) (partsa_246 : Bool) (partsb_247 : List ByteArray) : Option ByteArray :=
  xor_Fold_l0 (fun long_1000 =>
    bif (((decide ((0 : Int) ≤ long_1000)) && (decide (long_1000 ≤ long_1000))) && (decide (long_1000 ≤ (1099511627776 : Int)))) then
      xor_Fold_l1 (fun out_1076 =>
        some (bytesOf out_1076)) k partsb_247 (lenI partsb_247) k (0 : Int) (List.replicate long_1000.toNat (Ty.zero (.int .u8)))
    else none) k partsb_247 (lenI partsb_247) k (0 : Int) (0 : Int)
def xor_Fold_p (k : Nat) : PF := { ps := [(false, 1)], rs := [(false, 1)], τ := (.sl .str), σ := .str, f := fun x => xor_Fold k x.1 x.2 }
def xor_Fold_F (k : Nat) : PT := fcons 63 (xor_load_p k) <| fnone
theorem xor_Fold_fok (k : Nat) : FOK Try.prog tab (xor_Fold_F k) := fok_cons (xor_load_ok k) Try.call63 <| fok_none
def xor_Fold_c0 : Cl := { keep := [0, 3, 9, 10, 11], hl := 0, ad := [], adc := [], bump := [] }
def xor_Fold_x0 : Cl := { keep := [0, 3], hl := 0, ad := [], adc := [], bump := [] }
def xor_Fold_c1 : Cl := { keep := [6, 22, 23, 24], hl := 1, ad := [], adc := [], bump := [] }
def xor_Fold_x1 : Cl := { keep := [6], hl := 1, ad := [], adc := [], bump := [] }
def xor_Fold_h : Hint := (.sq .no (.sq .no (.sq (.sq .no (.lp xor_Fold_c0 xor_Fold_x0 0 .no)) (.sq .no (.sq (.sq .no (.lp xor_Fold_c1 xor_Fold_x1 1 .no)) .no)))))
def xor_Fold_l0_E0 {R : Type} (K : EX → St → Option R) : Bool → List ByteArray → Int → Option R := fun v0 v1 v2 => K (.exit 0) (mkSt 34 [] xor_Fold_x0.keep [.sl .str v0 v1, .int .i64 v2] [])
def xor_Fold_l0_S (partsa_986 : Bool) (partsb_987 : List ByteArray) (long_988 : Int) (va_989 : Bool) (vb_990 : List ByteArray) (v_991 : Int) (v_992 : Int) : St := mkSt 34 [] xor_Fold_c0.keep [.sl .str partsa_986 partsb_987, .int .i64 long_988, .sl .str va_989 vb_990, .int .i64 v_991, .int .i64 v_992] []
def xor_Fold_l0_sh : Rd (List AV × List HE) := .pair (.cons (.sl .str) (.cons (.int .i64) (.cons (.sl .str) (.cons (.int .i64) (.cons (.int .i64) Rd.nil))))) Rd.nil
def xor_Fold_l0_a {R : Type} (k : Nat) : Alt R := { n := 34, v := [], sh := xor_Fold_l0_sh, g := fun K x => xor_Fold_l0 (fun y2 => xor_Fold_l0_E0 K x.1.1.1 x.1.1.2 y2) k x.1.2.2.1.2 x.1.2.2.2.1 k x.1.2.1 x.1.2.2.2.2.1 }
def xor_Fold_l1_E0 {R : Type} (K : EX → St → Option R) : Bool → List Int → Option R := fun v0 v1 => K (.exit 2) (mkSt 34 [] xor_Fold_x1.keep [.own 0 1] [.lst (.int .u8) 5 v0 1 v1])
def xor_Fold_l1_S (va_1002 : Bool) (vb_1003 : List ByteArray) (v_1004 : Int) (v_1005 : Int) (outN_1006 : Bool) (out_1007 : List Int) : St := mkSt 34 [] xor_Fold_c1.keep [.own 0 1, .sl .str va_1002 vb_1003, .int .i64 v_1004, .int .i64 v_1005] [.lst (.int .u8) 5 outN_1006 1 out_1007]
def xor_Fold_l1_sh : Rd (List AV × List HE) := .pair (.cons (.own 0 1) (.cons (.sl .str) (.cons (.int .i64) (.cons (.int .i64) Rd.nil)))) (.cons (.lst (.int .u8) 5 1) Rd.nil)
def xor_Fold_l1_a {R : Type} (k : Nat) : Alt R := { n := 34, v := [], sh := xor_Fold_l1_sh, g := fun K x => xor_Fold_l1 (fun y1 => xor_Fold_l1_E0 K x.2.1.1 y1) k x.1.2.1.2 x.1.2.2.1 k x.1.2.2.2.1 x.2.1.2 }
def xor_Fold_O {R : Type} (k : Nat) : CutK R := cutsO [[xor_Fold_l0_a k], [xor_Fold_l1_a k]]
noncomputable def xor_Fold_b : List Ob := obs (bodyOf Try.f45) xor_Fold_h
def xor_Fold_i56_1_c0 : Cl := { keep := [0, 1, 4], hl := 1, ad := [], adc := [], bump := [] }
def xor_Fold_i56_1_x0 : Cl := { keep := [0, 1, 4], hl := 1, ad := [], adc := [], bump := [] }
def xor_Fold_i56_1_c1 : Cl := { keep := [0, 1, 4], hl := 1, ad := [], adc := [], bump := [] }
def xor_Fold_i56_1_x1 : Cl := { keep := [0, 1, 4], hl := 1, ad := [], adc := [], bump := [] }
def xor_Fold_i56_1_c2 : Cl := { keep := [0, 1, 4], hl := 1, ad := [], adc := [], bump := [] }
def xor_Fold_i56_1_x2 : Cl := { keep := [], hl := 1, ad := [], adc := [], bump := [] }
def xor_Fold_i56_1_h : Hint := (.sq .no (.sq (.lp xor_Fold_i56_1_c0 xor_Fold_i56_1_x0 0 (.sq .no (.ct xor_Fold_i56_1_c1 xor_Fold_i56_1_x1 1 .no .no))) (.lp xor_Fold_i56_1_c2 xor_Fold_i56_1_x2 2 .no)))
def xor_Fold_i56_1_l0_E0 {R : Type} (K : EX → St → Option R) : ByteArray → Int → Bool → List Int → Option R := fun v0 v1 v2 v3 => K (.exit 0) (mkSt 37 [1] xor_Fold_i56_1_x0.keep [.own 0 1, .str v0, .int .i64 v1] [.lst (.int .u8) 5 v2 1 v3])
def xor_Fold_i56_1_l0_S (s_1011 : ByteArray) (i_1012 : Int) (toN_1013 : Bool) (to_1014 : List Int) : St := mkSt 37 [1] xor_Fold_i56_1_c0.keep [.own 0 1, .str s_1011, .int .i64 i_1012] [.lst (.int .u8) 5 toN_1013 1 to_1014]
def xor_Fold_i56_1_l0_sh : Rd (List AV × List HE) := .pair (.cons (.own 0 1) (.cons .str (.cons (.int .i64) Rd.nil))) (.cons (.lst (.int .u8) 5 1) Rd.nil)
def xor_Fold_i56_1_l0_a {R : Type} (k : Nat) : Alt R := { n := 37, v := [1], sh := xor_Fold_i56_1_l0_sh, g := fun K x => xor_Fold_i56_1_l0 (fun y1 y3 => xor_Fold_i56_1_l0_E0 K x.1.2.1 y1 x.2.1.1 y3) k x.1.2.1 k x.1.2.2.1 x.2.1.2 }
def xor_Fold_i56_1_j1_E0 {R : Type} (K : EX → St → Option R) : ByteArray → Int → Bool → List Int → Option R := fun v0 v1 v2 v3 => K .normal (mkSt 37 [1] xor_Fold_i56_1_x1.keep [.own 0 1, .str v0, .int .i64 v1] [.lst (.int .u8) 5 v2 1 v3])
def xor_Fold_i56_1_j1_S (s_1047 : ByteArray) (i_1048 : Int) (toN_1049 : Bool) (to_1050 : List Int) : St := mkSt 37 [1] xor_Fold_i56_1_c1.keep [.own 0 1, .str s_1047, .int .i64 i_1048] [.lst (.int .u8) 5 toN_1049 1 to_1050]
def xor_Fold_i56_1_j1_sh : Rd (List AV × List HE) := .pair (.cons (.own 0 1) (.cons .str (.cons (.int .i64) Rd.nil))) (.cons (.lst (.int .u8) 5 1) Rd.nil)
def xor_Fold_i56_1_j1_a {R : Type} (k : Nat) : Alt R := { n := 37, v := [1], sh := xor_Fold_i56_1_j1_sh, g := fun K x => xor_Fold_i56_1_j1 (fun y1 => xor_Fold_i56_1_j1_E0 K x.1.2.1 y1 x.2.1.1 x.2.1.2) k x.1.2.2.1 }
def xor_Fold_i56_1_l2_E0 {R : Type} (K : EX → St → Option R) : Bool → List Int → Option R := fun v0 v1 => K (.exit 2) (mkSt 37 [1] xor_Fold_i56_1_x2.keep [] [.lst (.int .u8) 5 v0 1 v1])
def xor_Fold_i56_1_l2_S (s_1063 : ByteArray) (i_1064 : Int) (toN_1065 : Bool) (to_1066 : List Int) : St := mkSt 37 [1] xor_Fold_i56_1_c2.keep [.own 0 1, .str s_1063, .int .i64 i_1064] [.lst (.int .u8) 5 toN_1065 1 to_1066]
def xor_Fold_i56_1_l2_sh : Rd (List AV × List HE) := .pair (.cons (.own 0 1) (.cons .str (.cons (.int .i64) Rd.nil))) (.cons (.lst (.int .u8) 5 1) Rd.nil)
def xor_Fold_i56_1_l2_a {R : Type} (k : Nat) : Alt R := { n := 37, v := [1], sh := xor_Fold_i56_1_l2_sh, g := fun K x => xor_Fold_i56_1_l2 (fun y1 => xor_Fold_i56_1_l2_E0 K x.2.1.1 y1) k x.1.2.1 k x.1.2.2.1 x.2.1.2 }
def xor_Fold_i56_1_O {R : Type} (k : Nat) : CutK R := cutsO [[xor_Fold_i56_1_l0_a k], [xor_Fold_i56_1_j1_a k], [xor_Fold_i56_1_l2_a k]]
noncomputable def xor_Fold_i56_1_b : List Ob := obs (bodyOf Try.f56) xor_Fold_i56_1_h
def xor_Fold_i64_1_c0 : Cl := { keep := [0, 1, 2, 7], hl := 1, ad := [], adc := [], bump := [] }
def xor_Fold_i64_1_x0 : Cl := { keep := [], hl := 1, ad := [], adc := [], bump := [] }
def xor_Fold_i64_1_c1 : Cl := { keep := [0, 1, 2, 6, 7], hl := 1, ad := [], adc := [], bump := [] }
def xor_Fold_i64_1_x1 : Cl := { keep := [0, 1, 2, 7], hl := 1, ad := [], adc := [], bump := [] }
def xor_Fold_i64_1_h : Hint := (.sq .no (.lp xor_Fold_i64_1_c0 xor_Fold_i64_1_x0 0 (.sq .no (.sq .no (.sq (.ct xor_Fold_i64_1_c1 xor_Fold_i64_1_x1 1 .no .no) .no)))))
def xor_Fold_i64_1_l0_E0 {R : Type} (K : EX → St → Option R) : Bool → List Int → Option R := fun v0 v1 => K (.exit 0) (mkSt 24 [1] xor_Fold_i64_1_x0.keep [] [.lst (.int .u8) 5 v0 1 v1])
def xor_Fold_i64_1_l0_S (at_1019 : Int) (w_1020 : Int) (v_1021 : Int) (toN_1022 : Bool) (to_1023 : List Int) : St := mkSt 24 [1] xor_Fold_i64_1_c0.keep [.own 0 1, .int .i64 at_1019, .int .u64 w_1020, .int .i64 v_1021] [.lst (.int .u8) 5 toN_1022 1 to_1023]
def xor_Fold_i64_1_l0_sh : Rd (List AV × List HE) := .pair (.cons (.own 0 1) (.cons (.int .i64) (.cons (.int .u64) (.cons (.int .i64) Rd.nil)))) (.cons (.lst (.int .u8) 5 1) Rd.nil)
def xor_Fold_i64_1_l0_a {R : Type} (k : Nat) : Alt R := { n := 24, v := [1], sh := xor_Fold_i64_1_l0_sh, g := fun K x => xor_Fold_i64_1_l0 (fun y1 => xor_Fold_i64_1_l0_E0 K x.2.1.1 y1) k x.1.2.1 x.1.2.2.1 k x.1.2.2.2.1 x.2.1.2 }
def xor_Fold_i64_1_j1_E0 {R : Type} (K : EX → St → Option R) : Int → Int → Int → Bool → List Int → Option R := fun v0 v1 v2 v3 v4 => K .normal (mkSt 24 [1] xor_Fold_i64_1_x1.keep [.own 0 1, .int .i64 v0, .int .u64 v1, .int .i64 v2] [.lst (.int .u8) 5 v3 1 v4])
def xor_Fold_i64_1_j1_S (at_1029 : Int) (w_1030 : Int) (k_1031 : Int) (v_1032 : Int) (toN_1033 : Bool) (to_1034 : List Int) : St := mkSt 24 [1] xor_Fold_i64_1_c1.keep [.own 0 1, .int .i64 at_1029, .int .u64 w_1030, .int .i64 k_1031, .int .i64 v_1032] [.lst (.int .u8) 5 toN_1033 1 to_1034]
def xor_Fold_i64_1_j1_sh : Rd (List AV × List HE) := .pair (.cons (.own 0 1) (.cons (.int .i64) (.cons (.int .u64) (.cons (.int .i64) (.cons (.int .i64) Rd.nil))))) (.cons (.lst (.int .u8) 5 1) Rd.nil)
def xor_Fold_i64_1_j1_a {R : Type} (k : Nat) : Alt R := { n := 24, v := [1], sh := xor_Fold_i64_1_j1_sh, g := fun K x => xor_Fold_i64_1_j1 (fun y4 => xor_Fold_i64_1_j1_E0 K x.1.2.1 x.1.2.2.1 x.1.2.2.2.2.1 x.2.1.1 y4) k x.1.2.1 x.1.2.2.1 x.1.2.2.2.1 x.2.1.2 }
def xor_Fold_i64_1_O {R : Type} (k : Nat) : CutK R := cutsO [[xor_Fold_i64_1_l0_a k], [xor_Fold_i64_1_j1_a k]]
noncomputable def xor_Fold_i64_1_b : List Ob := obs (bodyOf Try.f64) xor_Fold_i64_1_h
noncomputable def xor_Fold_I {R : Type} (k : Nat) : InlT R := icons 56 1 (xor_Fold_i56_1_h, Try.f56, deepO 1 (xor_Fold_i56_1_O k)) <| icons 64 1 (xor_Fold_i64_1_h, Try.f64, deepO 0 (xor_Fold_i64_1_O k)) <| inone
theorem xor_Fold_l0_eq {R : Type} (k : Nat) (K : EX → St → Option R) (partsa_986 : Bool) (partsb_987 : List ByteArray) (va_989 : Bool) (vb_990 : List ByteArray) (v_991 : Int) : ∀ (j : Nat) (long_988 : Int) (v_992 : Int), xor_Fold_l0 (fun y2 => xor_Fold_l0_E0 K partsa_986 partsb_987 y2) k vb_990 v_991 j long_988 v_992 = iter xor_Fold_c0 xor_Fold_x0 (ev tab (xor_Fold_F k) (inlK tab (xor_Fold_F k) (xor_Fold_I k) 2) (xor_Fold_O k) (obB xor_Fold_b 0) (obH xor_Fold_b 0)) j (xor_Fold_l0_S partsa_986 partsb_987 long_988 va_989 vb_990 v_991 v_992) K
  | 0, _, _ => rfl
  | j + 1, long_988, v_992 => by
    have e : xor_Fold_l0 (fun y2 => xor_Fold_l0_E0 K partsa_986 partsb_987 y2) k vb_990 v_991 j = fun long_988 v_992 => iter xor_Fold_c0 xor_Fold_x0 (ev tab (xor_Fold_F k) (inlK tab (xor_Fold_F k) (xor_Fold_I k) 2) (xor_Fold_O k) (obB xor_Fold_b 0) (obH xor_Fold_b 0)) j (xor_Fold_l0_S partsa_986 partsb_987 long_988 va_989 vb_990 v_991 v_992) K := by funext long_988 v_992; exact xor_Fold_l0_eq k K partsa_986 partsb_987 va_989 vb_990 v_991 j long_988 v_992
    show xor_Fold_l0s (xor_Fold_l0 (fun y2 => xor_Fold_l0_E0 K partsa_986 partsb_987 y2) k vb_990 v_991 j) (fun y2 => xor_Fold_l0_E0 K partsa_986 partsb_987 y2) k vb_990 v_991 long_988 v_992 = _
    rw [e, iter_succ]; kernel_rfl
theorem xor_Fold_l0_ok {R : Type} (k : Nat)  : ObOK (R := R) tab (xor_Fold_F k) (inlK tab (xor_Fold_F k) (xor_Fold_I k) 2) (xor_Fold_O k) (.loop xor_Fold_c0 xor_Fold_x0 0 (obB xor_Fold_b 0) (obH xor_Fold_b 0)) :=
  loop_ok (l := [xor_Fold_l0_a k]) (by kernel_rfl) ⟨(fun K x => ⟨k, (xor_Fold_l0_eq k K x.1.1.1 x.1.1.2 x.1.2.2.1.1 x.1.2.2.1.2 x.1.2.2.2.1 k x.1.2.1 x.1.2.2.2.2.1).trans (by kernel_rfl)⟩), trivial⟩
theorem xor_Fold_l1_eq {R : Type} (k : Nat) (K : EX → St → Option R) (va_1002 : Bool) (vb_1003 : List ByteArray) (v_1004 : Int) (outN_1006 : Bool) : ∀ (j : Nat) (v_1005 : Int) (out_1007 : List Int), xor_Fold_l1 (fun y1 => xor_Fold_l1_E0 K outN_1006 y1) k vb_1003 v_1004 j v_1005 out_1007 = iter xor_Fold_c1 xor_Fold_x1 (ev tab (xor_Fold_F k) (inlK tab (xor_Fold_F k) (xor_Fold_I k) 2) (xor_Fold_O k) (obB xor_Fold_b 1) (obH xor_Fold_b 1)) j (xor_Fold_l1_S va_1002 vb_1003 v_1004 v_1005 outN_1006 out_1007) K
  | 0, _, _ => rfl
  | j + 1, v_1005, out_1007 => by
    have e : xor_Fold_l1 (fun y1 => xor_Fold_l1_E0 K outN_1006 y1) k vb_1003 v_1004 j = fun v_1005 out_1007 => iter xor_Fold_c1 xor_Fold_x1 (ev tab (xor_Fold_F k) (inlK tab (xor_Fold_F k) (xor_Fold_I k) 2) (xor_Fold_O k) (obB xor_Fold_b 1) (obH xor_Fold_b 1)) j (xor_Fold_l1_S va_1002 vb_1003 v_1004 v_1005 outN_1006 out_1007) K := by funext v_1005 out_1007; exact xor_Fold_l1_eq k K va_1002 vb_1003 v_1004 outN_1006 j v_1005 out_1007
    show xor_Fold_l1s (xor_Fold_l1 (fun y1 => xor_Fold_l1_E0 K outN_1006 y1) k vb_1003 v_1004 j) (fun y1 => xor_Fold_l1_E0 K outN_1006 y1) k vb_1003 v_1004 v_1005 out_1007 = _
    rw [e, iter_succ]; kernel_rfl
theorem xor_Fold_l1_ok {R : Type} (k : Nat)  : ObOK (R := R) tab (xor_Fold_F k) (inlK tab (xor_Fold_F k) (xor_Fold_I k) 2) (xor_Fold_O k) (.loop xor_Fold_c1 xor_Fold_x1 1 (obB xor_Fold_b 1) (obH xor_Fold_b 1)) :=
  loop_ok (l := [xor_Fold_l1_a k]) (by kernel_rfl) ⟨(fun K x => ⟨k, (xor_Fold_l1_eq k K x.1.2.1.1 x.1.2.1.2 x.1.2.2.1 x.2.1.1 k x.1.2.2.2.1 x.2.1.2).trans (by kernel_rfl)⟩), trivial⟩
theorem xor_Fold_cuts {R : Type} (k : Nat) : ∀ c, Try.f45.body = some c → CutsOK (R := R) tab (xor_Fold_F k) (inlK tab (xor_Fold_F k) (xor_Fold_I k) 2) (xor_Fold_O k) c xor_Fold_h :=
  cuts_of (l := [.loop xor_Fold_c0 xor_Fold_x0 0 (obB xor_Fold_b 0) (obH xor_Fold_b 0), .loop xor_Fold_c1 xor_Fold_x1 1 (obB xor_Fold_b 1) (obH xor_Fold_b 1)]) (by kernel_rfl) ⟨xor_Fold_l0_ok k, xor_Fold_l1_ok k, trivial⟩
theorem xor_Fold_i56_1_l0_eq {R : Type} (k : Nat) (d : Nat) (K : EX → St → Option R) (s_1011 : ByteArray) (toN_1013 : Bool) : ∀ (j : Nat) (i_1012 : Int) (to_1014 : List Int), xor_Fold_i56_1_l0 (fun y1 y3 => xor_Fold_i56_1_l0_E0 K s_1011 y1 toN_1013 y3) k s_1011 j i_1012 to_1014 = iter xor_Fold_i56_1_c0 xor_Fold_i56_1_x0 (ev tab (xor_Fold_F k) (inlK tab (xor_Fold_F k) (xor_Fold_I k) (d + 1)) (deepO 1 (xor_Fold_i56_1_O k) (d + 1)) (obB xor_Fold_i56_1_b 0) (obH xor_Fold_i56_1_b 0)) j (xor_Fold_i56_1_l0_S s_1011 i_1012 toN_1013 to_1014) K
  | 0, _, _ => rfl
  | j + 1, i_1012, to_1014 => by
    have e : xor_Fold_i56_1_l0 (fun y1 y3 => xor_Fold_i56_1_l0_E0 K s_1011 y1 toN_1013 y3) k s_1011 j = fun i_1012 to_1014 => iter xor_Fold_i56_1_c0 xor_Fold_i56_1_x0 (ev tab (xor_Fold_F k) (inlK tab (xor_Fold_F k) (xor_Fold_I k) (d + 1)) (deepO 1 (xor_Fold_i56_1_O k) (d + 1)) (obB xor_Fold_i56_1_b 0) (obH xor_Fold_i56_1_b 0)) j (xor_Fold_i56_1_l0_S s_1011 i_1012 toN_1013 to_1014) K := by funext i_1012 to_1014; exact xor_Fold_i56_1_l0_eq k d K s_1011 toN_1013 j i_1012 to_1014
    show xor_Fold_i56_1_l0s (xor_Fold_i56_1_l0 (fun y1 y3 => xor_Fold_i56_1_l0_E0 K s_1011 y1 toN_1013 y3) k s_1011 j) (fun y1 y3 => xor_Fold_i56_1_l0_E0 K s_1011 y1 toN_1013 y3) k s_1011 i_1012 to_1014 = _
    rw [e, iter_succ]; kernel_rfl
theorem xor_Fold_i56_1_l0_ok {R : Type} (k : Nat) (d : Nat)  : ObOK (R := R) tab (xor_Fold_F k) (inlK tab (xor_Fold_F k) (xor_Fold_I k) d) (deepO 1 (xor_Fold_i56_1_O k) d) (.loop xor_Fold_i56_1_c0 xor_Fold_i56_1_x0 0 (obB xor_Fold_i56_1_b 0) (obH xor_Fold_i56_1_b 0)) :=
  deep_ob fun hd => by
    obtain ⟨d, rfl⟩ := Nat.exists_eq_add_of_le' hd
    exact loop_ok (l := [xor_Fold_i56_1_l0_a k]) (by kernel_rfl) ⟨(fun K x => ⟨k, (xor_Fold_i56_1_l0_eq k d K x.1.2.1 x.2.1.1 k x.1.2.2.1 x.2.1.2).trans (by kernel_rfl)⟩), trivial⟩
theorem xor_Fold_i56_1_j1_eq {R : Type} (k : Nat) (d : Nat) (K : EX → St → Option R) (s_1047 : ByteArray) (i_1048 : Int) (toN_1049 : Bool) (to_1050 : List Int) : xor_Fold_i56_1_j1 (fun y1 => xor_Fold_i56_1_j1_E0 K s_1047 y1 toN_1049 to_1050) k i_1048 = ev tab (xor_Fold_F k) (inlK tab (xor_Fold_F k) (xor_Fold_I k) (d + 1)) (deepO 1 (xor_Fold_i56_1_O k) (d + 1)) (obB xor_Fold_i56_1_b 1) (obH xor_Fold_i56_1_b 1) (xor_Fold_i56_1_j1_S s_1047 i_1048 toN_1049 to_1050) (fun e st => optb (clean xor_Fold_i56_1_x1 st) fun st => K e st) := by kernel_rfl
theorem xor_Fold_i56_1_j1_ok {R : Type} (k : Nat) (d : Nat)  : ObOK (R := R) tab (xor_Fold_F k) (inlK tab (xor_Fold_F k) (xor_Fold_I k) d) (deepO 1 (xor_Fold_i56_1_O k) d) (.join xor_Fold_i56_1_c1 xor_Fold_i56_1_x1 1 (obB xor_Fold_i56_1_b 1) (obH xor_Fold_i56_1_b 1)) :=
  deep_ob fun hd => by
    obtain ⟨d, rfl⟩ := Nat.exists_eq_add_of_le' hd
    exact join_ok (l := [xor_Fold_i56_1_j1_a k]) (by kernel_rfl) ⟨(fun K x => (xor_Fold_i56_1_j1_eq k d K x.1.2.1 x.1.2.2.1 x.2.1.1 x.2.1.2).trans (by kernel_rfl)), trivial⟩
theorem xor_Fold_i56_1_l2_eq {R : Type} (k : Nat) (d : Nat) (K : EX → St → Option R) (s_1063 : ByteArray) (toN_1065 : Bool) : ∀ (j : Nat) (i_1064 : Int) (to_1066 : List Int), xor_Fold_i56_1_l2 (fun y1 => xor_Fold_i56_1_l2_E0 K toN_1065 y1) k s_1063 j i_1064 to_1066 = iter xor_Fold_i56_1_c2 xor_Fold_i56_1_x2 (ev tab (xor_Fold_F k) (inlK tab (xor_Fold_F k) (xor_Fold_I k) (d + 1)) (deepO 1 (xor_Fold_i56_1_O k) (d + 1)) (obB xor_Fold_i56_1_b 2) (obH xor_Fold_i56_1_b 2)) j (xor_Fold_i56_1_l2_S s_1063 i_1064 toN_1065 to_1066) K
  | 0, _, _ => rfl
  | j + 1, i_1064, to_1066 => by
    have e : xor_Fold_i56_1_l2 (fun y1 => xor_Fold_i56_1_l2_E0 K toN_1065 y1) k s_1063 j = fun i_1064 to_1066 => iter xor_Fold_i56_1_c2 xor_Fold_i56_1_x2 (ev tab (xor_Fold_F k) (inlK tab (xor_Fold_F k) (xor_Fold_I k) (d + 1)) (deepO 1 (xor_Fold_i56_1_O k) (d + 1)) (obB xor_Fold_i56_1_b 2) (obH xor_Fold_i56_1_b 2)) j (xor_Fold_i56_1_l2_S s_1063 i_1064 toN_1065 to_1066) K := by funext i_1064 to_1066; exact xor_Fold_i56_1_l2_eq k d K s_1063 toN_1065 j i_1064 to_1066
    show xor_Fold_i56_1_l2s (xor_Fold_i56_1_l2 (fun y1 => xor_Fold_i56_1_l2_E0 K toN_1065 y1) k s_1063 j) (fun y1 => xor_Fold_i56_1_l2_E0 K toN_1065 y1) k s_1063 i_1064 to_1066 = _
    rw [e, iter_succ]; kernel_rfl
theorem xor_Fold_i56_1_l2_ok {R : Type} (k : Nat) (d : Nat)  : ObOK (R := R) tab (xor_Fold_F k) (inlK tab (xor_Fold_F k) (xor_Fold_I k) d) (deepO 1 (xor_Fold_i56_1_O k) d) (.loop xor_Fold_i56_1_c2 xor_Fold_i56_1_x2 2 (obB xor_Fold_i56_1_b 2) (obH xor_Fold_i56_1_b 2)) :=
  deep_ob fun hd => by
    obtain ⟨d, rfl⟩ := Nat.exists_eq_add_of_le' hd
    exact loop_ok (l := [xor_Fold_i56_1_l2_a k]) (by kernel_rfl) ⟨(fun K x => ⟨k, (xor_Fold_i56_1_l2_eq k d K x.1.2.1 x.2.1.1 k x.1.2.2.1 x.2.1.2).trans (by kernel_rfl)⟩), trivial⟩
theorem xor_Fold_i56_1_cuts {R : Type} (k : Nat) : ∀ (d : Nat), ∀ c, Try.f56.body = some c → CutsOK (R := R) tab (xor_Fold_F k) (inlK tab (xor_Fold_F k) (xor_Fold_I k) d) (deepO 1 (xor_Fold_i56_1_O k) d) c xor_Fold_i56_1_h :=
  fun d => cuts_of (l := [.loop xor_Fold_i56_1_c0 xor_Fold_i56_1_x0 0 (obB xor_Fold_i56_1_b 0) (obH xor_Fold_i56_1_b 0), .join xor_Fold_i56_1_c1 xor_Fold_i56_1_x1 1 (obB xor_Fold_i56_1_b 1) (obH xor_Fold_i56_1_b 1), .loop xor_Fold_i56_1_c2 xor_Fold_i56_1_x2 2 (obB xor_Fold_i56_1_b 2) (obH xor_Fold_i56_1_b 2)]) (by kernel_rfl) ⟨xor_Fold_i56_1_l0_ok k d, xor_Fold_i56_1_j1_ok k d, xor_Fold_i56_1_l2_ok k d, trivial⟩
theorem xor_Fold_i64_1_l0_eq {R : Type} (k : Nat) (d : Nat) (K : EX → St → Option R) (at_1019 : Int) (w_1020 : Int) (toN_1022 : Bool) : ∀ (j : Nat) (v_1021 : Int) (to_1023 : List Int), xor_Fold_i64_1_l0 (fun y1 => xor_Fold_i64_1_l0_E0 K toN_1022 y1) k at_1019 w_1020 j v_1021 to_1023 = iter xor_Fold_i64_1_c0 xor_Fold_i64_1_x0 (ev tab (xor_Fold_F k) (inlK tab (xor_Fold_F k) (xor_Fold_I k) (d + 0)) (deepO 0 (xor_Fold_i64_1_O k) (d + 0)) (obB xor_Fold_i64_1_b 0) (obH xor_Fold_i64_1_b 0)) j (xor_Fold_i64_1_l0_S at_1019 w_1020 v_1021 toN_1022 to_1023) K
  | 0, _, _ => rfl
  | j + 1, v_1021, to_1023 => by
    have e : xor_Fold_i64_1_l0 (fun y1 => xor_Fold_i64_1_l0_E0 K toN_1022 y1) k at_1019 w_1020 j = fun v_1021 to_1023 => iter xor_Fold_i64_1_c0 xor_Fold_i64_1_x0 (ev tab (xor_Fold_F k) (inlK tab (xor_Fold_F k) (xor_Fold_I k) (d + 0)) (deepO 0 (xor_Fold_i64_1_O k) (d + 0)) (obB xor_Fold_i64_1_b 0) (obH xor_Fold_i64_1_b 0)) j (xor_Fold_i64_1_l0_S at_1019 w_1020 v_1021 toN_1022 to_1023) K := by funext v_1021 to_1023; exact xor_Fold_i64_1_l0_eq k d K at_1019 w_1020 toN_1022 j v_1021 to_1023
    show xor_Fold_i64_1_l0s (xor_Fold_i64_1_l0 (fun y1 => xor_Fold_i64_1_l0_E0 K toN_1022 y1) k at_1019 w_1020 j) (fun y1 => xor_Fold_i64_1_l0_E0 K toN_1022 y1) k at_1019 w_1020 v_1021 to_1023 = _
    rw [e, iter_succ]; kernel_rfl
theorem xor_Fold_i64_1_l0_ok {R : Type} (k : Nat) (d : Nat)  : ObOK (R := R) tab (xor_Fold_F k) (inlK tab (xor_Fold_F k) (xor_Fold_I k) d) (deepO 0 (xor_Fold_i64_1_O k) d) (.loop xor_Fold_i64_1_c0 xor_Fold_i64_1_x0 0 (obB xor_Fold_i64_1_b 0) (obH xor_Fold_i64_1_b 0)) :=
  deep_ob fun hd => by
    obtain ⟨d, rfl⟩ := Nat.exists_eq_add_of_le' hd
    exact loop_ok (l := [xor_Fold_i64_1_l0_a k]) (by kernel_rfl) ⟨(fun K x => ⟨k, (xor_Fold_i64_1_l0_eq k d K x.1.2.1 x.1.2.2.1 x.2.1.1 k x.1.2.2.2.1 x.2.1.2).trans (by kernel_rfl)⟩), trivial⟩
theorem xor_Fold_i64_1_j1_eq {R : Type} (k : Nat) (d : Nat) (K : EX → St → Option R) (at_1029 : Int) (w_1030 : Int) (k_1031 : Int) (v_1032 : Int) (toN_1033 : Bool) (to_1034 : List Int) : xor_Fold_i64_1_j1 (fun y4 => xor_Fold_i64_1_j1_E0 K at_1029 w_1030 v_1032 toN_1033 y4) k at_1029 w_1030 k_1031 to_1034 = ev tab (xor_Fold_F k) (inlK tab (xor_Fold_F k) (xor_Fold_I k) (d + 0)) (deepO 0 (xor_Fold_i64_1_O k) (d + 0)) (obB xor_Fold_i64_1_b 1) (obH xor_Fold_i64_1_b 1) (xor_Fold_i64_1_j1_S at_1029 w_1030 k_1031 v_1032 toN_1033 to_1034) (fun e st => optb (clean xor_Fold_i64_1_x1 st) fun st => K e st) := by kernel_rfl
theorem xor_Fold_i64_1_j1_ok {R : Type} (k : Nat) (d : Nat)  : ObOK (R := R) tab (xor_Fold_F k) (inlK tab (xor_Fold_F k) (xor_Fold_I k) d) (deepO 0 (xor_Fold_i64_1_O k) d) (.join xor_Fold_i64_1_c1 xor_Fold_i64_1_x1 1 (obB xor_Fold_i64_1_b 1) (obH xor_Fold_i64_1_b 1)) :=
  deep_ob fun hd => by
    obtain ⟨d, rfl⟩ := Nat.exists_eq_add_of_le' hd
    exact join_ok (l := [xor_Fold_i64_1_j1_a k]) (by kernel_rfl) ⟨(fun K x => (xor_Fold_i64_1_j1_eq k d K x.1.2.1 x.1.2.2.1 x.1.2.2.2.1 x.1.2.2.2.2.1 x.2.1.1 x.2.1.2).trans (by kernel_rfl)), trivial⟩
theorem xor_Fold_i64_1_cuts {R : Type} (k : Nat) : ∀ (d : Nat), ∀ c, Try.f64.body = some c → CutsOK (R := R) tab (xor_Fold_F k) (inlK tab (xor_Fold_F k) (xor_Fold_I k) d) (deepO 0 (xor_Fold_i64_1_O k) d) c xor_Fold_i64_1_h :=
  fun d => cuts_of (l := [.loop xor_Fold_i64_1_c0 xor_Fold_i64_1_x0 0 (obB xor_Fold_i64_1_b 0) (obH xor_Fold_i64_1_b 0), .join xor_Fold_i64_1_c1 xor_Fold_i64_1_x1 1 (obB xor_Fold_i64_1_b 1) (obH xor_Fold_i64_1_b 1)]) (by kernel_rfl) ⟨xor_Fold_i64_1_l0_ok k d, xor_Fold_i64_1_j1_ok k d, trivial⟩
theorem xor_Fold_iok {R : Type} (k : Nat) : IOK Try.prog tab (xor_Fold_F k) (xor_Fold_I (R := R) k) := iok_cons Try.func56 Try.call56 (xor_Fold_i56_1_cuts k) <| iok_cons Try.func64 Try.call64 (xor_Fold_i64_1_cuts k) <| iok_none
theorem xor_Fold_ev (k : Nat) (x : (xor_Fold_p k).τ.den) : evalF tab (xor_Fold_F k) (xor_Fold_p k) (xor_Fold_I k) 2 (xor_Fold_O k) xor_Fold_h Try.f45 x = (xor_Fold_p k).f x := by kernel_rfl
theorem xor_Fold_ok (k : Nat) : PFOK Try.prog tab 45 (xor_Fold_p k) := pfok mixed tabOK (xor_Fold_fok k) Try.func45 (I := xor_Fold_I k) (d := 2) (xor_Fold_iok k) (Q := xor_Fold_O k) (hi := xor_Fold_h) (xor_Fold_cuts k) (xor_Fold_ev k)
end Go.Proofs.Ytbgcfcojepfdbaa.Ev
