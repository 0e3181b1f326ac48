/- corbellaw11_StripeBranches, told on plain data. Written by program. -/
import Derived.Test.YtkokbcijgikkgaaEcorbellaw11_speaks
import Derived.Test.YtkokbcijgikkgaaEstripe_New
import Derived.Test.YtkokbcijgikkgaaEcorbellaw11_block
import Derived.Test.YtkokbcijgikkgaaEstripe_Row_Add
import Derived.Test.YtkokbcijgikkgaaEstripe_Row_Count
import Derived.Test.YtkokbcijgikkgaaEstripe_Row_Block
set_option linter.unusedVariables false
set_option maxRecDepth 1000000
namespace Go.Proofs.Ytkokbcijgikkgaa.Ev
open Go Go.RowKit Go.Proofs
def corbellaw11_StripeBranches_l0s {R : Type} (rc : Bool → List ByteArray → ByteArray → ByteArray → Int → Int → Bool → List ByteArray → Option R) (e0 : ByteArray → ByteArray → Int → Bool → List ByteArray → Option R) (k : Nat) (v_1073 : Bool) (v_1074 : List ByteArray) (v_1075 : ByteArray) (v_1076 : ByteArray) (v_1077 : Int) (v_1078 : Int) (v_1079 : Bool) (v_1080 : List ByteArray) : Option R :=
  bif (decide (v_1077 < (lenI v_1074))) then
    bif (decide (v_1077 < (13 : Int))) then
      bif (decide ((0 : Int) ≤ v_1077)) then
        optb (v_1074[v_1077.toNat]?) fun x_1084 =>
        optb (corbellaw11_block k x_1084 false) fun r_1085 =>
        optb (stripe_Row_Add k v_1078 v_1079 v_1080 r_1085) fun r_1086 =>
        rc v_1073 v_1074 v_1075 v_1076 (wrap64 (v_1077 + (1 : Int))) r_1086.1.1 r_1086.1.2.1 r_1086.1.2.2
      else none
    else e0 v_1075 v_1076 v_1078 v_1079 v_1080
  else e0 v_1075 v_1076 v_1078 v_1079 v_1080
def corbellaw11_StripeBranches_l0 {R : Type} (e0 : ByteArray → ByteArray → Int → Bool → List ByteArray → Option R) (k : Nat) : Nat → Bool → List ByteArray → ByteArray → ByteArray → Int → Int → Bool → List ByteArray → Option R
  | 0 => fun _ _ _ _ _ _ _ _ => none
  | j + 1 => corbellaw11_StripeBranches_l0s (corbellaw11_StripeBranches_l0 e0 k j) e0 k
def corbellaw11_StripeBranches_j2 {R : Type} (e0 : Bool → Option R) (k : Nat) (v_1117 : ByteArray) (v_1118 : ByteArray) (v_1119 : Int) (v_1120 : ByteArray) (v_1121 : ByteArray) (v_1122 : ByteArray) (v_1123 : Int) (v_1124 : Bool) (v_1125 : List ByteArray) (v_1126 : Bool) (v_1127 : List ByteArray) (v_1128 : Int) (v_1129 : Bool) (v_1130 : List ByteArray) (v_1131 : Int) (v_1132 : Bool) (v_1133 : List ByteArray) (v_1134 : Int) : Option R :=
  optb (stripe_Row_Count k v_1123 v_1124 v_1125) fun r_1135 =>
  bif (decide (r_1135 = v_1119)) then
    optb (stripe_Row_Count k v_1128 v_1126 v_1127) fun r_1136 =>
    bif (decide (r_1136 = (wrap64 (v_1119 + (1 : Int))))) then
      optb (stripe_Row_Count k v_1134 v_1132 v_1133) fun r_1138 =>
      bif (decide (r_1138 = (wrap64 (v_1119 + (2 : Int))))) then
        optb (corbellaw11_block k v_1117 false) fun r_1140 =>
        bif (decide (v_1120 = r_1140)) then
          optb (corbellaw11_block k v_1118 false) fun r_1141 =>
          bif (decide (v_1121 = r_1141)) then
            e0 (decide (v_1122 = v_1120))
          else e0 false
        else e0 false
      else e0 false
    else e0 false
  else e0 false
def corbellaw11_StripeBranches_j1 {R : Type} (e0 : Bool → Option R) (k : Nat) (v_1099 : ByteArray) (v_1100 : ByteArray) (v_1101 : Int) (v_1102 : Int) (v_1103 : Bool) (v_1104 : List ByteArray) (v_1105 : Bool) (v_1106 : List ByteArray) (v_1107 : Int) (v_1108 : Bool) (v_1109 : List ByteArray) (v_1110 : Int) (v_1111 : Bool) (v_1112 : List ByteArray) (v_1113 : Int) : Option R :=
  optb (stripe_Row_Block k v_1107 v_1105 v_1106 v_1101) fun r_1114 =>
  optb (stripe_Row_Block k v_1110 v_1108 v_1109 v_1101) fun r_1115 =>
  optb (stripe_Row_Block k v_1113 v_1111 v_1112 v_1101) fun r_1116 =>
  corbellaw11_StripeBranches_j2 (fun v_1142 =>
    e0 v_1142) k v_1099 v_1100 v_1101 r_1114.1 r_1115.1 r_1116.1 v_1102 v_1103 v_1104 v_1105 v_1106 v_1107 v_1108 v_1109 v_1110 v_1111 v_1112 v_1113
def corbellaw11_StripeBranches (k : Nat) (a0 : Bool) (a1 : List ByteArray) (a2 : ByteArray) (a3 : ByteArray) : Option Bool :=
  optb (corbellaw11_speaks k) fun r_1071 =>
  bif (!r_1071) then
    some false
  else optb (stripe_New k (15 : Int)) fun r_1072 =>
  corbellaw11_StripeBranches_l0 (fun v_1087 v_1088 v_1089 v_1090 v_1091 =>
    optb (stripe_Row_Count k v_1089 v_1090 v_1091) fun r_1092 =>
    optb (corbellaw11_block k v_1087 false) fun r_1093 =>
    optb (stripe_Row_Add k v_1089 v_1090 v_1091 r_1093) fun r_1094 =>
    optb (corbellaw11_block k v_1088 false) fun r_1095 =>
    optb (stripe_Row_Add k v_1089 v_1090 v_1091 r_1095) fun r_1096 =>
    optb (corbellaw11_block k v_1088 false) fun r_1097 =>
    optb (stripe_Row_Add k r_1094.1.1 r_1094.1.2.1 r_1094.1.2.2 r_1097) fun r_1098 =>
    corbellaw11_StripeBranches_j1 (fun v_1143 =>
      some v_1143) k v_1087 v_1088 r_1092 v_1089 v_1090 v_1091 r_1094.1.2.1 r_1094.1.2.2 r_1094.1.1 r_1096.1.2.1 r_1096.1.2.2 r_1096.1.1 r_1098.1.2.1 r_1098.1.2.2 r_1098.1.1) k k a0 a1 a2 a3 (0 : Int) r_1072.1.1 r_1072.1.2.1 r_1072.1.2.2
def corbellaw11_StripeBranches_p (k : Nat) : PF := { ps := [(false, 1), (false, 1), (false, 1)], rs := [(false, 1)], τ := (.pair (.sl .str) (.pair .str .str)), σ := .bool, f := fun x => corbellaw11_StripeBranches k x.1.1 x.1.2 x.2.1 x.2.2 }
def corbellaw11_StripeBranches_F (k : Nat) : PT := fcons 36 (corbellaw11_speaks_p k) <| fcons 38 (stripe_New_p k) <| fcons 40 (corbellaw11_block_p k) <| fcons 39 (stripe_Row_Add_p k) <| fcons 41 (stripe_Row_Count_p k) <| fcons 42 (stripe_Row_Block_p k) <| fnone
theorem corbellaw11_StripeBranches_fok (k : Nat) : FOK Try.prog tab (corbellaw11_StripeBranches_F k) := fok_cons (corbellaw11_speaks_ok k) Try.call36 <| fok_cons (stripe_New_ok k) Try.call38 <| fok_cons (corbellaw11_block_ok k) Try.call40 <| fok_cons (stripe_Row_Add_ok k) Try.call39 <| fok_cons (stripe_Row_Count_ok k) Try.call41 <| fok_cons (stripe_Row_Block_ok k) Try.call42 <| fok_none
def corbellaw11_StripeBranches_c0 : Cl := { keep := [0, 1, 2, 7, 9], hl := 2, ad := [], adc := [], bump := [], dmc := [(1, 1, .str)] }
def corbellaw11_StripeBranches_x0 : Cl := { keep := [1, 2, 7], hl := 2, ad := [], adc := [], bump := [] }
def corbellaw11_StripeBranches_c1 : Cl := { keep := [1, 2, 7, 10, 11, 13, 15], hl := 8, ad := [], adc := [], bump := [] }
def corbellaw11_StripeBranches_x1 : Cl := { keep := [6], hl := 0, ad := [], adc := [], bump := [] }
def corbellaw11_StripeBranches_c2 : Cl := { keep := [1, 2, 7, 10, 11, 15, 17, 19, 21], hl := 8, ad := [], adc := [], bump := [] }
def corbellaw11_StripeBranches_x2 : Cl := { keep := [6], hl := 0, ad := [], adc := [], bump := [] }
def corbellaw11_StripeBranches_h : Hint := (.sq .no (.sq .no (.sq .no (.sq (.sq .no (.lp corbellaw11_StripeBranches_c0 corbellaw11_StripeBranches_x0 0 .no)) (.sq .no (.sq .no (.sq .no (.ct corbellaw11_StripeBranches_c1 corbellaw11_StripeBranches_x1 1 .no (.sq .no (.sq .no (.ct corbellaw11_StripeBranches_c2 corbellaw11_StripeBranches_x2 2 .no .no)))))))))))
def corbellaw11_StripeBranches_l0_E0 {R : Type} (K : EX → St → Option R) : ByteArray → ByteArray → Int → Bool → List ByteArray → Option R := fun v0 v1 v2 v3 v4 => K (.exit 0) (mkSt 125 [] corbellaw11_StripeBranches_x0.keep [.str v0, .str v1, .ptr 1 0] [.dead 1, .blk [.int .i64 v2, .sl .str v3 v4]])
def corbellaw11_StripeBranches_l0_S (v_1073 : Bool) (v_1074 : List ByteArray) (v_1075 : ByteArray) (v_1076 : ByteArray) (v_1077 : Int) (v_1078 : Int) (v_1079 : Bool) (v_1080 : List ByteArray) : St := mkSt 125 [] corbellaw11_StripeBranches_c0.keep [.sl .str v_1073 v_1074, .str v_1075, .str v_1076, .ptr 1 0, .int .i64 v_1077] [.dead 1, .blk [.int .i64 v_1078, .sl .str v_1079 v_1080]]
def corbellaw11_StripeBranches_l0_sh : Rd (List AV × List HE) := .pair (.cons (.sl .str) (.cons .str (.cons .str (.cons (.ptr 1 0) (.cons (.int .i64) Rd.nil))))) (.cons (.dead 1) (.cons (.blk (.cons (.int .i64) (.cons (.sl .str) Rd.nil))) Rd.nil))
def corbellaw11_StripeBranches_l0_a {R : Type} (k : Nat) : Alt R := { n := 125, v := [], sh := corbellaw11_StripeBranches_l0_sh, g := fun K x => corbellaw11_StripeBranches_l0 (corbellaw11_StripeBranches_l0_E0 K) k k x.1.1.1 x.1.1.2 x.1.2.1 x.1.2.2.1 x.1.2.2.2.2.1 x.2.2.1.1 x.2.2.1.2.1.1 x.2.2.1.2.1.2 }
def corbellaw11_StripeBranches_j1_E0 {R : Type} (K : EX → St → Option R) : Bool → Option R := fun v0 => K .ret (mkSt 125 [] corbellaw11_StripeBranches_x1.keep [.bool v0] [])
def corbellaw11_StripeBranches_j1_S (v_1099 : ByteArray) (v_1100 : ByteArray) (v_1101 : Int) (v_1102 : Int) (v_1103 : Bool) (v_1104 : List ByteArray) (v_1105 : Bool) (v_1106 : List ByteArray) (v_1107 : Int) (v_1108 : Bool) (v_1109 : List ByteArray) (v_1110 : Int) (v_1111 : Bool) (v_1112 : List ByteArray) (v_1113 : Int) : St := mkSt 125 [] corbellaw11_StripeBranches_c1.keep [.str v_1099, .str v_1100, .ptr 1 0, .int .i64 v_1101, .ptr 3 0, .ptr 5 0, .ptr 7 0] [.dead 1, .blk [.int .i64 v_1102, .sl .str v_1103 v_1104], .lst .str 9 v_1105 1 v_1106, .blk [.int .i64 v_1107, .own 2 1], .lst .str 9 v_1108 1 v_1109, .blk [.int .i64 v_1110, .own 4 1], .lst .str 9 v_1111 1 v_1112, .blk [.int .i64 v_1113, .own 6 1]]
def corbellaw11_StripeBranches_j1_sh : Rd (List AV × List HE) := .pair (.cons .str (.cons .str (.cons (.ptr 1 0) (.cons (.int .i64) (.cons (.ptr 3 0) (.cons (.ptr 5 0) (.cons (.ptr 7 0) Rd.nil))))))) (.cons (.dead 1) (.cons (.blk (.cons (.int .i64) (.cons (.sl .str) Rd.nil))) (.cons (.lst .str 9 1) (.cons (.blk (.cons (.int .i64) (.cons (.own 2 1) Rd.nil))) (.cons (.lst .str 9 1) (.cons (.blk (.cons (.int .i64) (.cons (.own 4 1) Rd.nil))) (.cons (.lst .str 9 1) (.cons (.blk (.cons (.int .i64) (.cons (.own 6 1) Rd.nil))) Rd.nil))))))))
def corbellaw11_StripeBranches_j1_a {R : Type} (k : Nat) : Alt R := { n := 125, v := [], sh := corbellaw11_StripeBranches_j1_sh, g := fun K x => corbellaw11_StripeBranches_j1 (corbellaw11_StripeBranches_j1_E0 K) k x.1.1 x.1.2.1 x.1.2.2.2.1 x.2.2.1.1 x.2.2.1.2.1.1 x.2.2.1.2.1.2 x.2.2.2.1.1 x.2.2.2.1.2 x.2.2.2.2.1.1 x.2.2.2.2.2.1.1 x.2.2.2.2.2.1.2 x.2.2.2.2.2.2.1.1 x.2.2.2.2.2.2.2.1.1 x.2.2.2.2.2.2.2.1.2 x.2.2.2.2.2.2.2.2.1.1 }
def corbellaw11_StripeBranches_j2_E0 {R : Type} (K : EX → St → Option R) : Bool → Option R := fun v0 => K .ret (mkSt 125 [] corbellaw11_StripeBranches_x2.keep [.bool v0] [])
def corbellaw11_StripeBranches_j2_S (v_1117 : ByteArray) (v_1118 : ByteArray) (v_1119 : Int) (v_1120 : ByteArray) (v_1121 : ByteArray) (v_1122 : ByteArray) (v_1123 : Int) (v_1124 : Bool) (v_1125 : List ByteArray) (v_1126 : Bool) (v_1127 : List ByteArray) (v_1128 : Int) (v_1129 : Bool) (v_1130 : List ByteArray) (v_1131 : Int) (v_1132 : Bool) (v_1133 : List ByteArray) (v_1134 : Int) : St := mkSt 125 [] corbellaw11_StripeBranches_c2.keep [.str v_1117, .str v_1118, .ptr 1 0, .int .i64 v_1119, .ptr 3 0, .ptr 7 0, .str v_1120, .str v_1121, .str v_1122] [.dead 1, .blk [.int .i64 v_1123, .sl .str v_1124 v_1125], .lst .str 9 v_1126 1 v_1127, .blk [.int .i64 v_1128, .own 2 1], .lst .str 9 v_1129 1 v_1130, .blk [.int .i64 v_1131, .own 4 1], .lst .str 9 v_1132 1 v_1133, .blk [.int .i64 v_1134, .own 6 1]]
def corbellaw11_StripeBranches_j2_sh : Rd (List AV × List HE) := .pair (.cons .str (.cons .str (.cons (.ptr 1 0) (.cons (.int .i64) (.cons (.ptr 3 0) (.cons (.ptr 7 0) (.cons .str (.cons .str (.cons .str Rd.nil))))))))) (.cons (.dead 1) (.cons (.blk (.cons (.int .i64) (.cons (.sl .str) Rd.nil))) (.cons (.lst .str 9 1) (.cons (.blk (.cons (.int .i64) (.cons (.own 2 1) Rd.nil))) (.cons (.lst .str 9 1) (.cons (.blk (.cons (.int .i64) (.cons (.own 4 1) Rd.nil))) (.cons (.lst .str 9 1) (.cons (.blk (.cons (.int .i64) (.cons (.own 6 1) Rd.nil))) Rd.nil))))))))
def corbellaw11_StripeBranches_j2_a {R : Type} (k : Nat) : Alt R := { n := 125, v := [], sh := corbellaw11_StripeBranches_j2_sh, g := fun K x => corbellaw11_StripeBranches_j2 (corbellaw11_StripeBranches_j2_E0 K) k x.1.1 x.1.2.1 x.1.2.2.2.1 x.1.2.2.2.2.2.2.1 x.1.2.2.2.2.2.2.2.1 x.1.2.2.2.2.2.2.2.2.1 x.2.2.1.1 x.2.2.1.2.1.1 x.2.2.1.2.1.2 x.2.2.2.1.1 x.2.2.2.1.2 x.2.2.2.2.1.1 x.2.2.2.2.2.1.1 x.2.2.2.2.2.1.2 x.2.2.2.2.2.2.1.1 x.2.2.2.2.2.2.2.1.1 x.2.2.2.2.2.2.2.1.2 x.2.2.2.2.2.2.2.2.1.1 }
def corbellaw11_StripeBranches_O {R : Type} (k : Nat) : CutK R := cutsO [[corbellaw11_StripeBranches_l0_a k], [corbellaw11_StripeBranches_j1_a k], [corbellaw11_StripeBranches_j2_a k]]
noncomputable def corbellaw11_StripeBranches_b : List Ob := obs (bodyOf Try.f13) corbellaw11_StripeBranches_h
noncomputable def corbellaw11_StripeBranches_I {R : Type} (k : Nat) : InlT R := inone
theorem corbellaw11_StripeBranches_l0_eq {R : Type} (k : Nat) (K : EX → St → Option R) : ∀ (j : Nat) (v_1073 : Bool) (v_1074 : List ByteArray) (v_1075 : ByteArray) (v_1076 : ByteArray) (v_1077 : Int) (v_1078 : Int) (v_1079 : Bool) (v_1080 : List ByteArray), corbellaw11_StripeBranches_l0 (corbellaw11_StripeBranches_l0_E0 K) k j v_1073 v_1074 v_1075 v_1076 v_1077 v_1078 v_1079 v_1080 = iter corbellaw11_StripeBranches_c0 corbellaw11_StripeBranches_x0 (ev tab (corbellaw11_StripeBranches_F k) (inlK tab (corbellaw11_StripeBranches_F k) (corbellaw11_StripeBranches_I k) 0) (corbellaw11_StripeBranches_O k) (obB corbellaw11_StripeBranches_b 0) (obH corbellaw11_StripeBranches_b 0)) j (corbellaw11_StripeBranches_l0_S v_1073 v_1074 v_1075 v_1076 v_1077 v_1078 v_1079 v_1080) K
  | 0, _, _, _, _, _, _, _, _ => rfl
  | j + 1, v_1073, v_1074, v_1075, v_1076, v_1077, v_1078, v_1079, v_1080 => by
    have e : corbellaw11_StripeBranches_l0 (corbellaw11_StripeBranches_l0_E0 K) k j = fun v_1073 v_1074 v_1075 v_1076 v_1077 v_1078 v_1079 v_1080 => iter corbellaw11_StripeBranches_c0 corbellaw11_StripeBranches_x0 (ev tab (corbellaw11_StripeBranches_F k) (inlK tab (corbellaw11_StripeBranches_F k) (corbellaw11_StripeBranches_I k) 0) (corbellaw11_StripeBranches_O k) (obB corbellaw11_StripeBranches_b 0) (obH corbellaw11_StripeBranches_b 0)) j (corbellaw11_StripeBranches_l0_S v_1073 v_1074 v_1075 v_1076 v_1077 v_1078 v_1079 v_1080) K := by funext v_1073 v_1074 v_1075 v_1076 v_1077 v_1078 v_1079 v_1080; exact corbellaw11_StripeBranches_l0_eq k K j v_1073 v_1074 v_1075 v_1076 v_1077 v_1078 v_1079 v_1080
    show corbellaw11_StripeBranches_l0s (corbellaw11_StripeBranches_l0 (corbellaw11_StripeBranches_l0_E0 K) k j) (corbellaw11_StripeBranches_l0_E0 K) k v_1073 v_1074 v_1075 v_1076 v_1077 v_1078 v_1079 v_1080 = _
    rw [e, iter_succ]; kernel_rfl
theorem corbellaw11_StripeBranches_l0_ok {R : Type} (k : Nat)  : ObOK (R := R) tab (corbellaw11_StripeBranches_F k) (inlK tab (corbellaw11_StripeBranches_F k) (corbellaw11_StripeBranches_I k) 0) (corbellaw11_StripeBranches_O k) (.loop corbellaw11_StripeBranches_c0 corbellaw11_StripeBranches_x0 0 (obB corbellaw11_StripeBranches_b 0) (obH corbellaw11_StripeBranches_b 0)) :=
  loop_ok (l := [corbellaw11_StripeBranches_l0_a k]) (by kernel_rfl) ⟨(fun K x => ⟨k, (corbellaw11_StripeBranches_l0_eq k K k x.1.1.1 x.1.1.2 x.1.2.1 x.1.2.2.1 x.1.2.2.2.2.1 x.2.2.1.1 x.2.2.1.2.1.1 x.2.2.1.2.1.2).trans (by kernel_rfl)⟩), trivial⟩
theorem corbellaw11_StripeBranches_j1_eq {R : Type} (k : Nat) (K : EX → St → Option R) (v_1099 : ByteArray) (v_1100 : ByteArray) (v_1101 : Int) (v_1102 : Int) (v_1103 : Bool) (v_1104 : List ByteArray) (v_1105 : Bool) (v_1106 : List ByteArray) (v_1107 : Int) (v_1108 : Bool) (v_1109 : List ByteArray) (v_1110 : Int) (v_1111 : Bool) (v_1112 : List ByteArray) (v_1113 : Int) : corbellaw11_StripeBranches_j1 (corbellaw11_StripeBranches_j1_E0 K) k v_1099 v_1100 v_1101 v_1102 v_1103 v_1104 v_1105 v_1106 v_1107 v_1108 v_1109 v_1110 v_1111 v_1112 v_1113 = ev tab (corbellaw11_StripeBranches_F k) (inlK tab (corbellaw11_StripeBranches_F k) (corbellaw11_StripeBranches_I k) 0) (corbellaw11_StripeBranches_O k) (obB corbellaw11_StripeBranches_b 1) (obH corbellaw11_StripeBranches_b 1) (corbellaw11_StripeBranches_j1_S v_1099 v_1100 v_1101 v_1102 v_1103 v_1104 v_1105 v_1106 v_1107 v_1108 v_1109 v_1110 v_1111 v_1112 v_1113) (fun e st => optb (clean corbellaw11_StripeBranches_x1 st) fun st => K e st) := by kernel_rfl
theorem corbellaw11_StripeBranches_j1_ok {R : Type} (k : Nat)  : ObOK (R := R) tab (corbellaw11_StripeBranches_F k) (inlK tab (corbellaw11_StripeBranches_F k) (corbellaw11_StripeBranches_I k) 0) (corbellaw11_StripeBranches_O k) (.join corbellaw11_StripeBranches_c1 corbellaw11_StripeBranches_x1 1 (obB corbellaw11_StripeBranches_b 1) (obH corbellaw11_StripeBranches_b 1)) :=
  join_ok (l := [corbellaw11_StripeBranches_j1_a k]) (by kernel_rfl) ⟨(fun K x => (corbellaw11_StripeBranches_j1_eq k K x.1.1 x.1.2.1 x.1.2.2.2.1 x.2.2.1.1 x.2.2.1.2.1.1 x.2.2.1.2.1.2 x.2.2.2.1.1 x.2.2.2.1.2 x.2.2.2.2.1.1 x.2.2.2.2.2.1.1 x.2.2.2.2.2.1.2 x.2.2.2.2.2.2.1.1 x.2.2.2.2.2.2.2.1.1 x.2.2.2.2.2.2.2.1.2 x.2.2.2.2.2.2.2.2.1.1).trans (by kernel_rfl)), trivial⟩
theorem corbellaw11_StripeBranches_j2_eq {R : Type} (k : Nat) (K : EX → St → Option R) (v_1117 : ByteArray) (v_1118 : ByteArray) (v_1119 : Int) (v_1120 : ByteArray) (v_1121 : ByteArray) (v_1122 : ByteArray) (v_1123 : Int) (v_1124 : Bool) (v_1125 : List ByteArray) (v_1126 : Bool) (v_1127 : List ByteArray) (v_1128 : Int) (v_1129 : Bool) (v_1130 : List ByteArray) (v_1131 : Int) (v_1132 : Bool) (v_1133 : List ByteArray) (v_1134 : Int) : corbellaw11_StripeBranches_j2 (corbellaw11_StripeBranches_j2_E0 K) k v_1117 v_1118 v_1119 v_1120 v_1121 v_1122 v_1123 v_1124 v_1125 v_1126 v_1127 v_1128 v_1129 v_1130 v_1131 v_1132 v_1133 v_1134 = ev tab (corbellaw11_StripeBranches_F k) (inlK tab (corbellaw11_StripeBranches_F k) (corbellaw11_StripeBranches_I k) 0) (corbellaw11_StripeBranches_O k) (obB corbellaw11_StripeBranches_b 2) (obH corbellaw11_StripeBranches_b 2) (corbellaw11_StripeBranches_j2_S v_1117 v_1118 v_1119 v_1120 v_1121 v_1122 v_1123 v_1124 v_1125 v_1126 v_1127 v_1128 v_1129 v_1130 v_1131 v_1132 v_1133 v_1134) (fun e st => optb (clean corbellaw11_StripeBranches_x2 st) fun st => K e st) := by kernel_rfl
theorem corbellaw11_StripeBranches_j2_ok {R : Type} (k : Nat)  : ObOK (R := R) tab (corbellaw11_StripeBranches_F k) (inlK tab (corbellaw11_StripeBranches_F k) (corbellaw11_StripeBranches_I k) 0) (corbellaw11_StripeBranches_O k) (.join corbellaw11_StripeBranches_c2 corbellaw11_StripeBranches_x2 2 (obB corbellaw11_StripeBranches_b 2) (obH corbellaw11_StripeBranches_b 2)) :=
  join_ok (l := [corbellaw11_StripeBranches_j2_a k]) (by kernel_rfl) ⟨(fun K x => (corbellaw11_StripeBranches_j2_eq k K x.1.1 x.1.2.1 x.1.2.2.2.1 x.1.2.2.2.2.2.2.1 x.1.2.2.2.2.2.2.2.1 x.1.2.2.2.2.2.2.2.2.1 x.2.2.1.1 x.2.2.1.2.1.1 x.2.2.1.2.1.2 x.2.2.2.1.1 x.2.2.2.1.2 x.2.2.2.2.1.1 x.2.2.2.2.2.1.1 x.2.2.2.2.2.1.2 x.2.2.2.2.2.2.1.1 x.2.2.2.2.2.2.2.1.1 x.2.2.2.2.2.2.2.1.2 x.2.2.2.2.2.2.2.2.1.1).trans (by kernel_rfl)), trivial⟩
theorem corbellaw11_StripeBranches_cuts {R : Type} (k : Nat) : ∀ c, Try.f13.body = some c → CutsOK (R := R) tab (corbellaw11_StripeBranches_F k) (inlK tab (corbellaw11_StripeBranches_F k) (corbellaw11_StripeBranches_I k) 0) (corbellaw11_StripeBranches_O k) c corbellaw11_StripeBranches_h :=
  cuts_of (l := [.loop corbellaw11_StripeBranches_c0 corbellaw11_StripeBranches_x0 0 (obB corbellaw11_StripeBranches_b 0) (obH corbellaw11_StripeBranches_b 0), .join corbellaw11_StripeBranches_c1 corbellaw11_StripeBranches_x1 1 (obB corbellaw11_StripeBranches_b 1) (obH corbellaw11_StripeBranches_b 1), .join corbellaw11_StripeBranches_c2 corbellaw11_StripeBranches_x2 2 (obB corbellaw11_StripeBranches_b 2) (obH corbellaw11_StripeBranches_b 2)]) (by kernel_rfl) ⟨corbellaw11_StripeBranches_l0_ok k, corbellaw11_StripeBranches_j1_ok k, corbellaw11_StripeBranches_j2_ok k, trivial⟩
theorem corbellaw11_StripeBranches_iok {R : Type} (k : Nat) : IOK Try.prog tab (corbellaw11_StripeBranches_F k) (corbellaw11_StripeBranches_I (R := R) k) := iok_none
theorem corbellaw11_StripeBranches_ev (k : Nat) (x : (corbellaw11_StripeBranches_p k).τ.den) : evalF tab (corbellaw11_StripeBranches_F k) (corbellaw11_StripeBranches_p k) (corbellaw11_StripeBranches_I k) 0 (corbellaw11_StripeBranches_O k) corbellaw11_StripeBranches_h Try.f13 x = (corbellaw11_StripeBranches_p k).f x := by kernel_rfl
theorem corbellaw11_StripeBranches_ok (k : Nat) : PFOK Try.prog tab 13 (corbellaw11_StripeBranches_p k) := pfok mixed tabOK (corbellaw11_StripeBranches_fok k) Try.func13 (I := corbellaw11_StripeBranches_I k) (d := 0) (corbellaw11_StripeBranches_iok k) (Q := corbellaw11_StripeBranches_O k) (hi := corbellaw11_StripeBranches_h) (corbellaw11_StripeBranches_cuts k) (corbellaw11_StripeBranches_ev k)
end Go.Proofs.Ytkokbcijgikkgaa.Ev
