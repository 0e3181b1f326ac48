/- corbelref01_With, told on plain data. Written by program. -/
import Derived.Test.YtncdfikcdchimaaEcorbelref01_Has
set_option linter.unusedVariables false
set_option maxRecDepth 1000000
namespace Go.Proofs.Ytncdfikcdchimaa.Ev
open Go Go.RowKit Go.Proofs
def corbelref01_With_j0 {R : Type} (e0 : Option R) (e1 : Option R) (k : Nat) (v_1134 : Bool) : Option R :=
  bif v_1134 then
    e0
  else e1
def corbelref01_With_j2 {R : Type} (e0 : Bool → List Int → Bool → List Int → Option R) (e1 : Option R) (k : Nat) (n_1153 : Int) (v_1156 : Bool) (out_1160 : List Int) : Option R :=
  bif v_1156 then
    bif (decide (out_1160.length + ([n_1153] : List Int).length ≤ 1099511627776)) then
      e0 true (out_1160 ++ ([n_1153] : List Int)) false ([n_1153] : List Int)
    else none
  else e1
def corbelref01_With_j3 {R : Type} (e0 : List Int → Option R) (k : Nat) (i_1172 : Int) (sb_1174 : List Int) (out_1176 : List Int) : Option R :=
  bif (decide ((0 : Int) ≤ i_1172)) then
    optb (sb_1174[i_1172.toNat]?) fun x_1179 =>
    bif (decide (out_1176.length + ([x_1179] : List Int).length ≤ 1099511627776)) then
      e0 (out_1176 ++ ([x_1179] : List Int))
    else none
  else none
def corbelref01_With_j4 {R : Type} (e0 : Int → Option R) (k : Nat) (i_1191 : Int) : Option R :=
  e0 (wrap64 (i_1191 + (1 : Int)))
def corbelref01_With_j3b {R : Type} (e0 : List Int → Bool → List Int → Option R) (k : Nat) (i_1216 : Int) (sb_1218 : List Int) (out_1220 : List Int) : Option R :=
  bif (decide ((0 : Int) ≤ i_1216)) then
    optb (sb_1218[i_1216.toNat]?) fun x_1221 =>
    bif (decide (out_1220.length + ([x_1221] : List Int).length ≤ 1099511627776)) then
      e0 (out_1220 ++ ([x_1221] : List Int)) false ([x_1221] : List Int)
    else none
  else none
def corbelref01_With_k3 {R : Type} (rc : Bool → Int → List Int → Option R) (e0 : Bool → List Int → Option R) (k : Nat) : Bool → Int → List Int → Bool → List Int → Option R := fun put_1199 i_1200 out_1204 hN_1205 h_1206 =>
  rc put_1199 i_1200 out_1204
def corbelref01_With_k2 {R : Type} (rc : Bool → Int → List Int → Option R) (e0 : Bool → List Int → Option R) (k : Nat) (i_1147 : Int) (sb_1149 : List Int) : Bool → List Int → Bool → List Int → Option R := fun put_1162 out_1167 hN_1168 h_1169 =>
  corbelref01_With_j3 (fun out_1186 =>
    corbelref01_With_j4 (fun i_1200 => corbelref01_With_k3 rc e0 k put_1162 i_1200 out_1186 hN_1168 h_1169) k i_1147) k i_1147 sb_1149 out_1167
def corbelref01_With_k4 {R : Type} (rc : Bool → Int → List Int → Option R) (e0 : Bool → List Int → Option R) (k : Nat) (i_1147 : Int) (out_1151 : List Int) (put_1146 : Bool) (sb_1149 : List Int) : Option R := 
  corbelref01_With_j3b (fun out_1228 hN_1229 h_1230 =>
    corbelref01_With_j4 (fun i_1200 => corbelref01_With_k3 rc e0 k put_1146 i_1200 out_1228 hN_1229 h_1230) k i_1147) k i_1147 sb_1149 out_1151
def corbelref01_With_l1s {R : Type} (rc : Bool → Int → List Int → Option R) (e0 : Bool → List Int → Option R) (k : Nat) (n_1145 : Int) (sb_1149 : List Int) (put_1146 : Bool) (i_1147 : Int) (out_1151 : List Int) : Option R :=
  bif (decide (i_1147 < (lenI sb_1149))) then
    bif (!put_1146) then
      bif (decide ((0 : Int) ≤ i_1147)) then
        optb (sb_1149[i_1147.toNat]?) fun x_1152 =>
        corbelref01_With_j2 (corbelref01_With_k2 rc e0 k i_1147 sb_1149) (corbelref01_With_k4 rc e0 k i_1147 out_1151 put_1146 sb_1149) k n_1145 (decide (n_1145 < x_1152)) out_1151
      else none
    else corbelref01_With_j2 (corbelref01_With_k2 rc e0 k i_1147 sb_1149) (corbelref01_With_k4 rc e0 k i_1147 out_1151 put_1146 sb_1149) k n_1145 false out_1151
  else e0 put_1146 out_1151
def corbelref01_With_l1 {R : Type} (e0 : Bool → List Int → Option R) (k : Nat) (n_1145 : Int) (sb_1149 : List Int) : Nat → Bool → Int → List Int → Option R
  | 0 => fun _ _ _ => none
  | j + 1 => corbelref01_With_l1s (corbelref01_With_l1 e0 k n_1145 sb_1149 j) e0 k n_1145 sb_1149
def corbelref01_With_j5 {R : Type} (e0 : Option R) (k : Nat) : Option R :=
  e0
def corbelref01_With_k0 (k : Nat) (sa_447 : Bool) (sb_448 : List Int) : Option (Bool × List Int) := 
  some (sa_447, sb_448)
def corbelref01_With_k5 (k : Nat) : List Int → Option (Bool × List Int) := fun v_1244 =>
  some (true, v_1244)
def corbelref01_With_k1 (k : Nat) (n_449 : Int) (sb_448 : List Int) : Option (Bool × List Int) := 
  corbelref01_With_l1 (fun put_1232 out_1236 =>
    bif (!put_1232) then
      bif (decide (out_1236.length + ([n_449] : List Int).length ≤ 1099511627776)) then
        corbelref01_With_j5 (corbelref01_With_k5 k (out_1236 ++ ([n_449] : List Int))) k
      else none
    else corbelref01_With_j5 (corbelref01_With_k5 k out_1236) k) k n_449 sb_448 k false (0 : Int) ([] : List Int)
def corbelref01_With (k : Nat) (sa_447 : Bool) (sb_448 : List Int) (n_449 : Int) : Option (Bool × List Int) :=
  bif (decide (n_449 < (0 : Int))) then
    corbelref01_With_j0 (corbelref01_With_k0 k sa_447 sb_448) (corbelref01_With_k1 k n_449 sb_448) k true
  else bif (decide ((255 : Int) < n_449)) then
    corbelref01_With_j0 (corbelref01_With_k0 k sa_447 sb_448) (corbelref01_With_k1 k n_449 sb_448) k true
  else optb (corbelref01_Has k sa_447 sb_448 n_449) fun r_1245 =>
  corbelref01_With_j0 (corbelref01_With_k0 k sa_447 sb_448) (corbelref01_With_k1 k n_449 sb_448) k r_1245
def corbelref01_With_p (k : Nat) : PF := { ps := [(true, 1), (false, 1)], rs := [(true, 1)], τ := (.pair (.sl (.int .i64)) (.int .i64)), σ := (.sl (.int .i64)), f := fun x => corbelref01_With k x.1.1 x.1.2 x.2 }
def corbelref01_With_F (k : Nat) : PT := fcons 23 (corbelref01_Has_p k) <| fnone
theorem corbelref01_With_fok (k : Nat) : FOK Try.prog tab (corbelref01_With_F k) := fok_cons (corbelref01_Has_ok k) Try.call23 <| fok_none
def corbelref01_With_c0 : Cl := { keep := [1, 2, 4, 18], hl := 2, ad := [], adc := [], bump := [] }
def corbelref01_With_x0 : Cl := { keep := [1, 2, 4], hl := 2, ad := [], adc := [], bump := [] }
def corbelref01_With_c1 : Cl := { keep := [1, 2, 4, 5, 6, 7], hl := 3, ad := [(5, (.int .i64), 3)], adc := [], bump := [] }
def corbelref01_With_x1 : Cl := { keep := [1, 4, 5, 6], hl := 3, ad := [], adc := [], bump := [] }
def corbelref01_With_c2 : Cl := { keep := [1, 2, 4, 5, 6, 7, 37], hl := 3, ad := [], adc := [], bump := [] }
def corbelref01_With_x2 : Cl := { keep := [1, 2, 4, 5, 6, 7], hl := 4, ad := [], adc := [], bump := [] }
def corbelref01_With_c3 : Cl := { keep := [1, 2, 4, 5, 6, 7], hl := 4, ad := [], adc := [], bump := [] }
def corbelref01_With_x3 : Cl := { keep := [1, 2, 4, 5, 6, 7], hl := 4, ad := [], adc := [], bump := [] }
def corbelref01_With_c4 : Cl := { keep := [1, 2, 4, 5, 6, 7], hl := 4, ad := [], adc := [], bump := [] }
def corbelref01_With_x4 : Cl := { keep := [1, 2, 4, 5, 6, 7], hl := 4, ad := [], adc := [], bump := [] }
def corbelref01_With_c5 : Cl := { keep := [4, 5], hl := 3, ad := [], adc := [], bump := [] }
def corbelref01_With_x5 : Cl := { keep := [4], hl := 3, ad := [], adc := [], bump := [] }
def corbelref01_With_h : Hint := (.sq .no (.sq (.ct corbelref01_With_c0 corbelref01_With_x0 0 .no .no) (.sq .no (.sq .no (.sq (.sq .no (.lp corbelref01_With_c1 corbelref01_With_x1 1 (.sq .no (.ct corbelref01_With_c4 corbelref01_With_x4 4 (.ct corbelref01_With_c3 corbelref01_With_x3 3 (.ct corbelref01_With_c2 corbelref01_With_x2 2 .no .no) .no) .no)))) (.ct corbelref01_With_c5 corbelref01_With_x5 5 .no .no))))))
def corbelref01_With_j0_E0 {R : Type} (K : EX → St → Option R) : Int → Bool → List Int → Bool → List Int → Option R := fun v0 v1 v2 v3 v4 => K .ret (mkSt 58 [] corbelref01_With_x0.keep [.int .i64 v0, .ptr 0 0, .ptr 1 0] [.blk [.sl (.int .i64) v1 v2], .blk [.sl (.int .i64) v3 v4]])
def corbelref01_With_j0_E1 {R : Type} (K : EX → St → Option R) : Int → Bool → List Int → Option R := fun v0 v1 v2 => K .normal (mkSt 58 [] corbelref01_With_x0.keep [.int .i64 v0, .ptr 0 0, .ptr 1 0] [.blk [.sl (.int .i64) v1 v2], .blk [.nils]])
def corbelref01_With_j0_S (n_1133 : Int) (v_1134 : Bool) (sa_1135 : Bool) (sb_1136 : List Int) : St := mkSt 58 [] corbelref01_With_c0.keep [.int .i64 n_1133, .ptr 0 0, .ptr 1 0, .bool v_1134] [.blk [.sl (.int .i64) sa_1135 sb_1136], .blk [.nils]]
def corbelref01_With_j0_sh : Rd (List AV × List HE) := .pair (.cons (.int .i64) (.cons (.ptr 0 0) (.cons (.ptr 1 0) (.cons .bool Rd.nil)))) (.cons (.blk (.cons (.sl (.int .i64)) Rd.nil)) (.cons (.blk (.cons .nils Rd.nil)) Rd.nil))
def corbelref01_With_j0_a {R : Type} (k : Nat) : Alt R := { n := 58, v := [], sh := corbelref01_With_j0_sh, g := fun K x => corbelref01_With_j0 (corbelref01_With_j0_E0 K x.1.1 x.2.1.1.1 x.2.1.1.2 x.2.1.1.1 x.2.1.1.2) (corbelref01_With_j0_E1 K x.1.1 x.2.1.1.1 x.2.1.1.2) k x.1.2.2.2.1 }
def corbelref01_With_l1_E0 {R : Type} (K : EX → St → Option R) : Int → Bool → Bool → List Int → Bool → List Int → Option R := fun v0 v1 v2 v3 v4 v5 => K (.exit 0) (mkSt 58 [] corbelref01_With_x1.keep [.int .i64 v0, .ptr 1 0, .own 2 1, .bool v1] [.blk [.sl (.int .i64) v2 v3], .blk [.nils], .lst (.int .i64) 3 v4 1 v5])
def corbelref01_With_l1_S (n_1145 : Int) (put_1146 : Bool) (i_1147 : Int) (sa_1148 : Bool) (sb_1149 : List Int) (outN_1150 : Bool) (out_1151 : List Int) : St := mkSt 58 [] corbelref01_With_c1.keep [.int .i64 n_1145, .ptr 0 0, .ptr 1 0, .own 2 1, .bool put_1146, .int .i64 i_1147] [.blk [.sl (.int .i64) sa_1148 sb_1149], .blk [.nils], .lst (.int .i64) 3 outN_1150 1 out_1151]
def corbelref01_With_l1_sh : Rd (List AV × List HE) := .pair (.cons (.int .i64) (.cons (.ptr 0 0) (.cons (.ptr 1 0) (.cons (.own 2 1) (.cons .bool (.cons (.int .i64) Rd.nil)))))) (.cons (.blk (.cons (.sl (.int .i64)) Rd.nil)) (.cons (.blk (.cons .nils Rd.nil)) (.cons (.lst (.int .i64) 3 1) Rd.nil)))
def corbelref01_With_l1_a {R : Type} (k : Nat) : Alt R := { n := 58, v := [], sh := corbelref01_With_l1_sh, g := fun K x => corbelref01_With_l1 (fun y1 y5 => corbelref01_With_l1_E0 K x.1.1 y1 x.2.1.1.1 x.2.1.1.2 x.2.2.2.1.1 y5) k x.1.1 x.2.1.1.2 k x.1.2.2.2.2.1 x.1.2.2.2.2.2.1 x.2.2.2.1.2 }
def corbelref01_With_j2_E0 {R : Type} (K : EX → St → Option R) : Int → Bool → Int → Bool → List Int → Bool → List Int → Bool → List Int → Option R := fun v0 v1 v2 v3 v4 v5 v6 v7 v8 => K .normal (mkSt 58 [] corbelref01_With_x2.keep [.int .i64 v0, .ptr 0 0, .ptr 1 0, .own 2 1, .bool v1, .int .i64 v2] [.blk [.sl (.int .i64) v3 v4], .blk [.nils], .lst (.int .i64) 3 v5 1 v6, .lst (.int .i64) 3 v7 1 v8])
def corbelref01_With_j2_E1 {R : Type} (K : EX → St → Option R) : Int → Bool → Int → Bool → List Int → Bool → List Int → Option R := fun v0 v1 v2 v3 v4 v5 v6 => K .normal (mkSt 58 [] corbelref01_With_x2.keep [.int .i64 v0, .ptr 0 0, .ptr 1 0, .own 2 1, .bool v1, .int .i64 v2] [.blk [.sl (.int .i64) v3 v4], .blk [.nils], .lst (.int .i64) 3 v5 1 v6])
def corbelref01_With_j2_S (n_1153 : Int) (put_1154 : Bool) (i_1155 : Int) (v_1156 : Bool) (sa_1157 : Bool) (sb_1158 : List Int) (outN_1159 : Bool) (out_1160 : List Int) : St := mkSt 58 [] corbelref01_With_c2.keep [.int .i64 n_1153, .ptr 0 0, .ptr 1 0, .own 2 1, .bool put_1154, .int .i64 i_1155, .bool v_1156] [.blk [.sl (.int .i64) sa_1157 sb_1158], .blk [.nils], .lst (.int .i64) 3 outN_1159 1 out_1160]
def corbelref01_With_j2_sh : Rd (List AV × List HE) := .pair (.cons (.int .i64) (.cons (.ptr 0 0) (.cons (.ptr 1 0) (.cons (.own 2 1) (.cons .bool (.cons (.int .i64) (.cons .bool Rd.nil))))))) (.cons (.blk (.cons (.sl (.int .i64)) Rd.nil)) (.cons (.blk (.cons .nils Rd.nil)) (.cons (.lst (.int .i64) 3 1) Rd.nil)))
def corbelref01_With_j2_a {R : Type} (k : Nat) : Alt R := { n := 58, v := [], sh := corbelref01_With_j2_sh, g := fun K x => corbelref01_With_j2 (fun y1 y6 y7 y8 => corbelref01_With_j2_E0 K x.1.1 y1 x.1.2.2.2.2.2.1 x.2.1.1.1 x.2.1.1.2 x.2.2.2.1.1 y6 y7 y8) (corbelref01_With_j2_E1 K x.1.1 x.1.2.2.2.2.1 x.1.2.2.2.2.2.1 x.2.1.1.1 x.2.1.1.2 x.2.2.2.1.1 x.2.2.2.1.2) k x.1.1 x.1.2.2.2.2.2.2.1 x.2.2.2.1.2 }
def corbelref01_With_j3_E0 {R : Type} (K : EX → St → Option R) : Int → Bool → Int → Bool → List Int → Bool → List Int → Bool → List Int → Option R := fun v0 v1 v2 v3 v4 v5 v6 v7 v8 => K .normal (mkSt 58 [] corbelref01_With_x3.keep [.int .i64 v0, .ptr 0 0, .ptr 1 0, .own 2 1, .bool v1, .int .i64 v2] [.blk [.sl (.int .i64) v3 v4], .blk [.nils], .lst (.int .i64) 3 v5 1 v6, .lst (.int .i64) 3 v7 1 v8])
def corbelref01_With_j3_S (n_1170 : Int) (put_1171 : Bool) (i_1172 : Int) (sa_1173 : Bool) (sb_1174 : List Int) (outN_1175 : Bool) (out_1176 : List Int) (hN_1177 : Bool) (h_1178 : List Int) : St := mkSt 58 [] corbelref01_With_c3.keep [.int .i64 n_1170, .ptr 0 0, .ptr 1 0, .own 2 1, .bool put_1171, .int .i64 i_1172] [.blk [.sl (.int .i64) sa_1173 sb_1174], .blk [.nils], .lst (.int .i64) 3 outN_1175 1 out_1176, .lst (.int .i64) 3 hN_1177 1 h_1178]
def corbelref01_With_j3_sh : Rd (List AV × List HE) := .pair (.cons (.int .i64) (.cons (.ptr 0 0) (.cons (.ptr 1 0) (.cons (.own 2 1) (.cons .bool (.cons (.int .i64) Rd.nil)))))) (.cons (.blk (.cons (.sl (.int .i64)) Rd.nil)) (.cons (.blk (.cons .nils Rd.nil)) (.cons (.lst (.int .i64) 3 1) (.cons (.lst (.int .i64) 3 1) Rd.nil))))
def corbelref01_With_j3_a {R : Type} (k : Nat) : Alt R := { n := 58, v := [], sh := corbelref01_With_j3_sh, g := fun K x => corbelref01_With_j3 (fun y6 => corbelref01_With_j3_E0 K x.1.1 x.1.2.2.2.2.1 x.1.2.2.2.2.2.1 x.2.1.1.1 x.2.1.1.2 x.2.2.2.1.1 y6 x.2.2.2.2.1.1 x.2.2.2.2.1.2) k x.1.2.2.2.2.2.1 x.2.1.1.2 x.2.2.2.1.2 }
def corbelref01_With_j3b_E0 {R : Type} (K : EX → St → Option R) : Int → Bool → Int → Bool → List Int → Bool → List Int → Bool → List Int → Option R := fun v0 v1 v2 v3 v4 v5 v6 v7 v8 => K .normal (mkSt 58 [] corbelref01_With_x3.keep [.int .i64 v0, .ptr 0 0, .ptr 1 0, .own 2 1, .bool v1, .int .i64 v2] [.blk [.sl (.int .i64) v3 v4], .blk [.nils], .lst (.int .i64) 3 v5 1 v6, .lst (.int .i64) 3 v7 1 v8])
def corbelref01_With_j3b_S (n_1214 : Int) (put_1215 : Bool) (i_1216 : Int) (sa_1217 : Bool) (sb_1218 : List Int) (outN_1219 : Bool) (out_1220 : List Int) : St := mkSt 58 [] corbelref01_With_c3.keep [.int .i64 n_1214, .ptr 0 0, .ptr 1 0, .own 2 1, .bool put_1215, .int .i64 i_1216] [.blk [.sl (.int .i64) sa_1217 sb_1218], .blk [.nils], .lst (.int .i64) 3 outN_1219 1 out_1220]
def corbelref01_With_j3b_sh : Rd (List AV × List HE) := .pair (.cons (.int .i64) (.cons (.ptr 0 0) (.cons (.ptr 1 0) (.cons (.own 2 1) (.cons .bool (.cons (.int .i64) Rd.nil)))))) (.cons (.blk (.cons (.sl (.int .i64)) Rd.nil)) (.cons (.blk (.cons .nils Rd.nil)) (.cons (.lst (.int .i64) 3 1) Rd.nil)))
def corbelref01_With_j3b_a {R : Type} (k : Nat) : Alt R := { n := 58, v := [], sh := corbelref01_With_j3b_sh, g := fun K x => corbelref01_With_j3b (fun y6 y7 y8 => corbelref01_With_j3b_E0 K x.1.1 x.1.2.2.2.2.1 x.1.2.2.2.2.2.1 x.2.1.1.1 x.2.1.1.2 x.2.2.2.1.1 y6 y7 y8) k x.1.2.2.2.2.2.1 x.2.1.1.2 x.2.2.2.1.2 }
def corbelref01_With_j4_E0 {R : Type} (K : EX → St → Option R) : Int → Bool → Int → Bool → List Int → Bool → List Int → Bool → List Int → Option R := fun v0 v1 v2 v3 v4 v5 v6 v7 v8 => K .normal (mkSt 58 [] corbelref01_With_x4.keep [.int .i64 v0, .ptr 0 0, .ptr 1 0, .own 2 1, .bool v1, .int .i64 v2] [.blk [.sl (.int .i64) v3 v4], .blk [.nils], .lst (.int .i64) 3 v5 1 v6, .lst (.int .i64) 3 v7 1 v8])
def corbelref01_With_j4_S (n_1189 : Int) (put_1190 : Bool) (i_1191 : Int) (sa_1192 : Bool) (sb_1193 : List Int) (outN_1194 : Bool) (out_1195 : List Int) (hN_1196 : Bool) (h_1197 : List Int) : St := mkSt 58 [] corbelref01_With_c4.keep [.int .i64 n_1189, .ptr 0 0, .ptr 1 0, .own 2 1, .bool put_1190, .int .i64 i_1191] [.blk [.sl (.int .i64) sa_1192 sb_1193], .blk [.nils], .lst (.int .i64) 3 outN_1194 1 out_1195, .lst (.int .i64) 3 hN_1196 1 h_1197]
def corbelref01_With_j4_sh : Rd (List AV × List HE) := .pair (.cons (.int .i64) (.cons (.ptr 0 0) (.cons (.ptr 1 0) (.cons (.own 2 1) (.cons .bool (.cons (.int .i64) Rd.nil)))))) (.cons (.blk (.cons (.sl (.int .i64)) Rd.nil)) (.cons (.blk (.cons .nils Rd.nil)) (.cons (.lst (.int .i64) 3 1) (.cons (.lst (.int .i64) 3 1) Rd.nil))))
def corbelref01_With_j4_a {R : Type} (k : Nat) : Alt R := { n := 58, v := [], sh := corbelref01_With_j4_sh, g := fun K x => corbelref01_With_j4 (fun y2 => corbelref01_With_j4_E0 K x.1.1 x.1.2.2.2.2.1 y2 x.2.1.1.1 x.2.1.1.2 x.2.2.2.1.1 x.2.2.2.1.2 x.2.2.2.2.1.1 x.2.2.2.2.1.2) k x.1.2.2.2.2.2.1 }
def corbelref01_With_j5_E0 {R : Type} (K : EX → St → Option R) : Bool → List Int → Bool → List Int → Option R := fun v0 v1 v2 v3 => K .ret (mkSt 58 [] corbelref01_With_x5.keep [.ptr 1 0] [.blk [.sl (.int .i64) v0 v1], .blk [.own 2 1], .lst (.int .i64) 3 v2 1 v3])
def corbelref01_With_j5_S (ha_1237 : Bool) (hb_1238 : List Int) (outN_1239 : Bool) (out_1240 : List Int) : St := mkSt 58 [] corbelref01_With_c5.keep [.ptr 1 0, .own 2 1] [.blk [.sl (.int .i64) ha_1237 hb_1238], .blk [.nils], .lst (.int .i64) 3 outN_1239 1 out_1240]
def corbelref01_With_j5_sh : Rd (List AV × List HE) := .pair (.cons (.ptr 1 0) (.cons (.own 2 1) Rd.nil)) (.cons (.blk (.cons (.sl (.int .i64)) Rd.nil)) (.cons (.blk (.cons .nils Rd.nil)) (.cons (.lst (.int .i64) 3 1) Rd.nil)))
def corbelref01_With_j5_a {R : Type} (k : Nat) : Alt R := { n := 58, v := [], sh := corbelref01_With_j5_sh, g := fun K x => corbelref01_With_j5 (corbelref01_With_j5_E0 K x.2.1.1.1 x.2.1.1.2 x.2.2.2.1.1 x.2.2.2.1.2) k }
def corbelref01_With_O {R : Type} (k : Nat) : CutK R := cutsO [[corbelref01_With_j0_a k], [corbelref01_With_l1_a k], [corbelref01_With_j2_a k], [corbelref01_With_j3_a k, corbelref01_With_j3b_a k], [corbelref01_With_j4_a k], [corbelref01_With_j5_a k]]
noncomputable def corbelref01_With_b : List Ob := obs (bodyOf Try.f22) corbelref01_With_h
noncomputable def corbelref01_With_I {R : Type} (k : Nat) : InlT R := inone
theorem corbelref01_With_j0_eq {R : Type} (k : Nat) (K : EX → St → Option R) (n_1133 : Int) (v_1134 : Bool) (sa_1135 : Bool) (sb_1136 : List Int) : corbelref01_With_j0 (corbelref01_With_j0_E0 K n_1133 sa_1135 sb_1136 sa_1135 sb_1136) (corbelref01_With_j0_E1 K n_1133 sa_1135 sb_1136) k v_1134 = ev tab (corbelref01_With_F k) (inlK tab (corbelref01_With_F k) (corbelref01_With_I k) 0) (corbelref01_With_O k) (obB corbelref01_With_b 0) (obH corbelref01_With_b 0) (corbelref01_With_j0_S n_1133 v_1134 sa_1135 sb_1136) (fun e st => optb (clean corbelref01_With_x0 st) fun st => K e st) := by kernel_rfl
theorem corbelref01_With_j0_ok {R : Type} (k : Nat)  : ObOK (R := R) tab (corbelref01_With_F k) (inlK tab (corbelref01_With_F k) (corbelref01_With_I k) 0) (corbelref01_With_O k) (.join corbelref01_With_c0 corbelref01_With_x0 0 (obB corbelref01_With_b 0) (obH corbelref01_With_b 0)) :=
  join_ok (l := [corbelref01_With_j0_a k]) (by kernel_rfl) ⟨(fun K x => (corbelref01_With_j0_eq k K x.1.1 x.1.2.2.2.1 x.2.1.1.1 x.2.1.1.2).trans (by kernel_rfl)), trivial⟩
theorem corbelref01_With_l1_eq {R : Type} (k : Nat) (K : EX → St → Option R) (n_1145 : Int) (sa_1148 : Bool) (sb_1149 : List Int) (outN_1150 : Bool) : ∀ (j : Nat) (put_1146 : Bool) (i_1147 : Int) (out_1151 : List Int), corbelref01_With_l1 (fun y1 y5 => corbelref01_With_l1_E0 K n_1145 y1 sa_1148 sb_1149 outN_1150 y5) k n_1145 sb_1149 j put_1146 i_1147 out_1151 = iter corbelref01_With_c1 corbelref01_With_x1 (ev tab (corbelref01_With_F k) (inlK tab (corbelref01_With_F k) (corbelref01_With_I k) 0) (corbelref01_With_O k) (obB corbelref01_With_b 1) (obH corbelref01_With_b 1)) j (corbelref01_With_l1_S n_1145 put_1146 i_1147 sa_1148 sb_1149 outN_1150 out_1151) K
  | 0, _, _, _ => rfl
  | j + 1, put_1146, i_1147, out_1151 => by
    have e : corbelref01_With_l1 (fun y1 y5 => corbelref01_With_l1_E0 K n_1145 y1 sa_1148 sb_1149 outN_1150 y5) k n_1145 sb_1149 j = fun put_1146 i_1147 out_1151 => iter corbelref01_With_c1 corbelref01_With_x1 (ev tab (corbelref01_With_F k) (inlK tab (corbelref01_With_F k) (corbelref01_With_I k) 0) (corbelref01_With_O k) (obB corbelref01_With_b 1) (obH corbelref01_With_b 1)) j (corbelref01_With_l1_S n_1145 put_1146 i_1147 sa_1148 sb_1149 outN_1150 out_1151) K := by funext put_1146 i_1147 out_1151; exact corbelref01_With_l1_eq k K n_1145 sa_1148 sb_1149 outN_1150 j put_1146 i_1147 out_1151
    show corbelref01_With_l1s (corbelref01_With_l1 (fun y1 y5 => corbelref01_With_l1_E0 K n_1145 y1 sa_1148 sb_1149 outN_1150 y5) k n_1145 sb_1149 j) (fun y1 y5 => corbelref01_With_l1_E0 K n_1145 y1 sa_1148 sb_1149 outN_1150 y5) k n_1145 sb_1149 put_1146 i_1147 out_1151 = _
    rw [e, iter_succ]; kernel_rfl
theorem corbelref01_With_l1_ok {R : Type} (k : Nat)  : ObOK (R := R) tab (corbelref01_With_F k) (inlK tab (corbelref01_With_F k) (corbelref01_With_I k) 0) (corbelref01_With_O k) (.loop corbelref01_With_c1 corbelref01_With_x1 1 (obB corbelref01_With_b 1) (obH corbelref01_With_b 1)) :=
  loop_ok (l := [corbelref01_With_l1_a k]) (by kernel_rfl) ⟨(fun K x => ⟨k, (corbelref01_With_l1_eq k K x.1.1 x.2.1.1.1 x.2.1.1.2 x.2.2.2.1.1 k x.1.2.2.2.2.1 x.1.2.2.2.2.2.1 x.2.2.2.1.2).trans (by kernel_rfl)⟩), trivial⟩
theorem corbelref01_With_j2_eq {R : Type} (k : Nat) (K : EX → St → Option R) (n_1153 : Int) (put_1154 : Bool) (i_1155 : Int) (v_1156 : Bool) (sa_1157 : Bool) (sb_1158 : List Int) (outN_1159 : Bool) (out_1160 : List Int) : corbelref01_With_j2 (fun y1 y6 y7 y8 => corbelref01_With_j2_E0 K n_1153 y1 i_1155 sa_1157 sb_1158 outN_1159 y6 y7 y8) (corbelref01_With_j2_E1 K n_1153 put_1154 i_1155 sa_1157 sb_1158 outN_1159 out_1160) k n_1153 v_1156 out_1160 = ev tab (corbelref01_With_F k) (inlK tab (corbelref01_With_F k) (corbelref01_With_I k) 0) (corbelref01_With_O k) (obB corbelref01_With_b 2) (obH corbelref01_With_b 2) (corbelref01_With_j2_S n_1153 put_1154 i_1155 v_1156 sa_1157 sb_1158 outN_1159 out_1160) (fun e st => optb (clean corbelref01_With_x2 st) fun st => K e st) := by kernel_rfl
theorem corbelref01_With_j2_ok {R : Type} (k : Nat)  : ObOK (R := R) tab (corbelref01_With_F k) (inlK tab (corbelref01_With_F k) (corbelref01_With_I k) 0) (corbelref01_With_O k) (.join corbelref01_With_c2 corbelref01_With_x2 2 (obB corbelref01_With_b 2) (obH corbelref01_With_b 2)) :=
  join_ok (l := [corbelref01_With_j2_a k]) (by kernel_rfl) ⟨(fun K x => (corbelref01_With_j2_eq k K x.1.1 x.1.2.2.2.2.1 x.1.2.2.2.2.2.1 x.1.2.2.2.2.2.2.1 x.2.1.1.1 x.2.1.1.2 x.2.2.2.1.1 x.2.2.2.1.2).trans (by kernel_rfl)), trivial⟩
theorem corbelref01_With_j3_eq {R : Type} (k : Nat) (K : EX → St → Option R) (n_1170 : Int) (put_1171 : Bool) (i_1172 : Int) (sa_1173 : Bool) (sb_1174 : List Int) (outN_1175 : Bool) (out_1176 : List Int) (hN_1177 : Bool) (h_1178 : List Int) : corbelref01_With_j3 (fun y6 => corbelref01_With_j3_E0 K n_1170 put_1171 i_1172 sa_1173 sb_1174 outN_1175 y6 hN_1177 h_1178) k i_1172 sb_1174 out_1176 = ev tab (corbelref01_With_F k) (inlK tab (corbelref01_With_F k) (corbelref01_With_I k) 0) (corbelref01_With_O k) (obB corbelref01_With_b 3) (obH corbelref01_With_b 3) (corbelref01_With_j3_S n_1170 put_1171 i_1172 sa_1173 sb_1174 outN_1175 out_1176 hN_1177 h_1178) (fun e st => optb (clean corbelref01_With_x3 st) fun st => K e st) := by kernel_rfl
theorem corbelref01_With_j3b_eq {R : Type} (k : Nat) (K : EX → St → Option R) (n_1214 : Int) (put_1215 : Bool) (i_1216 : Int) (sa_1217 : Bool) (sb_1218 : List Int) (outN_1219 : Bool) (out_1220 : List Int) : corbelref01_With_j3b (fun y6 y7 y8 => corbelref01_With_j3b_E0 K n_1214 put_1215 i_1216 sa_1217 sb_1218 outN_1219 y6 y7 y8) k i_1216 sb_1218 out_1220 = ev tab (corbelref01_With_F k) (inlK tab (corbelref01_With_F k) (corbelref01_With_I k) 0) (corbelref01_With_O k) (obB corbelref01_With_b 3) (obH corbelref01_With_b 3) (corbelref01_With_j3b_S n_1214 put_1215 i_1216 sa_1217 sb_1218 outN_1219 out_1220) (fun e st => optb (clean corbelref01_With_x3 st) fun st => K e st) := by kernel_rfl
theorem corbelref01_With_j3_ok {R : Type} (k : Nat)  : ObOK (R := R) tab (corbelref01_With_F k) (inlK tab (corbelref01_With_F k) (corbelref01_With_I k) 0) (corbelref01_With_O k) (.join corbelref01_With_c3 corbelref01_With_x3 3 (obB corbelref01_With_b 3) (obH corbelref01_With_b 3)) :=
  join_ok (l := [corbelref01_With_j3_a k, corbelref01_With_j3b_a k]) (by kernel_rfl) ⟨(fun K x => (corbelref01_With_j3_eq k K x.1.1 x.1.2.2.2.2.1 x.1.2.2.2.2.2.1 x.2.1.1.1 x.2.1.1.2 x.2.2.2.1.1 x.2.2.2.1.2 x.2.2.2.2.1.1 x.2.2.2.2.1.2).trans (by kernel_rfl)), (fun K x => (corbelref01_With_j3b_eq k K x.1.1 x.1.2.2.2.2.1 x.1.2.2.2.2.2.1 x.2.1.1.1 x.2.1.1.2 x.2.2.2.1.1 x.2.2.2.1.2).trans (by kernel_rfl)), trivial⟩
theorem corbelref01_With_j4_eq {R : Type} (k : Nat) (K : EX → St → Option R) (n_1189 : Int) (put_1190 : Bool) (i_1191 : Int) (sa_1192 : Bool) (sb_1193 : List Int) (outN_1194 : Bool) (out_1195 : List Int) (hN_1196 : Bool) (h_1197 : List Int) : corbelref01_With_j4 (fun y2 => corbelref01_With_j4_E0 K n_1189 put_1190 y2 sa_1192 sb_1193 outN_1194 out_1195 hN_1196 h_1197) k i_1191 = ev tab (corbelref01_With_F k) (inlK tab (corbelref01_With_F k) (corbelref01_With_I k) 0) (corbelref01_With_O k) (obB corbelref01_With_b 4) (obH corbelref01_With_b 4) (corbelref01_With_j4_S n_1189 put_1190 i_1191 sa_1192 sb_1193 outN_1194 out_1195 hN_1196 h_1197) (fun e st => optb (clean corbelref01_With_x4 st) fun st => K e st) := by kernel_rfl
theorem corbelref01_With_j4_ok {R : Type} (k : Nat)  : ObOK (R := R) tab (corbelref01_With_F k) (inlK tab (corbelref01_With_F k) (corbelref01_With_I k) 0) (corbelref01_With_O k) (.join corbelref01_With_c4 corbelref01_With_x4 4 (obB corbelref01_With_b 4) (obH corbelref01_With_b 4)) :=
  join_ok (l := [corbelref01_With_j4_a k]) (by kernel_rfl) ⟨(fun K x => (corbelref01_With_j4_eq k K x.1.1 x.1.2.2.2.2.1 x.1.2.2.2.2.2.1 x.2.1.1.1 x.2.1.1.2 x.2.2.2.1.1 x.2.2.2.1.2 x.2.2.2.2.1.1 x.2.2.2.2.1.2).trans (by kernel_rfl)), trivial⟩
theorem corbelref01_With_j5_eq {R : Type} (k : Nat) (K : EX → St → Option R) (ha_1237 : Bool) (hb_1238 : List Int) (outN_1239 : Bool) (out_1240 : List Int) : corbelref01_With_j5 (corbelref01_With_j5_E0 K ha_1237 hb_1238 outN_1239 out_1240) k = ev tab (corbelref01_With_F k) (inlK tab (corbelref01_With_F k) (corbelref01_With_I k) 0) (corbelref01_With_O k) (obB corbelref01_With_b 5) (obH corbelref01_With_b 5) (corbelref01_With_j5_S ha_1237 hb_1238 outN_1239 out_1240) (fun e st => optb (clean corbelref01_With_x5 st) fun st => K e st) := by kernel_rfl
theorem corbelref01_With_j5_ok {R : Type} (k : Nat)  : ObOK (R := R) tab (corbelref01_With_F k) (inlK tab (corbelref01_With_F k) (corbelref01_With_I k) 0) (corbelref01_With_O k) (.join corbelref01_With_c5 corbelref01_With_x5 5 (obB corbelref01_With_b 5) (obH corbelref01_With_b 5)) :=
  join_ok (l := [corbelref01_With_j5_a k]) (by kernel_rfl) ⟨(fun K x => (corbelref01_With_j5_eq k K x.2.1.1.1 x.2.1.1.2 x.2.2.2.1.1 x.2.2.2.1.2).trans (by kernel_rfl)), trivial⟩
theorem corbelref01_With_cuts {R : Type} (k : Nat) : ∀ c, Try.f22.body = some c → CutsOK (R := R) tab (corbelref01_With_F k) (inlK tab (corbelref01_With_F k) (corbelref01_With_I k) 0) (corbelref01_With_O k) c corbelref01_With_h :=
  cuts_of (l := [.join corbelref01_With_c0 corbelref01_With_x0 0 (obB corbelref01_With_b 0) (obH corbelref01_With_b 0), .loop corbelref01_With_c1 corbelref01_With_x1 1 (obB corbelref01_With_b 1) (obH corbelref01_With_b 1), .join corbelref01_With_c2 corbelref01_With_x2 2 (obB corbelref01_With_b 2) (obH corbelref01_With_b 2), .join corbelref01_With_c3 corbelref01_With_x3 3 (obB corbelref01_With_b 3) (obH corbelref01_With_b 3), .join corbelref01_With_c4 corbelref01_With_x4 4 (obB corbelref01_With_b 4) (obH corbelref01_With_b 4), .join corbelref01_With_c5 corbelref01_With_x5 5 (obB corbelref01_With_b 5) (obH corbelref01_With_b 5)]) (by kernel_rfl) ⟨corbelref01_With_j0_ok k, corbelref01_With_l1_ok k, corbelref01_With_j2_ok k, corbelref01_With_j3_ok k, corbelref01_With_j4_ok k, corbelref01_With_j5_ok k, trivial⟩
theorem corbelref01_With_iok {R : Type} (k : Nat) : IOK Try.prog tab (corbelref01_With_F k) (corbelref01_With_I (R := R) k) := iok_none
theorem corbelref01_With_ev (k : Nat) (x : (corbelref01_With_p k).τ.den) : evalF tab (corbelref01_With_F k) (corbelref01_With_p k) (corbelref01_With_I k) 0 (corbelref01_With_O k) corbelref01_With_h Try.f22 x = (corbelref01_With_p k).f x := by kernel_rfl
theorem corbelref01_With_ok (k : Nat) : PFOK Try.prog tab 22 (corbelref01_With_p k) := pfok mixed tabOK (corbelref01_With_fok k) Try.func22 (I := corbelref01_With_I k) (d := 0) (corbelref01_With_iok k) (Q := corbelref01_With_O k) (hi := corbelref01_With_h) (corbelref01_With_cuts k) (corbelref01_With_ev k)
end Go.Proofs.Ytncdfikcdchimaa.Ev
