/- pick_Victim, told on plain data. Written by program. -/
import Derived.Test.YtcikcikcjimcjaaEpick_Victim_1
import Derived.Test.YtcikcikcjimcjaaEcmp_Compare
import Derived.Test.YtcikcikcjimcjaaEcmp_Or
set_option linter.unusedVariables false
set_option maxRecDepth 1000000
namespace Go.Proofs.Ytcikcikcjimcjaa.Ev
open Go Go.RowKit Go.Proofs
def pick_Victim_i47_1_j1 {R : Type} (e0 : Int → Option R) (k : Nat) (v_985 : Int) : Option R :=
  e0 (wrap64 (v_985 + (1 : Int)))
def pick_Victim_i47_1_j1b {R : Type} (e0 : Int → Option R) (k : Nat) (v_1011 : Int) : Option R :=
  e0 (wrap64 (v_1011 + (1 : Int)))
def pick_Victim_i47_1_l0s {R : Type} (rc : Int → List Int → Option R) (e0 : List Int → Option R) (k : Nat) (vb_972 : List (Int × (Int × Bool))) (v_973 : Int) (v_974 : Int) (out_978 : List Int) : Option R :=
  bif (decide (v_974 < v_973)) then
    bif (decide ((0 : Int) ≤ v_974)) then
      optb (vb_972[v_974.toNat]?) fun x_980 =>
      optb (pick_Victim_1 k x_980.1 x_980.2.1 x_980.2.2) fun r_981 =>
      bif r_981 then
        bif (decide (out_978.length + ([v_974] : List Int).length ≤ 1099511627776)) then
          pick_Victim_i47_1_j1 (fun v_998 =>
            rc v_998 (out_978 ++ ([v_974] : List Int))) k v_974
        else none
      else pick_Victim_i47_1_j1b (fun v_1022 =>
        rc v_1022 out_978) k v_974
    else none
  else e0 out_978
def pick_Victim_i47_1_l0 {R : Type} (e0 : List Int → Option R) (k : Nat) (vb_972 : List (Int × (Int × Bool))) (v_973 : Int) : Nat → Int → List Int → Option R
  | 0 => fun _ _ => none
  | j + 1 => pick_Victim_i47_1_l0s (pick_Victim_i47_1_l0 e0 k vb_972 v_973 j) e0 k vb_972 v_973
def pick_Victim_i50_2_j0 {R : Type} (e0 : Int → Option R) (k : Nat) (a_1051 : Int) (b_1052 : Int) (vb_1054 : List (Int × (Int × Bool))) : Option R :=
  bif (decide ((0 : Int) ≤ a_1051)) then
    optb (vb_1054[a_1051.toNat]?) fun x_1057 =>
    bif (decide ((0 : Int) ≤ b_1052)) then
      optb (vb_1054[b_1052.toNat]?) fun x_1058 =>
      optb (cmp_Compare k x_1057.2.1 x_1058.2.1) fun r_1059 =>
      bif (decide ((0 : Int) ≤ b_1052)) then
        optb (vb_1054[b_1052.toNat]?) fun x_1060 =>
        bif (decide ((0 : Int) ≤ a_1051)) then
          optb (vb_1054[a_1051.toNat]?) fun x_1061 =>
          optb (cmp_Compare k x_1060.1 x_1061.1) fun r_1062 =>
          optb (cmp_Or k false ([r_1059, r_1062] : List Int)) fun r_1063 =>
          e0 r_1063
        else none
      else none
    else none
  else none
def pick_Victim_i49_2_j1 {R : Type} (e0 : Int → Option R) (k : Nat) (i_1071 : Int) : Option R :=
  e0 (wrap64 (i_1071 + (1 : Int)))
def pick_Victim_i49_2_l0s {R : Type} (rc : Int → Int → Option R) (e0 : Int → Option R) (k : Nat) (hb_1039 : List (Int × (Int × Bool))) (x_1041 : List Int) (m_1036 : Int) (i_1037 : Int) : Option R :=
  bif (decide (i_1037 < (lenI x_1041))) then
    bif ((decide ((0 : Int) ≤ i_1037)) && (decide (i_1037 < (lenI x_1041)))) then
      optb (x_1041[i_1037.toNat]?) fun x_1050 =>
      pick_Victim_i50_2_j0 (fun v_1064 =>
        bif (decide (v_1064 < (0 : Int))) then
          bif ((decide ((0 : Int) ≤ i_1037)) && (decide (i_1037 < (lenI x_1041)))) then
            optb (x_1041[i_1037.toNat]?) fun x_1069 =>
            pick_Victim_i49_2_j1 (fun i_1077 =>
              rc x_1069 i_1077) k i_1037
          else none
        else pick_Victim_i49_2_j1 (fun i_1083 =>
          rc m_1036 i_1083) k i_1037) k x_1050 m_1036 hb_1039
    else none
  else e0 m_1036
def pick_Victim_i49_2_l0 {R : Type} (e0 : Int → Option R) (k : Nat) (hb_1039 : List (Int × (Int × Bool))) (x_1041 : List Int) : Nat → Int → Int → Option R
  | 0 => fun _ _ => none
  | j + 1 => pick_Victim_i49_2_l0s (pick_Victim_i49_2_l0 e0 k hb_1039 x_1041 j) e0 k hb_1039 x_1041
def pick_Victim (k : Nat) (la_173 : Bool) (lb_174 : List (Int × (Int × Bool))) : Option Int :=
  pick_Victim_i47_1_l0 (fun out_1033 =>
    bif (decide ((lenI out_1033) = (0 : Int))) then
      some (-1 : Int)
    else bif (decide ((lenI out_1033) < (1 : Int))) then
      none
    else bif (decide ((0 : Int) < (lenI out_1033))) then
      optb (out_1033[(0 : Int).toNat]?) fun x_1035 =>
      pick_Victim_i49_2_l0 (fun m_1088 =>
        some m_1088) k lb_174 out_1033 k x_1035 (1 : Int)
    else none) k lb_174 (lenI lb_174) k (0 : Int) ([] : List Int)
def pick_Victim_p (k : Nat) : PF := { ps := [(false, 1)], rs := [(false, 1)], τ := (.sl (.pair (.int .i64) (.pair (.int .i64) .bool))), σ := (.int .i64), f := fun x => pick_Victim k x.1 x.2 }
def pick_Victim_F (k : Nat) : PT := fcons 48 (pick_Victim_1_p k) <| fcons 52 (cmp_Compare_p k) <| fcons 51 (cmp_Or_p k) <| fnone
theorem pick_Victim_fok (k : Nat) : FOK Try.prog tab (pick_Victim_F k) := fok_cons (pick_Victim_1_ok k) Try.call48 <| fok_cons (cmp_Compare_ok k) Try.call52 <| fok_cons (cmp_Or_ok k) Try.call51 <| fok_none
def pick_Victim_h : Hint := .no
def pick_Victim_O {R : Type} (k : Nat) : CutK R := cutsO []
def pick_Victim_i47_1_c0 : Cl := { keep := [1, 5, 8, 9, 10], hl := 2, ad := [(5, (.int .i64), 3)], adc := [], bump := [] }
def pick_Victim_i47_1_x0 : Cl := { keep := [5], hl := 2, ad := [], adc := [], bump := [] }
def pick_Victim_i47_1_c1 : Cl := { keep := [1, 5, 8, 9, 10], hl := 4, ad := [], adc := [], bump := [] }
def pick_Victim_i47_1_x1 : Cl := { keep := [1, 5, 8, 9, 10], hl := 4, ad := [], adc := [], bump := [] }
def pick_Victim_i47_1_h : Hint := (.sq .no (.sq .no (.sq (.sq .no (.lp pick_Victim_i47_1_c0 pick_Victim_i47_1_x0 0 (.sq .no (.sq .no (.ct pick_Victim_i47_1_c1 pick_Victim_i47_1_x1 1 .no .no))))) .no)))
def pick_Victim_i47_1_l0_E0 {R : Type} (K : EX → St → Option R) : Bool → List (Int × (Int × Bool)) → Bool → List Int → Option R := fun v0 v1 v2 v3 => K (.exit 0) (mkSt 24 [1] pick_Victim_i47_1_x0.keep [.own 1 1] [.blk [.sl (.pair (.int .i64) (.pair (.int .i64) .bool)) v0 v1], .lst (.int .i64) 3 v2 1 v3])
def pick_Victim_i47_1_l0_S (va_971 : Bool) (vb_972 : List (Int × (Int × Bool))) (v_973 : Int) (v_974 : Int) (ha_975 : Bool) (hb_976 : List (Int × (Int × Bool))) (outN_977 : Bool) (out_978 : List Int) : St := mkSt 24 [1] pick_Victim_i47_1_c0.keep [.fn (.func 48) [] [], .own 1 1, .sl (.pair (.int .i64) (.pair (.int .i64) .bool)) va_971 vb_972, .int .i64 v_973, .int .i64 v_974] [.blk [.sl (.pair (.int .i64) (.pair (.int .i64) .bool)) ha_975 hb_976], .lst (.int .i64) 3 outN_977 1 out_978]
def pick_Victim_i47_1_l0_sh : Rd (List AV × List HE) := .pair (.cons (.fn 48 Rd.nil Rd.nil) (.cons (.own 1 1) (.cons (.sl (.pair (.int .i64) (.pair (.int .i64) .bool))) (.cons (.int .i64) (.cons (.int .i64) Rd.nil))))) (.cons (.blk (.cons (.sl (.pair (.int .i64) (.pair (.int .i64) .bool))) Rd.nil)) (.cons (.lst (.int .i64) 3 1) Rd.nil))
def pick_Victim_i47_1_l0_a {R : Type} (k : Nat) : Alt R := { n := 24, v := [1], sh := pick_Victim_i47_1_l0_sh, g := fun K x => pick_Victim_i47_1_l0 (fun y3 => pick_Victim_i47_1_l0_E0 K x.2.1.1.1 x.2.1.1.2 x.2.2.1.1 y3) k x.1.2.2.1.2 x.1.2.2.2.1 k x.1.2.2.2.2.1 x.2.2.1.2 }
def pick_Victim_i47_1_j1_E0 {R : Type} (K : EX → St → Option R) : Bool → List (Int × (Int × Bool)) → Int → Int → Bool → List (Int × (Int × Bool)) → Bool → List Int → Int → Int → Bool → Bool → List Int → Option R := fun v0 v1 v2 v3 v4 v5 v6 v7 v8 v9 v10 v11 v12 => K .normal (mkSt 24 [1] pick_Victim_i47_1_x1.keep [.fn (.func 48) [] [], .own 1 1, .sl (.pair (.int .i64) (.pair (.int .i64) .bool)) v0 v1, .int .i64 v2, .int .i64 v3] [.blk [.sl (.pair (.int .i64) (.pair (.int .i64) .bool)) v4 v5], .lst (.int .i64) 3 v6 1 v7, .blk [.int .i64 v8, .int .i64 v9, .bool v10], .lst (.int .i64) 3 v11 1 v12])
def pick_Victim_i47_1_j1_S (va_982 : Bool) (vb_983 : List (Int × (Int × Bool))) (v_984 : Int) (v_985 : Int) (ha_986 : Bool) (hb_987 : List (Int × (Int × Bool))) (outN_988 : Bool) (out_989 : List Int) (ha_990 : Int) (hb_991 : Int) (hc_992 : Bool) (hN_993 : Bool) (h_994 : List Int) : St := mkSt 24 [1] pick_Victim_i47_1_c1.keep [.fn (.func 48) [] [], .own 1 1, .sl (.pair (.int .i64) (.pair (.int .i64) .bool)) va_982 vb_983, .int .i64 v_984, .int .i64 v_985] [.blk [.sl (.pair (.int .i64) (.pair (.int .i64) .bool)) ha_986 hb_987], .lst (.int .i64) 3 outN_988 1 out_989, .blk [.int .i64 ha_990, .int .i64 hb_991, .bool hc_992], .lst (.int .i64) 3 hN_993 1 h_994]
def pick_Victim_i47_1_j1_sh : Rd (List AV × List HE) := .pair (.cons (.fn 48 Rd.nil Rd.nil) (.cons (.own 1 1) (.cons (.sl (.pair (.int .i64) (.pair (.int .i64) .bool))) (.cons (.int .i64) (.cons (.int .i64) Rd.nil))))) (.cons (.blk (.cons (.sl (.pair (.int .i64) (.pair (.int .i64) .bool))) Rd.nil)) (.cons (.lst (.int .i64) 3 1) (.cons (.blk (.cons (.int .i64) (.cons (.int .i64) (.cons .bool Rd.nil)))) (.cons (.lst (.int .i64) 3 1) Rd.nil))))
def pick_Victim_i47_1_j1_a {R : Type} (k : Nat) : Alt R := { n := 24, v := [1], sh := pick_Victim_i47_1_j1_sh, g := fun K x => pick_Victim_i47_1_j1 (fun y3 => pick_Victim_i47_1_j1_E0 K x.1.2.2.1.1 x.1.2.2.1.2 x.1.2.2.2.1 y3 x.2.1.1.1 x.2.1.1.2 x.2.2.1.1 x.2.2.1.2 x.2.2.2.1.1 x.2.2.2.1.2.1 x.2.2.2.1.2.2.1 x.2.2.2.2.1.1 x.2.2.2.2.1.2) k x.1.2.2.2.2.1 }
def pick_Victim_i47_1_j1b_E0 {R : Type} (K : EX → St → Option R) : Bool → List (Int × (Int × Bool)) → Int → Int → Bool → List (Int × (Int × Bool)) → Bool → List Int → Int → Int → Bool → Option R := fun v0 v1 v2 v3 v4 v5 v6 v7 v8 v9 v10 => K .normal (mkSt 24 [1] pick_Victim_i47_1_x1.keep [.fn (.func 48) [] [], .own 1 1, .sl (.pair (.int .i64) (.pair (.int .i64) .bool)) v0 v1, .int .i64 v2, .int .i64 v3] [.blk [.sl (.pair (.int .i64) (.pair (.int .i64) .bool)) v4 v5], .lst (.int .i64) 3 v6 1 v7, .blk [.int .i64 v8, .int .i64 v9, .bool v10]])
def pick_Victim_i47_1_j1b_S (va_1008 : Bool) (vb_1009 : List (Int × (Int × Bool))) (v_1010 : Int) (v_1011 : Int) (ha_1012 : Bool) (hb_1013 : List (Int × (Int × Bool))) (outN_1014 : Bool) (out_1015 : List Int) (ha_1016 : Int) (hb_1017 : Int) (hc_1018 : Bool) : St := mkSt 24 [1] pick_Victim_i47_1_c1.keep [.fn (.func 48) [] [], .own 1 1, .sl (.pair (.int .i64) (.pair (.int .i64) .bool)) va_1008 vb_1009, .int .i64 v_1010, .int .i64 v_1011] [.blk [.sl (.pair (.int .i64) (.pair (.int .i64) .bool)) ha_1012 hb_1013], .lst (.int .i64) 3 outN_1014 1 out_1015, .blk [.int .i64 ha_1016, .int .i64 hb_1017, .bool hc_1018]]
def pick_Victim_i47_1_j1b_sh : Rd (List AV × List HE) := .pair (.cons (.fn 48 Rd.nil Rd.nil) (.cons (.own 1 1) (.cons (.sl (.pair (.int .i64) (.pair (.int .i64) .bool))) (.cons (.int .i64) (.cons (.int .i64) Rd.nil))))) (.cons (.blk (.cons (.sl (.pair (.int .i64) (.pair (.int .i64) .bool))) Rd.nil)) (.cons (.lst (.int .i64) 3 1) (.cons (.blk (.cons (.int .i64) (.cons (.int .i64) (.cons .bool Rd.nil)))) Rd.nil)))
def pick_Victim_i47_1_j1b_a {R : Type} (k : Nat) : Alt R := { n := 24, v := [1], sh := pick_Victim_i47_1_j1b_sh, g := fun K x => pick_Victim_i47_1_j1b (fun y3 => pick_Victim_i47_1_j1b_E0 K x.1.2.2.1.1 x.1.2.2.1.2 x.1.2.2.2.1 y3 x.2.1.1.1 x.2.1.1.2 x.2.2.1.1 x.2.2.1.2 x.2.2.2.1.1 x.2.2.2.1.2.1 x.2.2.2.1.2.2.1) k x.1.2.2.2.2.1 }
def pick_Victim_i47_1_O {R : Type} (k : Nat) : CutK R := cutsO [[pick_Victim_i47_1_l0_a k], [pick_Victim_i47_1_j1_a k, pick_Victim_i47_1_j1b_a k]]
noncomputable def pick_Victim_i47_1_b : List Ob := obs (bodyOf Try.f47) pick_Victim_i47_1_h
def pick_Victim_i49_2_c0 : Cl := { keep := [0, 1, 5, 6], hl := 2, ad := [], adc := [], bump := [] }
def pick_Victim_i49_2_x0 : Cl := { keep := [5], hl := 2, ad := [], adc := [], bump := [] }
def pick_Victim_i49_2_c1 : Cl := { keep := [0, 1, 5, 6], hl := 2, ad := [], adc := [], bump := [] }
def pick_Victim_i49_2_x1 : Cl := { keep := [0, 1, 5, 6], hl := 2, ad := [], adc := [], bump := [] }
def pick_Victim_i49_2_h : Hint := (.sq .no (.sq .no (.sq .no (.sq (.sq .no (.lp pick_Victim_i49_2_c0 pick_Victim_i49_2_x0 0 (.sq .no (.ct pick_Victim_i49_2_c1 pick_Victim_i49_2_x1 1 .no .no)))) .no))))
def pick_Victim_i49_2_l0_E0 {R : Type} (K : EX → St → Option R) : Int → Bool → List (Int × (Int × Bool)) → Bool → List Int → Option R := fun v0 v1 v2 v3 v4 => K (.exit 0) (mkSt 33 [1, 1] pick_Victim_i49_2_x0.keep [.int .i64 v0] [.blk [.sl (.pair (.int .i64) (.pair (.int .i64) .bool)) v1 v2], .lst (.int .i64) 3 v3 1 v4])
def pick_Victim_i49_2_l0_S (m_1036 : Int) (i_1037 : Int) (ha_1038 : Bool) (hb_1039 : List (Int × (Int × Bool))) (xN_1040 : Bool) (x_1041 : List Int) : St := mkSt 33 [1, 1] pick_Victim_i49_2_c0.keep [.own 1 1, .fn (.func 50) [] [.ptr 0 0], .int .i64 m_1036, .int .i64 i_1037] [.blk [.sl (.pair (.int .i64) (.pair (.int .i64) .bool)) ha_1038 hb_1039], .lst (.int .i64) 3 xN_1040 1 x_1041]
def pick_Victim_i49_2_l0_sh : Rd (List AV × List HE) := .pair (.cons (.own 1 1) (.cons (.fn 50 Rd.nil (.cons (.ptr 0 0) Rd.nil)) (.cons (.int .i64) (.cons (.int .i64) Rd.nil)))) (.cons (.blk (.cons (.sl (.pair (.int .i64) (.pair (.int .i64) .bool))) Rd.nil)) (.cons (.lst (.int .i64) 3 1) Rd.nil))
def pick_Victim_i49_2_l0_a {R : Type} (k : Nat) : Alt R := { n := 33, v := [1, 1], sh := pick_Victim_i49_2_l0_sh, g := fun K x => pick_Victim_i49_2_l0 (fun y0 => pick_Victim_i49_2_l0_E0 K y0 x.2.1.1.1 x.2.1.1.2 x.2.2.1.1 x.2.2.1.2) k x.2.1.1.2 x.2.2.1.2 k x.1.2.2.1 x.1.2.2.2.1 }
def pick_Victim_i49_2_j1_E0 {R : Type} (K : EX → St → Option R) : Int → Int → Bool → List (Int × (Int × Bool)) → Bool → List Int → Option R := fun v0 v1 v2 v3 v4 v5 => K .normal (mkSt 33 [1, 1] pick_Victim_i49_2_x1.keep [.own 1 1, .fn (.func 50) [] [.ptr 0 0], .int .i64 v0, .int .i64 v1] [.blk [.sl (.pair (.int .i64) (.pair (.int .i64) .bool)) v2 v3], .lst (.int .i64) 3 v4 1 v5])
def pick_Victim_i49_2_j1_S (m_1070 : Int) (i_1071 : Int) (ha_1072 : Bool) (hb_1073 : List (Int × (Int × Bool))) (xN_1074 : Bool) (x_1075 : List Int) : St := mkSt 33 [1, 1] pick_Victim_i49_2_c1.keep [.own 1 1, .fn (.func 50) [] [.ptr 0 0], .int .i64 m_1070, .int .i64 i_1071] [.blk [.sl (.pair (.int .i64) (.pair (.int .i64) .bool)) ha_1072 hb_1073], .lst (.int .i64) 3 xN_1074 1 x_1075]
def pick_Victim_i49_2_j1_sh : Rd (List AV × List HE) := .pair (.cons (.own 1 1) (.cons (.fn 50 Rd.nil (.cons (.ptr 0 0) Rd.nil)) (.cons (.int .i64) (.cons (.int .i64) Rd.nil)))) (.cons (.blk (.cons (.sl (.pair (.int .i64) (.pair (.int .i64) .bool))) Rd.nil)) (.cons (.lst (.int .i64) 3 1) Rd.nil))
def pick_Victim_i49_2_j1_a {R : Type} (k : Nat) : Alt R := { n := 33, v := [1, 1], sh := pick_Victim_i49_2_j1_sh, g := fun K x => pick_Victim_i49_2_j1 (fun y1 => pick_Victim_i49_2_j1_E0 K x.1.2.2.1 y1 x.2.1.1.1 x.2.1.1.2 x.2.2.1.1 x.2.2.1.2) k x.1.2.2.2.1 }
def pick_Victim_i49_2_O {R : Type} (k : Nat) : CutK R := cutsO [[pick_Victim_i49_2_l0_a k], [pick_Victim_i49_2_j1_a k]]
noncomputable def pick_Victim_i49_2_b : List Ob := obs (bodyOf Try.f49) pick_Victim_i49_2_h
def pick_Victim_i50_2_c0 : Cl := { keep := [0, 1, 2], hl := 2, ad := [], adc := [], bump := [] }
def pick_Victim_i50_2_x0 : Cl := { keep := [5], hl := 2, ad := [], adc := [], bump := [] }
def pick_Victim_i50_2_h : Hint := (.ct pick_Victim_i50_2_c0 pick_Victim_i50_2_x0 0 .no .no)
def pick_Victim_i50_2_j0_E0 {R : Type} (K : EX → St → Option R) : Int → Bool → List (Int × (Int × Bool)) → Bool → List Int → Option R := fun v0 v1 v2 v3 v4 => K .ret (mkSt 30 [1, 1] pick_Victim_i50_2_x0.keep [.int .i64 v0] [.blk [.sl (.pair (.int .i64) (.pair (.int .i64) .bool)) v1 v2], .lst (.int .i64) 3 v3 1 v4])
def pick_Victim_i50_2_j0_S (a_1051 : Int) (b_1052 : Int) (va_1053 : Bool) (vb_1054 : List (Int × (Int × Bool))) (hN_1055 : Bool) (h_1056 : List Int) : St := mkSt 30 [1, 1] pick_Victim_i50_2_c0.keep [.int .i64 a_1051, .int .i64 b_1052, .ptr 0 0] [.blk [.sl (.pair (.int .i64) (.pair (.int .i64) .bool)) va_1053 vb_1054], .lst (.int .i64) 3 hN_1055 1 h_1056]
def pick_Victim_i50_2_j0_sh : Rd (List AV × List HE) := .pair (.cons (.int .i64) (.cons (.int .i64) (.cons (.ptr 0 0) Rd.nil))) (.cons (.blk (.cons (.sl (.pair (.int .i64) (.pair (.int .i64) .bool))) Rd.nil)) (.cons (.lst (.int .i64) 3 1) Rd.nil))
def pick_Victim_i50_2_j0_a {R : Type} (k : Nat) : Alt R := { n := 30, v := [1, 1], sh := pick_Victim_i50_2_j0_sh, g := fun K x => pick_Victim_i50_2_j0 (fun y0 => pick_Victim_i50_2_j0_E0 K y0 x.2.1.1.1 x.2.1.1.2 x.2.2.1.1 x.2.2.1.2) k x.1.1 x.1.2.1 x.2.1.1.2 }
def pick_Victim_i50_2_O {R : Type} (k : Nat) : CutK R := cutsO [[pick_Victim_i50_2_j0_a k]]
noncomputable def pick_Victim_i50_2_b : List Ob := obs (bodyOf Try.f50) pick_Victim_i50_2_h
noncomputable def pick_Victim_I {R : Type} (k : Nat) : InlT R := icons 47 1 (pick_Victim_i47_1_h, Try.f47, deepO 0 (pick_Victim_i47_1_O k)) <| icons 49 2 (pick_Victim_i49_2_h, Try.f49, deepO 1 (pick_Victim_i49_2_O k)) <| icons 50 2 (pick_Victim_i50_2_h, Try.f50, deepO 0 (pick_Victim_i50_2_O k)) <| inone
theorem pick_Victim_i47_1_l0_eq {R : Type} (k : Nat) (d : Nat) (K : EX → St → Option R) (va_971 : Bool) (vb_972 : List (Int × (Int × Bool))) (v_973 : Int) (ha_975 : Bool) (hb_976 : List (Int × (Int × Bool))) (outN_977 : Bool) : ∀ (j : Nat) (v_974 : Int) (out_978 : List Int), pick_Victim_i47_1_l0 (fun y3 => pick_Victim_i47_1_l0_E0 K ha_975 hb_976 outN_977 y3) k vb_972 v_973 j v_974 out_978 = iter pick_Victim_i47_1_c0 pick_Victim_i47_1_x0 (ev tab (pick_Victim_F k) (inlK tab (pick_Victim_F k) (pick_Victim_I k) (d + 0)) (deepO 0 (pick_Victim_i47_1_O k) (d + 0)) (obB pick_Victim_i47_1_b 0) (obH pick_Victim_i47_1_b 0)) j (pick_Victim_i47_1_l0_S va_971 vb_972 v_973 v_974 ha_975 hb_976 outN_977 out_978) K
  | 0, _, _ => rfl
  | j + 1, v_974, out_978 => by
    have e : pick_Victim_i47_1_l0 (fun y3 => pick_Victim_i47_1_l0_E0 K ha_975 hb_976 outN_977 y3) k vb_972 v_973 j = fun v_974 out_978 => iter pick_Victim_i47_1_c0 pick_Victim_i47_1_x0 (ev tab (pick_Victim_F k) (inlK tab (pick_Victim_F k) (pick_Victim_I k) (d + 0)) (deepO 0 (pick_Victim_i47_1_O k) (d + 0)) (obB pick_Victim_i47_1_b 0) (obH pick_Victim_i47_1_b 0)) j (pick_Victim_i47_1_l0_S va_971 vb_972 v_973 v_974 ha_975 hb_976 outN_977 out_978) K := by funext v_974 out_978; exact pick_Victim_i47_1_l0_eq k d K va_971 vb_972 v_973 ha_975 hb_976 outN_977 j v_974 out_978
    show pick_Victim_i47_1_l0s (pick_Victim_i47_1_l0 (fun y3 => pick_Victim_i47_1_l0_E0 K ha_975 hb_976 outN_977 y3) k vb_972 v_973 j) (fun y3 => pick_Victim_i47_1_l0_E0 K ha_975 hb_976 outN_977 y3) k vb_972 v_973 v_974 out_978 = _
    rw [e, iter_succ]; kernel_rfl
theorem pick_Victim_i47_1_l0_ok {R : Type} (k : Nat) (d : Nat)  : ObOK (R := R) tab (pick_Victim_F k) (inlK tab (pick_Victim_F k) (pick_Victim_I k) d) (deepO 0 (pick_Victim_i47_1_O k) d) (.loop pick_Victim_i47_1_c0 pick_Victim_i47_1_x0 0 (obB pick_Victim_i47_1_b 0) (obH pick_Victim_i47_1_b 0)) :=
  deep_ob fun hd => by
    obtain ⟨d, rfl⟩ := Nat.exists_eq_add_of_le' hd
    exact loop_ok (l := [pick_Victim_i47_1_l0_a k]) (by kernel_rfl) ⟨(fun K x => ⟨k, (pick_Victim_i47_1_l0_eq k d K x.1.2.2.1.1 x.1.2.2.1.2 x.1.2.2.2.1 x.2.1.1.1 x.2.1.1.2 x.2.2.1.1 k x.1.2.2.2.2.1 x.2.2.1.2).trans (by kernel_rfl)⟩), trivial⟩
theorem pick_Victim_i47_1_j1_eq {R : Type} (k : Nat) (d : Nat) (K : EX → St → Option R) (va_982 : Bool) (vb_983 : List (Int × (Int × Bool))) (v_984 : Int) (v_985 : Int) (ha_986 : Bool) (hb_987 : List (Int × (Int × Bool))) (outN_988 : Bool) (out_989 : List Int) (ha_990 : Int) (hb_991 : Int) (hc_992 : Bool) (hN_993 : Bool) (h_994 : List Int) : pick_Victim_i47_1_j1 (fun y3 => pick_Victim_i47_1_j1_E0 K va_982 vb_983 v_984 y3 ha_986 hb_987 outN_988 out_989 ha_990 hb_991 hc_992 hN_993 h_994) k v_985 = ev tab (pick_Victim_F k) (inlK tab (pick_Victim_F k) (pick_Victim_I k) (d + 0)) (deepO 0 (pick_Victim_i47_1_O k) (d + 0)) (obB pick_Victim_i47_1_b 1) (obH pick_Victim_i47_1_b 1) (pick_Victim_i47_1_j1_S va_982 vb_983 v_984 v_985 ha_986 hb_987 outN_988 out_989 ha_990 hb_991 hc_992 hN_993 h_994) (fun e st => optb (clean pick_Victim_i47_1_x1 st) fun st => K e st) := by kernel_rfl
theorem pick_Victim_i47_1_j1b_eq {R : Type} (k : Nat) (d : Nat) (K : EX → St → Option R) (va_1008 : Bool) (vb_1009 : List (Int × (Int × Bool))) (v_1010 : Int) (v_1011 : Int) (ha_1012 : Bool) (hb_1013 : List (Int × (Int × Bool))) (outN_1014 : Bool) (out_1015 : List Int) (ha_1016 : Int) (hb_1017 : Int) (hc_1018 : Bool) : pick_Victim_i47_1_j1b (fun y3 => pick_Victim_i47_1_j1b_E0 K va_1008 vb_1009 v_1010 y3 ha_1012 hb_1013 outN_1014 out_1015 ha_1016 hb_1017 hc_1018) k v_1011 = ev tab (pick_Victim_F k) (inlK tab (pick_Victim_F k) (pick_Victim_I k) (d + 0)) (deepO 0 (pick_Victim_i47_1_O k) (d + 0)) (obB pick_Victim_i47_1_b 1) (obH pick_Victim_i47_1_b 1) (pick_Victim_i47_1_j1b_S va_1008 vb_1009 v_1010 v_1011 ha_1012 hb_1013 outN_1014 out_1015 ha_1016 hb_1017 hc_1018) (fun e st => optb (clean pick_Victim_i47_1_x1 st) fun st => K e st) := by kernel_rfl
theorem pick_Victim_i47_1_j1_ok {R : Type} (k : Nat) (d : Nat)  : ObOK (R := R) tab (pick_Victim_F k) (inlK tab (pick_Victim_F k) (pick_Victim_I k) d) (deepO 0 (pick_Victim_i47_1_O k) d) (.join pick_Victim_i47_1_c1 pick_Victim_i47_1_x1 1 (obB pick_Victim_i47_1_b 1) (obH pick_Victim_i47_1_b 1)) :=
  deep_ob fun hd => by
    obtain ⟨d, rfl⟩ := Nat.exists_eq_add_of_le' hd
    exact join_ok (l := [pick_Victim_i47_1_j1_a k, pick_Victim_i47_1_j1b_a k]) (by kernel_rfl) ⟨(fun K x => (pick_Victim_i47_1_j1_eq k d K x.1.2.2.1.1 x.1.2.2.1.2 x.1.2.2.2.1 x.1.2.2.2.2.1 x.2.1.1.1 x.2.1.1.2 x.2.2.1.1 x.2.2.1.2 x.2.2.2.1.1 x.2.2.2.1.2.1 x.2.2.2.1.2.2.1 x.2.2.2.2.1.1 x.2.2.2.2.1.2).trans (by kernel_rfl)), (fun K x => (pick_Victim_i47_1_j1b_eq k d K x.1.2.2.1.1 x.1.2.2.1.2 x.1.2.2.2.1 x.1.2.2.2.2.1 x.2.1.1.1 x.2.1.1.2 x.2.2.1.1 x.2.2.1.2 x.2.2.2.1.1 x.2.2.2.1.2.1 x.2.2.2.1.2.2.1).trans (by kernel_rfl)), trivial⟩
theorem pick_Victim_i47_1_cuts {R : Type} (k : Nat) : ∀ (d : Nat), ∀ c, Try.f47.body = some c → CutsOK (R := R) tab (pick_Victim_F k) (inlK tab (pick_Victim_F k) (pick_Victim_I k) d) (deepO 0 (pick_Victim_i47_1_O k) d) c pick_Victim_i47_1_h :=
  fun d => cuts_of (l := [.loop pick_Victim_i47_1_c0 pick_Victim_i47_1_x0 0 (obB pick_Victim_i47_1_b 0) (obH pick_Victim_i47_1_b 0), .join pick_Victim_i47_1_c1 pick_Victim_i47_1_x1 1 (obB pick_Victim_i47_1_b 1) (obH pick_Victim_i47_1_b 1)]) (by kernel_rfl) ⟨pick_Victim_i47_1_l0_ok k d, pick_Victim_i47_1_j1_ok k d, trivial⟩
theorem pick_Victim_i49_2_l0_eq {R : Type} (k : Nat) (d : Nat) (K : EX → St → Option R) (ha_1038 : Bool) (hb_1039 : List (Int × (Int × Bool))) (xN_1040 : Bool) (x_1041 : List Int) : ∀ (j : Nat) (m_1036 : Int) (i_1037 : Int), pick_Victim_i49_2_l0 (fun y0 => pick_Victim_i49_2_l0_E0 K y0 ha_1038 hb_1039 xN_1040 x_1041) k hb_1039 x_1041 j m_1036 i_1037 = iter pick_Victim_i49_2_c0 pick_Victim_i49_2_x0 (ev tab (pick_Victim_F k) (inlK tab (pick_Victim_F k) (pick_Victim_I k) (d + 1)) (deepO 1 (pick_Victim_i49_2_O k) (d + 1)) (obB pick_Victim_i49_2_b 0) (obH pick_Victim_i49_2_b 0)) j (pick_Victim_i49_2_l0_S m_1036 i_1037 ha_1038 hb_1039 xN_1040 x_1041) K
  | 0, _, _ => rfl
  | j + 1, m_1036, i_1037 => by
    have e : pick_Victim_i49_2_l0 (fun y0 => pick_Victim_i49_2_l0_E0 K y0 ha_1038 hb_1039 xN_1040 x_1041) k hb_1039 x_1041 j = fun m_1036 i_1037 => iter pick_Victim_i49_2_c0 pick_Victim_i49_2_x0 (ev tab (pick_Victim_F k) (inlK tab (pick_Victim_F k) (pick_Victim_I k) (d + 1)) (deepO 1 (pick_Victim_i49_2_O k) (d + 1)) (obB pick_Victim_i49_2_b 0) (obH pick_Victim_i49_2_b 0)) j (pick_Victim_i49_2_l0_S m_1036 i_1037 ha_1038 hb_1039 xN_1040 x_1041) K := by funext m_1036 i_1037; exact pick_Victim_i49_2_l0_eq k d K ha_1038 hb_1039 xN_1040 x_1041 j m_1036 i_1037
    show pick_Victim_i49_2_l0s (pick_Victim_i49_2_l0 (fun y0 => pick_Victim_i49_2_l0_E0 K y0 ha_1038 hb_1039 xN_1040 x_1041) k hb_1039 x_1041 j) (fun y0 => pick_Victim_i49_2_l0_E0 K y0 ha_1038 hb_1039 xN_1040 x_1041) k hb_1039 x_1041 m_1036 i_1037 = _
    rw [e, iter_succ]; kernel_rfl
theorem pick_Victim_i49_2_l0_ok {R : Type} (k : Nat) (d : Nat)  : ObOK (R := R) tab (pick_Victim_F k) (inlK tab (pick_Victim_F k) (pick_Victim_I k) d) (deepO 1 (pick_Victim_i49_2_O k) d) (.loop pick_Victim_i49_2_c0 pick_Victim_i49_2_x0 0 (obB pick_Victim_i49_2_b 0) (obH pick_Victim_i49_2_b 0)) :=
  deep_ob fun hd => by
    obtain ⟨d, rfl⟩ := Nat.exists_eq_add_of_le' hd
    exact loop_ok (l := [pick_Victim_i49_2_l0_a k]) (by kernel_rfl) ⟨(fun K x => ⟨k, (pick_Victim_i49_2_l0_eq k d K x.2.1.1.1 x.2.1.1.2 x.2.2.1.1 x.2.2.1.2 k x.1.2.2.1 x.1.2.2.2.1).trans (by kernel_rfl)⟩), trivial⟩
theorem pick_Victim_i49_2_j1_eq {R : Type} (k : Nat) (d : Nat) (K : EX → St → Option R) (m_1070 : Int) (i_1071 : Int) (ha_1072 : Bool) (hb_1073 : List (Int × (Int × Bool))) (xN_1074 : Bool) (x_1075 : List Int) : pick_Victim_i49_2_j1 (fun y1 => pick_Victim_i49_2_j1_E0 K m_1070 y1 ha_1072 hb_1073 xN_1074 x_1075) k i_1071 = ev tab (pick_Victim_F k) (inlK tab (pick_Victim_F k) (pick_Victim_I k) (d + 1)) (deepO 1 (pick_Victim_i49_2_O k) (d + 1)) (obB pick_Victim_i49_2_b 1) (obH pick_Victim_i49_2_b 1) (pick_Victim_i49_2_j1_S m_1070 i_1071 ha_1072 hb_1073 xN_1074 x_1075) (fun e st => optb (clean pick_Victim_i49_2_x1 st) fun st => K e st) := by kernel_rfl
theorem pick_Victim_i49_2_j1_ok {R : Type} (k : Nat) (d : Nat)  : ObOK (R := R) tab (pick_Victim_F k) (inlK tab (pick_Victim_F k) (pick_Victim_I k) d) (deepO 1 (pick_Victim_i49_2_O k) d) (.join pick_Victim_i49_2_c1 pick_Victim_i49_2_x1 1 (obB pick_Victim_i49_2_b 1) (obH pick_Victim_i49_2_b 1)) :=
  deep_ob fun hd => by
    obtain ⟨d, rfl⟩ := Nat.exists_eq_add_of_le' hd
    exact join_ok (l := [pick_Victim_i49_2_j1_a k]) (by kernel_rfl) ⟨(fun K x => (pick_Victim_i49_2_j1_eq k d K x.1.2.2.1 x.1.2.2.2.1 x.2.1.1.1 x.2.1.1.2 x.2.2.1.1 x.2.2.1.2).trans (by kernel_rfl)), trivial⟩
theorem pick_Victim_i49_2_cuts {R : Type} (k : Nat) : ∀ (d : Nat), ∀ c, Try.f49.body = some c → CutsOK (R := R) tab (pick_Victim_F k) (inlK tab (pick_Victim_F k) (pick_Victim_I k) d) (deepO 1 (pick_Victim_i49_2_O k) d) c pick_Victim_i49_2_h :=
  fun d => cuts_of (l := [.loop pick_Victim_i49_2_c0 pick_Victim_i49_2_x0 0 (obB pick_Victim_i49_2_b 0) (obH pick_Victim_i49_2_b 0), .join pick_Victim_i49_2_c1 pick_Victim_i49_2_x1 1 (obB pick_Victim_i49_2_b 1) (obH pick_Victim_i49_2_b 1)]) (by kernel_rfl) ⟨pick_Victim_i49_2_l0_ok k d, pick_Victim_i49_2_j1_ok k d, trivial⟩
theorem pick_Victim_i50_2_j0_eq {R : Type} (k : Nat) (d : Nat) (K : EX → St → Option R) (a_1051 : Int) (b_1052 : Int) (va_1053 : Bool) (vb_1054 : List (Int × (Int × Bool))) (hN_1055 : Bool) (h_1056 : List Int) : pick_Victim_i50_2_j0 (fun y0 => pick_Victim_i50_2_j0_E0 K y0 va_1053 vb_1054 hN_1055 h_1056) k a_1051 b_1052 vb_1054 = ev tab (pick_Victim_F k) (inlK tab (pick_Victim_F k) (pick_Victim_I k) (d + 0)) (deepO 0 (pick_Victim_i50_2_O k) (d + 0)) (obB pick_Victim_i50_2_b 0) (obH pick_Victim_i50_2_b 0) (pick_Victim_i50_2_j0_S a_1051 b_1052 va_1053 vb_1054 hN_1055 h_1056) (fun e st => optb (clean pick_Victim_i50_2_x0 st) fun st => K e st) := by kernel_rfl
theorem pick_Victim_i50_2_j0_ok {R : Type} (k : Nat) (d : Nat)  : ObOK (R := R) tab (pick_Victim_F k) (inlK tab (pick_Victim_F k) (pick_Victim_I k) d) (deepO 0 (pick_Victim_i50_2_O k) d) (.join pick_Victim_i50_2_c0 pick_Victim_i50_2_x0 0 (obB pick_Victim_i50_2_b 0) (obH pick_Victim_i50_2_b 0)) :=
  deep_ob fun hd => by
    obtain ⟨d, rfl⟩ := Nat.exists_eq_add_of_le' hd
    exact join_ok (l := [pick_Victim_i50_2_j0_a k]) (by kernel_rfl) ⟨(fun K x => (pick_Victim_i50_2_j0_eq k d K x.1.1 x.1.2.1 x.2.1.1.1 x.2.1.1.2 x.2.2.1.1 x.2.2.1.2).trans (by kernel_rfl)), trivial⟩
theorem pick_Victim_i50_2_cuts {R : Type} (k : Nat) : ∀ (d : Nat), ∀ c, Try.f50.body = some c → CutsOK (R := R) tab (pick_Victim_F k) (inlK tab (pick_Victim_F k) (pick_Victim_I k) d) (deepO 0 (pick_Victim_i50_2_O k) d) c pick_Victim_i50_2_h :=
  fun d => cuts_of (l := [.join pick_Victim_i50_2_c0 pick_Victim_i50_2_x0 0 (obB pick_Victim_i50_2_b 0) (obH pick_Victim_i50_2_b 0)]) (by kernel_rfl) ⟨pick_Victim_i50_2_j0_ok k d, trivial⟩
theorem pick_Victim_iok {R : Type} (k : Nat) : IOK Try.prog tab (pick_Victim_F k) (pick_Victim_I (R := R) k) := iok_cons Try.func47 Try.call47 (pick_Victim_i47_1_cuts k) <| iok_cons Try.func49 Try.call49 (pick_Victim_i49_2_cuts k) <| iok_cons Try.func50 Try.call50 (pick_Victim_i50_2_cuts k) <| iok_none
theorem pick_Victim_ev (k : Nat) (x : (pick_Victim_p k).τ.den) : evalF tab (pick_Victim_F k) (pick_Victim_p k) (pick_Victim_I k) 2 (pick_Victim_O k) pick_Victim_h Try.f30 x = (pick_Victim_p k).f x := by kernel_rfl
theorem pick_Victim_ok (k : Nat) : PFOK Try.prog tab 30 (pick_Victim_p k) := pfok mixed tabOK (pick_Victim_fok k) Try.func30 (I := pick_Victim_I k) (d := 2) (pick_Victim_iok k) (Q := pick_Victim_O k) (hi := pick_Victim_h) (cuts_of (l := []) (by kernel_rfl) trivial) (pick_Victim_ev k)
end Go.Proofs.Ytcikcikcjimcjaa.Ev
