/- corbellaw20_PickPacks, told on plain data. Written by program. -/
import Derived.Test.YtcikcikcjimcjaaEcorbellaw20_speaks
import Derived.Test.YtcikcikcjimcjaaEpick_Pack
import Derived.Test.YtcikcikcjimcjaaEpick_Split
set_option linter.unusedVariables false
set_option maxRecDepth 1000000
namespace Go.Proofs.Ytcikcikcjimcjaa.Ev
open Go Go.RowKit Go.Proofs
def corbellaw20_PickPacks_j0 {R : Type} (e0 : Bool → Option R) (e1 : Option R) (k : Nat) (writes_2028 : Int) (trims_2029 : Int) (v_2030 : Bool) : Option R :=
  bif v_2030 then
    optb (pick_Pack k writes_2028 trims_2029) fun r_2031 =>
    bif (decide (r_2031 = (0 : Int))) then
      bif (decide ((1 : Int) ≤ writes_2028)) then
        bif (decide (writes_2028 ≤ (1048576 : Int))) then
          e0 true
        else optb (pick_Split k writes_2028) fun r_2032 =>
        e0 (decide ((lenI r_2032.2) = (0 : Int)))
      else optb (pick_Split k writes_2028) fun r_2033 =>
      e0 (decide ((lenI r_2033.2) = (0 : Int)))
    else e0 false
  else e1
def corbellaw20_PickPacks_j2 {R : Type} (e0 : Bool → Option R) (e1 : Option R) (k : Nat) (v_2052 : Bool) : Option R :=
  bif v_2052 then
    e0 false
  else e1
def corbellaw20_PickPacks_j3 {R : Type} (e0 : Int → Option R) (k : Nat) (sum_2070 : Int) (i_2071 : Int) (l_2073 : List Int) : Option R :=
  bif ((decide ((0 : Int) ≤ i_2071)) && (decide (i_2071 < (lenI l_2073)))) then
    optb (l_2073[i_2071.toNat]?) fun x_2074 =>
    e0 (wrap64 (sum_2070 + x_2074))
  else none
def corbellaw20_PickPacks_j4 {R : Type} (e0 : Int → Option R) (k : Nat) (i_2084 : Int) : Option R :=
  e0 (wrap64 (i_2084 + (1 : Int)))
def corbellaw20_PickPacks_k2 {R : Type} (rc : Int → Int → Option R) (e0 : Bool → Int → Option R) (e1 : Int → Option R) (k : Nat) (sum_2043 : Int) : Bool → Option R := fun v_2057 =>
  e0 v_2057 sum_2043
def corbellaw20_PickPacks_k3 {R : Type} (rc : Int → Int → Option R) (e0 : Bool → Int → Option R) (e1 : Int → Option R) (k : Nat) (i_2044 : Int) (l_2046 : List Int) (sum_2043 : Int) : Option R := 
  corbellaw20_PickPacks_j3 (fun sum_2077 =>
    corbellaw20_PickPacks_j4 (fun i_2090 =>
      rc sum_2077 i_2090) k i_2044) k sum_2043 i_2044 l_2046
def corbellaw20_PickPacks_l1s {R : Type} (rc : Int → Int → Option R) (e0 : Bool → Int → Option R) (e1 : Int → Option R) (k : Nat) (l_2046 : List Int) (sum_2043 : Int) (i_2044 : Int) : Option R :=
  bif (decide (i_2044 < (lenI l_2046))) then
    bif ((decide ((0 : Int) ≤ i_2044)) && (decide (i_2044 < (lenI l_2046)))) then
      optb (l_2046[i_2044.toNat]?) fun x_2047 =>
      bif (decide (x_2047 < (1 : Int))) then
        corbellaw20_PickPacks_j2 (corbellaw20_PickPacks_k2 rc e0 e1 k sum_2043) (corbellaw20_PickPacks_k3 rc e0 e1 k i_2044 l_2046 sum_2043) k true
      else bif ((decide ((0 : Int) ≤ i_2044)) && (decide (i_2044 < (lenI l_2046)))) then
        optb (l_2046[i_2044.toNat]?) fun x_2093 =>
        bif (decide ((6 : Int) < x_2093)) then
          corbellaw20_PickPacks_j2 (corbellaw20_PickPacks_k2 rc e0 e1 k sum_2043) (corbellaw20_PickPacks_k3 rc e0 e1 k i_2044 l_2046 sum_2043) k true
        else bif (decide ((wrap64 (i_2044 + (1 : Int))) < (lenI l_2046))) then
          bif ((decide ((0 : Int) ≤ i_2044)) && (decide (i_2044 < (lenI l_2046)))) then
            optb (l_2046[i_2044.toNat]?) fun x_2095 =>
            corbellaw20_PickPacks_j2 (corbellaw20_PickPacks_k2 rc e0 e1 k sum_2043) (corbellaw20_PickPacks_k3 rc e0 e1 k i_2044 l_2046 sum_2043) k (!(decide (x_2095 = (6 : Int))))
          else none
        else corbellaw20_PickPacks_j2 (corbellaw20_PickPacks_k2 rc e0 e1 k sum_2043) (corbellaw20_PickPacks_k3 rc e0 e1 k i_2044 l_2046 sum_2043) k false
      else none
    else none
  else e1 sum_2043
def corbellaw20_PickPacks_l1 {R : Type} (e0 : Bool → Int → Option R) (e1 : Int → Option R) (k : Nat) (l_2046 : List Int) : Nat → Int → Int → Option R
  | 0 => fun _ _ => none
  | j + 1 => corbellaw20_PickPacks_l1s (corbellaw20_PickPacks_l1 e0 e1 k l_2046 j) e0 e1 k l_2046
def corbellaw20_PickPacks_k0 (k : Nat) : Bool → Option Bool := fun v_2036 =>
  some v_2036
def corbellaw20_PickPacks_k1 (k : Nat) (trims_1594 : Int) (writes_1593 : Int) : Option Bool := 
  optb (pick_Split k (wrap64 ((bitop .and .i64 writes_1593 (4095 : Int)) + (bitop .and .i64 trims_1594 (4095 : Int))))) fun r_2040 =>
  corbellaw20_PickPacks_l1 (fun v_2098 sum_2099 =>
    some v_2098) (fun sum_2104 =>
    bif (decide (sum_2104 = (wrap64 ((bitop .and .i64 writes_1593 (4095 : Int)) + (bitop .and .i64 trims_1594 (4095 : Int)))))) then
      optb (pick_Pack k (bitop .and .i64 writes_1593 (4095 : Int)) (bitop .and .i64 trims_1594 (4095 : Int))) fun r_2108 =>
      some (decide (r_2108 = (wrap64 ((bitop .and .i64 writes_1593 (4095 : Int)) + (lenI r_2040.2)))))
    else some false) k r_2040.2 k (0 : Int) (0 : Int)
def corbellaw20_PickPacks (k : Nat) (writes_1593 : Int) (trims_1594 : Int) : Option Bool :=
  optb (corbellaw20_speaks k) fun r_2015 =>
  bif (!r_2015) then
    some false
  else bif (decide (writes_1593 < (0 : Int))) then
    corbellaw20_PickPacks_j0 (corbellaw20_PickPacks_k0 k) (corbellaw20_PickPacks_k1 k trims_1594 writes_1593) k writes_1593 trims_1594 true
  else bif (decide (trims_1594 < (0 : Int))) then
    corbellaw20_PickPacks_j0 (corbellaw20_PickPacks_k0 k) (corbellaw20_PickPacks_k1 k trims_1594 writes_1593) k writes_1593 trims_1594 true
  else bif (decide ((1048576 : Int) < writes_1593)) then
    corbellaw20_PickPacks_j0 (corbellaw20_PickPacks_k0 k) (corbellaw20_PickPacks_k1 k trims_1594 writes_1593) k writes_1593 trims_1594 true
  else corbellaw20_PickPacks_j0 (corbellaw20_PickPacks_k0 k) (corbellaw20_PickPacks_k1 k trims_1594 writes_1593) k writes_1593 trims_1594 (decide ((1048576 : Int) < trims_1594))
def corbellaw20_PickPacks_p (k : Nat) : PF := { ps := [(false, 1), (false, 1)], rs := [(false, 1)], τ := (.pair (.int .i64) (.int .i64)), σ := .bool, f := fun x => corbellaw20_PickPacks k x.1 x.2 }
def corbellaw20_PickPacks_F (k : Nat) : PT := fcons 28 (corbellaw20_speaks_p k) <| fcons 31 (pick_Pack_p k) <| fcons 32 (pick_Split_p k) <| fnone
theorem corbellaw20_PickPacks_fok (k : Nat) : FOK Try.prog tab (corbellaw20_PickPacks_F k) := fok_cons (corbellaw20_speaks_ok k) Try.call28 <| fok_cons (pick_Pack_ok k) Try.call31 <| fok_cons (pick_Split_ok k) Try.call32 <| fok_none
def corbellaw20_PickPacks_c0 : Cl := { keep := [0, 1, 23], hl := 0, ad := [], adc := [], bump := [] }
def corbellaw20_PickPacks_x0 : Cl := { keep := [0, 1, 4], hl := 0, ad := [], adc := [], bump := [] }
def corbellaw20_PickPacks_c1 : Cl := { keep := [0, 1, 5, 6, 7], hl := 1, ad := [], adc := [], bump := [] }
def corbellaw20_PickPacks_x1 : Cl := { keep := [0, 1, 4, 5, 6], hl := 1, ad := [], adc := [], bump := [] }
def corbellaw20_PickPacks_c2 : Cl := { keep := [0, 1, 5, 6, 7, 81], hl := 1, ad := [], adc := [], bump := [] }
def corbellaw20_PickPacks_x2 : Cl := { keep := [0, 1, 4, 5, 6, 7], hl := 1, ad := [], adc := [], bump := [] }
def corbellaw20_PickPacks_c3 : Cl := { keep := [0, 1, 5, 6, 7], hl := 1, ad := [], adc := [], bump := [] }
def corbellaw20_PickPacks_x3 : Cl := { keep := [0, 1, 5, 6, 7], hl := 1, ad := [], adc := [], bump := [] }
def corbellaw20_PickPacks_c4 : Cl := { keep := [0, 1, 5, 6, 7], hl := 1, ad := [], adc := [], bump := [] }
def corbellaw20_PickPacks_x4 : Cl := { keep := [0, 1, 5, 6, 7], hl := 1, ad := [], adc := [], bump := [] }
def corbellaw20_PickPacks_h : Hint := (.sq .no (.sq .no (.sq (.ct corbellaw20_PickPacks_c0 corbellaw20_PickPacks_x0 0 .no .no) (.sq .no (.sq .no (.sq .no (.sq (.sq .no (.lp corbellaw20_PickPacks_c1 corbellaw20_PickPacks_x1 1 (.sq .no (.ct corbellaw20_PickPacks_c4 corbellaw20_PickPacks_x4 4 (.ct corbellaw20_PickPacks_c3 corbellaw20_PickPacks_x3 3 (.ct corbellaw20_PickPacks_c2 corbellaw20_PickPacks_x2 2 .no .no) .no) .no)))) .no)))))))
def corbellaw20_PickPacks_j0_E0 {R : Type} (K : EX → St → Option R) : Int → Int → Bool → Option R := fun v0 v1 v2 => K .ret (mkSt 103 [] corbellaw20_PickPacks_x0.keep [.int .i64 v0, .int .i64 v1, .bool v2] [])
def corbellaw20_PickPacks_j0_E1 {R : Type} (K : EX → St → Option R) : Int → Int → Option R := fun v0 v1 => K .normal (mkSt 103 [] corbellaw20_PickPacks_x0.keep [.int .i64 v0, .int .i64 v1, .junk] [])
def corbellaw20_PickPacks_j0_S (writes_2028 : Int) (trims_2029 : Int) (v_2030 : Bool) : St := mkSt 103 [] corbellaw20_PickPacks_c0.keep [.int .i64 writes_2028, .int .i64 trims_2029, .bool v_2030] []
def corbellaw20_PickPacks_j0_sh : Rd (List AV × List HE) := .pair (.cons (.int .i64) (.cons (.int .i64) (.cons .bool Rd.nil))) Rd.nil
def corbellaw20_PickPacks_j0_a {R : Type} (k : Nat) : Alt R := { n := 103, v := [], sh := corbellaw20_PickPacks_j0_sh, g := fun K x => corbellaw20_PickPacks_j0 (fun y2 => corbellaw20_PickPacks_j0_E0 K x.1.1 x.1.2.1 y2) (corbellaw20_PickPacks_j0_E1 K x.1.1 x.1.2.1) k x.1.1 x.1.2.1 x.1.2.2.1 }
def corbellaw20_PickPacks_l1_E0 {R : Type} (K : EX → St → Option R) : Int → Int → Bool → Int → Bool → List Int → Option R := fun v0 v1 v2 v3 v4 v5 => K .ret (mkSt 103 [] corbellaw20_PickPacks_x1.keep [.int .i64 v0, .int .i64 v1, .bool v2, .own 0 1, .int .i64 v3] [.lst (.int .i64) 3 v4 1 v5])
def corbellaw20_PickPacks_l1_E1 {R : Type} (K : EX → St → Option R) : Int → Int → Int → Bool → List Int → Option R := fun v0 v1 v2 v3 v4 => K (.exit 0) (mkSt 103 [] corbellaw20_PickPacks_x1.keep [.int .i64 v0, .int .i64 v1, .junk, .own 0 1, .int .i64 v2] [.lst (.int .i64) 3 v3 1 v4])
def corbellaw20_PickPacks_l1_S (writes_2041 : Int) (trims_2042 : Int) (sum_2043 : Int) (i_2044 : Int) (lN_2045 : Bool) (l_2046 : List Int) : St := mkSt 103 [] corbellaw20_PickPacks_c1.keep [.int .i64 writes_2041, .int .i64 trims_2042, .own 0 1, .int .i64 sum_2043, .int .i64 i_2044] [.lst (.int .i64) 3 lN_2045 1 l_2046]
def corbellaw20_PickPacks_l1_sh : Rd (List AV × List HE) := .pair (.cons (.int .i64) (.cons (.int .i64) (.cons (.own 0 1) (.cons (.int .i64) (.cons (.int .i64) Rd.nil))))) (.cons (.lst (.int .i64) 3 1) Rd.nil)
def corbellaw20_PickPacks_l1_a {R : Type} (k : Nat) : Alt R := { n := 103, v := [], sh := corbellaw20_PickPacks_l1_sh, g := fun K x => corbellaw20_PickPacks_l1 (fun y2 y3 => corbellaw20_PickPacks_l1_E0 K x.1.1 x.1.2.1 y2 y3 x.2.1.1 x.2.1.2) (fun y2 => corbellaw20_PickPacks_l1_E1 K x.1.1 x.1.2.1 y2 x.2.1.1 x.2.1.2) k x.2.1.2 k x.1.2.2.2.1 x.1.2.2.2.2.1 }
def corbellaw20_PickPacks_j2_E0 {R : Type} (K : EX → St → Option R) : Int → Int → Bool → Int → Int → Bool → List Int → Option R := fun v0 v1 v2 v3 v4 v5 v6 => K .ret (mkSt 103 [] corbellaw20_PickPacks_x2.keep [.int .i64 v0, .int .i64 v1, .bool v2, .own 0 1, .int .i64 v3, .int .i64 v4] [.lst (.int .i64) 3 v5 1 v6])
def corbellaw20_PickPacks_j2_E1 {R : Type} (K : EX → St → Option R) : Int → Int → Int → Int → Bool → List Int → Option R := fun v0 v1 v2 v3 v4 v5 => K .normal (mkSt 103 [] corbellaw20_PickPacks_x2.keep [.int .i64 v0, .int .i64 v1, .junk, .own 0 1, .int .i64 v2, .int .i64 v3] [.lst (.int .i64) 3 v4 1 v5])
def corbellaw20_PickPacks_j2_S (writes_2048 : Int) (trims_2049 : Int) (sum_2050 : Int) (i_2051 : Int) (v_2052 : Bool) (lN_2053 : Bool) (l_2054 : List Int) : St := mkSt 103 [] corbellaw20_PickPacks_c2.keep [.int .i64 writes_2048, .int .i64 trims_2049, .own 0 1, .int .i64 sum_2050, .int .i64 i_2051, .bool v_2052] [.lst (.int .i64) 3 lN_2053 1 l_2054]
def corbellaw20_PickPacks_j2_sh : Rd (List AV × List HE) := .pair (.cons (.int .i64) (.cons (.int .i64) (.cons (.own 0 1) (.cons (.int .i64) (.cons (.int .i64) (.cons .bool Rd.nil)))))) (.cons (.lst (.int .i64) 3 1) Rd.nil)
def corbellaw20_PickPacks_j2_a {R : Type} (k : Nat) : Alt R := { n := 103, v := [], sh := corbellaw20_PickPacks_j2_sh, g := fun K x => corbellaw20_PickPacks_j2 (fun y2 => corbellaw20_PickPacks_j2_E0 K x.1.1 x.1.2.1 y2 x.1.2.2.2.1 x.1.2.2.2.2.1 x.2.1.1 x.2.1.2) (corbellaw20_PickPacks_j2_E1 K x.1.1 x.1.2.1 x.1.2.2.2.1 x.1.2.2.2.2.1 x.2.1.1 x.2.1.2) k x.1.2.2.2.2.2.1 }
def corbellaw20_PickPacks_j3_E0 {R : Type} (K : EX → St → Option R) : Int → Int → Int → Int → Bool → List Int → Option R := fun v0 v1 v2 v3 v4 v5 => K .normal (mkSt 103 [] corbellaw20_PickPacks_x3.keep [.int .i64 v0, .int .i64 v1, .own 0 1, .int .i64 v2, .int .i64 v3] [.lst (.int .i64) 3 v4 1 v5])
def corbellaw20_PickPacks_j3_S (writes_2068 : Int) (trims_2069 : Int) (sum_2070 : Int) (i_2071 : Int) (lN_2072 : Bool) (l_2073 : List Int) : St := mkSt 103 [] corbellaw20_PickPacks_c3.keep [.int .i64 writes_2068, .int .i64 trims_2069, .own 0 1, .int .i64 sum_2070, .int .i64 i_2071] [.lst (.int .i64) 3 lN_2072 1 l_2073]
def corbellaw20_PickPacks_j3_sh : Rd (List AV × List HE) := .pair (.cons (.int .i64) (.cons (.int .i64) (.cons (.own 0 1) (.cons (.int .i64) (.cons (.int .i64) Rd.nil))))) (.cons (.lst (.int .i64) 3 1) Rd.nil)
def corbellaw20_PickPacks_j3_a {R : Type} (k : Nat) : Alt R := { n := 103, v := [], sh := corbellaw20_PickPacks_j3_sh, g := fun K x => corbellaw20_PickPacks_j3 (fun y2 => corbellaw20_PickPacks_j3_E0 K x.1.1 x.1.2.1 y2 x.1.2.2.2.2.1 x.2.1.1 x.2.1.2) k x.1.2.2.2.1 x.1.2.2.2.2.1 x.2.1.2 }
def corbellaw20_PickPacks_j4_E0 {R : Type} (K : EX → St → Option R) : Int → Int → Int → Int → Bool → List Int → Option R := fun v0 v1 v2 v3 v4 v5 => K .normal (mkSt 103 [] corbellaw20_PickPacks_x4.keep [.int .i64 v0, .int .i64 v1, .own 0 1, .int .i64 v2, .int .i64 v3] [.lst (.int .i64) 3 v4 1 v5])
def corbellaw20_PickPacks_j4_S (writes_2081 : Int) (trims_2082 : Int) (sum_2083 : Int) (i_2084 : Int) (lN_2085 : Bool) (l_2086 : List Int) : St := mkSt 103 [] corbellaw20_PickPacks_c4.keep [.int .i64 writes_2081, .int .i64 trims_2082, .own 0 1, .int .i64 sum_2083, .int .i64 i_2084] [.lst (.int .i64) 3 lN_2085 1 l_2086]
def corbellaw20_PickPacks_j4_sh : Rd (List AV × List HE) := .pair (.cons (.int .i64) (.cons (.int .i64) (.cons (.own 0 1) (.cons (.int .i64) (.cons (.int .i64) Rd.nil))))) (.cons (.lst (.int .i64) 3 1) Rd.nil)
def corbellaw20_PickPacks_j4_a {R : Type} (k : Nat) : Alt R := { n := 103, v := [], sh := corbellaw20_PickPacks_j4_sh, g := fun K x => corbellaw20_PickPacks_j4 (fun y3 => corbellaw20_PickPacks_j4_E0 K x.1.1 x.1.2.1 x.1.2.2.2.1 y3 x.2.1.1 x.2.1.2) k x.1.2.2.2.2.1 }
def corbellaw20_PickPacks_O {R : Type} (k : Nat) : CutK R := cutsO [[corbellaw20_PickPacks_j0_a k], [corbellaw20_PickPacks_l1_a k], [corbellaw20_PickPacks_j2_a k], [corbellaw20_PickPacks_j3_a k], [corbellaw20_PickPacks_j4_a k]]
noncomputable def corbellaw20_PickPacks_b : List Ob := obs (bodyOf Try.f12) corbellaw20_PickPacks_h
noncomputable def corbellaw20_PickPacks_I {R : Type} (k : Nat) : InlT R := inone
theorem corbellaw20_PickPacks_j0_eq {R : Type} (k : Nat) (K : EX → St → Option R) (writes_2028 : Int) (trims_2029 : Int) (v_2030 : Bool) : corbellaw20_PickPacks_j0 (fun y2 => corbellaw20_PickPacks_j0_E0 K writes_2028 trims_2029 y2) (corbellaw20_PickPacks_j0_E1 K writes_2028 trims_2029) k writes_2028 trims_2029 v_2030 = ev tab (corbellaw20_PickPacks_F k) (inlK tab (corbellaw20_PickPacks_F k) (corbellaw20_PickPacks_I k) 0) (corbellaw20_PickPacks_O k) (obB corbellaw20_PickPacks_b 0) (obH corbellaw20_PickPacks_b 0) (corbellaw20_PickPacks_j0_S writes_2028 trims_2029 v_2030) (fun e st => optb (clean corbellaw20_PickPacks_x0 st) fun st => K e st) := by kernel_rfl
theorem corbellaw20_PickPacks_j0_ok {R : Type} (k : Nat)  : ObOK (R := R) tab (corbellaw20_PickPacks_F k) (inlK tab (corbellaw20_PickPacks_F k) (corbellaw20_PickPacks_I k) 0) (corbellaw20_PickPacks_O k) (.join corbellaw20_PickPacks_c0 corbellaw20_PickPacks_x0 0 (obB corbellaw20_PickPacks_b 0) (obH corbellaw20_PickPacks_b 0)) :=
  join_ok (l := [corbellaw20_PickPacks_j0_a k]) (by kernel_rfl) ⟨(fun K x => (corbellaw20_PickPacks_j0_eq k K x.1.1 x.1.2.1 x.1.2.2.1).trans (by kernel_rfl)), trivial⟩
theorem corbellaw20_PickPacks_l1_eq {R : Type} (k : Nat) (K : EX → St → Option R) (writes_2041 : Int) (trims_2042 : Int) (lN_2045 : Bool) (l_2046 : List Int) : ∀ (j : Nat) (sum_2043 : Int) (i_2044 : Int), corbellaw20_PickPacks_l1 (fun y2 y3 => corbellaw20_PickPacks_l1_E0 K writes_2041 trims_2042 y2 y3 lN_2045 l_2046) (fun y2 => corbellaw20_PickPacks_l1_E1 K writes_2041 trims_2042 y2 lN_2045 l_2046) k l_2046 j sum_2043 i_2044 = iter corbellaw20_PickPacks_c1 corbellaw20_PickPacks_x1 (ev tab (corbellaw20_PickPacks_F k) (inlK tab (corbellaw20_PickPacks_F k) (corbellaw20_PickPacks_I k) 0) (corbellaw20_PickPacks_O k) (obB corbellaw20_PickPacks_b 1) (obH corbellaw20_PickPacks_b 1)) j (corbellaw20_PickPacks_l1_S writes_2041 trims_2042 sum_2043 i_2044 lN_2045 l_2046) K
  | 0, _, _ => rfl
  | j + 1, sum_2043, i_2044 => by
    have e : corbellaw20_PickPacks_l1 (fun y2 y3 => corbellaw20_PickPacks_l1_E0 K writes_2041 trims_2042 y2 y3 lN_2045 l_2046) (fun y2 => corbellaw20_PickPacks_l1_E1 K writes_2041 trims_2042 y2 lN_2045 l_2046) k l_2046 j = fun sum_2043 i_2044 => iter corbellaw20_PickPacks_c1 corbellaw20_PickPacks_x1 (ev tab (corbellaw20_PickPacks_F k) (inlK tab (corbellaw20_PickPacks_F k) (corbellaw20_PickPacks_I k) 0) (corbellaw20_PickPacks_O k) (obB corbellaw20_PickPacks_b 1) (obH corbellaw20_PickPacks_b 1)) j (corbellaw20_PickPacks_l1_S writes_2041 trims_2042 sum_2043 i_2044 lN_2045 l_2046) K := by funext sum_2043 i_2044; exact corbellaw20_PickPacks_l1_eq k K writes_2041 trims_2042 lN_2045 l_2046 j sum_2043 i_2044
    show corbellaw20_PickPacks_l1s (corbellaw20_PickPacks_l1 (fun y2 y3 => corbellaw20_PickPacks_l1_E0 K writes_2041 trims_2042 y2 y3 lN_2045 l_2046) (fun y2 => corbellaw20_PickPacks_l1_E1 K writes_2041 trims_2042 y2 lN_2045 l_2046) k l_2046 j) (fun y2 y3 => corbellaw20_PickPacks_l1_E0 K writes_2041 trims_2042 y2 y3 lN_2045 l_2046) (fun y2 => corbellaw20_PickPacks_l1_E1 K writes_2041 trims_2042 y2 lN_2045 l_2046) k l_2046 sum_2043 i_2044 = _
    rw [e, iter_succ]; kernel_rfl
theorem corbellaw20_PickPacks_l1_ok {R : Type} (k : Nat)  : ObOK (R := R) tab (corbellaw20_PickPacks_F k) (inlK tab (corbellaw20_PickPacks_F k) (corbellaw20_PickPacks_I k) 0) (corbellaw20_PickPacks_O k) (.loop corbellaw20_PickPacks_c1 corbellaw20_PickPacks_x1 1 (obB corbellaw20_PickPacks_b 1) (obH corbellaw20_PickPacks_b 1)) :=
  loop_ok (l := [corbellaw20_PickPacks_l1_a k]) (by kernel_rfl) ⟨(fun K x => ⟨k, (corbellaw20_PickPacks_l1_eq k K x.1.1 x.1.2.1 x.2.1.1 x.2.1.2 k x.1.2.2.2.1 x.1.2.2.2.2.1).trans (by kernel_rfl)⟩), trivial⟩
theorem corbellaw20_PickPacks_j2_eq {R : Type} (k : Nat) (K : EX → St → Option R) (writes_2048 : Int) (trims_2049 : Int) (sum_2050 : Int) (i_2051 : Int) (v_2052 : Bool) (lN_2053 : Bool) (l_2054 : List Int) : corbellaw20_PickPacks_j2 (fun y2 => corbellaw20_PickPacks_j2_E0 K writes_2048 trims_2049 y2 sum_2050 i_2051 lN_2053 l_2054) (corbellaw20_PickPacks_j2_E1 K writes_2048 trims_2049 sum_2050 i_2051 lN_2053 l_2054) k v_2052 = ev tab (corbellaw20_PickPacks_F k) (inlK tab (corbellaw20_PickPacks_F k) (corbellaw20_PickPacks_I k) 0) (corbellaw20_PickPacks_O k) (obB corbellaw20_PickPacks_b 2) (obH corbellaw20_PickPacks_b 2) (corbellaw20_PickPacks_j2_S writes_2048 trims_2049 sum_2050 i_2051 v_2052 lN_2053 l_2054) (fun e st => optb (clean corbellaw20_PickPacks_x2 st) fun st => K e st) := by kernel_rfl
theorem corbellaw20_PickPacks_j2_ok {R : Type} (k : Nat)  : ObOK (R := R) tab (corbellaw20_PickPacks_F k) (inlK tab (corbellaw20_PickPacks_F k) (corbellaw20_PickPacks_I k) 0) (corbellaw20_PickPacks_O k) (.join corbellaw20_PickPacks_c2 corbellaw20_PickPacks_x2 2 (obB corbellaw20_PickPacks_b 2) (obH corbellaw20_PickPacks_b 2)) :=
  join_ok (l := [corbellaw20_PickPacks_j2_a k]) (by kernel_rfl) ⟨(fun K x => (corbellaw20_PickPacks_j2_eq k K x.1.1 x.1.2.1 x.1.2.2.2.1 x.1.2.2.2.2.1 x.1.2.2.2.2.2.1 x.2.1.1 x.2.1.2).trans (by kernel_rfl)), trivial⟩
theorem corbellaw20_PickPacks_j3_eq {R : Type} (k : Nat) (K : EX → St → Option R) (writes_2068 : Int) (trims_2069 : Int) (sum_2070 : Int) (i_2071 : Int) (lN_2072 : Bool) (l_2073 : List Int) : corbellaw20_PickPacks_j3 (fun y2 => corbellaw20_PickPacks_j3_E0 K writes_2068 trims_2069 y2 i_2071 lN_2072 l_2073) k sum_2070 i_2071 l_2073 = ev tab (corbellaw20_PickPacks_F k) (inlK tab (corbellaw20_PickPacks_F k) (corbellaw20_PickPacks_I k) 0) (corbellaw20_PickPacks_O k) (obB corbellaw20_PickPacks_b 3) (obH corbellaw20_PickPacks_b 3) (corbellaw20_PickPacks_j3_S writes_2068 trims_2069 sum_2070 i_2071 lN_2072 l_2073) (fun e st => optb (clean corbellaw20_PickPacks_x3 st) fun st => K e st) := by kernel_rfl
theorem corbellaw20_PickPacks_j3_ok {R : Type} (k : Nat)  : ObOK (R := R) tab (corbellaw20_PickPacks_F k) (inlK tab (corbellaw20_PickPacks_F k) (corbellaw20_PickPacks_I k) 0) (corbellaw20_PickPacks_O k) (.join corbellaw20_PickPacks_c3 corbellaw20_PickPacks_x3 3 (obB corbellaw20_PickPacks_b 3) (obH corbellaw20_PickPacks_b 3)) :=
  join_ok (l := [corbellaw20_PickPacks_j3_a k]) (by kernel_rfl) ⟨(fun K x => (corbellaw20_PickPacks_j3_eq k K x.1.1 x.1.2.1 x.1.2.2.2.1 x.1.2.2.2.2.1 x.2.1.1 x.2.1.2).trans (by kernel_rfl)), trivial⟩
theorem corbellaw20_PickPacks_j4_eq {R : Type} (k : Nat) (K : EX → St → Option R) (writes_2081 : Int) (trims_2082 : Int) (sum_2083 : Int) (i_2084 : Int) (lN_2085 : Bool) (l_2086 : List Int) : corbellaw20_PickPacks_j4 (fun y3 => corbellaw20_PickPacks_j4_E0 K writes_2081 trims_2082 sum_2083 y3 lN_2085 l_2086) k i_2084 = ev tab (corbellaw20_PickPacks_F k) (inlK tab (corbellaw20_PickPacks_F k) (corbellaw20_PickPacks_I k) 0) (corbellaw20_PickPacks_O k) (obB corbellaw20_PickPacks_b 4) (obH corbellaw20_PickPacks_b 4) (corbellaw20_PickPacks_j4_S writes_2081 trims_2082 sum_2083 i_2084 lN_2085 l_2086) (fun e st => optb (clean corbellaw20_PickPacks_x4 st) fun st => K e st) := by kernel_rfl
theorem corbellaw20_PickPacks_j4_ok {R : Type} (k : Nat)  : ObOK (R := R) tab (corbellaw20_PickPacks_F k) (inlK tab (corbellaw20_PickPacks_F k) (corbellaw20_PickPacks_I k) 0) (corbellaw20_PickPacks_O k) (.join corbellaw20_PickPacks_c4 corbellaw20_PickPacks_x4 4 (obB corbellaw20_PickPacks_b 4) (obH corbellaw20_PickPacks_b 4)) :=
  join_ok (l := [corbellaw20_PickPacks_j4_a k]) (by kernel_rfl) ⟨(fun K x => (corbellaw20_PickPacks_j4_eq k K x.1.1 x.1.2.1 x.1.2.2.2.1 x.1.2.2.2.2.1 x.2.1.1 x.2.1.2).trans (by kernel_rfl)), trivial⟩
theorem corbellaw20_PickPacks_cuts {R : Type} (k : Nat) : ∀ c, Try.f12.body = some c → CutsOK (R := R) tab (corbellaw20_PickPacks_F k) (inlK tab (corbellaw20_PickPacks_F k) (corbellaw20_PickPacks_I k) 0) (corbellaw20_PickPacks_O k) c corbellaw20_PickPacks_h :=
  cuts_of (l := [.join corbellaw20_PickPacks_c0 corbellaw20_PickPacks_x0 0 (obB corbellaw20_PickPacks_b 0) (obH corbellaw20_PickPacks_b 0), .loop corbellaw20_PickPacks_c1 corbellaw20_PickPacks_x1 1 (obB corbellaw20_PickPacks_b 1) (obH corbellaw20_PickPacks_b 1), .join corbellaw20_PickPacks_c2 corbellaw20_PickPacks_x2 2 (obB corbellaw20_PickPacks_b 2) (obH corbellaw20_PickPacks_b 2), .join corbellaw20_PickPacks_c3 corbellaw20_PickPacks_x3 3 (obB corbellaw20_PickPacks_b 3) (obH corbellaw20_PickPacks_b 3), .join corbellaw20_PickPacks_c4 corbellaw20_PickPacks_x4 4 (obB corbellaw20_PickPacks_b 4) (obH corbellaw20_PickPacks_b 4)]) (by kernel_rfl) ⟨corbellaw20_PickPacks_j0_ok k, corbellaw20_PickPacks_l1_ok k, corbellaw20_PickPacks_j2_ok k, corbellaw20_PickPacks_j3_ok k, corbellaw20_PickPacks_j4_ok k, trivial⟩
theorem corbellaw20_PickPacks_iok {R : Type} (k : Nat) : IOK Try.prog tab (corbellaw20_PickPacks_F k) (corbellaw20_PickPacks_I (R := R) k) := iok_none
theorem corbellaw20_PickPacks_ev (k : Nat) (x : (corbellaw20_PickPacks_p k).τ.den) : evalF tab (corbellaw20_PickPacks_F k) (corbellaw20_PickPacks_p k) (corbellaw20_PickPacks_I k) 0 (corbellaw20_PickPacks_O k) corbellaw20_PickPacks_h Try.f12 x = (corbellaw20_PickPacks_p k).f x := by kernel_rfl
theorem corbellaw20_PickPacks_ok (k : Nat) : PFOK Try.prog tab 12 (corbellaw20_PickPacks_p k) := pfok mixed tabOK (corbellaw20_PickPacks_fok k) Try.func12 (I := corbellaw20_PickPacks_I k) (d := 0) (corbellaw20_PickPacks_iok k) (Q := corbellaw20_PickPacks_O k) (hi := corbellaw20_PickPacks_h) (corbellaw20_PickPacks_cuts k) (corbellaw20_PickPacks_ev k)
end Go.Proofs.Ytcikcikcjimcjaa.Ev
