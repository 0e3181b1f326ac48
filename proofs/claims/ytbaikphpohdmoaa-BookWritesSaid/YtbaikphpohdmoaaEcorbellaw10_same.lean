/- corbellaw10_same, told on plain data. Written by program. -/
import Derived.Test.YtbaikphpohdmoaaEtab
set_option linter.unusedVariables false
set_option maxRecDepth 1000000
namespace Go.Proofs.Ytbaikphpohdmoaa.Ev
open Go Go.RowKit Go.Proofs
def corbellaw10_same_j0 {R : Type} (e0 : Bool → Option R) (e1 : Option R) (k : Nat) (v_0 : Bool) : Option R :=
  bif v_0 then
    e0 false
  else e1
def corbellaw10_same_j2 {R : Type} (e0 : Bool → Option R) (e1 : Option R) (k : Nat) (v_1 : Bool) : Option R :=
  bif v_1 then
    e0 false
  else e1
def corbellaw10_same_k2 {R : Type} (rc : Int → Option R) (e0 : Bool → Option R) (e1 : Option R) (k : Nat) : Bool → Option R := fun v_2 =>
  e0 v_2
def corbellaw10_same_k3 {R : Type} (rc : Int → Option R) (e0 : Bool → Option R) (e1 : Option R) (k : Nat) (i_3 : Int) : Option R := 
  rc (wrap64 (i_3 + (1 : Int)))
def corbellaw10_same_l1s {R : Type} (rc : Int → Option R) (e0 : Bool → Option R) (e1 : Option R) (k : Nat) (bc_4 : List (Int × (Int × Int))) (wc_5 : List (Int × (Int × Int))) (i_3 : Int) : Option R :=
  bif (decide (i_3 < (lenI wc_5))) then
    bif (decide ((0 : Int) ≤ i_3)) then
      optb (bc_4[i_3.toNat]?) fun x_6 =>
      bif (decide ((0 : Int) ≤ i_3)) then
        optb (wc_5[i_3.toNat]?) fun x_7 =>
        bif (!(decide (x_6.1 = x_7.1))) then
          corbellaw10_same_j2 (corbellaw10_same_k2 rc e0 e1 k) (corbellaw10_same_k3 rc e0 e1 k i_3) k true
        else bif (decide ((0 : Int) ≤ i_3)) then
          optb (bc_4[i_3.toNat]?) fun x_8 =>
          bif (decide ((0 : Int) ≤ i_3)) then
            optb (wc_5[i_3.toNat]?) fun x_9 =>
            bif (!(decide (x_8.2.1 = x_9.2.1))) then
              corbellaw10_same_j2 (corbellaw10_same_k2 rc e0 e1 k) (corbellaw10_same_k3 rc e0 e1 k i_3) k true
            else bif (decide ((0 : Int) ≤ i_3)) then
              optb (bc_4[i_3.toNat]?) fun x_10 =>
              bif (decide ((0 : Int) ≤ i_3)) then
                optb (wc_5[i_3.toNat]?) fun x_11 =>
                corbellaw10_same_j2 (corbellaw10_same_k2 rc e0 e1 k) (corbellaw10_same_k3 rc e0 e1 k i_3) k (!(decide (x_10.2.2 = x_11.2.2)))
              else none
            else none
          else none
        else none
      else none
    else none
  else e1
def corbellaw10_same_l1 {R : Type} (e0 : Bool → Option R) (e1 : Option R) (k : Nat) (bc_4 : List (Int × (Int × Int))) (wc_5 : List (Int × (Int × Int))) : Nat → Int → Option R
  | 0 => fun _ => none
  | j + 1 => corbellaw10_same_l1s (corbellaw10_same_l1 e0 e1 k bc_4 wc_5 j) e0 e1 k bc_4 wc_5
def corbellaw10_same_l3s {R : Type} (rc : Int → Option R) (e0 : Bool → Option R) (e1 : Option R) (k : Nat) (be_12 : List Int) (we_13 : List Int) (i_14 : Int) : Option R :=
  bif (decide (i_14 < (lenI we_13))) then
    bif (decide ((0 : Int) ≤ i_14)) then
      optb (be_12[i_14.toNat]?) fun x_15 =>
      bif (decide ((0 : Int) ≤ i_14)) then
        optb (we_13[i_14.toNat]?) fun x_16 =>
        bif (!(decide (x_15 = x_16))) then
          e0 false
        else rc (wrap64 (i_14 + (1 : Int)))
      else none
    else none
  else e1
def corbellaw10_same_l3 {R : Type} (e0 : Bool → Option R) (e1 : Option R) (k : Nat) (be_12 : List Int) (we_13 : List Int) : Nat → Int → Option R
  | 0 => fun _ => none
  | j + 1 => corbellaw10_same_l3s (corbellaw10_same_l3 e0 e1 k be_12 we_13 j) e0 e1 k be_12 we_13
def corbellaw10_same_k0 (k : Nat) : Bool → Option Bool := fun v_17 =>
  some v_17
def corbellaw10_same_k1 (k : Nat) (bc_18 : List (Int × (Int × Int))) (be_19 : List Int) (wc_20 : List (Int × (Int × Int))) (we_21 : List Int) : Option Bool := 
  corbellaw10_same_l1 (fun v_22 =>
    some v_22) (corbellaw10_same_l3 (fun v_23 =>
      some v_23) (some true) k be_19 we_21 k (0 : Int)) k bc_18 wc_20 k (0 : Int)
def corbellaw10_same (k : Nat) (ba_24 : Int) (bb_25 : Bool) (bc_18 : List (Int × (Int × Int))) (bd_26 : Bool) (be_19 : List Int) (bf_27 : Int) (bg_28 : Int) (wa_29 : Int) (wb_30 : Bool) (wc_20 : List (Int × (Int × Int))) (wd_31 : Bool) (we_21 : List Int) (wf_32 : Int) (wg_33 : Int) : Option Bool :=
  bif (!(decide (ba_24 = wa_29))) then
    corbellaw10_same_j0 (corbellaw10_same_k0 k) (corbellaw10_same_k1 k bc_18 be_19 wc_20 we_21) k true
  else bif (!(decide (bf_27 = wf_32))) then
    corbellaw10_same_j0 (corbellaw10_same_k0 k) (corbellaw10_same_k1 k bc_18 be_19 wc_20 we_21) k true
  else bif (!(decide (bg_28 = wg_33))) then
    corbellaw10_same_j0 (corbellaw10_same_k0 k) (corbellaw10_same_k1 k bc_18 be_19 wc_20 we_21) k true
  else bif (!(decide ((lenI bc_18) = (lenI wc_20)))) then
    corbellaw10_same_j0 (corbellaw10_same_k0 k) (corbellaw10_same_k1 k bc_18 be_19 wc_20 we_21) k true
  else corbellaw10_same_j0 (corbellaw10_same_k0 k) (corbellaw10_same_k1 k bc_18 be_19 wc_20 we_21) k (!(decide ((lenI be_19) = (lenI we_21))))
def corbellaw10_same_p (k : Nat) : PF := { ps := [(true, 5), (true, 5)], rs := [(false, 1)], τ := (.pair (.pair (.int .i64) (.pair (.sl (.pair (.int .i64) (.pair (.int .i64) (.int .i64)))) (.pair (.sl (.int .i64)) (.pair (.int .i64) (.int .i64))))) (.pair (.int .i64) (.pair (.sl (.pair (.int .i64) (.pair (.int .i64) (.int .i64)))) (.pair (.sl (.int .i64)) (.pair (.int .i64) (.int .i64)))))), σ := .bool, f := fun x => corbellaw10_same k x.1.1 x.1.2.1.1 x.1.2.1.2 x.1.2.2.1.1 x.1.2.2.1.2 x.1.2.2.2.1 x.1.2.2.2.2 x.2.1 x.2.2.1.1 x.2.2.1.2 x.2.2.2.1.1 x.2.2.2.1.2 x.2.2.2.2.1 x.2.2.2.2.2 }
def corbellaw10_same_F (k : Nat) : PT := fnone
theorem corbellaw10_same_fok (k : Nat) : FOK Try.prog tab (corbellaw10_same_F k) := fok_none
def corbellaw10_same_c0 : Cl := { keep := [2, 3, 43], hl := 2, ad := [], adc := [], bump := [] }
def corbellaw10_same_x0 : Cl := { keep := [2, 3, 4], hl := 2, ad := [], adc := [], bump := [] }
def corbellaw10_same_c1 : Cl := { keep := [2, 3, 5], hl := 2, ad := [], adc := [], bump := [] }
def corbellaw10_same_x1 : Cl := { keep := [2, 3, 4], hl := 2, ad := [], adc := [], bump := [] }
def corbellaw10_same_c2 : Cl := { keep := [2, 3, 5, 93], hl := 2, ad := [], adc := [], bump := [] }
def corbellaw10_same_x2 : Cl := { keep := [2, 3, 4, 5], hl := 2, ad := [], adc := [], bump := [] }
def corbellaw10_same_c3 : Cl := { keep := [2, 3, 6], hl := 2, ad := [], adc := [], bump := [] }
def corbellaw10_same_x3 : Cl := { keep := [4], hl := 0, ad := [], adc := [], bump := [] }
def corbellaw10_same_h : Hint := (.sq .no (.sq (.ct corbellaw10_same_c0 corbellaw10_same_x0 0 .no .no) (.sq (.sq .no (.lp corbellaw10_same_c1 corbellaw10_same_x1 1 (.sq .no (.sq (.ct corbellaw10_same_c2 corbellaw10_same_x2 2 .no .no) .no)))) (.sq (.sq .no (.lp corbellaw10_same_c3 corbellaw10_same_x3 3 .no)) .no))))
def corbellaw10_same_j0_E0 {R : Type} (K : EX → St → Option R) : Bool → Int → Bool → List (Int × (Int × Int)) → Bool → List Int → Int → Int → Int → Bool → List (Int × (Int × Int)) → Bool → List Int → Int → Int → Option R := fun v0 v1 v2 v3 v4 v5 v6 v7 v8 v9 v10 v11 v12 v13 v14 => K .ret (mkSt 112 [] corbellaw10_same_x0.keep [.ptr 0 0, .ptr 1 0, .bool v0] [.blk [.int .i64 v1, .sl (.pair (.int .i64) (.pair (.int .i64) (.int .i64))) v2 v3, .sl (.int .i64) v4 v5, .int .i64 v6, .int .i64 v7], .blk [.int .i64 v8, .sl (.pair (.int .i64) (.pair (.int .i64) (.int .i64))) v9 v10, .sl (.int .i64) v11 v12, .int .i64 v13, .int .i64 v14]])
def corbellaw10_same_j0_E1 {R : Type} (K : EX → St → Option R) : Int → Bool → List (Int × (Int × Int)) → Bool → List Int → Int → Int → Int → Bool → List (Int × (Int × Int)) → Bool → List Int → Int → Int → Option R := fun v0 v1 v2 v3 v4 v5 v6 v7 v8 v9 v10 v11 v12 v13 => K .normal (mkSt 112 [] corbellaw10_same_x0.keep [.ptr 0 0, .ptr 1 0, .junk] [.blk [.int .i64 v0, .sl (.pair (.int .i64) (.pair (.int .i64) (.int .i64))) v1 v2, .sl (.int .i64) v3 v4, .int .i64 v5, .int .i64 v6], .blk [.int .i64 v7, .sl (.pair (.int .i64) (.pair (.int .i64) (.int .i64))) v8 v9, .sl (.int .i64) v10 v11, .int .i64 v12, .int .i64 v13]])
def corbellaw10_same_j0_S (v_0 : Bool) (ba_34 : Int) (bb_35 : Bool) (bc_36 : List (Int × (Int × Int))) (bd_37 : Bool) (be_38 : List Int) (bf_39 : Int) (bg_40 : Int) (wa_41 : Int) (wb_42 : Bool) (wc_43 : List (Int × (Int × Int))) (wd_44 : Bool) (we_45 : List Int) (wf_46 : Int) (wg_47 : Int) : St := mkSt 112 [] corbellaw10_same_c0.keep [.ptr 0 0, .ptr 1 0, .bool v_0] [.blk [.int .i64 ba_34, .sl (.pair (.int .i64) (.pair (.int .i64) (.int .i64))) bb_35 bc_36, .sl (.int .i64) bd_37 be_38, .int .i64 bf_39, .int .i64 bg_40], .blk [.int .i64 wa_41, .sl (.pair (.int .i64) (.pair (.int .i64) (.int .i64))) wb_42 wc_43, .sl (.int .i64) wd_44 we_45, .int .i64 wf_46, .int .i64 wg_47]]
def corbellaw10_same_j0_sh : Rd (List AV × List HE) := .pair (.cons (.ptr 0 0) (.cons (.ptr 1 0) (.cons .bool Rd.nil))) (.cons (.blk (.cons (.int .i64) (.cons (.sl (.pair (.int .i64) (.pair (.int .i64) (.int .i64)))) (.cons (.sl (.int .i64)) (.cons (.int .i64) (.cons (.int .i64) Rd.nil)))))) (.cons (.blk (.cons (.int .i64) (.cons (.sl (.pair (.int .i64) (.pair (.int .i64) (.int .i64)))) (.cons (.sl (.int .i64)) (.cons (.int .i64) (.cons (.int .i64) Rd.nil)))))) Rd.nil))
def corbellaw10_same_j0_a {R : Type} (k : Nat) : Alt R := { n := 112, v := [], sh := corbellaw10_same_j0_sh, g := fun K x => corbellaw10_same_j0 (fun y0 => corbellaw10_same_j0_E0 K y0 x.2.1.1 x.2.1.2.1.1 x.2.1.2.1.2 x.2.1.2.2.1.1 x.2.1.2.2.1.2 x.2.1.2.2.2.1 x.2.1.2.2.2.2.1 x.2.2.1.1 x.2.2.1.2.1.1 x.2.2.1.2.1.2 x.2.2.1.2.2.1.1 x.2.2.1.2.2.1.2 x.2.2.1.2.2.2.1 x.2.2.1.2.2.2.2.1) (corbellaw10_same_j0_E1 K x.2.1.1 x.2.1.2.1.1 x.2.1.2.1.2 x.2.1.2.2.1.1 x.2.1.2.2.1.2 x.2.1.2.2.2.1 x.2.1.2.2.2.2.1 x.2.2.1.1 x.2.2.1.2.1.1 x.2.2.1.2.1.2 x.2.2.1.2.2.1.1 x.2.2.1.2.2.1.2 x.2.2.1.2.2.2.1 x.2.2.1.2.2.2.2.1) k x.1.2.2.1 }
def corbellaw10_same_l1_E0 {R : Type} (K : EX → St → Option R) : Bool → Int → Bool → List (Int × (Int × Int)) → Bool → List Int → Int → Int → Int → Bool → List (Int × (Int × Int)) → Bool → List Int → Int → Int → Option R := fun v0 v1 v2 v3 v4 v5 v6 v7 v8 v9 v10 v11 v12 v13 v14 => K .ret (mkSt 112 [] corbellaw10_same_x1.keep [.ptr 0 0, .ptr 1 0, .bool v0] [.blk [.int .i64 v1, .sl (.pair (.int .i64) (.pair (.int .i64) (.int .i64))) v2 v3, .sl (.int .i64) v4 v5, .int .i64 v6, .int .i64 v7], .blk [.int .i64 v8, .sl (.pair (.int .i64) (.pair (.int .i64) (.int .i64))) v9 v10, .sl (.int .i64) v11 v12, .int .i64 v13, .int .i64 v14]])
def corbellaw10_same_l1_E1 {R : Type} (K : EX → St → Option R) : Int → Bool → List (Int × (Int × Int)) → Bool → List Int → Int → Int → Int → Bool → List (Int × (Int × Int)) → Bool → List Int → Int → Int → Option R := fun v0 v1 v2 v3 v4 v5 v6 v7 v8 v9 v10 v11 v12 v13 => K (.exit 0) (mkSt 112 [] corbellaw10_same_x1.keep [.ptr 0 0, .ptr 1 0, .junk] [.blk [.int .i64 v0, .sl (.pair (.int .i64) (.pair (.int .i64) (.int .i64))) v1 v2, .sl (.int .i64) v3 v4, .int .i64 v5, .int .i64 v6], .blk [.int .i64 v7, .sl (.pair (.int .i64) (.pair (.int .i64) (.int .i64))) v8 v9, .sl (.int .i64) v10 v11, .int .i64 v12, .int .i64 v13]])
def corbellaw10_same_l1_S (i_3 : Int) (ba_48 : Int) (bb_49 : Bool) (bc_4 : List (Int × (Int × Int))) (bd_50 : Bool) (be_51 : List Int) (bf_52 : Int) (bg_53 : Int) (wa_54 : Int) (wb_55 : Bool) (wc_5 : List (Int × (Int × Int))) (wd_56 : Bool) (we_57 : List Int) (wf_58 : Int) (wg_59 : Int) : St := mkSt 112 [] corbellaw10_same_c1.keep [.ptr 0 0, .ptr 1 0, .int .i64 i_3] [.blk [.int .i64 ba_48, .sl (.pair (.int .i64) (.pair (.int .i64) (.int .i64))) bb_49 bc_4, .sl (.int .i64) bd_50 be_51, .int .i64 bf_52, .int .i64 bg_53], .blk [.int .i64 wa_54, .sl (.pair (.int .i64) (.pair (.int .i64) (.int .i64))) wb_55 wc_5, .sl (.int .i64) wd_56 we_57, .int .i64 wf_58, .int .i64 wg_59]]
def corbellaw10_same_l1_sh : Rd (List AV × List HE) := .pair (.cons (.ptr 0 0) (.cons (.ptr 1 0) (.cons (.int .i64) Rd.nil))) (.cons (.blk (.cons (.int .i64) (.cons (.sl (.pair (.int .i64) (.pair (.int .i64) (.int .i64)))) (.cons (.sl (.int .i64)) (.cons (.int .i64) (.cons (.int .i64) Rd.nil)))))) (.cons (.blk (.cons (.int .i64) (.cons (.sl (.pair (.int .i64) (.pair (.int .i64) (.int .i64)))) (.cons (.sl (.int .i64)) (.cons (.int .i64) (.cons (.int .i64) Rd.nil)))))) Rd.nil))
def corbellaw10_same_l1_a {R : Type} (k : Nat) : Alt R := { n := 112, v := [], sh := corbellaw10_same_l1_sh, g := fun K x => corbellaw10_same_l1 (fun y0 => corbellaw10_same_l1_E0 K y0 x.2.1.1 x.2.1.2.1.1 x.2.1.2.1.2 x.2.1.2.2.1.1 x.2.1.2.2.1.2 x.2.1.2.2.2.1 x.2.1.2.2.2.2.1 x.2.2.1.1 x.2.2.1.2.1.1 x.2.2.1.2.1.2 x.2.2.1.2.2.1.1 x.2.2.1.2.2.1.2 x.2.2.1.2.2.2.1 x.2.2.1.2.2.2.2.1) (corbellaw10_same_l1_E1 K x.2.1.1 x.2.1.2.1.1 x.2.1.2.1.2 x.2.1.2.2.1.1 x.2.1.2.2.1.2 x.2.1.2.2.2.1 x.2.1.2.2.2.2.1 x.2.2.1.1 x.2.2.1.2.1.1 x.2.2.1.2.1.2 x.2.2.1.2.2.1.1 x.2.2.1.2.2.1.2 x.2.2.1.2.2.2.1 x.2.2.1.2.2.2.2.1) k x.2.1.2.1.2 x.2.2.1.2.1.2 k x.1.2.2.1 }
def corbellaw10_same_j2_E0 {R : Type} (K : EX → St → Option R) : Bool → Int → Int → Bool → List (Int × (Int × Int)) → Bool → List Int → Int → Int → Int → Bool → List (Int × (Int × Int)) → Bool → List Int → Int → Int → Option R := fun v0 v1 v2 v3 v4 v5 v6 v7 v8 v9 v10 v11 v12 v13 v14 v15 => K .ret (mkSt 112 [] corbellaw10_same_x2.keep [.ptr 0 0, .ptr 1 0, .bool v0, .int .i64 v1] [.blk [.int .i64 v2, .sl (.pair (.int .i64) (.pair (.int .i64) (.int .i64))) v3 v4, .sl (.int .i64) v5 v6, .int .i64 v7, .int .i64 v8], .blk [.int .i64 v9, .sl (.pair (.int .i64) (.pair (.int .i64) (.int .i64))) v10 v11, .sl (.int .i64) v12 v13, .int .i64 v14, .int .i64 v15]])
def corbellaw10_same_j2_E1 {R : Type} (K : EX → St → Option R) : Int → Int → Bool → List (Int × (Int × Int)) → Bool → List Int → Int → Int → Int → Bool → List (Int × (Int × Int)) → Bool → List Int → Int → Int → Option R := fun v0 v1 v2 v3 v4 v5 v6 v7 v8 v9 v10 v11 v12 v13 v14 => K .normal (mkSt 112 [] corbellaw10_same_x2.keep [.ptr 0 0, .ptr 1 0, .junk, .int .i64 v0] [.blk [.int .i64 v1, .sl (.pair (.int .i64) (.pair (.int .i64) (.int .i64))) v2 v3, .sl (.int .i64) v4 v5, .int .i64 v6, .int .i64 v7], .blk [.int .i64 v8, .sl (.pair (.int .i64) (.pair (.int .i64) (.int .i64))) v9 v10, .sl (.int .i64) v11 v12, .int .i64 v13, .int .i64 v14]])
def corbellaw10_same_j2_S (i_60 : Int) (v_1 : Bool) (ba_61 : Int) (bb_62 : Bool) (bc_63 : List (Int × (Int × Int))) (bd_64 : Bool) (be_65 : List Int) (bf_66 : Int) (bg_67 : Int) (wa_68 : Int) (wb_69 : Bool) (wc_70 : List (Int × (Int × Int))) (wd_71 : Bool) (we_72 : List Int) (wf_73 : Int) (wg_74 : Int) : St := mkSt 112 [] corbellaw10_same_c2.keep [.ptr 0 0, .ptr 1 0, .int .i64 i_60, .bool v_1] [.blk [.int .i64 ba_61, .sl (.pair (.int .i64) (.pair (.int .i64) (.int .i64))) bb_62 bc_63, .sl (.int .i64) bd_64 be_65, .int .i64 bf_66, .int .i64 bg_67], .blk [.int .i64 wa_68, .sl (.pair (.int .i64) (.pair (.int .i64) (.int .i64))) wb_69 wc_70, .sl (.int .i64) wd_71 we_72, .int .i64 wf_73, .int .i64 wg_74]]
def corbellaw10_same_j2_sh : Rd (List AV × List HE) := .pair (.cons (.ptr 0 0) (.cons (.ptr 1 0) (.cons (.int .i64) (.cons .bool Rd.nil)))) (.cons (.blk (.cons (.int .i64) (.cons (.sl (.pair (.int .i64) (.pair (.int .i64) (.int .i64)))) (.cons (.sl (.int .i64)) (.cons (.int .i64) (.cons (.int .i64) Rd.nil)))))) (.cons (.blk (.cons (.int .i64) (.cons (.sl (.pair (.int .i64) (.pair (.int .i64) (.int .i64)))) (.cons (.sl (.int .i64)) (.cons (.int .i64) (.cons (.int .i64) Rd.nil)))))) Rd.nil))
def corbellaw10_same_j2_a {R : Type} (k : Nat) : Alt R := { n := 112, v := [], sh := corbellaw10_same_j2_sh, g := fun K x => corbellaw10_same_j2 (fun y0 => corbellaw10_same_j2_E0 K y0 x.1.2.2.1 x.2.1.1 x.2.1.2.1.1 x.2.1.2.1.2 x.2.1.2.2.1.1 x.2.1.2.2.1.2 x.2.1.2.2.2.1 x.2.1.2.2.2.2.1 x.2.2.1.1 x.2.2.1.2.1.1 x.2.2.1.2.1.2 x.2.2.1.2.2.1.1 x.2.2.1.2.2.1.2 x.2.2.1.2.2.2.1 x.2.2.1.2.2.2.2.1) (corbellaw10_same_j2_E1 K x.1.2.2.1 x.2.1.1 x.2.1.2.1.1 x.2.1.2.1.2 x.2.1.2.2.1.1 x.2.1.2.2.1.2 x.2.1.2.2.2.1 x.2.1.2.2.2.2.1 x.2.2.1.1 x.2.2.1.2.1.1 x.2.2.1.2.1.2 x.2.2.1.2.2.1.1 x.2.2.1.2.2.1.2 x.2.2.1.2.2.2.1 x.2.2.1.2.2.2.2.1) k x.1.2.2.2.1 }
def corbellaw10_same_l3_E0 {R : Type} (K : EX → St → Option R) : Bool → Option R := fun v0 => K .ret (mkSt 112 [] corbellaw10_same_x3.keep [.bool v0] [])
def corbellaw10_same_l3_E1 {R : Type} (K : EX → St → Option R) : Option R := K (.exit 2) (mkSt 112 [] corbellaw10_same_x3.keep [.junk] [])
def corbellaw10_same_l3_S (i_14 : Int) (ba_75 : Int) (bb_76 : Bool) (bc_77 : List (Int × (Int × Int))) (bd_78 : Bool) (be_12 : List Int) (bf_79 : Int) (bg_80 : Int) (wa_81 : Int) (wb_82 : Bool) (wc_83 : List (Int × (Int × Int))) (wd_84 : Bool) (we_13 : List Int) (wf_85 : Int) (wg_86 : Int) : St := mkSt 112 [] corbellaw10_same_c3.keep [.ptr 0 0, .ptr 1 0, .int .i64 i_14] [.blk [.int .i64 ba_75, .sl (.pair (.int .i64) (.pair (.int .i64) (.int .i64))) bb_76 bc_77, .sl (.int .i64) bd_78 be_12, .int .i64 bf_79, .int .i64 bg_80], .blk [.int .i64 wa_81, .sl (.pair (.int .i64) (.pair (.int .i64) (.int .i64))) wb_82 wc_83, .sl (.int .i64) wd_84 we_13, .int .i64 wf_85, .int .i64 wg_86]]
def corbellaw10_same_l3_sh : Rd (List AV × List HE) := .pair (.cons (.ptr 0 0) (.cons (.ptr 1 0) (.cons (.int .i64) Rd.nil))) (.cons (.blk (.cons (.int .i64) (.cons (.sl (.pair (.int .i64) (.pair (.int .i64) (.int .i64)))) (.cons (.sl (.int .i64)) (.cons (.int .i64) (.cons (.int .i64) Rd.nil)))))) (.cons (.blk (.cons (.int .i64) (.cons (.sl (.pair (.int .i64) (.pair (.int .i64) (.int .i64)))) (.cons (.sl (.int .i64)) (.cons (.int .i64) (.cons (.int .i64) Rd.nil)))))) Rd.nil))
def corbellaw10_same_l3_a {R : Type} (k : Nat) : Alt R := { n := 112, v := [], sh := corbellaw10_same_l3_sh, g := fun K x => corbellaw10_same_l3 (corbellaw10_same_l3_E0 K) (corbellaw10_same_l3_E1 K) k x.2.1.2.2.1.2 x.2.2.1.2.2.1.2 k x.1.2.2.1 }
def corbellaw10_same_O {R : Type} (k : Nat) : CutK R := cutsO [[corbellaw10_same_j0_a k], [corbellaw10_same_l1_a k], [corbellaw10_same_j2_a k], [corbellaw10_same_l3_a k]]
noncomputable def corbellaw10_same_b : List Ob := obs (bodyOf Try.f25) corbellaw10_same_h
noncomputable def corbellaw10_same_I {R : Type} (k : Nat) : InlT R := inone
theorem corbellaw10_same_j0_eq {R : Type} (k : Nat) (K : EX → St → Option R) (v_0 : Bool) (ba_34 : Int) (bb_35 : Bool) (bc_36 : List (Int × (Int × Int))) (bd_37 : Bool) (be_38 : List Int) (bf_39 : Int) (bg_40 : Int) (wa_41 : Int) (wb_42 : Bool) (wc_43 : List (Int × (Int × Int))) (wd_44 : Bool) (we_45 : List Int) (wf_46 : Int) (wg_47 : Int) : corbellaw10_same_j0 (fun y0 => corbellaw10_same_j0_E0 K y0 ba_34 bb_35 bc_36 bd_37 be_38 bf_39 bg_40 wa_41 wb_42 wc_43 wd_44 we_45 wf_46 wg_47) (corbellaw10_same_j0_E1 K ba_34 bb_35 bc_36 bd_37 be_38 bf_39 bg_40 wa_41 wb_42 wc_43 wd_44 we_45 wf_46 wg_47) k v_0 = ev tab (corbellaw10_same_F k) (inlK tab (corbellaw10_same_F k) (corbellaw10_same_I k) 0) (corbellaw10_same_O k) (obB corbellaw10_same_b 0) (obH corbellaw10_same_b 0) (corbellaw10_same_j0_S v_0 ba_34 bb_35 bc_36 bd_37 be_38 bf_39 bg_40 wa_41 wb_42 wc_43 wd_44 we_45 wf_46 wg_47) (fun e st => optb (clean corbellaw10_same_x0 st) fun st => K e st) := by kernel_rfl
theorem corbellaw10_same_j0_ok {R : Type} (k : Nat)  : ObOK (R := R) tab (corbellaw10_same_F k) (inlK tab (corbellaw10_same_F k) (corbellaw10_same_I k) 0) (corbellaw10_same_O k) (.join corbellaw10_same_c0 corbellaw10_same_x0 0 (obB corbellaw10_same_b 0) (obH corbellaw10_same_b 0)) :=
  join_ok (l := [corbellaw10_same_j0_a k]) (by kernel_rfl) ⟨(fun K x => (corbellaw10_same_j0_eq k K x.1.2.2.1 x.2.1.1 x.2.1.2.1.1 x.2.1.2.1.2 x.2.1.2.2.1.1 x.2.1.2.2.1.2 x.2.1.2.2.2.1 x.2.1.2.2.2.2.1 x.2.2.1.1 x.2.2.1.2.1.1 x.2.2.1.2.1.2 x.2.2.1.2.2.1.1 x.2.2.1.2.2.1.2 x.2.2.1.2.2.2.1 x.2.2.1.2.2.2.2.1).trans (by kernel_rfl)), trivial⟩
theorem corbellaw10_same_l1_eq {R : Type} (k : Nat) (K : EX → St → Option R) (ba_48 : Int) (bb_49 : Bool) (bc_4 : List (Int × (Int × Int))) (bd_50 : Bool) (be_51 : List Int) (bf_52 : Int) (bg_53 : Int) (wa_54 : Int) (wb_55 : Bool) (wc_5 : List (Int × (Int × Int))) (wd_56 : Bool) (we_57 : List Int) (wf_58 : Int) (wg_59 : Int) : ∀ (j : Nat) (i_3 : Int), corbellaw10_same_l1 (fun y0 => corbellaw10_same_l1_E0 K y0 ba_48 bb_49 bc_4 bd_50 be_51 bf_52 bg_53 wa_54 wb_55 wc_5 wd_56 we_57 wf_58 wg_59) (corbellaw10_same_l1_E1 K ba_48 bb_49 bc_4 bd_50 be_51 bf_52 bg_53 wa_54 wb_55 wc_5 wd_56 we_57 wf_58 wg_59) k bc_4 wc_5 j i_3 = iter corbellaw10_same_c1 corbellaw10_same_x1 (ev tab (corbellaw10_same_F k) (inlK tab (corbellaw10_same_F k) (corbellaw10_same_I k) 0) (corbellaw10_same_O k) (obB corbellaw10_same_b 1) (obH corbellaw10_same_b 1)) j (corbellaw10_same_l1_S i_3 ba_48 bb_49 bc_4 bd_50 be_51 bf_52 bg_53 wa_54 wb_55 wc_5 wd_56 we_57 wf_58 wg_59) K
  | 0, _ => rfl
  | j + 1, i_3 => by
    have e : corbellaw10_same_l1 (fun y0 => corbellaw10_same_l1_E0 K y0 ba_48 bb_49 bc_4 bd_50 be_51 bf_52 bg_53 wa_54 wb_55 wc_5 wd_56 we_57 wf_58 wg_59) (corbellaw10_same_l1_E1 K ba_48 bb_49 bc_4 bd_50 be_51 bf_52 bg_53 wa_54 wb_55 wc_5 wd_56 we_57 wf_58 wg_59) k bc_4 wc_5 j = fun i_3 => iter corbellaw10_same_c1 corbellaw10_same_x1 (ev tab (corbellaw10_same_F k) (inlK tab (corbellaw10_same_F k) (corbellaw10_same_I k) 0) (corbellaw10_same_O k) (obB corbellaw10_same_b 1) (obH corbellaw10_same_b 1)) j (corbellaw10_same_l1_S i_3 ba_48 bb_49 bc_4 bd_50 be_51 bf_52 bg_53 wa_54 wb_55 wc_5 wd_56 we_57 wf_58 wg_59) K := by funext i_3; exact corbellaw10_same_l1_eq k K ba_48 bb_49 bc_4 bd_50 be_51 bf_52 bg_53 wa_54 wb_55 wc_5 wd_56 we_57 wf_58 wg_59 j i_3
    show corbellaw10_same_l1s (corbellaw10_same_l1 (fun y0 => corbellaw10_same_l1_E0 K y0 ba_48 bb_49 bc_4 bd_50 be_51 bf_52 bg_53 wa_54 wb_55 wc_5 wd_56 we_57 wf_58 wg_59) (corbellaw10_same_l1_E1 K ba_48 bb_49 bc_4 bd_50 be_51 bf_52 bg_53 wa_54 wb_55 wc_5 wd_56 we_57 wf_58 wg_59) k bc_4 wc_5 j) (fun y0 => corbellaw10_same_l1_E0 K y0 ba_48 bb_49 bc_4 bd_50 be_51 bf_52 bg_53 wa_54 wb_55 wc_5 wd_56 we_57 wf_58 wg_59) (corbellaw10_same_l1_E1 K ba_48 bb_49 bc_4 bd_50 be_51 bf_52 bg_53 wa_54 wb_55 wc_5 wd_56 we_57 wf_58 wg_59) k bc_4 wc_5 i_3 = _
    rw [e, iter_succ]; kernel_rfl
theorem corbellaw10_same_l1_ok {R : Type} (k : Nat)  : ObOK (R := R) tab (corbellaw10_same_F k) (inlK tab (corbellaw10_same_F k) (corbellaw10_same_I k) 0) (corbellaw10_same_O k) (.loop corbellaw10_same_c1 corbellaw10_same_x1 1 (obB corbellaw10_same_b 1) (obH corbellaw10_same_b 1)) :=
  loop_ok (l := [corbellaw10_same_l1_a k]) (by kernel_rfl) ⟨(fun K x => ⟨k, (corbellaw10_same_l1_eq k K x.2.1.1 x.2.1.2.1.1 x.2.1.2.1.2 x.2.1.2.2.1.1 x.2.1.2.2.1.2 x.2.1.2.2.2.1 x.2.1.2.2.2.2.1 x.2.2.1.1 x.2.2.1.2.1.1 x.2.2.1.2.1.2 x.2.2.1.2.2.1.1 x.2.2.1.2.2.1.2 x.2.2.1.2.2.2.1 x.2.2.1.2.2.2.2.1 k x.1.2.2.1).trans (by kernel_rfl)⟩), trivial⟩
theorem corbellaw10_same_j2_eq {R : Type} (k : Nat) (K : EX → St → Option R) (i_60 : Int) (v_1 : Bool) (ba_61 : Int) (bb_62 : Bool) (bc_63 : List (Int × (Int × Int))) (bd_64 : Bool) (be_65 : List Int) (bf_66 : Int) (bg_67 : Int) (wa_68 : Int) (wb_69 : Bool) (wc_70 : List (Int × (Int × Int))) (wd_71 : Bool) (we_72 : List Int) (wf_73 : Int) (wg_74 : Int) : corbellaw10_same_j2 (fun y0 => corbellaw10_same_j2_E0 K y0 i_60 ba_61 bb_62 bc_63 bd_64 be_65 bf_66 bg_67 wa_68 wb_69 wc_70 wd_71 we_72 wf_73 wg_74) (corbellaw10_same_j2_E1 K i_60 ba_61 bb_62 bc_63 bd_64 be_65 bf_66 bg_67 wa_68 wb_69 wc_70 wd_71 we_72 wf_73 wg_74) k v_1 = ev tab (corbellaw10_same_F k) (inlK tab (corbellaw10_same_F k) (corbellaw10_same_I k) 0) (corbellaw10_same_O k) (obB corbellaw10_same_b 2) (obH corbellaw10_same_b 2) (corbellaw10_same_j2_S i_60 v_1 ba_61 bb_62 bc_63 bd_64 be_65 bf_66 bg_67 wa_68 wb_69 wc_70 wd_71 we_72 wf_73 wg_74) (fun e st => optb (clean corbellaw10_same_x2 st) fun st => K e st) := by kernel_rfl
theorem corbellaw10_same_j2_ok {R : Type} (k : Nat)  : ObOK (R := R) tab (corbellaw10_same_F k) (inlK tab (corbellaw10_same_F k) (corbellaw10_same_I k) 0) (corbellaw10_same_O k) (.join corbellaw10_same_c2 corbellaw10_same_x2 2 (obB corbellaw10_same_b 2) (obH corbellaw10_same_b 2)) :=
  join_ok (l := [corbellaw10_same_j2_a k]) (by kernel_rfl) ⟨(fun K x => (corbellaw10_same_j2_eq k K x.1.2.2.1 x.1.2.2.2.1 x.2.1.1 x.2.1.2.1.1 x.2.1.2.1.2 x.2.1.2.2.1.1 x.2.1.2.2.1.2 x.2.1.2.2.2.1 x.2.1.2.2.2.2.1 x.2.2.1.1 x.2.2.1.2.1.1 x.2.2.1.2.1.2 x.2.2.1.2.2.1.1 x.2.2.1.2.2.1.2 x.2.2.1.2.2.2.1 x.2.2.1.2.2.2.2.1).trans (by kernel_rfl)), trivial⟩
theorem corbellaw10_same_l3_eq {R : Type} (k : Nat) (K : EX → St → Option R) (ba_75 : Int) (bb_76 : Bool) (bc_77 : List (Int × (Int × Int))) (bd_78 : Bool) (be_12 : List Int) (bf_79 : Int) (bg_80 : Int) (wa_81 : Int) (wb_82 : Bool) (wc_83 : List (Int × (Int × Int))) (wd_84 : Bool) (we_13 : List Int) (wf_85 : Int) (wg_86 : Int) : ∀ (j : Nat) (i_14 : Int), corbellaw10_same_l3 (corbellaw10_same_l3_E0 K) (corbellaw10_same_l3_E1 K) k be_12 we_13 j i_14 = iter corbellaw10_same_c3 corbellaw10_same_x3 (ev tab (corbellaw10_same_F k) (inlK tab (corbellaw10_same_F k) (corbellaw10_same_I k) 0) (corbellaw10_same_O k) (obB corbellaw10_same_b 3) (obH corbellaw10_same_b 3)) j (corbellaw10_same_l3_S i_14 ba_75 bb_76 bc_77 bd_78 be_12 bf_79 bg_80 wa_81 wb_82 wc_83 wd_84 we_13 wf_85 wg_86) K
  | 0, _ => rfl
  | j + 1, i_14 => by
    have e : corbellaw10_same_l3 (corbellaw10_same_l3_E0 K) (corbellaw10_same_l3_E1 K) k be_12 we_13 j = fun i_14 => iter corbellaw10_same_c3 corbellaw10_same_x3 (ev tab (corbellaw10_same_F k) (inlK tab (corbellaw10_same_F k) (corbellaw10_same_I k) 0) (corbellaw10_same_O k) (obB corbellaw10_same_b 3) (obH corbellaw10_same_b 3)) j (corbellaw10_same_l3_S i_14 ba_75 bb_76 bc_77 bd_78 be_12 bf_79 bg_80 wa_81 wb_82 wc_83 wd_84 we_13 wf_85 wg_86) K := by funext i_14; exact corbellaw10_same_l3_eq k K ba_75 bb_76 bc_77 bd_78 be_12 bf_79 bg_80 wa_81 wb_82 wc_83 wd_84 we_13 wf_85 wg_86 j i_14
    show corbellaw10_same_l3s (corbellaw10_same_l3 (corbellaw10_same_l3_E0 K) (corbellaw10_same_l3_E1 K) k be_12 we_13 j) (corbellaw10_same_l3_E0 K) (corbellaw10_same_l3_E1 K) k be_12 we_13 i_14 = _
    rw [e, iter_succ]; kernel_rfl
theorem corbellaw10_same_l3_ok {R : Type} (k : Nat)  : ObOK (R := R) tab (corbellaw10_same_F k) (inlK tab (corbellaw10_same_F k) (corbellaw10_same_I k) 0) (corbellaw10_same_O k) (.loop corbellaw10_same_c3 corbellaw10_same_x3 3 (obB corbellaw10_same_b 3) (obH corbellaw10_same_b 3)) :=
  loop_ok (l := [corbellaw10_same_l3_a k]) (by kernel_rfl) ⟨(fun K x => ⟨k, (corbellaw10_same_l3_eq k K x.2.1.1 x.2.1.2.1.1 x.2.1.2.1.2 x.2.1.2.2.1.1 x.2.1.2.2.1.2 x.2.1.2.2.2.1 x.2.1.2.2.2.2.1 x.2.2.1.1 x.2.2.1.2.1.1 x.2.2.1.2.1.2 x.2.2.1.2.2.1.1 x.2.2.1.2.2.1.2 x.2.2.1.2.2.2.1 x.2.2.1.2.2.2.2.1 k x.1.2.2.1).trans (by kernel_rfl)⟩), trivial⟩
theorem corbellaw10_same_cuts {R : Type} (k : Nat) : ∀ c, Try.f25.body = some c → CutsOK (R := R) tab (corbellaw10_same_F k) (inlK tab (corbellaw10_same_F k) (corbellaw10_same_I k) 0) (corbellaw10_same_O k) c corbellaw10_same_h :=
  cuts_of (l := [.join corbellaw10_same_c0 corbellaw10_same_x0 0 (obB corbellaw10_same_b 0) (obH corbellaw10_same_b 0), .loop corbellaw10_same_c1 corbellaw10_same_x1 1 (obB corbellaw10_same_b 1) (obH corbellaw10_same_b 1), .join corbellaw10_same_c2 corbellaw10_same_x2 2 (obB corbellaw10_same_b 2) (obH corbellaw10_same_b 2), .loop corbellaw10_same_c3 corbellaw10_same_x3 3 (obB corbellaw10_same_b 3) (obH corbellaw10_same_b 3)]) (by kernel_rfl) ⟨corbellaw10_same_j0_ok k, corbellaw10_same_l1_ok k, corbellaw10_same_j2_ok k, corbellaw10_same_l3_ok k, trivial⟩
theorem corbellaw10_same_iok {R : Type} (k : Nat) : IOK Try.prog tab (corbellaw10_same_F k) (corbellaw10_same_I (R := R) k) := iok_none
theorem corbellaw10_same_ev (k : Nat) (x : (corbellaw10_same_p k).τ.den) : evalF tab (corbellaw10_same_F k) (corbellaw10_same_p k) (corbellaw10_same_I k) 0 (corbellaw10_same_O k) corbellaw10_same_h Try.f25 x = (corbellaw10_same_p k).f x := by kernel_rfl
theorem corbellaw10_same_ok (k : Nat) : PFOK Try.prog tab 25 (corbellaw10_same_p k) := pfok mixed tabOK (corbellaw10_same_fok k) Try.func25 (I := corbellaw10_same_I k) (d := 0) (corbellaw10_same_iok k) (Q := corbellaw10_same_O k) (hi := corbellaw10_same_h) (corbellaw10_same_cuts k) (corbellaw10_same_ev k)
end Go.Proofs.Ytbaikphpohdmoaa.Ev
