/- corbellaw23_JudgeScripts, told on plain data. Written by program. -/
import Derived.Test.YtiolpmgphkakeaaEcorbellaw23_speaks
import Derived.Test.YtiolpmgphkakeaaExor_Zero
import Derived.Test.YtiolpmgphkakeaaEslices_Repeat
import Derived.Test.YtiolpmgphkakeaaEstrings_Repeat
import Derived.Test.YtiolpmgphkakeaaEslices_Clone
import Derived.Test.YtiolpmgphkakeaaEcorbelref23_Text
import Derived.Test.YtiolpmgphkakeaaEstrings_Join
import Derived.Test.YtiolpmgphkakeaaEcorbellaw23_text
set_option linter.unusedVariables false
set_option maxRecDepth 1000000
namespace Go.Proofs.Ytiolpmgphkakeaa.Ev
open Go Go.RowKit Go.Proofs
noncomputable def JS_j2 {R : Type} (e0 : Bool → Option R) (k : Nat) (e_0 : Int) : Option R :=
  bif (!((decide (e_0 = (0 : Int))) == false)) then
    none
  else e0 (decide (e_0 = (1 : Int)))
noncomputable def JS_i15_0_l0s {R : Type} (rc : Int → List ByteArray → Option R) (e0 : List ByteArray → Option R) (k : Nat) (size_1 : Int) (i_2 : Int) (j_3 : List ByteArray) : Option R :=
  bif (decide (i_2 < size_1)) then
    let z_4 := (List.replicate (64 : Int).toNat (Ty.zero (.int .u8)))
    bif (decide (j_3.length + ([(bytesOf z_4)] : List ByteArray).length ≤ 1099511627776)) then
      rc (wrap64 (i_2 + (1 : Int))) (j_3 ++ ([(bytesOf z_4)] : List ByteArray))
    else none
  else e0 j_3
noncomputable def JS_i15_0_l0 {R : Type} (e0 : List ByteArray → Option R) (k : Nat) (size_1 : Int) : Nat → Int → List ByteArray → Option R
  | 0 => fun _ _ => none
  | j + 1 => JS_i15_0_l0s (JS_i15_0_l0 e0 k size_1 j) e0 k size_1
noncomputable def JS_j2b {R : Type} (k : Nat) (e_5 : Int) : Option R :=
  bif (!((decide (e_5 = (0 : Int))) == true)) then
    none
  else none
noncomputable def JS_k0 {R : Type} (e0 : Bool → Option R) (k : Nat) : Bool → Option R := fun v_6 =>
  e0 v_6
noncomputable def JS_j1 {R : Type} (e0 : Bool → Option R) (k : Nat) (size_7 : Int) (e_8 : Int) : Option R :=
  bif (decide (size_7 < (1 : Int))) then
    JS_j2 (JS_k0 e0 k) k e_8
  else bif (decide ((65536 : Int) < size_7)) then
    JS_j2 (JS_k0 e0 k) k e_8
  else JS_i15_0_l0 (fun j_9 =>
    JS_j2b k e_8) k size_7 k (0 : Int) ([] : List ByteArray)
noncomputable def JS_j2c {R : Type} (k : Nat) (e_10 : Int) : Option R :=
  bif (!((decide (e_10 = (0 : Int))) == false)) then
    none
  else none
noncomputable def JS_i15_3_l0s {R : Type} (rc : Int → List ByteArray → Option R) (e0 : List ByteArray → Option R) (k : Nat) (size_11 : Int) (i_12 : Int) (j_13 : List ByteArray) : Option R :=
  bif (decide (i_12 < size_11)) then
    let z_14 := (List.replicate (64 : Int).toNat (Ty.zero (.int .u8)))
    bif (decide (j_13.length + ([(bytesOf z_14)] : List ByteArray).length ≤ 1099511627776)) then
      rc (wrap64 (i_12 + (1 : Int))) (j_13 ++ ([(bytesOf z_14)] : List ByteArray))
    else none
  else e0 j_13
noncomputable def JS_i15_3_l0 {R : Type} (e0 : List ByteArray → Option R) (k : Nat) (size_11 : Int) : Nat → Int → List ByteArray → Option R
  | 0 => fun _ _ => none
  | j + 1 => JS_i15_3_l0s (JS_i15_3_l0 e0 k size_11 j) e0 k size_11
noncomputable def JS_i17_9_j0 {R : Type} (e0 : Int → Option R) (e1 : Option R) (k : Nat) (v_15 : Bool) : Option R :=
  bif v_15 then
    e0 (2 : Int)
  else e1
noncomputable def JS_i17_9_l1s {R : Type} (rc : Int → List (Int × ByteArray) → Option R) (e0 : List (Int × ByteArray) → Option R) (k : Nat) (block_16 : Int) (data_17 : ByteArray) (i_18 : Int) (j_19 : List (Int × ByteArray)) : Option R :=
  bif (decide ((wrap64 ((64 : Int) * i_18)) < (sizeI data_17))) then
    let z_20 := (wrap64 ((wrap64 ((64 : Int) * i_18)) + (64 : Int)))
    bif (((decide ((0 : Int) ≤ (wrap64 ((64 : Int) * i_18)))) && (decide ((wrap64 ((64 : Int) * i_18)) ≤ z_20))) && (decide (z_20 ≤ (sizeI data_17)))) then
      let z_21 := (data_17.extract (wrap64 ((64 : Int) * i_18)).toNat z_20.toNat)
      bif (decide (j_19.length + ([((wrap64 (block_16 + i_18)), z_21)] : List (Int × ByteArray)).length ≤ 1099511627776)) then
        rc (wrap64 (i_18 + (1 : Int))) (j_19 ++ ([((wrap64 (block_16 + i_18)), z_21)] : List (Int × ByteArray)))
      else none
    else none
  else e0 j_19
noncomputable def JS_i17_9_l1 {R : Type} (e0 : List (Int × ByteArray) → Option R) (k : Nat) (block_16 : Int) (data_17 : ByteArray) : Nat → Int → List (Int × ByteArray) → Option R
  | 0 => fun _ _ => none
  | j + 1 => JS_i17_9_l1s (JS_i17_9_l1 e0 k block_16 data_17 j) e0 k block_16 data_17
noncomputable def JS_j5 {R : Type} (e0 : Int → List (Int × ByteArray) → Option R) (k : Nat) (f_22 : Int) (v_23 : Bool) (w_24 : List ByteArray) (w_25 : List (Int × ByteArray)) (ab_26 : Int) (ac_27 : Int) : Option R :=
  bif v_23 then
    bif (((decide ((0 : Int) ≤ (wrap64 ((64 : Int) * ac_27)))) && (decide ((wrap64 ((64 : Int) * ac_27)) ≤ (wrap64 ((64 : Int) * ac_27))))) && (decide ((wrap64 ((64 : Int) * ac_27)) ≤ (1099511627776 : Int)))) then
      let z_28 := (List.replicate (wrap64 ((64 : Int) * ac_27)).toNat (Ty.zero (.int .u8)))
      bif (!(decide ((Int.tmod (sizeI (bytesOf z_28)) (64 : Int)) = (0 : Int)))) then
        e0 (1 : Int) w_25
      else let z_29 := (wrap64 (Int.tdiv (sizeI (bytesOf z_28)) (64 : Int)))
      bif (decide ((0 : Int) ≤ ab_26)) then
        bif (decide ((1 : Int) ≤ z_29)) then
          bif (decide (ab_26 ≤ (lenI w_24))) then
            JS_i17_9_j0 (fun v_30 =>
              e0 v_30 w_25) (JS_i17_9_l1 (fun h_31 =>
                e0 (0 : Int) h_31) k ab_26 (bytesOf z_28) k (0 : Int) w_25) k (!(decide (z_29 ≤ (wrap64 ((lenI w_24) - ab_26)))))
          else JS_i17_9_j0 (fun v_32 =>
            e0 v_32 w_25) (JS_i17_9_l1 (fun h_33 =>
              e0 (0 : Int) h_33) k ab_26 (bytesOf z_28) k (0 : Int) w_25) k true
        else JS_i17_9_j0 (fun v_34 =>
          e0 v_34 w_25) (JS_i17_9_l1 (fun h_35 =>
            e0 (0 : Int) h_35) k ab_26 (bytesOf z_28) k (0 : Int) w_25) k true
      else JS_i17_9_j0 (fun v_36 =>
        e0 v_36 w_25) (JS_i17_9_l1 (fun h_37 =>
          e0 (0 : Int) h_37) k ab_26 (bytesOf z_28) k (0 : Int) w_25) k true
    else none
  else e0 f_22 w_25
noncomputable def JS_i18_8_j0 {R : Type} (e0 : Option R) (e1 : Option R) (k : Nat) (e_38 : Int) : Option R :=
  bif (!(decide (e_38 = (0 : Int)))) then
    e0
  else e1
noncomputable def JS_j7 {R : Type} (e0 : Bool → Option R) (e1 : Option R) (k : Nat) (v_39 : Bool) : Option R :=
  bif v_39 then
    e0 false
  else e1
noncomputable def JS_i10_8_j0 {R : Type} (e0 : Option R) (e1 : Option R) (k : Nat) (e_40 : Int) : Option R :=
  bif (!(decide (e_40 = (0 : Int)))) then
    e0
  else e1
noncomputable def JS_i10_8_l1s {R : Type} (rc : Int → ByteArray → List (Int × ByteArray) → Option R) (e0 : List (Int × ByteArray) → Option R) (k : Nat) (block_41 : Int) (data_42 : ByteArray) (j_43 : List (Int × ByteArray)) : Option R :=
  bif (!(decide (data_42 = (⟨#[]⟩ : ByteArray)))) then
    bif (decide ((64 : Int) ≤ (sizeI data_42))) then
      let z_44 := (data_42.extract (0 : Int).toNat (64 : Int).toNat)
      bif (decide (j_43.length + ([(block_41, z_44)] : List (Int × ByteArray)).length ≤ 1099511627776)) then
        bif ((decide ((64 : Int) ≤ (sizeI data_42))) && (decide ((sizeI data_42) ≤ (sizeI data_42)))) then
          rc (wrap64 (block_41 + (1 : Int))) (data_42.extract (64 : Int).toNat (sizeI data_42).toNat) (j_43 ++ ([(block_41, z_44)] : List (Int × ByteArray)))
        else none
      else none
    else none
  else e0 j_43
noncomputable def JS_i10_8_l1 {R : Type} (e0 : List (Int × ByteArray) → Option R) (k : Nat) : Nat → Int → ByteArray → List (Int × ByteArray) → Option R
  | 0 => fun _ _ _ => none
  | j + 1 => JS_i10_8_l1s (JS_i10_8_l1 e0 k j) e0 k
noncomputable def JS_k3 {R : Type} (e0 : Bool → List (Int × ByteArray) → Option R) (e1 : List (Int × ByteArray) → Option R) (k : Nat) : Bool → List (Int × ByteArray) → Option R := fun v_45 j_46 =>
  e0 v_45 j_46
noncomputable def JS_k4 {R : Type} (e0 : Bool → List (Int × ByteArray) → Option R) (e1 : List (Int × ByteArray) → Option R) (k : Nat) : List (Int × ByteArray) → Option R := fun j_47 =>
  e1 j_47
noncomputable def JS_j6 {R : Type} (e0 : Bool → List (Int × ByteArray) → Option R) (e1 : List (Int × ByteArray) → Option R) (k : Nat) (f_48 : Int) (h_49 : List ByteArray) (ab_50 : Int) (ac_51 : Int) (j_52 : List (Int × ByteArray)) : Option R :=
  bif (decide (ab_50 < (0 : Int))) then
    JS_i18_8_j0 (JS_j7 (fun v_45 => JS_k3 e0 e1 k v_45 j_52) (JS_k4 e0 e1 k j_52) k (!(decide ((2 : Int) = f_48)))) (optb (xor_Zero k (64 : Int)) fun r_53 =>
      optb (strings_Repeat k r_53 ac_51) fun r_54 =>
      bif (!(decide ((Int.tmod (sizeI r_54) (64 : Int)) = (0 : Int)))) then
        JS_j7 (fun v_45 => JS_k3 e0 e1 k v_45 j_52) (JS_k4 e0 e1 k j_52) k (!(decide ((1 : Int) = f_48)))
      else let z_55 := (wrap64 (Int.tdiv (sizeI r_54) (64 : Int)))
      bif (decide (ab_50 < (0 : Int))) then
        JS_i10_8_j0 (JS_j7 (fun v_45 => JS_k3 e0 e1 k v_45 j_52) (JS_k4 e0 e1 k j_52) k (!(decide ((2 : Int) = f_48)))) (JS_i10_8_l1 (fun h_56 =>
            JS_j7 (fun v_45 => JS_k3 e0 e1 k v_45 h_56) (JS_k4 e0 e1 k h_56) k (!(decide ((0 : Int) = f_48)))) k k ab_50 r_54 j_52) k (2 : Int)
      else bif (decide (z_55 < (1 : Int))) then
        JS_i10_8_j0 (JS_j7 (fun v_45 => JS_k3 e0 e1 k v_45 j_52) (JS_k4 e0 e1 k j_52) k (!(decide ((2 : Int) = f_48)))) (JS_i10_8_l1 (fun h_57 =>
            JS_j7 (fun v_45 => JS_k3 e0 e1 k v_45 h_57) (JS_k4 e0 e1 k h_57) k (!(decide ((0 : Int) = f_48)))) k k ab_50 r_54 j_52) k (2 : Int)
      else bif (decide ((lenI h_49) < ab_50)) then
        JS_i10_8_j0 (JS_j7 (fun v_45 => JS_k3 e0 e1 k v_45 j_52) (JS_k4 e0 e1 k j_52) k (!(decide ((2 : Int) = f_48)))) (JS_i10_8_l1 (fun h_58 =>
            JS_j7 (fun v_45 => JS_k3 e0 e1 k v_45 h_58) (JS_k4 e0 e1 k h_58) k (!(decide ((0 : Int) = f_48)))) k k ab_50 r_54 j_52) k (2 : Int)
      else bif (decide ((wrap64 ((lenI h_49) - ab_50)) < z_55)) then
        JS_i10_8_j0 (JS_j7 (fun v_45 => JS_k3 e0 e1 k v_45 j_52) (JS_k4 e0 e1 k j_52) k (!(decide ((2 : Int) = f_48)))) (JS_i10_8_l1 (fun h_59 =>
            JS_j7 (fun v_45 => JS_k3 e0 e1 k v_45 h_59) (JS_k4 e0 e1 k h_59) k (!(decide ((0 : Int) = f_48)))) k k ab_50 r_54 j_52) k (2 : Int)
      else JS_i10_8_j0 (JS_j7 (fun v_45 => JS_k3 e0 e1 k v_45 j_52) (JS_k4 e0 e1 k j_52) k (!(decide ((0 : Int) = f_48)))) (JS_i10_8_l1 (fun h_60 =>
          JS_j7 (fun v_45 => JS_k3 e0 e1 k v_45 h_60) (JS_k4 e0 e1 k h_60) k (!(decide ((0 : Int) = f_48)))) k k ab_50 r_54 j_52) k (0 : Int)) k (2 : Int)
  else bif (decide (ac_51 < (1 : Int))) then
    JS_i18_8_j0 (JS_j7 (fun v_45 => JS_k3 e0 e1 k v_45 j_52) (JS_k4 e0 e1 k j_52) k (!(decide ((2 : Int) = f_48)))) (optb (xor_Zero k (64 : Int)) fun r_61 =>
      optb (strings_Repeat k r_61 ac_51) fun r_62 =>
      bif (!(decide ((Int.tmod (sizeI r_62) (64 : Int)) = (0 : Int)))) then
        JS_j7 (fun v_45 => JS_k3 e0 e1 k v_45 j_52) (JS_k4 e0 e1 k j_52) k (!(decide ((1 : Int) = f_48)))
      else let z_63 := (wrap64 (Int.tdiv (sizeI r_62) (64 : Int)))
      bif (decide (ab_50 < (0 : Int))) then
        JS_i10_8_j0 (JS_j7 (fun v_45 => JS_k3 e0 e1 k v_45 j_52) (JS_k4 e0 e1 k j_52) k (!(decide ((2 : Int) = f_48)))) (JS_i10_8_l1 (fun h_64 =>
            JS_j7 (fun v_45 => JS_k3 e0 e1 k v_45 h_64) (JS_k4 e0 e1 k h_64) k (!(decide ((0 : Int) = f_48)))) k k ab_50 r_62 j_52) k (2 : Int)
      else bif (decide (z_63 < (1 : Int))) then
        JS_i10_8_j0 (JS_j7 (fun v_45 => JS_k3 e0 e1 k v_45 j_52) (JS_k4 e0 e1 k j_52) k (!(decide ((2 : Int) = f_48)))) (JS_i10_8_l1 (fun h_65 =>
            JS_j7 (fun v_45 => JS_k3 e0 e1 k v_45 h_65) (JS_k4 e0 e1 k h_65) k (!(decide ((0 : Int) = f_48)))) k k ab_50 r_62 j_52) k (2 : Int)
      else bif (decide ((lenI h_49) < ab_50)) then
        JS_i10_8_j0 (JS_j7 (fun v_45 => JS_k3 e0 e1 k v_45 j_52) (JS_k4 e0 e1 k j_52) k (!(decide ((2 : Int) = f_48)))) (JS_i10_8_l1 (fun h_66 =>
            JS_j7 (fun v_45 => JS_k3 e0 e1 k v_45 h_66) (JS_k4 e0 e1 k h_66) k (!(decide ((0 : Int) = f_48)))) k k ab_50 r_62 j_52) k (2 : Int)
      else bif (decide ((wrap64 ((lenI h_49) - ab_50)) < z_63)) then
        JS_i10_8_j0 (JS_j7 (fun v_45 => JS_k3 e0 e1 k v_45 j_52) (JS_k4 e0 e1 k j_52) k (!(decide ((2 : Int) = f_48)))) (JS_i10_8_l1 (fun h_67 =>
            JS_j7 (fun v_45 => JS_k3 e0 e1 k v_45 h_67) (JS_k4 e0 e1 k h_67) k (!(decide ((0 : Int) = f_48)))) k k ab_50 r_62 j_52) k (2 : Int)
      else JS_i10_8_j0 (JS_j7 (fun v_45 => JS_k3 e0 e1 k v_45 j_52) (JS_k4 e0 e1 k j_52) k (!(decide ((0 : Int) = f_48)))) (JS_i10_8_l1 (fun h_68 =>
          JS_j7 (fun v_45 => JS_k3 e0 e1 k v_45 h_68) (JS_k4 e0 e1 k h_68) k (!(decide ((0 : Int) = f_48)))) k k ab_50 r_62 j_52) k (0 : Int)) k (2 : Int)
  else bif (decide ((lenI h_49) < ab_50)) then
    JS_i18_8_j0 (JS_j7 (fun v_45 => JS_k3 e0 e1 k v_45 j_52) (JS_k4 e0 e1 k j_52) k (!(decide ((2 : Int) = f_48)))) (optb (xor_Zero k (64 : Int)) fun r_69 =>
      optb (strings_Repeat k r_69 ac_51) fun r_70 =>
      bif (!(decide ((Int.tmod (sizeI r_70) (64 : Int)) = (0 : Int)))) then
        JS_j7 (fun v_45 => JS_k3 e0 e1 k v_45 j_52) (JS_k4 e0 e1 k j_52) k (!(decide ((1 : Int) = f_48)))
      else let z_71 := (wrap64 (Int.tdiv (sizeI r_70) (64 : Int)))
      bif (decide (ab_50 < (0 : Int))) then
        JS_i10_8_j0 (JS_j7 (fun v_45 => JS_k3 e0 e1 k v_45 j_52) (JS_k4 e0 e1 k j_52) k (!(decide ((2 : Int) = f_48)))) (JS_i10_8_l1 (fun h_72 =>
            JS_j7 (fun v_45 => JS_k3 e0 e1 k v_45 h_72) (JS_k4 e0 e1 k h_72) k (!(decide ((0 : Int) = f_48)))) k k ab_50 r_70 j_52) k (2 : Int)
      else bif (decide (z_71 < (1 : Int))) then
        JS_i10_8_j0 (JS_j7 (fun v_45 => JS_k3 e0 e1 k v_45 j_52) (JS_k4 e0 e1 k j_52) k (!(decide ((2 : Int) = f_48)))) (JS_i10_8_l1 (fun h_73 =>
            JS_j7 (fun v_45 => JS_k3 e0 e1 k v_45 h_73) (JS_k4 e0 e1 k h_73) k (!(decide ((0 : Int) = f_48)))) k k ab_50 r_70 j_52) k (2 : Int)
      else bif (decide ((lenI h_49) < ab_50)) then
        JS_i10_8_j0 (JS_j7 (fun v_45 => JS_k3 e0 e1 k v_45 j_52) (JS_k4 e0 e1 k j_52) k (!(decide ((2 : Int) = f_48)))) (JS_i10_8_l1 (fun h_74 =>
            JS_j7 (fun v_45 => JS_k3 e0 e1 k v_45 h_74) (JS_k4 e0 e1 k h_74) k (!(decide ((0 : Int) = f_48)))) k k ab_50 r_70 j_52) k (2 : Int)
      else bif (decide ((wrap64 ((lenI h_49) - ab_50)) < z_71)) then
        JS_i10_8_j0 (JS_j7 (fun v_45 => JS_k3 e0 e1 k v_45 j_52) (JS_k4 e0 e1 k j_52) k (!(decide ((2 : Int) = f_48)))) (JS_i10_8_l1 (fun h_75 =>
            JS_j7 (fun v_45 => JS_k3 e0 e1 k v_45 h_75) (JS_k4 e0 e1 k h_75) k (!(decide ((0 : Int) = f_48)))) k k ab_50 r_70 j_52) k (2 : Int)
      else JS_i10_8_j0 (JS_j7 (fun v_45 => JS_k3 e0 e1 k v_45 j_52) (JS_k4 e0 e1 k j_52) k (!(decide ((0 : Int) = f_48)))) (JS_i10_8_l1 (fun h_76 =>
          JS_j7 (fun v_45 => JS_k3 e0 e1 k v_45 h_76) (JS_k4 e0 e1 k h_76) k (!(decide ((0 : Int) = f_48)))) k k ab_50 r_70 j_52) k (0 : Int)) k (2 : Int)
  else bif (decide ((wrap64 ((lenI h_49) - ab_50)) < ac_51)) then
    JS_i18_8_j0 (JS_j7 (fun v_45 => JS_k3 e0 e1 k v_45 j_52) (JS_k4 e0 e1 k j_52) k (!(decide ((2 : Int) = f_48)))) (optb (xor_Zero k (64 : Int)) fun r_77 =>
      optb (strings_Repeat k r_77 ac_51) fun r_78 =>
      bif (!(decide ((Int.tmod (sizeI r_78) (64 : Int)) = (0 : Int)))) then
        JS_j7 (fun v_45 => JS_k3 e0 e1 k v_45 j_52) (JS_k4 e0 e1 k j_52) k (!(decide ((1 : Int) = f_48)))
      else let z_79 := (wrap64 (Int.tdiv (sizeI r_78) (64 : Int)))
      bif (decide (ab_50 < (0 : Int))) then
        JS_i10_8_j0 (JS_j7 (fun v_45 => JS_k3 e0 e1 k v_45 j_52) (JS_k4 e0 e1 k j_52) k (!(decide ((2 : Int) = f_48)))) (JS_i10_8_l1 (fun h_80 =>
            JS_j7 (fun v_45 => JS_k3 e0 e1 k v_45 h_80) (JS_k4 e0 e1 k h_80) k (!(decide ((0 : Int) = f_48)))) k k ab_50 r_78 j_52) k (2 : Int)
      else bif (decide (z_79 < (1 : Int))) then
        JS_i10_8_j0 (JS_j7 (fun v_45 => JS_k3 e0 e1 k v_45 j_52) (JS_k4 e0 e1 k j_52) k (!(decide ((2 : Int) = f_48)))) (JS_i10_8_l1 (fun h_81 =>
            JS_j7 (fun v_45 => JS_k3 e0 e1 k v_45 h_81) (JS_k4 e0 e1 k h_81) k (!(decide ((0 : Int) = f_48)))) k k ab_50 r_78 j_52) k (2 : Int)
      else bif (decide ((lenI h_49) < ab_50)) then
        JS_i10_8_j0 (JS_j7 (fun v_45 => JS_k3 e0 e1 k v_45 j_52) (JS_k4 e0 e1 k j_52) k (!(decide ((2 : Int) = f_48)))) (JS_i10_8_l1 (fun h_82 =>
            JS_j7 (fun v_45 => JS_k3 e0 e1 k v_45 h_82) (JS_k4 e0 e1 k h_82) k (!(decide ((0 : Int) = f_48)))) k k ab_50 r_78 j_52) k (2 : Int)
      else bif (decide ((wrap64 ((lenI h_49) - ab_50)) < z_79)) then
        JS_i10_8_j0 (JS_j7 (fun v_45 => JS_k3 e0 e1 k v_45 j_52) (JS_k4 e0 e1 k j_52) k (!(decide ((2 : Int) = f_48)))) (JS_i10_8_l1 (fun h_83 =>
            JS_j7 (fun v_45 => JS_k3 e0 e1 k v_45 h_83) (JS_k4 e0 e1 k h_83) k (!(decide ((0 : Int) = f_48)))) k k ab_50 r_78 j_52) k (2 : Int)
      else JS_i10_8_j0 (JS_j7 (fun v_45 => JS_k3 e0 e1 k v_45 j_52) (JS_k4 e0 e1 k j_52) k (!(decide ((0 : Int) = f_48)))) (JS_i10_8_l1 (fun h_84 =>
          JS_j7 (fun v_45 => JS_k3 e0 e1 k v_45 h_84) (JS_k4 e0 e1 k h_84) k (!(decide ((0 : Int) = f_48)))) k k ab_50 r_78 j_52) k (0 : Int)) k (2 : Int)
  else JS_i18_8_j0 (JS_j7 (fun v_45 => JS_k3 e0 e1 k v_45 j_52) (JS_k4 e0 e1 k j_52) k (!(decide ((0 : Int) = f_48)))) (optb (xor_Zero k (64 : Int)) fun r_85 =>
    optb (strings_Repeat k r_85 ac_51) fun r_86 =>
    bif (!(decide ((Int.tmod (sizeI r_86) (64 : Int)) = (0 : Int)))) then
      JS_j7 (fun v_45 => JS_k3 e0 e1 k v_45 j_52) (JS_k4 e0 e1 k j_52) k (!(decide ((1 : Int) = f_48)))
    else let z_87 := (wrap64 (Int.tdiv (sizeI r_86) (64 : Int)))
    bif (decide (ab_50 < (0 : Int))) then
      JS_i10_8_j0 (JS_j7 (fun v_45 => JS_k3 e0 e1 k v_45 j_52) (JS_k4 e0 e1 k j_52) k (!(decide ((2 : Int) = f_48)))) (JS_i10_8_l1 (fun h_88 =>
          JS_j7 (fun v_45 => JS_k3 e0 e1 k v_45 h_88) (JS_k4 e0 e1 k h_88) k (!(decide ((0 : Int) = f_48)))) k k ab_50 r_86 j_52) k (2 : Int)
    else bif (decide (z_87 < (1 : Int))) then
      JS_i10_8_j0 (JS_j7 (fun v_45 => JS_k3 e0 e1 k v_45 j_52) (JS_k4 e0 e1 k j_52) k (!(decide ((2 : Int) = f_48)))) (JS_i10_8_l1 (fun h_89 =>
          JS_j7 (fun v_45 => JS_k3 e0 e1 k v_45 h_89) (JS_k4 e0 e1 k h_89) k (!(decide ((0 : Int) = f_48)))) k k ab_50 r_86 j_52) k (2 : Int)
    else bif (decide ((lenI h_49) < ab_50)) then
      JS_i10_8_j0 (JS_j7 (fun v_45 => JS_k3 e0 e1 k v_45 j_52) (JS_k4 e0 e1 k j_52) k (!(decide ((2 : Int) = f_48)))) (JS_i10_8_l1 (fun h_90 =>
          JS_j7 (fun v_45 => JS_k3 e0 e1 k v_45 h_90) (JS_k4 e0 e1 k h_90) k (!(decide ((0 : Int) = f_48)))) k k ab_50 r_86 j_52) k (2 : Int)
    else bif (decide ((wrap64 ((lenI h_49) - ab_50)) < z_87)) then
      JS_i10_8_j0 (JS_j7 (fun v_45 => JS_k3 e0 e1 k v_45 j_52) (JS_k4 e0 e1 k j_52) k (!(decide ((2 : Int) = f_48)))) (JS_i10_8_l1 (fun h_91 =>
          JS_j7 (fun v_45 => JS_k3 e0 e1 k v_45 h_91) (JS_k4 e0 e1 k h_91) k (!(decide ((0 : Int) = f_48)))) k k ab_50 r_86 j_52) k (2 : Int)
    else JS_i10_8_j0 (JS_j7 (fun v_45 => JS_k3 e0 e1 k v_45 j_52) (JS_k4 e0 e1 k j_52) k (!(decide ((0 : Int) = f_48)))) (JS_i10_8_l1 (fun h_92 =>
        JS_j7 (fun v_45 => JS_k3 e0 e1 k v_45 h_92) (JS_k4 e0 e1 k h_92) k (!(decide ((0 : Int) = f_48)))) k k ab_50 r_86 j_52) k (0 : Int)) k (0 : Int)
noncomputable def JS_k2 {R : Type} (e0 : Bool → List (Int × ByteArray) → List (Int × ByteArray) → Option R) (e1 : List (Int × ByteArray) → List (Int × ByteArray) → Option R) (k : Nat) (ab_93 : Int) (ac_94 : Int) (h_95 : List ByteArray) (j_96 : List (Int × ByteArray)) : Int → List (Int × ByteArray) → Option R := fun f_97 w_98 =>
  JS_j6 (fun v_99 j_100 =>
    e0 v_99 j_100 w_98) (fun j_101 =>
    e1 j_101 w_98) k f_97 h_95 ab_93 ac_94 j_96
noncomputable def JS_j4 {R : Type} (e0 : Bool → List (Int × ByteArray) → List (Int × ByteArray) → Option R) (e1 : List (Int × ByteArray) → List (Int × ByteArray) → Option R) (k : Nat) (f_102 : Int) (h_95 : List ByteArray) (w_103 : List ByteArray) (w_104 : List (Int × ByteArray)) (j_96 : List (Int × ByteArray)) (ab_93 : Int) (ac_94 : Int) : Option R :=
  bif (decide ((0 : Int) ≤ ab_93)) then
    bif (decide ((1 : Int) ≤ ac_94)) then
      bif (decide (ab_93 ≤ (lenI w_103))) then
        JS_j5 (JS_k2 e0 e1 k ab_93 ac_94 h_95 j_96) k f_102 (decide (ac_94 ≤ (wrap64 ((lenI w_103) - ab_93)))) w_103 w_104 ab_93 ac_94
      else JS_j5 (JS_k2 e0 e1 k ab_93 ac_94 h_95 j_96) k f_102 false w_103 w_104 ab_93 ac_94
    else JS_j5 (JS_k2 e0 e1 k ab_93 ac_94 h_95 j_96) k f_102 false w_103 w_104 ab_93 ac_94
  else JS_j5 (JS_k2 e0 e1 k ab_93 ac_94 h_95 j_96) k f_102 false w_103 w_104 ab_93 ac_94
noncomputable def JS_j19 {R : Type} (e0 : Bool → Option R) (e1 : Option R) (k : Nat) (j_105 : List (Int × ByteArray)) (w_106 : List (Int × ByteArray)) : Option R :=
  eqG (.ptr 0 0) (.ptr 0 0) <|
  eqG (.ptr 0 0) (.ptr 0 0) <|
  eqG (.ptr 0 1) (.ptr 0 1) <|
  eqG (.own 7 1) (.own 7 1) <|
  eqG (.int .i64 (lenI w_106)) (.int .i64 (lenI w_106)) <|
  bif (!(decide ((lenI j_105) = (lenI w_106)))) then
    e0 false
  else e1
noncomputable def JS_j20 {R : Type} (e0 : Int → Option R) (k : Nat) (i_107 : Int) : Option R :=
  e0 (wrap64 (i_107 + (1 : Int)))
noncomputable def JS_i35_8_l0s {R : Type} (rc : Int → List ByteArray → Option R) (e0 : List ByteArray → Option R) (k : Nat) (v_108 : Int) (v_109 : List (Int × ByteArray)) (v_110 : Int) (out_111 : List ByteArray) : Option R :=
  bif (decide (v_110 < v_108)) then
    bif ((decide ((0 : Int) ≤ v_110)) && (decide (v_110 < (lenI v_109)))) then
      optb (v_109[v_110.toNat]?) fun x_112 =>
      bif ((decide ((0 : Int) ≤ x_112.1)) && (decide (x_112.1 < (lenI out_111)))) then
        optb (out_111[x_112.1.toNat]?) fun x_113 =>
        rc (wrap64 (v_110 + (1 : Int))) (List.set out_111 x_112.1.toNat x_112.2)
      else none
    else none
  else e0 out_111
noncomputable def JS_i35_8_l0 {R : Type} (e0 : List ByteArray → Option R) (k : Nat) (v_108 : Int) (v_109 : List (Int × ByteArray)) : Nat → Int → List ByteArray → Option R
  | 0 => fun _ _ => none
  | j + 1 => JS_i35_8_l0s (JS_i35_8_l0 e0 k v_108 v_109 j) e0 k v_108 v_109
noncomputable def JS_i19_9_l0s {R : Type} (rc : Int → List ByteArray → Option R) (e0 : List ByteArray → Option R) (k : Nat) (n_114 : Int) (j_115 : List (Int × ByteArray)) (i_116 : Int) (out_117 : List ByteArray) : Option R :=
  bif (decide (i_116 < n_114)) then
    bif ((decide ((0 : Int) ≤ i_116)) && (decide (i_116 < (lenI j_115)))) then
      optb (j_115[i_116.toNat]?) fun x_118 =>
      bif ((decide ((0 : Int) ≤ i_116)) && (decide (i_116 < (lenI j_115)))) then
        optb (j_115[i_116.toNat]?) fun x_119 =>
        bif ((decide ((0 : Int) ≤ x_118.1)) && (decide (x_118.1 < (lenI out_117)))) then
          optb (out_117[x_118.1.toNat]?) fun x_120 =>
          rc (wrap64 (i_116 + (1 : Int))) (List.set out_117 x_118.1.toNat x_119.2)
        else none
      else none
    else none
  else e0 out_117
noncomputable def JS_i19_9_l0 {R : Type} (e0 : List ByteArray → Option R) (k : Nat) (n_114 : Int) (j_115 : List (Int × ByteArray)) : Nat → Int → List ByteArray → Option R
  | 0 => fun _ _ => none
  | j + 1 => JS_i19_9_l0s (JS_i19_9_l0 e0 k n_114 j_115 j) e0 k n_114 j_115
noncomputable def JS_i11_8_j0 {R : Type} (e0 : ByteArray → Option R) (e1 : Option R) (k : Nat) (e_121 : Int) : Option R :=
  bif (!(decide (e_121 = (0 : Int)))) then
    e0 (⟨#[]⟩ : ByteArray)
  else e1
noncomputable def JS_j10 {R : Type} (e0 : Bool → Option R) (e1 : Option R) (e2 : Option R) (k : Nat) (s_122 : ByteArray) (e_123 : Int) (v_124 : Bool) : Option R :=
  bif v_124 then
    bif (!(decide (s_122 = (⟨#[]⟩ : ByteArray)))) then
      e0 false
    else bif (!(decide (e_123 = (2 : Int)))) then
      e0 false
    else e1
  else e2
noncomputable def JS_i19_8_l0s {R : Type} (rc : Int → List ByteArray → Option R) (e0 : List ByteArray → Option R) (k : Nat) (n_125 : Int) (j_126 : List (Int × ByteArray)) (i_127 : Int) (out_128 : List ByteArray) : Option R :=
  bif (decide (i_127 < n_125)) then
    bif ((decide ((0 : Int) ≤ i_127)) && (decide (i_127 < (lenI j_126)))) then
      optb (j_126[i_127.toNat]?) fun x_129 =>
      bif ((decide ((0 : Int) ≤ i_127)) && (decide (i_127 < (lenI j_126)))) then
        optb (j_126[i_127.toNat]?) fun x_130 =>
        bif ((decide ((0 : Int) ≤ x_129.1)) && (decide (x_129.1 < (lenI out_128)))) then
          optb (out_128[x_129.1.toNat]?) fun x_131 =>
          rc (wrap64 (i_127 + (1 : Int))) (List.set out_128 x_129.1.toNat x_130.2)
        else none
      else none
    else none
  else e0 out_128
noncomputable def JS_i19_8_l0 {R : Type} (e0 : List ByteArray → Option R) (k : Nat) (n_125 : Int) (j_126 : List (Int × ByteArray)) : Nat → Int → List ByteArray → Option R
  | 0 => fun _ _ => none
  | j + 1 => JS_i19_8_l0s (JS_i19_8_l0 e0 k n_125 j_126 j) e0 k n_125 j_126
noncomputable def JS_j11 {R : Type} (e0 : Bool → Option R) (e1 : Option R) (k : Nat) (v_132 : Bool) : Option R :=
  bif v_132 then
    e0 false
  else e1
noncomputable def JS_k7 {R : Type} (e0 : Bool → Option R) (e1 : Option R) (e2 : Option R) (k : Nat) : Bool → Option R := fun v_133 =>
  e0 v_133
noncomputable def JS_k8 {R : Type} (e0 : Bool → Option R) (e1 : Option R) (e2 : Option R) (k : Nat) : Option R := 
  e1
noncomputable def JS_k10 {R : Type} (e0 : Bool → Option R) (e1 : Option R) (e2 : Option R) (k : Nat) : Bool → Option R := fun v_134 =>
  e0 v_134
noncomputable def JS_k11 {R : Type} (e0 : Bool → Option R) (e1 : Option R) (e2 : Option R) (k : Nat) : Option R := 
  e2
noncomputable def JS_k9 {R : Type} (e0 : Bool → Option R) (e1 : Option R) (e2 : Option R) (k : Nat) (ab_135 : Int) (ac_136 : Int) (e_137 : Int) (s_138 : ByteArray) (w_139 : List ByteArray) (w_140 : List (Int × ByteArray)) : Option R := 
  bif (decide (w_139.length ≤ 1099511627776)) then
    JS_i19_8_l0 (fun out_141 =>
      bif (!(decide (e_137 = (0 : Int)))) then
        JS_j11 (JS_k10 e0 e1 e2 k) (JS_k11 e0 e1 e2 k) k true
      else bif (((decide ((0 : Int) ≤ ab_135)) && (decide (ab_135 ≤ (wrap64 (ab_135 + ac_136))))) && (decide ((wrap64 (ab_135 + ac_136)) ≤ (lenI out_141)))) then
        optb (corbelref23_Text k (true && (out_141.isEmpty)) ((out_141.drop ab_135.toNat).take ((wrap64 (ab_135 + ac_136)) - ab_135).toNat)) fun r_142 =>
        JS_j11 (JS_k10 e0 e1 e2 k) (JS_k11 e0 e1 e2 k) k (!(decide (s_138 = r_142)))
      else none) k (lenI w_140) w_140 k (0 : Int) w_139
  else none
noncomputable def JS_j9 {R : Type} (e0 : Bool → Option R) (e1 : Option R) (e2 : Option R) (k : Nat) (s_138 : ByteArray) (e_137 : Int) (w_139 : List ByteArray) (w_140 : List (Int × ByteArray)) (ab_135 : Int) (ac_136 : Int) : Option R :=
  bif (decide ((0 : Int) ≤ ab_135)) then
    bif (decide ((1 : Int) ≤ ac_136)) then
      bif (decide (ab_135 ≤ (lenI w_139))) then
        JS_j10 (JS_k7 e0 e1 e2 k) (JS_k8 e0 e1 e2 k) (JS_k9 e0 e1 e2 k ab_135 ac_136 e_137 s_138 w_139 w_140) k s_138 e_137 (!(decide (ac_136 ≤ (wrap64 ((lenI w_139) - ab_135)))))
      else JS_j10 (JS_k7 e0 e1 e2 k) (JS_k8 e0 e1 e2 k) (JS_k9 e0 e1 e2 k ab_135 ac_136 e_137 s_138 w_139 w_140) k s_138 e_137 true
    else JS_j10 (JS_k7 e0 e1 e2 k) (JS_k8 e0 e1 e2 k) (JS_k9 e0 e1 e2 k ab_135 ac_136 e_137 s_138 w_139 w_140) k s_138 e_137 true
  else JS_j10 (JS_k7 e0 e1 e2 k) (JS_k8 e0 e1 e2 k) (JS_k9 e0 e1 e2 k ab_135 ac_136 e_137 s_138 w_139 w_140) k s_138 e_137 true
noncomputable def JS_i19_9_l0bs {R : Type} (rc : Int → List ByteArray → Option R) (e0 : List ByteArray → Option R) (k : Nat) (n_143 : Int) (j_144 : List (Int × ByteArray)) (i_145 : Int) (out_146 : List ByteArray) : Option R :=
  bif (decide (i_145 < n_143)) then
    bif ((decide ((0 : Int) ≤ i_145)) && (decide (i_145 < (lenI j_144)))) then
      optb (j_144[i_145.toNat]?) fun x_147 =>
      bif ((decide ((0 : Int) ≤ i_145)) && (decide (i_145 < (lenI j_144)))) then
        optb (j_144[i_145.toNat]?) fun x_148 =>
        bif ((decide ((0 : Int) ≤ x_147.1)) && (decide (x_147.1 < (lenI out_146)))) then
          optb (out_146[x_147.1.toNat]?) fun x_149 =>
          rc (wrap64 (i_145 + (1 : Int))) (List.set out_146 x_147.1.toNat x_148.2)
        else none
      else none
    else none
  else e0 out_146
noncomputable def JS_i19_9_l0b {R : Type} (e0 : List ByteArray → Option R) (k : Nat) (n_143 : Int) (j_144 : List (Int × ByteArray)) : Nat → Int → List ByteArray → Option R
  | 0 => fun _ _ => none
  | j + 1 => JS_i19_9_l0bs (JS_i19_9_l0b e0 k n_143 j_144 j) e0 k n_143 j_144
noncomputable def JS_j14 {R : Type} (e0 : List Int → Option R) (k : Nat) (v_150 : Bool) (ab_151 : Int) (ad_152 : Int) (b_153 : List Int) : Option R :=
  bif v_150 then
    bif (decide ((lenI b_153) = (0 : Int))) then
      none
    else let z_154 := (wrap64 ((Int.tmod ab_151 (lenI b_153)) + (lenI b_153)))
    bif (decide ((lenI b_153) = (0 : Int))) then
      none
    else bif ((decide ((0 : Int) ≤ (Int.tmod z_154 (lenI b_153)))) && (decide ((Int.tmod z_154 (lenI b_153)) < (lenI b_153)))) then
      optb (b_153[(Int.tmod z_154 (lenI b_153)).toNat]?) fun x_155 =>
      bif ((decide ((0 : Int) ≤ (Int.tmod z_154 (lenI b_153)))) && (decide ((Int.tmod z_154 (lenI b_153)) < (lenI b_153)))) then
        optb (b_153[(Int.tmod z_154 (lenI b_153)).toNat]?) fun x_156 =>
        e0 (List.set b_153 (Int.tmod z_154 (lenI b_153)).toNat (bitop .xor .u8 x_155 (IntKind.u8.wrap ((1 : Int) + (bitop .and .u8 ad_152 (1 : Int))))))
      else none
    else none
  else e0 b_153
noncomputable def JS_i19_9_l0cs {R : Type} (rc : Int → List ByteArray → Option R) (e0 : List ByteArray → Option R) (k : Nat) (n_157 : Int) (j_158 : List (Int × ByteArray)) (i_159 : Int) (out_160 : List ByteArray) : Option R :=
  bif (decide (i_159 < n_157)) then
    bif ((decide ((0 : Int) ≤ i_159)) && (decide (i_159 < (lenI j_158)))) then
      optb (j_158[i_159.toNat]?) fun x_161 =>
      bif ((decide ((0 : Int) ≤ i_159)) && (decide (i_159 < (lenI j_158)))) then
        optb (j_158[i_159.toNat]?) fun x_162 =>
        bif ((decide ((0 : Int) ≤ x_161.1)) && (decide (x_161.1 < (lenI out_160)))) then
          optb (out_160[x_161.1.toNat]?) fun x_163 =>
          rc (wrap64 (i_159 + (1 : Int))) (List.set out_160 x_161.1.toNat x_162.2)
        else none
      else none
    else none
  else e0 out_160
noncomputable def JS_i19_9_l0c {R : Type} (e0 : List ByteArray → Option R) (k : Nat) (n_157 : Int) (j_158 : List (Int × ByteArray)) : Nat → Int → List ByteArray → Option R
  | 0 => fun _ _ => none
  | j + 1 => JS_i19_9_l0cs (JS_i19_9_l0c e0 k n_157 j_158 j) e0 k n_157 j_158
noncomputable def JS_i21_9_l0s {R : Type} (rc : Int → Option R) (e0 : Int → Bool → List ByteArray → Option R) (e1 : Option R) (k : Nat) (all_164 : ByteArray) (j_165 : List ByteArray) (j_166 : List (Int × ByteArray)) (n_167 : Int) : Option R :=
  bif (decide (n_167 ≤ (lenI j_166))) then
    bif (decide (j_165.length ≤ 1099511627776)) then
      JS_i19_9_l0c (fun out_168 =>
        optb (corbelref23_Text k true out_168) fun r_169 =>
        bif (decide (r_169 = all_164)) then
          e0 n_167 true out_168
        else rc (wrap64 (n_167 + (1 : Int)))) k n_167 j_166 k (0 : Int) j_165
    else none
  else e1
noncomputable def JS_i21_9_l0 {R : Type} (e0 : Int → Bool → List ByteArray → Option R) (e1 : Option R) (k : Nat) (all_164 : ByteArray) (j_165 : List ByteArray) (j_166 : List (Int × ByteArray)) : Nat → Int → Option R
  | 0 => fun _ => none
  | j + 1 => JS_i21_9_l0s (JS_i21_9_l0 e0 e1 k all_164 j_165 j_166 j) e0 e1 k all_164 j_165 j_166
noncomputable def JS_j17 {R : Type} (e0 : Bool → Option R) (e1 : Option R) (k : Nat) (k_170 : Int) (ok_171 : Bool) (m_172 : Int) : Option R :=
  bif (!(ok_171 == (decide ((0 : Int) ≤ m_172)))) then
    e0 false
  else bif (!(decide (k_170 = (bif (decide ((0 : Int) > m_172)) then (0 : Int) else m_172)))) then
    e0 false
  else e1
noncomputable def JS_j17b {R : Type} (e0 : Bool → Option R) (e1 : Option R) (k : Nat) (k_173 : Int) (ok_174 : Bool) (m_175 : Int) : Option R :=
  bif (!(ok_174 == (decide ((0 : Int) ≤ m_175)))) then
    e0 false
  else bif (!(decide (k_173 = (bif (decide ((0 : Int) > m_175)) then (0 : Int) else m_175)))) then
    e0 false
  else e1
noncomputable def JS_j16 {R : Type} (e0 : Bool → Bool → List ByteArray → Bool → List (Int × ByteArray) → Option R) (e1 : Bool → List ByteArray → Bool → List (Int × ByteArray) → Option R) (e2 : Bool → Option R) (e3 : Option R) (k : Nat) (k_176 : Int) (ok_177 : Bool) (w_178 : List ByteArray) (w_179 : List (Int × ByteArray)) (b_180 : List Int) : Option R :=
  JS_i21_9_l0 (fun v_181 hN_182 h_183 =>
    JS_j17 (fun v_184 =>
      e0 v_184 hN_182 h_183 true ([] : List (Int × ByteArray))) (e1 hN_182 h_183 true ([] : List (Int × ByteArray))) k k_176 ok_177 v_181) (JS_j17b (fun v_185 =>
      e2 v_185) (e3) k k_176 ok_177 (-1 : Int)) k (bytesOf b_180) w_178 w_179 k (0 : Int)
noncomputable def JS_i12_9_j2 {R : Type} (e0 : Int → Option R) (k : Nat) (v_186 : Int) : Option R :=
  e0 (wrap64 (v_186 + (1 : Int)))
noncomputable def JS_i12_9_l1s {R : Type} (rc : Int → Int → Option R) (e0 : Int → Option R) (k : Nat) (v_187 : Int) (h_188 : ByteArray) (h_189 : List ByteArray) (wrong_190 : Int) (v_191 : Int) : Option R :=
  bif (decide (v_191 < v_187)) then
    bif ((decide ((0 : Int) ≤ v_191)) && (decide (v_191 < (lenI h_189)))) then
      optb (h_189[v_191.toNat]?) fun x_192 =>
      let z_193 := (wrap64 ((wrap64 (v_191 + (1 : Int))) * (64 : Int)))
      bif (((decide ((0 : Int) ≤ (wrap64 (v_191 * (64 : Int))))) && (decide ((wrap64 (v_191 * (64 : Int))) ≤ z_193))) && (decide (z_193 ≤ (sizeI h_188)))) then
        bif (!(decide (x_192 = (h_188.extract (wrap64 (v_191 * (64 : Int))).toNat z_193.toNat)))) then
          JS_i12_9_j2 (fun v_194 =>
            rc (wrap64 (wrong_190 + (1 : Int))) v_194) k v_191
        else JS_i12_9_j2 (fun v_195 =>
          rc wrong_190 v_195) k v_191
      else none
    else none
  else e0 wrong_190
noncomputable def JS_i12_9_l1 {R : Type} (e0 : Int → Option R) (k : Nat) (v_187 : Int) (h_188 : ByteArray) (h_189 : List ByteArray) : Nat → Int → Int → Option R
  | 0 => fun _ _ => none
  | j + 1 => JS_i12_9_l1s (JS_i12_9_l1 e0 k v_187 h_188 h_189 j) e0 k v_187 h_188 h_189
noncomputable def JS_i12_9_j4 {R : Type} (e0 : Int → List ByteArray → Option R) (k : Nat) (wrong_196 : Int) (h_197 : ByteArray) (h_198 : List ByteArray) (sa_199 : Int) (sb_200 : ByteArray) : Option R :=
  bif ((decide ((0 : Int) ≤ sa_199)) && (decide (sa_199 < (lenI h_198)))) then
    optb (h_198[sa_199.toNat]?) fun x_201 =>
    let z_202 := (List.set h_198 sa_199.toNat sb_200)
    bif ((decide ((0 : Int) ≤ sa_199)) && (decide (sa_199 < (lenI z_202)))) then
      optb (z_202[sa_199.toNat]?) fun x_203 =>
      let z_204 := (wrap64 ((wrap64 (sa_199 + (1 : Int))) * (64 : Int)))
      bif (((decide ((0 : Int) ≤ (wrap64 (sa_199 * (64 : Int))))) && (decide ((wrap64 (sa_199 * (64 : Int))) ≤ z_204))) && (decide (z_204 ≤ (sizeI h_197)))) then
        bif (!(decide (x_203 = (h_197.extract (wrap64 (sa_199 * (64 : Int))).toNat z_204.toNat)))) then
          e0 (wrap64 (wrong_196 + (1 : Int))) z_202
        else e0 wrong_196 z_202
      else none
    else none
  else none
noncomputable def JS_i12_9_j5 {R : Type} (e0 : Int → Option R) (k : Nat) (n_205 : Int) : Option R :=
  e0 (wrap64 (n_205 + (1 : Int)))
noncomputable def JS_i12_9_l3s {R : Type} (rc : Int → Int → List ByteArray → Option R) (e0 : Int → Bool → List ByteArray → Option R) (e1 : Int → Bool → List ByteArray → Option R) (k : Nat) (j_206 : List (Int × ByteArray)) (h_207 : ByteArray) (wrong_208 : Int) (n_209 : Int) (h_210 : List ByteArray) : Option R :=
  bif (decide (wrong_208 = (0 : Int))) then
    e0 n_209 true h_210
  else bif (decide (n_209 = (lenI j_206))) then
    e1 (0 : Int) false h_210
  else bif ((decide ((0 : Int) ≤ n_209)) && (decide (n_209 < (lenI j_206)))) then
    optb (j_206[n_209.toNat]?) fun x_211 =>
    bif ((decide ((0 : Int) ≤ x_211.1)) && (decide (x_211.1 < (lenI h_210)))) then
      optb (h_210[x_211.1.toNat]?) fun x_212 =>
      let z_213 := (wrap64 ((wrap64 (x_211.1 + (1 : Int))) * (64 : Int)))
      bif (((decide ((0 : Int) ≤ (wrap64 (x_211.1 * (64 : Int))))) && (decide ((wrap64 (x_211.1 * (64 : Int))) ≤ z_213))) && (decide (z_213 ≤ (sizeI h_207)))) then
        bif (!(decide (x_212 = (h_207.extract (wrap64 (x_211.1 * (64 : Int))).toNat z_213.toNat)))) then
          JS_i12_9_j4 (fun wrong_214 h_215 =>
            JS_i12_9_j5 (fun n_216 =>
              rc wrong_214 n_216 h_215) k n_209) k (wrap64 (wrong_208 - (1 : Int))) h_207 h_210 x_211.1 x_211.2
        else JS_i12_9_j4 (fun wrong_217 h_218 =>
          JS_i12_9_j5 (fun n_219 =>
            rc wrong_217 n_219 h_218) k n_209) k wrong_208 h_207 h_210 x_211.1 x_211.2
      else none
    else none
  else none
noncomputable def JS_i12_9_l3 {R : Type} (e0 : Int → Bool → List ByteArray → Option R) (e1 : Int → Bool → List ByteArray → Option R) (k : Nat) (j_206 : List (Int × ByteArray)) (h_207 : ByteArray) : Nat → Int → Int → List ByteArray → Option R
  | 0 => fun _ _ _ => none
  | j + 1 => JS_i12_9_l3s (JS_i12_9_l3 e0 e1 k j_206 h_207 j) e0 e1 k j_206 h_207
noncomputable def JS_i12_9_j0 {R : Type} (e0 : Int → Bool → List ByteArray → Option R) (e1 : Int → Bool → List ByteArray → Option R) (k : Nat) (j_220 : List (Int × ByteArray)) (all_221 : ByteArray) (h_222 : List ByteArray) : Option R :=
  JS_i12_9_l1 (fun wrong_223 =>
    JS_i12_9_l3 (fun v_224 v_225 h_226 =>
      e0 v_224 v_225 h_226) (fun v_227 v_228 h_229 =>
      e1 v_227 v_228 h_229) k j_220 all_221 k wrong_223 (0 : Int) h_222) k (lenI h_222) all_221 h_222 k (0 : Int) (0 : Int)
noncomputable def JS_k15 {R : Type} (e0 : Bool → Bool → List ByteArray → Bool → List (Int × ByteArray) → Bool → List ByteArray → Bool → List (Int × ByteArray) → Option R) (e1 : Bool → List ByteArray → Bool → List (Int × ByteArray) → Bool → List ByteArray → Bool → List (Int × ByteArray) → Option R) (e2 : Bool → Bool → List ByteArray → Bool → List (Int × ByteArray) → Option R) (e3 : Bool → List ByteArray → Bool → List (Int × ByteArray) → Option R) (k : Nat) : Bool → Bool → List ByteArray → Bool → List (Int × ByteArray) → Bool → List ByteArray → Bool → List (Int × ByteArray) → Option R := fun v_230 hN_231 h_232 jN_233 j_234 wN_235 w_236 wN_237 w_238 =>
  e0 v_230 hN_231 h_232 jN_233 j_234 wN_235 w_236 wN_237 w_238
noncomputable def JS_k16 {R : Type} (e0 : Bool → Bool → List ByteArray → Bool → List (Int × ByteArray) → Bool → List ByteArray → Bool → List (Int × ByteArray) → Option R) (e1 : Bool → List ByteArray → Bool → List (Int × ByteArray) → Bool → List ByteArray → Bool → List (Int × ByteArray) → Option R) (e2 : Bool → Bool → List ByteArray → Bool → List (Int × ByteArray) → Option R) (e3 : Bool → List ByteArray → Bool → List (Int × ByteArray) → Option R) (k : Nat) : Bool → List ByteArray → Bool → List (Int × ByteArray) → Bool → List ByteArray → Bool → List (Int × ByteArray) → Option R := fun hN_239 h_240 jN_241 j_242 wN_243 w_244 wN_245 w_246 =>
  e1 hN_239 h_240 jN_241 j_242 wN_243 w_244 wN_245 w_246
noncomputable def JS_k17 {R : Type} (e0 : Bool → Bool → List ByteArray → Bool → List (Int × ByteArray) → Bool → List ByteArray → Bool → List (Int × ByteArray) → Option R) (e1 : Bool → List ByteArray → Bool → List (Int × ByteArray) → Bool → List ByteArray → Bool → List (Int × ByteArray) → Option R) (e2 : Bool → Bool → List ByteArray → Bool → List (Int × ByteArray) → Option R) (e3 : Bool → List ByteArray → Bool → List (Int × ByteArray) → Option R) (k : Nat) : Bool → Bool → List ByteArray → Bool → List (Int × ByteArray) → Option R := fun v_247 hN_248 h_249 jN_250 j_251 =>
  e2 v_247 hN_248 h_249 jN_250 j_251
noncomputable def JS_k18 {R : Type} (e0 : Bool → Bool → List ByteArray → Bool → List (Int × ByteArray) → Bool → List ByteArray → Bool → List (Int × ByteArray) → Option R) (e1 : Bool → List ByteArray → Bool → List (Int × ByteArray) → Bool → List ByteArray → Bool → List (Int × ByteArray) → Option R) (e2 : Bool → Bool → List ByteArray → Bool → List (Int × ByteArray) → Option R) (e3 : Bool → List ByteArray → Bool → List (Int × ByteArray) → Option R) (k : Nat) : Bool → List ByteArray → Bool → List (Int × ByteArray) → Option R := fun hN_252 h_253 jN_254 j_255 =>
  e3 hN_252 h_253 jN_254 j_255
noncomputable def JS_j15 {R : Type} (e0 : Bool → Bool → List ByteArray → Bool → List (Int × ByteArray) → Bool → List ByteArray → Bool → List (Int × ByteArray) → Option R) (e1 : Bool → List ByteArray → Bool → List (Int × ByteArray) → Bool → List ByteArray → Bool → List (Int × ByteArray) → Option R) (e2 : Bool → Bool → List ByteArray → Bool → List (Int × ByteArray) → Option R) (e3 : Bool → List ByteArray → Bool → List (Int × ByteArray) → Option R) (k : Nat) (hN_256 : Bool) (h_257 : List ByteArray) (w_258 : List ByteArray) (w_259 : List (Int × ByteArray)) (jN_260 : Bool) (j_261 : List (Int × ByteArray)) (b_262 : List Int) : Option R :=
  bif (!(decide ((sizeI (bytesOf b_262)) = (wrap64 ((lenI h_257) * (64 : Int)))))) then
    JS_j16 (fun v_230 wN_235 w_236 wN_237 w_238 => JS_k15 e0 e1 e2 e3 k v_230 hN_256 h_257 jN_260 j_261 wN_235 w_236 wN_237 w_238) (fun wN_243 w_244 wN_245 w_246 => JS_k16 e0 e1 e2 e3 k hN_256 h_257 jN_260 j_261 wN_243 w_244 wN_245 w_246) (fun v_247 => JS_k17 e0 e1 e2 e3 k v_247 hN_256 h_257 jN_260 j_261) (JS_k18 e0 e1 e2 e3 k hN_256 h_257 jN_260 j_261) k (0 : Int) false w_258 w_259 b_262
  else optb (slices_Clone k hN_256 h_257) fun r_263 =>
  JS_i12_9_j0 (fun v_264 v_265 h_266 =>
    JS_j16 (fun v_230 wN_235 w_236 wN_237 w_238 => JS_k15 e0 e1 e2 e3 k v_230 r_263.1 h_266 true ([] : List (Int × ByteArray)) wN_235 w_236 wN_237 w_238) (fun wN_243 w_244 wN_245 w_246 => JS_k16 e0 e1 e2 e3 k r_263.1 h_266 true ([] : List (Int × ByteArray)) wN_243 w_244 wN_245 w_246) (fun v_247 => JS_k17 e0 e1 e2 e3 k v_247 r_263.1 h_266 true ([] : List (Int × ByteArray))) (JS_k18 e0 e1 e2 e3 k r_263.1 h_266 true ([] : List (Int × ByteArray))) k v_264 v_265 w_258 w_259 b_262) (fun v_267 v_268 h_269 =>
    JS_j16 (fun v_230 wN_235 w_236 wN_237 w_238 => JS_k15 e0 e1 e2 e3 k v_230 hN_256 h_257 jN_260 j_261 wN_235 w_236 wN_237 w_238) (fun wN_243 w_244 wN_245 w_246 => JS_k16 e0 e1 e2 e3 k hN_256 h_257 jN_260 j_261 wN_243 w_244 wN_245 w_246) (fun v_247 => JS_k17 e0 e1 e2 e3 k v_247 hN_256 h_257 jN_260 j_261) (JS_k18 e0 e1 e2 e3 k hN_256 h_257 jN_260 j_261) k v_267 v_268 w_258 w_259 b_262) k j_261 (bytesOf b_262) r_263.2
noncomputable def JS_j13 {R : Type} (e0 : Bool → Bool → List ByteArray → Bool → List (Int × ByteArray) → List Int → Bool → List ByteArray → Bool → List (Int × ByteArray) → Option R) (e1 : Bool → List ByteArray → Bool → List (Int × ByteArray) → List Int → Bool → List ByteArray → Bool → List (Int × ByteArray) → Option R) (e2 : Bool → Bool → List ByteArray → Bool → List (Int × ByteArray) → List Int → Option R) (e3 : Bool → List ByteArray → Bool → List (Int × ByteArray) → List Int → Option R) (k : Nat) (what_270 : Int) (hN_271 : Bool) (h_272 : List ByteArray) (w_273 : List ByteArray) (w_274 : List (Int × ByteArray)) (jN_275 : Bool) (j_276 : List (Int × ByteArray)) (ab_277 : Int) (ad_278 : Int) (b_279 : List Int) : Option R :=
  JS_j14 (fun b_280 =>
    JS_j15 (fun v_281 hN_282 h_283 jN_284 j_285 wN_286 w_287 wN_288 w_289 =>
      e0 v_281 hN_282 h_283 jN_284 j_285 b_280 wN_286 w_287 wN_288 w_289) (fun hN_290 h_291 jN_292 j_293 wN_294 w_295 wN_296 w_297 =>
      e1 hN_290 h_291 jN_292 j_293 b_280 wN_294 w_295 wN_296 w_297) (fun v_298 hN_299 h_300 jN_301 j_302 =>
      e2 v_298 hN_299 h_300 jN_301 j_302 b_280) (fun hN_303 h_304 jN_305 j_306 =>
      e3 hN_303 h_304 jN_305 j_306 b_280) k hN_271 h_272 w_273 w_274 jN_275 j_276 b_280) k (decide (what_270 = (7 : Int))) ab_277 ad_278 b_279
noncomputable def JS_j18 {R : Type} (e0 : Bool → Option R) (e1 : Option R) (k : Nat) (v_307 : Bool) : Option R :=
  bif v_307 then
    e0 false
  else e1
noncomputable def JS_i17_8_j0 {R : Type} (e0 : Int → Option R) (e1 : Option R) (k : Nat) (v_308 : Bool) : Option R :=
  bif v_308 then
    e0 (2 : Int)
  else e1
noncomputable def JS_i17_8_l1s {R : Type} (rc : Int → List (Int × ByteArray) → Option R) (e0 : List (Int × ByteArray) → Option R) (k : Nat) (block_309 : Int) (data_310 : ByteArray) (i_311 : Int) (j_312 : List (Int × ByteArray)) : Option R :=
  bif (decide ((wrap64 ((64 : Int) * i_311)) < (sizeI data_310))) then
    let z_313 := (wrap64 ((wrap64 ((64 : Int) * i_311)) + (64 : Int)))
    bif (((decide ((0 : Int) ≤ (wrap64 ((64 : Int) * i_311)))) && (decide ((wrap64 ((64 : Int) * i_311)) ≤ z_313))) && (decide (z_313 ≤ (sizeI data_310)))) then
      let z_314 := (data_310.extract (wrap64 ((64 : Int) * i_311)).toNat z_313.toNat)
      bif (decide (j_312.length + ([((wrap64 (block_309 + i_311)), z_314)] : List (Int × ByteArray)).length ≤ 1099511627776)) then
        rc (wrap64 (i_311 + (1 : Int))) (j_312 ++ ([((wrap64 (block_309 + i_311)), z_314)] : List (Int × ByteArray)))
      else none
    else none
  else e0 j_312
noncomputable def JS_i17_8_l1 {R : Type} (e0 : List (Int × ByteArray) → Option R) (k : Nat) (block_309 : Int) (data_310 : ByteArray) : Nat → Int → List (Int × ByteArray) → Option R
  | 0 => fun _ _ => none
  | j + 1 => JS_i17_8_l1s (JS_i17_8_l1 e0 k block_309 data_310 j) e0 k block_309 data_310
noncomputable def JS_i10_8_j0b {R : Type} (e0 : Option R) (e1 : Option R) (k : Nat) (e_315 : Int) : Option R :=
  bif (!(decide (e_315 = (0 : Int)))) then
    e0
  else e1
noncomputable def JS_i10_8_l1bs {R : Type} (rc : Int → ByteArray → List (Int × ByteArray) → Option R) (e0 : List (Int × ByteArray) → Option R) (k : Nat) (block_316 : Int) (data_317 : ByteArray) (j_318 : List (Int × ByteArray)) : Option R :=
  bif (!(decide (data_317 = (⟨#[]⟩ : ByteArray)))) then
    bif (decide ((64 : Int) ≤ (sizeI data_317))) then
      let z_319 := (data_317.extract (0 : Int).toNat (64 : Int).toNat)
      bif (decide (j_318.length + ([(block_316, z_319)] : List (Int × ByteArray)).length ≤ 1099511627776)) then
        bif ((decide ((64 : Int) ≤ (sizeI data_317))) && (decide ((sizeI data_317) ≤ (sizeI data_317)))) then
          rc (wrap64 (block_316 + (1 : Int))) (data_317.extract (64 : Int).toNat (sizeI data_317).toNat) (j_318 ++ ([(block_316, z_319)] : List (Int × ByteArray)))
        else none
      else none
    else none
  else e0 j_318
noncomputable def JS_i10_8_l1b {R : Type} (e0 : List (Int × ByteArray) → Option R) (k : Nat) : Nat → Int → ByteArray → List (Int × ByteArray) → Option R
  | 0 => fun _ _ _ => none
  | j + 1 => JS_i10_8_l1bs (JS_i10_8_l1b e0 k j) e0 k
noncomputable def JS_i17_8_j0b {R : Type} (e0 : Int → Option R) (e1 : Option R) (k : Nat) (v_320 : Bool) : Option R :=
  bif v_320 then
    e0 (2 : Int)
  else e1
noncomputable def JS_i17_8_l1bs {R : Type} (rc : Int → List (Int × ByteArray) → Option R) (e0 : List (Int × ByteArray) → Option R) (k : Nat) (block_321 : Int) (data_322 : ByteArray) (i_323 : Int) (j_324 : List (Int × ByteArray)) : Option R :=
  bif (decide ((wrap64 ((64 : Int) * i_323)) < (sizeI data_322))) then
    let z_325 := (wrap64 ((wrap64 ((64 : Int) * i_323)) + (64 : Int)))
    bif (((decide ((0 : Int) ≤ (wrap64 ((64 : Int) * i_323)))) && (decide ((wrap64 ((64 : Int) * i_323)) ≤ z_325))) && (decide (z_325 ≤ (sizeI data_322)))) then
      let z_326 := (data_322.extract (wrap64 ((64 : Int) * i_323)).toNat z_325.toNat)
      bif (decide (j_324.length + ([((wrap64 (block_321 + i_323)), z_326)] : List (Int × ByteArray)).length ≤ 1099511627776)) then
        rc (wrap64 (i_323 + (1 : Int))) (j_324 ++ ([((wrap64 (block_321 + i_323)), z_326)] : List (Int × ByteArray)))
      else none
    else none
  else e0 j_324
noncomputable def JS_i17_8_l1b {R : Type} (e0 : List (Int × ByteArray) → Option R) (k : Nat) (block_321 : Int) (data_322 : ByteArray) : Nat → Int → List (Int × ByteArray) → Option R
  | 0 => fun _ _ => none
  | j + 1 => JS_i17_8_l1bs (JS_i17_8_l1b e0 k block_321 data_322 j) e0 k block_321 data_322
noncomputable def JS_k19 {R : Type} (e0 : Bool → Bool → List ByteArray → Bool → List (Int × ByteArray) → Bool → List Int → Bool → List ByteArray → Bool → List (Int × ByteArray) → Option R) (e1 : Bool → List ByteArray → Bool → List (Int × ByteArray) → Bool → List Int → Bool → List ByteArray → Bool → List (Int × ByteArray) → Option R) (e2 : Bool → Bool → List ByteArray → Bool → List (Int × ByteArray) → Bool → List Int → Option R) (e3 : Bool → List ByteArray → Bool → List (Int × ByteArray) → Bool → List Int → Option R) (e4 : Bool → List (Int × ByteArray) → List (Int × ByteArray) → Option R) (e5 : List (Int × ByteArray) → List (Int × ByteArray) → Option R) (k : Nat) : Bool → List (Int × ByteArray) → List (Int × ByteArray) → Option R := fun v_327 w_328 j_329 =>
  e4 v_327 w_328 j_329
noncomputable def JS_k20 {R : Type} (e0 : Bool → Bool → List ByteArray → Bool → List (Int × ByteArray) → Bool → List Int → Bool → List ByteArray → Bool → List (Int × ByteArray) → Option R) (e1 : Bool → List ByteArray → Bool → List (Int × ByteArray) → Bool → List Int → Bool → List ByteArray → Bool → List (Int × ByteArray) → Option R) (e2 : Bool → Bool → List ByteArray → Bool → List (Int × ByteArray) → Bool → List Int → Option R) (e3 : Bool → List ByteArray → Bool → List (Int × ByteArray) → Bool → List Int → Option R) (e4 : Bool → List (Int × ByteArray) → List (Int × ByteArray) → Option R) (e5 : List (Int × ByteArray) → List (Int × ByteArray) → Option R) (k : Nat) : List (Int × ByteArray) → List (Int × ByteArray) → Option R := fun w_330 j_331 =>
  e5 w_330 j_331
noncomputable def JS_j12 {R : Type} (e0 : Bool → Bool → List ByteArray → Bool → List (Int × ByteArray) → Bool → List Int → Bool → List ByteArray → Bool → List (Int × ByteArray) → Option R) (e1 : Bool → List ByteArray → Bool → List (Int × ByteArray) → Bool → List Int → Bool → List ByteArray → Bool → List (Int × ByteArray) → Option R) (e2 : Bool → Bool → List ByteArray → Bool → List (Int × ByteArray) → Bool → List Int → Option R) (e3 : Bool → List ByteArray → Bool → List (Int × ByteArray) → Bool → List Int → Option R) (e4 : Bool → List (Int × ByteArray) → List (Int × ByteArray) → Option R) (e5 : List (Int × ByteArray) → List (Int × ByteArray) → Option R) (k : Nat) (what_332 : Int) (v_333 : Bool) (hN_334 : Bool) (h_335 : List ByteArray) (w_336 : List ByteArray) (w_337 : List (Int × ByteArray)) (jN_338 : Bool) (j_339 : List (Int × ByteArray)) (aa_340 : Int) (ab_341 : Int) (ac_342 : Int) (ad_343 : Int) (ae_344 : Bool) : Option R :=
  bif v_333 then
    bif (decide ((wrap64 ((lenI w_337) + (1 : Int))) = (0 : Int))) then
      none
    else bif (decide ((wrap64 ((lenI w_337) + (1 : Int))) = (0 : Int))) then
      none
    else bif (decide (w_336.length ≤ 1099511627776)) then
      JS_i19_9_l0b (fun out_345 =>
        optb (corbelref23_Text k true out_345) fun r_346 =>
        bif (decide (r_346.size ≤ 1099511627776)) then
          JS_j13 (fun v_347 hN_348 h_349 jN_350 j_351 h_352 wN_353 w_354 wN_355 w_356 =>
            e0 v_347 hN_348 h_349 jN_350 j_351 false h_352 wN_353 w_354 wN_355 w_356) (fun hN_357 h_358 jN_359 j_360 h_361 wN_362 w_363 wN_364 w_365 =>
            e1 hN_357 h_358 jN_359 j_360 false h_361 wN_362 w_363 wN_364 w_365) (fun v_366 hN_367 h_368 jN_369 j_370 h_371 =>
            e2 v_366 hN_367 h_368 jN_369 j_370 false h_371) (fun hN_372 h_373 jN_374 j_375 h_376 =>
            e3 hN_372 h_373 jN_374 j_375 false h_376) k what_332 hN_334 h_335 w_336 w_337 jN_338 j_339 ab_341 ad_343 (intsOf r_346)
        else none) k (Int.tmod (wrap64 ((wrap64 ((Int.tmod ac_342 (wrap64 ((lenI w_337) + (1 : Int)))) + (lenI w_337))) + (1 : Int))) (wrap64 ((lenI w_337) + (1 : Int)))) w_337 k (0 : Int) w_336
    else none
  else optb (corbellaw23_text k aa_340 ab_341 ac_342 ad_343 ae_344) fun r_377 =>
  bif (!(decide ((Int.tmod (sizeI r_377) (64 : Int)) = (0 : Int)))) then
    eqG (.ptr 0 0) (.ptr 0 0) <|
    eqG (.ptr 7 1) (.ptr 7 1) <|
    eqG (.int .i64 ab_341) (.int .i64 ab_341) <|
    eqG (.str r_377) (.str r_377) <|
    bif (!(decide ((Int.tmod (sizeI r_377) (64 : Int)) = (0 : Int)))) then
      JS_j18 (fun v_327 => JS_k19 e0 e1 e2 e3 e4 e5 k v_327 w_337 j_339) (JS_k20 e0 e1 e2 e3 e4 e5 k w_337 j_339) k false
    else let z_378 := (wrap64 (Int.tdiv (sizeI r_377) (64 : Int)))
    bif (decide ((0 : Int) ≤ ab_341)) then
      bif (decide ((1 : Int) ≤ z_378)) then
        bif (decide (ab_341 ≤ (lenI w_336))) then
          JS_i17_8_j0 (fun v_379 =>
            JS_j18 (fun v_327 => JS_k19 e0 e1 e2 e3 e4 e5 k v_327 w_337 j_339) (JS_k20 e0 e1 e2 e3 e4 e5 k w_337 j_339) k (!(decide ((1 : Int) = v_379)))) (JS_i17_8_l1 (fun h_380 =>
              JS_j18 (fun v_327 => JS_k19 e0 e1 e2 e3 e4 e5 k v_327 h_380 j_339) (JS_k20 e0 e1 e2 e3 e4 e5 k h_380 j_339) k true) k ab_341 r_377 k (0 : Int) w_337) k (!(decide (z_378 ≤ (wrap64 ((lenI w_336) - ab_341)))))
        else JS_i17_8_j0 (fun v_381 =>
          JS_j18 (fun v_327 => JS_k19 e0 e1 e2 e3 e4 e5 k v_327 w_337 j_339) (JS_k20 e0 e1 e2 e3 e4 e5 k w_337 j_339) k (!(decide ((1 : Int) = v_381)))) (JS_i17_8_l1 (fun h_382 =>
            JS_j18 (fun v_327 => JS_k19 e0 e1 e2 e3 e4 e5 k v_327 h_382 j_339) (JS_k20 e0 e1 e2 e3 e4 e5 k h_382 j_339) k true) k ab_341 r_377 k (0 : Int) w_337) k true
      else JS_i17_8_j0 (fun v_383 =>
        JS_j18 (fun v_327 => JS_k19 e0 e1 e2 e3 e4 e5 k v_327 w_337 j_339) (JS_k20 e0 e1 e2 e3 e4 e5 k w_337 j_339) k (!(decide ((1 : Int) = v_383)))) (JS_i17_8_l1 (fun h_384 =>
          JS_j18 (fun v_327 => JS_k19 e0 e1 e2 e3 e4 e5 k v_327 h_384 j_339) (JS_k20 e0 e1 e2 e3 e4 e5 k h_384 j_339) k true) k ab_341 r_377 k (0 : Int) w_337) k true
    else JS_i17_8_j0 (fun v_385 =>
      JS_j18 (fun v_327 => JS_k19 e0 e1 e2 e3 e4 e5 k v_327 w_337 j_339) (JS_k20 e0 e1 e2 e3 e4 e5 k w_337 j_339) k (!(decide ((1 : Int) = v_385)))) (JS_i17_8_l1 (fun h_386 =>
        JS_j18 (fun v_327 => JS_k19 e0 e1 e2 e3 e4 e5 k v_327 h_386 j_339) (JS_k20 e0 e1 e2 e3 e4 e5 k h_386 j_339) k true) k ab_341 r_377 k (0 : Int) w_337) k true
  else let z_387 := (wrap64 (Int.tdiv (sizeI r_377) (64 : Int)))
  bif (decide (ab_341 < (0 : Int))) then
    JS_i10_8_j0b (eqG (.ptr 0 0) (.ptr 0 0) <|
      eqG (.ptr 7 1) (.ptr 7 1) <|
      eqG (.int .i64 ab_341) (.int .i64 ab_341) <|
      eqG (.str r_377) (.str r_377) <|
      bif (!(decide ((Int.tmod (sizeI r_377) (64 : Int)) = (0 : Int)))) then
        JS_j18 (fun v_327 => JS_k19 e0 e1 e2 e3 e4 e5 k v_327 w_337 j_339) (JS_k20 e0 e1 e2 e3 e4 e5 k w_337 j_339) k (!(decide ((2 : Int) = (1 : Int))))
      else let z_388 := (wrap64 (Int.tdiv (sizeI r_377) (64 : Int)))
      bif (decide ((0 : Int) ≤ ab_341)) then
        bif (decide ((1 : Int) ≤ z_388)) then
          bif (decide (ab_341 ≤ (lenI w_336))) then
            JS_i17_8_j0 (fun v_389 =>
              JS_j18 (fun v_327 => JS_k19 e0 e1 e2 e3 e4 e5 k v_327 w_337 j_339) (JS_k20 e0 e1 e2 e3 e4 e5 k w_337 j_339) k (!(decide ((2 : Int) = v_389)))) (JS_i17_8_l1 (fun h_390 =>
                JS_j18 (fun v_327 => JS_k19 e0 e1 e2 e3 e4 e5 k v_327 h_390 j_339) (JS_k20 e0 e1 e2 e3 e4 e5 k h_390 j_339) k (!(decide ((2 : Int) = (0 : Int))))) k ab_341 r_377 k (0 : Int) w_337) k (!(decide (z_388 ≤ (wrap64 ((lenI w_336) - ab_341)))))
          else JS_i17_8_j0 (fun v_391 =>
            JS_j18 (fun v_327 => JS_k19 e0 e1 e2 e3 e4 e5 k v_327 w_337 j_339) (JS_k20 e0 e1 e2 e3 e4 e5 k w_337 j_339) k (!(decide ((2 : Int) = v_391)))) (JS_i17_8_l1 (fun h_392 =>
              JS_j18 (fun v_327 => JS_k19 e0 e1 e2 e3 e4 e5 k v_327 h_392 j_339) (JS_k20 e0 e1 e2 e3 e4 e5 k h_392 j_339) k (!(decide ((2 : Int) = (0 : Int))))) k ab_341 r_377 k (0 : Int) w_337) k true
        else JS_i17_8_j0 (fun v_393 =>
          JS_j18 (fun v_327 => JS_k19 e0 e1 e2 e3 e4 e5 k v_327 w_337 j_339) (JS_k20 e0 e1 e2 e3 e4 e5 k w_337 j_339) k (!(decide ((2 : Int) = v_393)))) (JS_i17_8_l1 (fun h_394 =>
            JS_j18 (fun v_327 => JS_k19 e0 e1 e2 e3 e4 e5 k v_327 h_394 j_339) (JS_k20 e0 e1 e2 e3 e4 e5 k h_394 j_339) k (!(decide ((2 : Int) = (0 : Int))))) k ab_341 r_377 k (0 : Int) w_337) k true
      else JS_i17_8_j0 (fun v_395 =>
        JS_j18 (fun v_327 => JS_k19 e0 e1 e2 e3 e4 e5 k v_327 w_337 j_339) (JS_k20 e0 e1 e2 e3 e4 e5 k w_337 j_339) k (!(decide ((2 : Int) = v_395)))) (JS_i17_8_l1 (fun h_396 =>
          JS_j18 (fun v_327 => JS_k19 e0 e1 e2 e3 e4 e5 k v_327 h_396 j_339) (JS_k20 e0 e1 e2 e3 e4 e5 k h_396 j_339) k (!(decide ((2 : Int) = (0 : Int))))) k ab_341 r_377 k (0 : Int) w_337) k true) (JS_i10_8_l1b (fun h_397 =>
        eqG (.ptr 0 0) (.ptr 0 0) <|
        eqG (.ptr 7 1) (.ptr 7 1) <|
        eqG (.int .i64 ab_341) (.int .i64 ab_341) <|
        eqG (.str r_377) (.str r_377) <|
        bif (!(decide ((Int.tmod (sizeI r_377) (64 : Int)) = (0 : Int)))) then
          JS_j18 (fun v_327 => JS_k19 e0 e1 e2 e3 e4 e5 k v_327 w_337 h_397) (JS_k20 e0 e1 e2 e3 e4 e5 k w_337 h_397) k true
        else let z_398 := (wrap64 (Int.tdiv (sizeI r_377) (64 : Int)))
        bif (decide ((0 : Int) ≤ ab_341)) then
          bif (decide ((1 : Int) ≤ z_398)) then
            bif (decide (ab_341 ≤ (lenI w_336))) then
              JS_i17_8_j0b (fun v_399 =>
                JS_j18 (fun v_327 => JS_k19 e0 e1 e2 e3 e4 e5 k v_327 w_337 h_397) (JS_k20 e0 e1 e2 e3 e4 e5 k w_337 h_397) k (!(decide ((0 : Int) = v_399)))) (JS_i17_8_l1b (fun h_400 =>
                  JS_j18 (fun v_327 => JS_k19 e0 e1 e2 e3 e4 e5 k v_327 h_400 h_397) (JS_k20 e0 e1 e2 e3 e4 e5 k h_400 h_397) k false) k ab_341 r_377 k (0 : Int) w_337) k (!(decide (z_398 ≤ (wrap64 ((lenI w_336) - ab_341)))))
            else JS_i17_8_j0b (fun v_401 =>
              JS_j18 (fun v_327 => JS_k19 e0 e1 e2 e3 e4 e5 k v_327 w_337 h_397) (JS_k20 e0 e1 e2 e3 e4 e5 k w_337 h_397) k (!(decide ((0 : Int) = v_401)))) (JS_i17_8_l1b (fun h_402 =>
                JS_j18 (fun v_327 => JS_k19 e0 e1 e2 e3 e4 e5 k v_327 h_402 h_397) (JS_k20 e0 e1 e2 e3 e4 e5 k h_402 h_397) k false) k ab_341 r_377 k (0 : Int) w_337) k true
          else JS_i17_8_j0b (fun v_403 =>
            JS_j18 (fun v_327 => JS_k19 e0 e1 e2 e3 e4 e5 k v_327 w_337 h_397) (JS_k20 e0 e1 e2 e3 e4 e5 k w_337 h_397) k (!(decide ((0 : Int) = v_403)))) (JS_i17_8_l1b (fun h_404 =>
              JS_j18 (fun v_327 => JS_k19 e0 e1 e2 e3 e4 e5 k v_327 h_404 h_397) (JS_k20 e0 e1 e2 e3 e4 e5 k h_404 h_397) k false) k ab_341 r_377 k (0 : Int) w_337) k true
        else JS_i17_8_j0b (fun v_405 =>
          JS_j18 (fun v_327 => JS_k19 e0 e1 e2 e3 e4 e5 k v_327 w_337 h_397) (JS_k20 e0 e1 e2 e3 e4 e5 k w_337 h_397) k (!(decide ((0 : Int) = v_405)))) (JS_i17_8_l1b (fun h_406 =>
            JS_j18 (fun v_327 => JS_k19 e0 e1 e2 e3 e4 e5 k v_327 h_406 h_397) (JS_k20 e0 e1 e2 e3 e4 e5 k h_406 h_397) k false) k ab_341 r_377 k (0 : Int) w_337) k true) k k ab_341 r_377 j_339) k (2 : Int)
  else bif (decide (z_387 < (1 : Int))) then
    JS_i10_8_j0b (eqG (.ptr 0 0) (.ptr 0 0) <|
      eqG (.ptr 7 1) (.ptr 7 1) <|
      eqG (.int .i64 ab_341) (.int .i64 ab_341) <|
      eqG (.str r_377) (.str r_377) <|
      bif (!(decide ((Int.tmod (sizeI r_377) (64 : Int)) = (0 : Int)))) then
        JS_j18 (fun v_327 => JS_k19 e0 e1 e2 e3 e4 e5 k v_327 w_337 j_339) (JS_k20 e0 e1 e2 e3 e4 e5 k w_337 j_339) k (!(decide ((2 : Int) = (1 : Int))))
      else let z_407 := (wrap64 (Int.tdiv (sizeI r_377) (64 : Int)))
      bif (decide ((0 : Int) ≤ ab_341)) then
        bif (decide ((1 : Int) ≤ z_407)) then
          bif (decide (ab_341 ≤ (lenI w_336))) then
            JS_i17_8_j0 (fun v_408 =>
              JS_j18 (fun v_327 => JS_k19 e0 e1 e2 e3 e4 e5 k v_327 w_337 j_339) (JS_k20 e0 e1 e2 e3 e4 e5 k w_337 j_339) k (!(decide ((2 : Int) = v_408)))) (JS_i17_8_l1 (fun h_409 =>
                JS_j18 (fun v_327 => JS_k19 e0 e1 e2 e3 e4 e5 k v_327 h_409 j_339) (JS_k20 e0 e1 e2 e3 e4 e5 k h_409 j_339) k (!(decide ((2 : Int) = (0 : Int))))) k ab_341 r_377 k (0 : Int) w_337) k (!(decide (z_407 ≤ (wrap64 ((lenI w_336) - ab_341)))))
          else JS_i17_8_j0 (fun v_410 =>
            JS_j18 (fun v_327 => JS_k19 e0 e1 e2 e3 e4 e5 k v_327 w_337 j_339) (JS_k20 e0 e1 e2 e3 e4 e5 k w_337 j_339) k (!(decide ((2 : Int) = v_410)))) (JS_i17_8_l1 (fun h_411 =>
              JS_j18 (fun v_327 => JS_k19 e0 e1 e2 e3 e4 e5 k v_327 h_411 j_339) (JS_k20 e0 e1 e2 e3 e4 e5 k h_411 j_339) k (!(decide ((2 : Int) = (0 : Int))))) k ab_341 r_377 k (0 : Int) w_337) k true
        else JS_i17_8_j0 (fun v_412 =>
          JS_j18 (fun v_327 => JS_k19 e0 e1 e2 e3 e4 e5 k v_327 w_337 j_339) (JS_k20 e0 e1 e2 e3 e4 e5 k w_337 j_339) k (!(decide ((2 : Int) = v_412)))) (JS_i17_8_l1 (fun h_413 =>
            JS_j18 (fun v_327 => JS_k19 e0 e1 e2 e3 e4 e5 k v_327 h_413 j_339) (JS_k20 e0 e1 e2 e3 e4 e5 k h_413 j_339) k (!(decide ((2 : Int) = (0 : Int))))) k ab_341 r_377 k (0 : Int) w_337) k true
      else JS_i17_8_j0 (fun v_414 =>
        JS_j18 (fun v_327 => JS_k19 e0 e1 e2 e3 e4 e5 k v_327 w_337 j_339) (JS_k20 e0 e1 e2 e3 e4 e5 k w_337 j_339) k (!(decide ((2 : Int) = v_414)))) (JS_i17_8_l1 (fun h_415 =>
          JS_j18 (fun v_327 => JS_k19 e0 e1 e2 e3 e4 e5 k v_327 h_415 j_339) (JS_k20 e0 e1 e2 e3 e4 e5 k h_415 j_339) k (!(decide ((2 : Int) = (0 : Int))))) k ab_341 r_377 k (0 : Int) w_337) k true) (JS_i10_8_l1b (fun h_416 =>
        eqG (.ptr 0 0) (.ptr 0 0) <|
        eqG (.ptr 7 1) (.ptr 7 1) <|
        eqG (.int .i64 ab_341) (.int .i64 ab_341) <|
        eqG (.str r_377) (.str r_377) <|
        bif (!(decide ((Int.tmod (sizeI r_377) (64 : Int)) = (0 : Int)))) then
          JS_j18 (fun v_327 => JS_k19 e0 e1 e2 e3 e4 e5 k v_327 w_337 h_416) (JS_k20 e0 e1 e2 e3 e4 e5 k w_337 h_416) k true
        else let z_417 := (wrap64 (Int.tdiv (sizeI r_377) (64 : Int)))
        bif (decide ((0 : Int) ≤ ab_341)) then
          bif (decide ((1 : Int) ≤ z_417)) then
            bif (decide (ab_341 ≤ (lenI w_336))) then
              JS_i17_8_j0b (fun v_418 =>
                JS_j18 (fun v_327 => JS_k19 e0 e1 e2 e3 e4 e5 k v_327 w_337 h_416) (JS_k20 e0 e1 e2 e3 e4 e5 k w_337 h_416) k (!(decide ((0 : Int) = v_418)))) (JS_i17_8_l1b (fun h_419 =>
                  JS_j18 (fun v_327 => JS_k19 e0 e1 e2 e3 e4 e5 k v_327 h_419 h_416) (JS_k20 e0 e1 e2 e3 e4 e5 k h_419 h_416) k false) k ab_341 r_377 k (0 : Int) w_337) k (!(decide (z_417 ≤ (wrap64 ((lenI w_336) - ab_341)))))
            else JS_i17_8_j0b (fun v_420 =>
              JS_j18 (fun v_327 => JS_k19 e0 e1 e2 e3 e4 e5 k v_327 w_337 h_416) (JS_k20 e0 e1 e2 e3 e4 e5 k w_337 h_416) k (!(decide ((0 : Int) = v_420)))) (JS_i17_8_l1b (fun h_421 =>
                JS_j18 (fun v_327 => JS_k19 e0 e1 e2 e3 e4 e5 k v_327 h_421 h_416) (JS_k20 e0 e1 e2 e3 e4 e5 k h_421 h_416) k false) k ab_341 r_377 k (0 : Int) w_337) k true
          else JS_i17_8_j0b (fun v_422 =>
            JS_j18 (fun v_327 => JS_k19 e0 e1 e2 e3 e4 e5 k v_327 w_337 h_416) (JS_k20 e0 e1 e2 e3 e4 e5 k w_337 h_416) k (!(decide ((0 : Int) = v_422)))) (JS_i17_8_l1b (fun h_423 =>
              JS_j18 (fun v_327 => JS_k19 e0 e1 e2 e3 e4 e5 k v_327 h_423 h_416) (JS_k20 e0 e1 e2 e3 e4 e5 k h_423 h_416) k false) k ab_341 r_377 k (0 : Int) w_337) k true
        else JS_i17_8_j0b (fun v_424 =>
          JS_j18 (fun v_327 => JS_k19 e0 e1 e2 e3 e4 e5 k v_327 w_337 h_416) (JS_k20 e0 e1 e2 e3 e4 e5 k w_337 h_416) k (!(decide ((0 : Int) = v_424)))) (JS_i17_8_l1b (fun h_425 =>
            JS_j18 (fun v_327 => JS_k19 e0 e1 e2 e3 e4 e5 k v_327 h_425 h_416) (JS_k20 e0 e1 e2 e3 e4 e5 k h_425 h_416) k false) k ab_341 r_377 k (0 : Int) w_337) k true) k k ab_341 r_377 j_339) k (2 : Int)
  else bif (decide ((lenI h_335) < ab_341)) then
    JS_i10_8_j0b (eqG (.ptr 0 0) (.ptr 0 0) <|
      eqG (.ptr 7 1) (.ptr 7 1) <|
      eqG (.int .i64 ab_341) (.int .i64 ab_341) <|
      eqG (.str r_377) (.str r_377) <|
      bif (!(decide ((Int.tmod (sizeI r_377) (64 : Int)) = (0 : Int)))) then
        JS_j18 (fun v_327 => JS_k19 e0 e1 e2 e3 e4 e5 k v_327 w_337 j_339) (JS_k20 e0 e1 e2 e3 e4 e5 k w_337 j_339) k (!(decide ((2 : Int) = (1 : Int))))
      else let z_426 := (wrap64 (Int.tdiv (sizeI r_377) (64 : Int)))
      bif (decide ((0 : Int) ≤ ab_341)) then
        bif (decide ((1 : Int) ≤ z_426)) then
          bif (decide (ab_341 ≤ (lenI w_336))) then
            JS_i17_8_j0 (fun v_427 =>
              JS_j18 (fun v_327 => JS_k19 e0 e1 e2 e3 e4 e5 k v_327 w_337 j_339) (JS_k20 e0 e1 e2 e3 e4 e5 k w_337 j_339) k (!(decide ((2 : Int) = v_427)))) (JS_i17_8_l1 (fun h_428 =>
                JS_j18 (fun v_327 => JS_k19 e0 e1 e2 e3 e4 e5 k v_327 h_428 j_339) (JS_k20 e0 e1 e2 e3 e4 e5 k h_428 j_339) k (!(decide ((2 : Int) = (0 : Int))))) k ab_341 r_377 k (0 : Int) w_337) k (!(decide (z_426 ≤ (wrap64 ((lenI w_336) - ab_341)))))
          else JS_i17_8_j0 (fun v_429 =>
            JS_j18 (fun v_327 => JS_k19 e0 e1 e2 e3 e4 e5 k v_327 w_337 j_339) (JS_k20 e0 e1 e2 e3 e4 e5 k w_337 j_339) k (!(decide ((2 : Int) = v_429)))) (JS_i17_8_l1 (fun h_430 =>
              JS_j18 (fun v_327 => JS_k19 e0 e1 e2 e3 e4 e5 k v_327 h_430 j_339) (JS_k20 e0 e1 e2 e3 e4 e5 k h_430 j_339) k (!(decide ((2 : Int) = (0 : Int))))) k ab_341 r_377 k (0 : Int) w_337) k true
        else JS_i17_8_j0 (fun v_431 =>
          JS_j18 (fun v_327 => JS_k19 e0 e1 e2 e3 e4 e5 k v_327 w_337 j_339) (JS_k20 e0 e1 e2 e3 e4 e5 k w_337 j_339) k (!(decide ((2 : Int) = v_431)))) (JS_i17_8_l1 (fun h_432 =>
            JS_j18 (fun v_327 => JS_k19 e0 e1 e2 e3 e4 e5 k v_327 h_432 j_339) (JS_k20 e0 e1 e2 e3 e4 e5 k h_432 j_339) k (!(decide ((2 : Int) = (0 : Int))))) k ab_341 r_377 k (0 : Int) w_337) k true
      else JS_i17_8_j0 (fun v_433 =>
        JS_j18 (fun v_327 => JS_k19 e0 e1 e2 e3 e4 e5 k v_327 w_337 j_339) (JS_k20 e0 e1 e2 e3 e4 e5 k w_337 j_339) k (!(decide ((2 : Int) = v_433)))) (JS_i17_8_l1 (fun h_434 =>
          JS_j18 (fun v_327 => JS_k19 e0 e1 e2 e3 e4 e5 k v_327 h_434 j_339) (JS_k20 e0 e1 e2 e3 e4 e5 k h_434 j_339) k (!(decide ((2 : Int) = (0 : Int))))) k ab_341 r_377 k (0 : Int) w_337) k true) (JS_i10_8_l1b (fun h_435 =>
        eqG (.ptr 0 0) (.ptr 0 0) <|
        eqG (.ptr 7 1) (.ptr 7 1) <|
        eqG (.int .i64 ab_341) (.int .i64 ab_341) <|
        eqG (.str r_377) (.str r_377) <|
        bif (!(decide ((Int.tmod (sizeI r_377) (64 : Int)) = (0 : Int)))) then
          JS_j18 (fun v_327 => JS_k19 e0 e1 e2 e3 e4 e5 k v_327 w_337 h_435) (JS_k20 e0 e1 e2 e3 e4 e5 k w_337 h_435) k true
        else let z_436 := (wrap64 (Int.tdiv (sizeI r_377) (64 : Int)))
        bif (decide ((0 : Int) ≤ ab_341)) then
          bif (decide ((1 : Int) ≤ z_436)) then
            bif (decide (ab_341 ≤ (lenI w_336))) then
              JS_i17_8_j0b (fun v_437 =>
                JS_j18 (fun v_327 => JS_k19 e0 e1 e2 e3 e4 e5 k v_327 w_337 h_435) (JS_k20 e0 e1 e2 e3 e4 e5 k w_337 h_435) k (!(decide ((0 : Int) = v_437)))) (JS_i17_8_l1b (fun h_438 =>
                  JS_j18 (fun v_327 => JS_k19 e0 e1 e2 e3 e4 e5 k v_327 h_438 h_435) (JS_k20 e0 e1 e2 e3 e4 e5 k h_438 h_435) k false) k ab_341 r_377 k (0 : Int) w_337) k (!(decide (z_436 ≤ (wrap64 ((lenI w_336) - ab_341)))))
            else JS_i17_8_j0b (fun v_439 =>
              JS_j18 (fun v_327 => JS_k19 e0 e1 e2 e3 e4 e5 k v_327 w_337 h_435) (JS_k20 e0 e1 e2 e3 e4 e5 k w_337 h_435) k (!(decide ((0 : Int) = v_439)))) (JS_i17_8_l1b (fun h_440 =>
                JS_j18 (fun v_327 => JS_k19 e0 e1 e2 e3 e4 e5 k v_327 h_440 h_435) (JS_k20 e0 e1 e2 e3 e4 e5 k h_440 h_435) k false) k ab_341 r_377 k (0 : Int) w_337) k true
          else JS_i17_8_j0b (fun v_441 =>
            JS_j18 (fun v_327 => JS_k19 e0 e1 e2 e3 e4 e5 k v_327 w_337 h_435) (JS_k20 e0 e1 e2 e3 e4 e5 k w_337 h_435) k (!(decide ((0 : Int) = v_441)))) (JS_i17_8_l1b (fun h_442 =>
              JS_j18 (fun v_327 => JS_k19 e0 e1 e2 e3 e4 e5 k v_327 h_442 h_435) (JS_k20 e0 e1 e2 e3 e4 e5 k h_442 h_435) k false) k ab_341 r_377 k (0 : Int) w_337) k true
        else JS_i17_8_j0b (fun v_443 =>
          JS_j18 (fun v_327 => JS_k19 e0 e1 e2 e3 e4 e5 k v_327 w_337 h_435) (JS_k20 e0 e1 e2 e3 e4 e5 k w_337 h_435) k (!(decide ((0 : Int) = v_443)))) (JS_i17_8_l1b (fun h_444 =>
            JS_j18 (fun v_327 => JS_k19 e0 e1 e2 e3 e4 e5 k v_327 h_444 h_435) (JS_k20 e0 e1 e2 e3 e4 e5 k h_444 h_435) k false) k ab_341 r_377 k (0 : Int) w_337) k true) k k ab_341 r_377 j_339) k (2 : Int)
  else bif (decide ((wrap64 ((lenI h_335) - ab_341)) < z_387)) then
    JS_i10_8_j0b (eqG (.ptr 0 0) (.ptr 0 0) <|
      eqG (.ptr 7 1) (.ptr 7 1) <|
      eqG (.int .i64 ab_341) (.int .i64 ab_341) <|
      eqG (.str r_377) (.str r_377) <|
      bif (!(decide ((Int.tmod (sizeI r_377) (64 : Int)) = (0 : Int)))) then
        JS_j18 (fun v_327 => JS_k19 e0 e1 e2 e3 e4 e5 k v_327 w_337 j_339) (JS_k20 e0 e1 e2 e3 e4 e5 k w_337 j_339) k (!(decide ((2 : Int) = (1 : Int))))
      else let z_445 := (wrap64 (Int.tdiv (sizeI r_377) (64 : Int)))
      bif (decide ((0 : Int) ≤ ab_341)) then
        bif (decide ((1 : Int) ≤ z_445)) then
          bif (decide (ab_341 ≤ (lenI w_336))) then
            JS_i17_8_j0 (fun v_446 =>
              JS_j18 (fun v_327 => JS_k19 e0 e1 e2 e3 e4 e5 k v_327 w_337 j_339) (JS_k20 e0 e1 e2 e3 e4 e5 k w_337 j_339) k (!(decide ((2 : Int) = v_446)))) (JS_i17_8_l1 (fun h_447 =>
                JS_j18 (fun v_327 => JS_k19 e0 e1 e2 e3 e4 e5 k v_327 h_447 j_339) (JS_k20 e0 e1 e2 e3 e4 e5 k h_447 j_339) k (!(decide ((2 : Int) = (0 : Int))))) k ab_341 r_377 k (0 : Int) w_337) k (!(decide (z_445 ≤ (wrap64 ((lenI w_336) - ab_341)))))
          else JS_i17_8_j0 (fun v_448 =>
            JS_j18 (fun v_327 => JS_k19 e0 e1 e2 e3 e4 e5 k v_327 w_337 j_339) (JS_k20 e0 e1 e2 e3 e4 e5 k w_337 j_339) k (!(decide ((2 : Int) = v_448)))) (JS_i17_8_l1 (fun h_449 =>
              JS_j18 (fun v_327 => JS_k19 e0 e1 e2 e3 e4 e5 k v_327 h_449 j_339) (JS_k20 e0 e1 e2 e3 e4 e5 k h_449 j_339) k (!(decide ((2 : Int) = (0 : Int))))) k ab_341 r_377 k (0 : Int) w_337) k true
        else JS_i17_8_j0 (fun v_450 =>
          JS_j18 (fun v_327 => JS_k19 e0 e1 e2 e3 e4 e5 k v_327 w_337 j_339) (JS_k20 e0 e1 e2 e3 e4 e5 k w_337 j_339) k (!(decide ((2 : Int) = v_450)))) (JS_i17_8_l1 (fun h_451 =>
            JS_j18 (fun v_327 => JS_k19 e0 e1 e2 e3 e4 e5 k v_327 h_451 j_339) (JS_k20 e0 e1 e2 e3 e4 e5 k h_451 j_339) k (!(decide ((2 : Int) = (0 : Int))))) k ab_341 r_377 k (0 : Int) w_337) k true
      else JS_i17_8_j0 (fun v_452 =>
        JS_j18 (fun v_327 => JS_k19 e0 e1 e2 e3 e4 e5 k v_327 w_337 j_339) (JS_k20 e0 e1 e2 e3 e4 e5 k w_337 j_339) k (!(decide ((2 : Int) = v_452)))) (JS_i17_8_l1 (fun h_453 =>
          JS_j18 (fun v_327 => JS_k19 e0 e1 e2 e3 e4 e5 k v_327 h_453 j_339) (JS_k20 e0 e1 e2 e3 e4 e5 k h_453 j_339) k (!(decide ((2 : Int) = (0 : Int))))) k ab_341 r_377 k (0 : Int) w_337) k true) (JS_i10_8_l1b (fun h_454 =>
        eqG (.ptr 0 0) (.ptr 0 0) <|
        eqG (.ptr 7 1) (.ptr 7 1) <|
        eqG (.int .i64 ab_341) (.int .i64 ab_341) <|
        eqG (.str r_377) (.str r_377) <|
        bif (!(decide ((Int.tmod (sizeI r_377) (64 : Int)) = (0 : Int)))) then
          JS_j18 (fun v_327 => JS_k19 e0 e1 e2 e3 e4 e5 k v_327 w_337 h_454) (JS_k20 e0 e1 e2 e3 e4 e5 k w_337 h_454) k true
        else let z_455 := (wrap64 (Int.tdiv (sizeI r_377) (64 : Int)))
        bif (decide ((0 : Int) ≤ ab_341)) then
          bif (decide ((1 : Int) ≤ z_455)) then
            bif (decide (ab_341 ≤ (lenI w_336))) then
              JS_i17_8_j0b (fun v_456 =>
                JS_j18 (fun v_327 => JS_k19 e0 e1 e2 e3 e4 e5 k v_327 w_337 h_454) (JS_k20 e0 e1 e2 e3 e4 e5 k w_337 h_454) k (!(decide ((0 : Int) = v_456)))) (JS_i17_8_l1b (fun h_457 =>
                  JS_j18 (fun v_327 => JS_k19 e0 e1 e2 e3 e4 e5 k v_327 h_457 h_454) (JS_k20 e0 e1 e2 e3 e4 e5 k h_457 h_454) k false) k ab_341 r_377 k (0 : Int) w_337) k (!(decide (z_455 ≤ (wrap64 ((lenI w_336) - ab_341)))))
            else JS_i17_8_j0b (fun v_458 =>
              JS_j18 (fun v_327 => JS_k19 e0 e1 e2 e3 e4 e5 k v_327 w_337 h_454) (JS_k20 e0 e1 e2 e3 e4 e5 k w_337 h_454) k (!(decide ((0 : Int) = v_458)))) (JS_i17_8_l1b (fun h_459 =>
                JS_j18 (fun v_327 => JS_k19 e0 e1 e2 e3 e4 e5 k v_327 h_459 h_454) (JS_k20 e0 e1 e2 e3 e4 e5 k h_459 h_454) k false) k ab_341 r_377 k (0 : Int) w_337) k true
          else JS_i17_8_j0b (fun v_460 =>
            JS_j18 (fun v_327 => JS_k19 e0 e1 e2 e3 e4 e5 k v_327 w_337 h_454) (JS_k20 e0 e1 e2 e3 e4 e5 k w_337 h_454) k (!(decide ((0 : Int) = v_460)))) (JS_i17_8_l1b (fun h_461 =>
              JS_j18 (fun v_327 => JS_k19 e0 e1 e2 e3 e4 e5 k v_327 h_461 h_454) (JS_k20 e0 e1 e2 e3 e4 e5 k h_461 h_454) k false) k ab_341 r_377 k (0 : Int) w_337) k true
        else JS_i17_8_j0b (fun v_462 =>
          JS_j18 (fun v_327 => JS_k19 e0 e1 e2 e3 e4 e5 k v_327 w_337 h_454) (JS_k20 e0 e1 e2 e3 e4 e5 k w_337 h_454) k (!(decide ((0 : Int) = v_462)))) (JS_i17_8_l1b (fun h_463 =>
            JS_j18 (fun v_327 => JS_k19 e0 e1 e2 e3 e4 e5 k v_327 h_463 h_454) (JS_k20 e0 e1 e2 e3 e4 e5 k h_463 h_454) k false) k ab_341 r_377 k (0 : Int) w_337) k true) k k ab_341 r_377 j_339) k (2 : Int)
  else JS_i10_8_j0b (eqG (.ptr 0 0) (.ptr 0 0) <|
    eqG (.ptr 7 1) (.ptr 7 1) <|
    eqG (.int .i64 ab_341) (.int .i64 ab_341) <|
    eqG (.str r_377) (.str r_377) <|
    bif (!(decide ((Int.tmod (sizeI r_377) (64 : Int)) = (0 : Int)))) then
      JS_j18 (fun v_327 => JS_k19 e0 e1 e2 e3 e4 e5 k v_327 w_337 j_339) (JS_k20 e0 e1 e2 e3 e4 e5 k w_337 j_339) k (!(decide ((0 : Int) = (1 : Int))))
    else let z_464 := (wrap64 (Int.tdiv (sizeI r_377) (64 : Int)))
    bif (decide ((0 : Int) ≤ ab_341)) then
      bif (decide ((1 : Int) ≤ z_464)) then
        bif (decide (ab_341 ≤ (lenI w_336))) then
          JS_i17_8_j0 (fun v_465 =>
            JS_j18 (fun v_327 => JS_k19 e0 e1 e2 e3 e4 e5 k v_327 w_337 j_339) (JS_k20 e0 e1 e2 e3 e4 e5 k w_337 j_339) k (!(decide ((0 : Int) = v_465)))) (JS_i17_8_l1 (fun h_466 =>
              JS_j18 (fun v_327 => JS_k19 e0 e1 e2 e3 e4 e5 k v_327 h_466 j_339) (JS_k20 e0 e1 e2 e3 e4 e5 k h_466 j_339) k (!(decide ((0 : Int) = (0 : Int))))) k ab_341 r_377 k (0 : Int) w_337) k (!(decide (z_464 ≤ (wrap64 ((lenI w_336) - ab_341)))))
        else JS_i17_8_j0 (fun v_467 =>
          JS_j18 (fun v_327 => JS_k19 e0 e1 e2 e3 e4 e5 k v_327 w_337 j_339) (JS_k20 e0 e1 e2 e3 e4 e5 k w_337 j_339) k (!(decide ((0 : Int) = v_467)))) (JS_i17_8_l1 (fun h_468 =>
            JS_j18 (fun v_327 => JS_k19 e0 e1 e2 e3 e4 e5 k v_327 h_468 j_339) (JS_k20 e0 e1 e2 e3 e4 e5 k h_468 j_339) k (!(decide ((0 : Int) = (0 : Int))))) k ab_341 r_377 k (0 : Int) w_337) k true
      else JS_i17_8_j0 (fun v_469 =>
        JS_j18 (fun v_327 => JS_k19 e0 e1 e2 e3 e4 e5 k v_327 w_337 j_339) (JS_k20 e0 e1 e2 e3 e4 e5 k w_337 j_339) k (!(decide ((0 : Int) = v_469)))) (JS_i17_8_l1 (fun h_470 =>
          JS_j18 (fun v_327 => JS_k19 e0 e1 e2 e3 e4 e5 k v_327 h_470 j_339) (JS_k20 e0 e1 e2 e3 e4 e5 k h_470 j_339) k (!(decide ((0 : Int) = (0 : Int))))) k ab_341 r_377 k (0 : Int) w_337) k true
    else JS_i17_8_j0 (fun v_471 =>
      JS_j18 (fun v_327 => JS_k19 e0 e1 e2 e3 e4 e5 k v_327 w_337 j_339) (JS_k20 e0 e1 e2 e3 e4 e5 k w_337 j_339) k (!(decide ((0 : Int) = v_471)))) (JS_i17_8_l1 (fun h_472 =>
        JS_j18 (fun v_327 => JS_k19 e0 e1 e2 e3 e4 e5 k v_327 h_472 j_339) (JS_k20 e0 e1 e2 e3 e4 e5 k h_472 j_339) k (!(decide ((0 : Int) = (0 : Int))))) k ab_341 r_377 k (0 : Int) w_337) k true) (JS_i10_8_l1b (fun h_473 =>
      eqG (.ptr 0 0) (.ptr 0 0) <|
      eqG (.ptr 7 1) (.ptr 7 1) <|
      eqG (.int .i64 ab_341) (.int .i64 ab_341) <|
      eqG (.str r_377) (.str r_377) <|
      bif (!(decide ((Int.tmod (sizeI r_377) (64 : Int)) = (0 : Int)))) then
        JS_j18 (fun v_327 => JS_k19 e0 e1 e2 e3 e4 e5 k v_327 w_337 h_473) (JS_k20 e0 e1 e2 e3 e4 e5 k w_337 h_473) k true
      else let z_474 := (wrap64 (Int.tdiv (sizeI r_377) (64 : Int)))
      bif (decide ((0 : Int) ≤ ab_341)) then
        bif (decide ((1 : Int) ≤ z_474)) then
          bif (decide (ab_341 ≤ (lenI w_336))) then
            JS_i17_8_j0b (fun v_475 =>
              JS_j18 (fun v_327 => JS_k19 e0 e1 e2 e3 e4 e5 k v_327 w_337 h_473) (JS_k20 e0 e1 e2 e3 e4 e5 k w_337 h_473) k (!(decide ((0 : Int) = v_475)))) (JS_i17_8_l1b (fun h_476 =>
                JS_j18 (fun v_327 => JS_k19 e0 e1 e2 e3 e4 e5 k v_327 h_476 h_473) (JS_k20 e0 e1 e2 e3 e4 e5 k h_476 h_473) k false) k ab_341 r_377 k (0 : Int) w_337) k (!(decide (z_474 ≤ (wrap64 ((lenI w_336) - ab_341)))))
          else JS_i17_8_j0b (fun v_477 =>
            JS_j18 (fun v_327 => JS_k19 e0 e1 e2 e3 e4 e5 k v_327 w_337 h_473) (JS_k20 e0 e1 e2 e3 e4 e5 k w_337 h_473) k (!(decide ((0 : Int) = v_477)))) (JS_i17_8_l1b (fun h_478 =>
              JS_j18 (fun v_327 => JS_k19 e0 e1 e2 e3 e4 e5 k v_327 h_478 h_473) (JS_k20 e0 e1 e2 e3 e4 e5 k h_478 h_473) k false) k ab_341 r_377 k (0 : Int) w_337) k true
        else JS_i17_8_j0b (fun v_479 =>
          JS_j18 (fun v_327 => JS_k19 e0 e1 e2 e3 e4 e5 k v_327 w_337 h_473) (JS_k20 e0 e1 e2 e3 e4 e5 k w_337 h_473) k (!(decide ((0 : Int) = v_479)))) (JS_i17_8_l1b (fun h_480 =>
            JS_j18 (fun v_327 => JS_k19 e0 e1 e2 e3 e4 e5 k v_327 h_480 h_473) (JS_k20 e0 e1 e2 e3 e4 e5 k h_480 h_473) k false) k ab_341 r_377 k (0 : Int) w_337) k true
      else JS_i17_8_j0b (fun v_481 =>
        JS_j18 (fun v_327 => JS_k19 e0 e1 e2 e3 e4 e5 k v_327 w_337 h_473) (JS_k20 e0 e1 e2 e3 e4 e5 k w_337 h_473) k (!(decide ((0 : Int) = v_481)))) (JS_i17_8_l1b (fun h_482 =>
          JS_j18 (fun v_327 => JS_k19 e0 e1 e2 e3 e4 e5 k v_327 h_482 h_473) (JS_k20 e0 e1 e2 e3 e4 e5 k h_482 h_473) k false) k ab_341 r_377 k (0 : Int) w_337) k true) k k ab_341 r_377 j_339) k (0 : Int)
noncomputable def JS_k12 {R : Type} (e0 : Bool → List ByteArray → Bool → List ByteArray → Bool → List (Int × ByteArray) → Option R) (e1 : Bool → List (Int × ByteArray) → List (Int × ByteArray) → Option R) (e2 : Option R) (e3 : List (Int × ByteArray) → List (Int × ByteArray) → Option R) (e4 : Bool → Bool → List ByteArray → Bool → List (Int × ByteArray) → Bool → List Int → Bool → List ByteArray → Bool → List (Int × ByteArray) → Option R) (e5 : Bool → List ByteArray → Bool → List (Int × ByteArray) → Bool → List Int → Bool → List ByteArray → Bool → List (Int × ByteArray) → Option R) (e6 : Bool → Bool → List ByteArray → Bool → List (Int × ByteArray) → Bool → List Int → Option R) (e7 : Bool → List ByteArray → Bool → List (Int × ByteArray) → Bool → List Int → Option R) (k : Nat) (j_483 : List (Int × ByteArray)) (w_484 : List (Int × ByteArray)) : Bool → Option R := fun v_485 =>
  e1 v_485 w_484 j_483
noncomputable def JS_k13 {R : Type} (e0 : Bool → List ByteArray → Bool → List ByteArray → Bool → List (Int × ByteArray) → Option R) (e1 : Bool → List (Int × ByteArray) → List (Int × ByteArray) → Option R) (e2 : Option R) (e3 : List (Int × ByteArray) → List (Int × ByteArray) → Option R) (e4 : Bool → Bool → List ByteArray → Bool → List (Int × ByteArray) → Bool → List Int → Bool → List ByteArray → Bool → List (Int × ByteArray) → Option R) (e5 : Bool → List ByteArray → Bool → List (Int × ByteArray) → Bool → List Int → Bool → List ByteArray → Bool → List (Int × ByteArray) → Option R) (e6 : Bool → Bool → List ByteArray → Bool → List (Int × ByteArray) → Bool → List Int → Option R) (e7 : Bool → List ByteArray → Bool → List (Int × ByteArray) → Bool → List Int → Option R) (k : Nat) : Option R := 
  e2
noncomputable def JS_k14 {R : Type} (e0 : Bool → List ByteArray → Bool → List ByteArray → Bool → List (Int × ByteArray) → Option R) (e1 : Bool → List (Int × ByteArray) → List (Int × ByteArray) → Option R) (e2 : Option R) (e3 : List (Int × ByteArray) → List (Int × ByteArray) → Option R) (e4 : Bool → Bool → List ByteArray → Bool → List (Int × ByteArray) → Bool → List Int → Bool → List ByteArray → Bool → List (Int × ByteArray) → Option R) (e5 : Bool → List ByteArray → Bool → List (Int × ByteArray) → Bool → List Int → Bool → List ByteArray → Bool → List (Int × ByteArray) → Option R) (e6 : Bool → Bool → List ByteArray → Bool → List (Int × ByteArray) → Bool → List Int → Option R) (e7 : Bool → List ByteArray → Bool → List (Int × ByteArray) → Bool → List Int → Option R) (k : Nat) (j_483 : List (Int × ByteArray)) (w_484 : List (Int × ByteArray)) : Option R := 
  e3 w_484 j_483
noncomputable def JS_k21 {R : Type} (e0 : Bool → List ByteArray → Bool → List ByteArray → Bool → List (Int × ByteArray) → Option R) (e1 : Bool → List (Int × ByteArray) → List (Int × ByteArray) → Option R) (e2 : Option R) (e3 : List (Int × ByteArray) → List (Int × ByteArray) → Option R) (e4 : Bool → Bool → List ByteArray → Bool → List (Int × ByteArray) → Bool → List Int → Bool → List ByteArray → Bool → List (Int × ByteArray) → Option R) (e5 : Bool → List ByteArray → Bool → List (Int × ByteArray) → Bool → List Int → Bool → List ByteArray → Bool → List (Int × ByteArray) → Option R) (e6 : Bool → Bool → List ByteArray → Bool → List (Int × ByteArray) → Bool → List Int → Option R) (e7 : Bool → List ByteArray → Bool → List (Int × ByteArray) → Bool → List Int → Option R) (k : Nat) : Bool → Bool → List ByteArray → Bool → List (Int × ByteArray) → Bool → List Int → Bool → List ByteArray → Bool → List (Int × ByteArray) → Option R := fun v_486 hN_487 h_488 jN_489 j_490 hN_491 h_492 wN_493 w_494 wN_495 w_496 =>
  e4 v_486 hN_487 h_488 jN_489 j_490 hN_491 h_492 wN_493 w_494 wN_495 w_496
noncomputable def JS_k22 {R : Type} (e0 : Bool → List ByteArray → Bool → List ByteArray → Bool → List (Int × ByteArray) → Option R) (e1 : Bool → List (Int × ByteArray) → List (Int × ByteArray) → Option R) (e2 : Option R) (e3 : List (Int × ByteArray) → List (Int × ByteArray) → Option R) (e4 : Bool → Bool → List ByteArray → Bool → List (Int × ByteArray) → Bool → List Int → Bool → List ByteArray → Bool → List (Int × ByteArray) → Option R) (e5 : Bool → List ByteArray → Bool → List (Int × ByteArray) → Bool → List Int → Bool → List ByteArray → Bool → List (Int × ByteArray) → Option R) (e6 : Bool → Bool → List ByteArray → Bool → List (Int × ByteArray) → Bool → List Int → Option R) (e7 : Bool → List ByteArray → Bool → List (Int × ByteArray) → Bool → List Int → Option R) (k : Nat) : Bool → List ByteArray → Bool → List (Int × ByteArray) → Bool → List Int → Bool → List ByteArray → Bool → List (Int × ByteArray) → Option R := fun hN_497 h_498 jN_499 j_500 hN_501 h_502 wN_503 w_504 wN_505 w_506 =>
  e5 hN_497 h_498 jN_499 j_500 hN_501 h_502 wN_503 w_504 wN_505 w_506
noncomputable def JS_k23 {R : Type} (e0 : Bool → List ByteArray → Bool → List ByteArray → Bool → List (Int × ByteArray) → Option R) (e1 : Bool → List (Int × ByteArray) → List (Int × ByteArray) → Option R) (e2 : Option R) (e3 : List (Int × ByteArray) → List (Int × ByteArray) → Option R) (e4 : Bool → Bool → List ByteArray → Bool → List (Int × ByteArray) → Bool → List Int → Bool → List ByteArray → Bool → List (Int × ByteArray) → Option R) (e5 : Bool → List ByteArray → Bool → List (Int × ByteArray) → Bool → List Int → Bool → List ByteArray → Bool → List (Int × ByteArray) → Option R) (e6 : Bool → Bool → List ByteArray → Bool → List (Int × ByteArray) → Bool → List Int → Option R) (e7 : Bool → List ByteArray → Bool → List (Int × ByteArray) → Bool → List Int → Option R) (k : Nat) : Bool → Bool → List ByteArray → Bool → List (Int × ByteArray) → Bool → List Int → Option R := fun v_507 hN_508 h_509 jN_510 j_511 hN_512 h_513 =>
  e6 v_507 hN_508 h_509 jN_510 j_511 hN_512 h_513
noncomputable def JS_k24 {R : Type} (e0 : Bool → List ByteArray → Bool → List ByteArray → Bool → List (Int × ByteArray) → Option R) (e1 : Bool → List (Int × ByteArray) → List (Int × ByteArray) → Option R) (e2 : Option R) (e3 : List (Int × ByteArray) → List (Int × ByteArray) → Option R) (e4 : Bool → Bool → List ByteArray → Bool → List (Int × ByteArray) → Bool → List Int → Bool → List ByteArray → Bool → List (Int × ByteArray) → Option R) (e5 : Bool → List ByteArray → Bool → List (Int × ByteArray) → Bool → List Int → Bool → List ByteArray → Bool → List (Int × ByteArray) → Option R) (e6 : Bool → Bool → List ByteArray → Bool → List (Int × ByteArray) → Bool → List Int → Option R) (e7 : Bool → List ByteArray → Bool → List (Int × ByteArray) → Bool → List Int → Option R) (k : Nat) : Bool → List ByteArray → Bool → List (Int × ByteArray) → Bool → List Int → Option R := fun hN_514 h_515 jN_516 j_517 hN_518 h_519 =>
  e7 hN_514 h_515 jN_516 j_517 hN_518 h_519
noncomputable def JS_k25 {R : Type} (e0 : Bool → List ByteArray → Bool → List ByteArray → Bool → List (Int × ByteArray) → Option R) (e1 : Bool → List (Int × ByteArray) → List (Int × ByteArray) → Option R) (e2 : Option R) (e3 : List (Int × ByteArray) → List (Int × ByteArray) → Option R) (e4 : Bool → Bool → List ByteArray → Bool → List (Int × ByteArray) → Bool → List Int → Bool → List ByteArray → Bool → List (Int × ByteArray) → Option R) (e5 : Bool → List ByteArray → Bool → List (Int × ByteArray) → Bool → List Int → Bool → List ByteArray → Bool → List (Int × ByteArray) → Option R) (e6 : Bool → Bool → List ByteArray → Bool → List (Int × ByteArray) → Bool → List Int → Option R) (e7 : Bool → List ByteArray → Bool → List (Int × ByteArray) → Bool → List Int → Option R) (k : Nat) : Bool → List (Int × ByteArray) → List (Int × ByteArray) → Option R := fun v_520 w_521 j_522 =>
  e1 v_520 w_521 j_522
noncomputable def JS_k26 {R : Type} (e0 : Bool → List ByteArray → Bool → List ByteArray → Bool → List (Int × ByteArray) → Option R) (e1 : Bool → List (Int × ByteArray) → List (Int × ByteArray) → Option R) (e2 : Option R) (e3 : List (Int × ByteArray) → List (Int × ByteArray) → Option R) (e4 : Bool → Bool → List ByteArray → Bool → List (Int × ByteArray) → Bool → List Int → Bool → List ByteArray → Bool → List (Int × ByteArray) → Option R) (e5 : Bool → List ByteArray → Bool → List (Int × ByteArray) → Bool → List Int → Bool → List ByteArray → Bool → List (Int × ByteArray) → Option R) (e6 : Bool → Bool → List ByteArray → Bool → List (Int × ByteArray) → Bool → List Int → Option R) (e7 : Bool → List ByteArray → Bool → List (Int × ByteArray) → Bool → List Int → Option R) (k : Nat) : List (Int × ByteArray) → List (Int × ByteArray) → Option R := fun w_523 j_524 =>
  e3 w_523 j_524
noncomputable def JS_j8 {R : Type} (e0 : Bool → List ByteArray → Bool → List ByteArray → Bool → List (Int × ByteArray) → Option R) (e1 : Bool → List (Int × ByteArray) → List (Int × ByteArray) → Option R) (e2 : Option R) (e3 : List (Int × ByteArray) → List (Int × ByteArray) → Option R) (e4 : Bool → Bool → List ByteArray → Bool → List (Int × ByteArray) → Bool → List Int → Bool → List ByteArray → Bool → List (Int × ByteArray) → Option R) (e5 : Bool → List ByteArray → Bool → List (Int × ByteArray) → Bool → List Int → Bool → List ByteArray → Bool → List (Int × ByteArray) → Option R) (e6 : Bool → Bool → List ByteArray → Bool → List (Int × ByteArray) → Bool → List Int → Option R) (e7 : Bool → List ByteArray → Bool → List (Int × ByteArray) → Bool → List Int → Option R) (k : Nat) (what_525 : Int) (v_526 : Int) (v_527 : Bool) (hN_528 : Bool) (h_529 : List ByteArray) (w_530 : List ByteArray) (w_484 : List (Int × ByteArray)) (jN_531 : Bool) (j_483 : List (Int × ByteArray)) (aa_532 : Int) (ab_533 : Int) (ac_534 : Int) (ad_535 : Int) (ae_536 : Bool) : Option R :=
  bif v_527 then
    optb (slices_Clone k hN_528 h_529) fun r_537 =>
    JS_i35_8_l0 (fun out_538 =>
      bif (decide (w_530.length ≤ 1099511627776)) then
        JS_i19_9_l0 (fun out_539 =>
          e0 r_537.1 out_538 true out_539 true ([] : List (Int × ByteArray))) k (lenI w_484) w_484 k (0 : Int) w_530
      else none) k (lenI j_483) j_483 k (0 : Int) r_537.2
  else bif (decide (v_526 = (5 : Int))) then
    bif (decide (ab_533 < (0 : Int))) then
      JS_i11_8_j0 (fun v_540 =>
        JS_j9 (JS_k12 e0 e1 e2 e3 e4 e5 e6 e7 k j_483 w_484) (JS_k13 e0 e1 e2 e3 e4 e5 e6 e7 k) (JS_k14 e0 e1 e2 e3 e4 e5 e6 e7 k j_483 w_484) k v_540 (2 : Int) w_530 w_484 ab_533 ac_534) (optb (slices_Clone k hN_528 h_529) fun r_541 =>
        JS_i35_8_l0 (fun out_542 =>
          bif (((decide ((0 : Int) ≤ ab_533)) && (decide (ab_533 ≤ (wrap64 (ab_533 + ac_534))))) && (decide ((wrap64 (ab_533 + ac_534)) ≤ (lenI out_542)))) then
            optb (strings_Join k (r_541.1 && (out_542.isEmpty)) ((out_542.drop ab_533.toNat).take ((wrap64 (ab_533 + ac_534)) - ab_533).toNat) (⟨#[]⟩ : ByteArray)) fun r_543 =>
            JS_j9 (JS_k12 e0 e1 e2 e3 e4 e5 e6 e7 k j_483 w_484) (JS_k13 e0 e1 e2 e3 e4 e5 e6 e7 k) (JS_k14 e0 e1 e2 e3 e4 e5 e6 e7 k j_483 w_484) k r_543 (0 : Int) w_530 w_484 ab_533 ac_534
          else none) k (lenI j_483) j_483 k (0 : Int) r_541.2) k (2 : Int)
    else bif (decide (ac_534 < (1 : Int))) then
      JS_i11_8_j0 (fun v_544 =>
        JS_j9 (JS_k12 e0 e1 e2 e3 e4 e5 e6 e7 k j_483 w_484) (JS_k13 e0 e1 e2 e3 e4 e5 e6 e7 k) (JS_k14 e0 e1 e2 e3 e4 e5 e6 e7 k j_483 w_484) k v_544 (2 : Int) w_530 w_484 ab_533 ac_534) (optb (slices_Clone k hN_528 h_529) fun r_545 =>
        JS_i35_8_l0 (fun out_546 =>
          bif (((decide ((0 : Int) ≤ ab_533)) && (decide (ab_533 ≤ (wrap64 (ab_533 + ac_534))))) && (decide ((wrap64 (ab_533 + ac_534)) ≤ (lenI out_546)))) then
            optb (strings_Join k (r_545.1 && (out_546.isEmpty)) ((out_546.drop ab_533.toNat).take ((wrap64 (ab_533 + ac_534)) - ab_533).toNat) (⟨#[]⟩ : ByteArray)) fun r_547 =>
            JS_j9 (JS_k12 e0 e1 e2 e3 e4 e5 e6 e7 k j_483 w_484) (JS_k13 e0 e1 e2 e3 e4 e5 e6 e7 k) (JS_k14 e0 e1 e2 e3 e4 e5 e6 e7 k j_483 w_484) k r_547 (0 : Int) w_530 w_484 ab_533 ac_534
          else none) k (lenI j_483) j_483 k (0 : Int) r_545.2) k (2 : Int)
    else bif (decide ((lenI h_529) < ab_533)) then
      JS_i11_8_j0 (fun v_548 =>
        JS_j9 (JS_k12 e0 e1 e2 e3 e4 e5 e6 e7 k j_483 w_484) (JS_k13 e0 e1 e2 e3 e4 e5 e6 e7 k) (JS_k14 e0 e1 e2 e3 e4 e5 e6 e7 k j_483 w_484) k v_548 (2 : Int) w_530 w_484 ab_533 ac_534) (optb (slices_Clone k hN_528 h_529) fun r_549 =>
        JS_i35_8_l0 (fun out_550 =>
          bif (((decide ((0 : Int) ≤ ab_533)) && (decide (ab_533 ≤ (wrap64 (ab_533 + ac_534))))) && (decide ((wrap64 (ab_533 + ac_534)) ≤ (lenI out_550)))) then
            optb (strings_Join k (r_549.1 && (out_550.isEmpty)) ((out_550.drop ab_533.toNat).take ((wrap64 (ab_533 + ac_534)) - ab_533).toNat) (⟨#[]⟩ : ByteArray)) fun r_551 =>
            JS_j9 (JS_k12 e0 e1 e2 e3 e4 e5 e6 e7 k j_483 w_484) (JS_k13 e0 e1 e2 e3 e4 e5 e6 e7 k) (JS_k14 e0 e1 e2 e3 e4 e5 e6 e7 k j_483 w_484) k r_551 (0 : Int) w_530 w_484 ab_533 ac_534
          else none) k (lenI j_483) j_483 k (0 : Int) r_549.2) k (2 : Int)
    else bif (decide ((wrap64 ((lenI h_529) - ab_533)) < ac_534)) then
      JS_i11_8_j0 (fun v_552 =>
        JS_j9 (JS_k12 e0 e1 e2 e3 e4 e5 e6 e7 k j_483 w_484) (JS_k13 e0 e1 e2 e3 e4 e5 e6 e7 k) (JS_k14 e0 e1 e2 e3 e4 e5 e6 e7 k j_483 w_484) k v_552 (2 : Int) w_530 w_484 ab_533 ac_534) (optb (slices_Clone k hN_528 h_529) fun r_553 =>
        JS_i35_8_l0 (fun out_554 =>
          bif (((decide ((0 : Int) ≤ ab_533)) && (decide (ab_533 ≤ (wrap64 (ab_533 + ac_534))))) && (decide ((wrap64 (ab_533 + ac_534)) ≤ (lenI out_554)))) then
            optb (strings_Join k (r_553.1 && (out_554.isEmpty)) ((out_554.drop ab_533.toNat).take ((wrap64 (ab_533 + ac_534)) - ab_533).toNat) (⟨#[]⟩ : ByteArray)) fun r_555 =>
            JS_j9 (JS_k12 e0 e1 e2 e3 e4 e5 e6 e7 k j_483 w_484) (JS_k13 e0 e1 e2 e3 e4 e5 e6 e7 k) (JS_k14 e0 e1 e2 e3 e4 e5 e6 e7 k j_483 w_484) k r_555 (0 : Int) w_530 w_484 ab_533 ac_534
          else none) k (lenI j_483) j_483 k (0 : Int) r_553.2) k (2 : Int)
    else JS_i11_8_j0 (fun v_556 =>
      JS_j9 (JS_k12 e0 e1 e2 e3 e4 e5 e6 e7 k j_483 w_484) (JS_k13 e0 e1 e2 e3 e4 e5 e6 e7 k) (JS_k14 e0 e1 e2 e3 e4 e5 e6 e7 k j_483 w_484) k v_556 (0 : Int) w_530 w_484 ab_533 ac_534) (optb (slices_Clone k hN_528 h_529) fun r_557 =>
      JS_i35_8_l0 (fun out_558 =>
        bif (((decide ((0 : Int) ≤ ab_533)) && (decide (ab_533 ≤ (wrap64 (ab_533 + ac_534))))) && (decide ((wrap64 (ab_533 + ac_534)) ≤ (lenI out_558)))) then
          optb (strings_Join k (r_557.1 && (out_558.isEmpty)) ((out_558.drop ab_533.toNat).take ((wrap64 (ab_533 + ac_534)) - ab_533).toNat) (⟨#[]⟩ : ByteArray)) fun r_559 =>
          JS_j9 (JS_k12 e0 e1 e2 e3 e4 e5 e6 e7 k j_483 w_484) (JS_k13 e0 e1 e2 e3 e4 e5 e6 e7 k) (JS_k14 e0 e1 e2 e3 e4 e5 e6 e7 k j_483 w_484) k r_559 (0 : Int) w_530 w_484 ab_533 ac_534
        else none) k (lenI j_483) j_483 k (0 : Int) r_557.2) k (0 : Int)
  else bif (decide (v_526 = (6 : Int))) then
    JS_j12 (JS_k21 e0 e1 e2 e3 e4 e5 e6 e7 k) (JS_k22 e0 e1 e2 e3 e4 e5 e6 e7 k) (JS_k23 e0 e1 e2 e3 e4 e5 e6 e7 k) (JS_k24 e0 e1 e2 e3 e4 e5 e6 e7 k) (JS_k25 e0 e1 e2 e3 e4 e5 e6 e7 k) (JS_k26 e0 e1 e2 e3 e4 e5 e6 e7 k) k what_525 true hN_528 h_529 w_530 w_484 jN_531 j_483 aa_532 ab_533 ac_534 ad_535 ae_536
  else JS_j12 (JS_k21 e0 e1 e2 e3 e4 e5 e6 e7 k) (JS_k22 e0 e1 e2 e3 e4 e5 e6 e7 k) (JS_k23 e0 e1 e2 e3 e4 e5 e6 e7 k) (JS_k24 e0 e1 e2 e3 e4 e5 e6 e7 k) (JS_k25 e0 e1 e2 e3 e4 e5 e6 e7 k) (JS_k26 e0 e1 e2 e3 e4 e5 e6 e7 k) k what_525 (decide (v_526 = (7 : Int))) hN_528 h_529 w_530 w_484 jN_531 j_483 aa_532 ab_533 ac_534 ad_535 ae_536
noncomputable def JS_j19b {R : Type} (e0 : Bool → Option R) (e1 : Option R) (k : Nat) (j_560 : List (Int × ByteArray)) (w_561 : List (Int × ByteArray)) : Option R :=
  eqG (.ptr 0 0) (.ptr 0 0) <|
  eqG (.ptr 0 0) (.ptr 0 0) <|
  eqG (.ptr 0 1) (.ptr 0 1) <|
  eqG (.own 7 1) (.own 7 1) <|
  eqG (.int .i64 (lenI w_561)) (.int .i64 (lenI w_561)) <|
  bif (!(decide ((lenI j_560) = (lenI w_561)))) then
    e0 false
  else e1
noncomputable def JS_j20b {R : Type} (e0 : Int → Option R) (k : Nat) (i_562 : Int) : Option R :=
  e0 (wrap64 (i_562 + (1 : Int)))
noncomputable def JS_j20c {R : Type} (e0 : Int → Option R) (k : Nat) (i_563 : Int) : Option R :=
  e0 (wrap64 (i_563 + (1 : Int)))
noncomputable def JS_j19c {R : Type} (e0 : Bool → Option R) (e1 : Option R) (k : Nat) (w_564 : List (Int × ByteArray)) (j_565 : List (Int × ByteArray)) : Option R :=
  eqG (.ptr 0 0) (.ptr 0 0) <|
  eqG (.ptr 0 0) (.ptr 0 0) <|
  eqG (.ptr 0 1) (.ptr 0 1) <|
  eqG (.own 5 1) (.own 5 1) <|
  eqG (.int .i64 (lenI w_564)) (.int .i64 (lenI w_564)) <|
  bif (!(decide ((lenI j_565) = (lenI w_564)))) then
    e0 false
  else e1
noncomputable def JS_k5 {R : Type} (rc : Int → Bool → List ByteArray → Bool → List ByteArray → Bool → List (Int × ByteArray) → Bool → List (Int × ByteArray) → Option R) (e0 : Bool → Option R) (e1 : Option R) (k : Nat) : Bool → Bool → List ByteArray → Int → Int → Int → Int → Bool → Bool → List (Int × ByteArray) → List (Int × ByteArray) → Option R := fun v_566 hN_567 h_568 ha_569 hb_570 hc_571 hd_572 he_573 jN_574 j_575 w_576 =>
  e0 v_566
noncomputable def JS_k6 {R : Type} (rc : Int → Bool → List ByteArray → Bool → List ByteArray → Bool → List (Int × ByteArray) → Bool → List (Int × ByteArray) → Option R) (e0 : Bool → Option R) (e1 : Option R) (k : Nat) (i_577 : Int) (wN_578 : Bool) (wN_579 : Bool) (w_580 : List ByteArray) : Bool → List ByteArray → Int → Int → Int → Int → Bool → Bool → List (Int × ByteArray) → List (Int × ByteArray) → Option R := fun hN_581 h_582 ha_583 hb_584 hc_585 hd_586 he_587 jN_588 j_589 w_590 =>
  JS_j20 (fun i_591 =>
    rc i_591 hN_581 h_582 wN_578 w_580 wN_579 w_590 jN_588 j_589) k i_577
noncomputable def JS_k27 {R : Type} (rc : Int → Bool → List ByteArray → Bool → List ByteArray → Bool → List (Int × ByteArray) → Bool → List (Int × ByteArray) → Option R) (e0 : Bool → Option R) (e1 : Option R) (k : Nat) : Bool → Bool → List ByteArray → Bool → List ByteArray → Bool → List (Int × ByteArray) → Bool → List (Int × ByteArray) → Option R := fun v_592 hN_593 h_594 wN_595 w_596 jN_597 j_598 wN_599 w_600 =>
  e0 v_592
noncomputable def JS_k28 {R : Type} (rc : Int → Bool → List ByteArray → Bool → List ByteArray → Bool → List (Int × ByteArray) → Bool → List (Int × ByteArray) → Option R) (e0 : Bool → Option R) (e1 : Option R) (k : Nat) (i_577 : Int) : Bool → List ByteArray → Bool → List ByteArray → Bool → List (Int × ByteArray) → Bool → List (Int × ByteArray) → Option R := fun hN_601 h_602 wN_603 w_604 jN_605 j_606 wN_607 w_608 =>
  JS_j20b (fun i_609 =>
    rc i_609 hN_601 h_602 wN_603 w_604 wN_607 w_608 jN_605 j_606) k i_577
noncomputable def JS_k29 {R : Type} (rc : Int → Bool → List ByteArray → Bool → List ByteArray → Bool → List (Int × ByteArray) → Bool → List (Int × ByteArray) → Option R) (e0 : Bool → Option R) (e1 : Option R) (k : Nat) (hN_610 : Bool) (h_611 : List ByteArray) (jN_612 : Bool) (wN_578 : Bool) (wN_579 : Bool) (w_580 : List ByteArray) : Int → List (Int × ByteArray) → List (Int × ByteArray) → Option R := fun i_613 w_614 j_615 =>
  rc i_613 hN_610 h_611 wN_578 w_580 wN_579 w_614 jN_612 j_615
noncomputable def JS_l3s {R : Type} (rc : Int → Bool → List ByteArray → Bool → List ByteArray → Bool → List (Int × ByteArray) → Bool → List (Int × ByteArray) → Option R) (e0 : Bool → Option R) (e1 : Option R) (k : Nat) (scriptb_616 : List (Int × (Int × (Int × (Int × Bool))))) (i_577 : Int) (hN_610 : Bool) (h_611 : List ByteArray) (wN_578 : Bool) (w_580 : List ByteArray) (wN_579 : Bool) (w_617 : List (Int × ByteArray)) (jN_612 : Bool) (j_618 : List (Int × ByteArray)) : Option R :=
  bif (decide (i_577 < (lenI scriptb_616))) then
    bif (decide (i_577 < (60 : Int))) then
      bif (decide ((0 : Int) ≤ i_577)) then
        optb (scriptb_616[i_577.toNat]?) fun x_619 =>
        let z_620 := (wrap64 ((Int.tmod x_619.1 (8 : Int)) + (8 : Int)))
        bif (decide ((Int.tmod z_620 (8 : Int)) = (3 : Int))) then
          JS_j4 (fun v_621 j_622 w_623 =>
            e0 v_621) (fun j_624 w_625 =>
            JS_j19 (fun v_566 => JS_k5 rc e0 e1 k v_566 hN_610 h_611 x_619.1 x_619.2.1 x_619.2.2.1 x_619.2.2.2.1 x_619.2.2.2.2 jN_612 j_624 w_625) (JS_k6 rc e0 e1 k i_577 wN_578 wN_579 w_580 hN_610 h_611 x_619.1 x_619.2.1 x_619.2.2.1 x_619.2.2.2.1 x_619.2.2.2.2 jN_612 j_624 w_625) k j_624 w_625) k (2 : Int) h_611 w_580 w_617 j_618 x_619.2.1 x_619.2.2.1
        else JS_j8 (fun jN_626 j_627 wN_628 w_629 jN_630 j_631 =>
          JS_j19b (fun v_592 => JS_k27 rc e0 e1 k v_592 jN_626 j_627 wN_628 w_629 jN_630 j_631 true ([] : List (Int × ByteArray))) (JS_k28 rc e0 e1 k i_577 jN_626 j_627 wN_628 w_629 jN_630 j_631 true ([] : List (Int × ByteArray))) k j_631 ([] : List (Int × ByteArray))) (fun v_632 w_633 j_634 =>
          e0 v_632) (JS_j20c (fun i_613 => JS_k29 rc e0 e1 k hN_610 h_611 jN_612 wN_578 wN_579 w_580 i_613 w_617 j_618) k i_577) (fun w_635 j_636 =>
          JS_j19c (fun v_637 =>
            e0 v_637) (JS_j20c (fun i_613 => JS_k29 rc e0 e1 k hN_610 h_611 jN_612 wN_578 wN_579 w_580 i_613 w_635 j_636) k i_577) k w_635 j_636) (fun v_638 hN_639 h_640 jN_641 j_642 hN_643 h_644 wN_645 w_646 wN_647 w_648 =>
          e0 v_638) (fun hN_649 h_650 jN_651 j_652 hN_653 h_654 wN_655 w_656 wN_657 w_658 =>
          JS_j19b (fun v_592 => JS_k27 rc e0 e1 k v_592 hN_649 h_650 wN_655 w_656 jN_651 j_652 wN_657 w_658) (JS_k28 rc e0 e1 k i_577 hN_649 h_650 wN_655 w_656 jN_651 j_652 wN_657 w_658) k j_652 w_658) (fun v_659 hN_660 h_661 jN_662 j_663 hN_664 h_665 =>
          e0 v_659) (fun hN_666 h_667 jN_668 j_669 hN_670 h_671 =>
          JS_j19 (fun v_566 => JS_k5 rc e0 e1 k v_566 hN_666 h_667 x_619.1 x_619.2.1 x_619.2.2.1 x_619.2.2.2.1 x_619.2.2.2.2 jN_668 j_669 w_617) (JS_k6 rc e0 e1 k i_577 wN_578 wN_579 w_580 hN_666 h_667 x_619.1 x_619.2.1 x_619.2.2.1 x_619.2.2.2.1 x_619.2.2.2.2 jN_668 j_669 w_617) k j_669 w_617) k (Int.tmod z_620 (8 : Int)) (Int.tmod z_620 (8 : Int)) (decide ((Int.tmod z_620 (8 : Int)) = (4 : Int))) hN_610 h_611 w_580 w_617 jN_612 j_618 x_619.1 x_619.2.1 x_619.2.2.1 x_619.2.2.2.1 x_619.2.2.2.2
      else none
    else e1
  else e1
noncomputable def JS_l3 {R : Type} (e0 : Bool → Option R) (e1 : Option R) (k : Nat) (scriptb_616 : List (Int × (Int × (Int × (Int × Bool))))) : Nat → Int → Bool → List ByteArray → Bool → List ByteArray → Bool → List (Int × ByteArray) → Bool → List (Int × ByteArray) → Option R
  | 0 => fun _ _ _ _ _ _ _ _ _ => none
  | j + 1 => JS_l3s (JS_l3 e0 e1 k scriptb_616 j) e0 e1 k scriptb_616
noncomputable def JS_j2d {R : Type} (e0 : Bool → Option R) (k : Nat) (scriptb_672 : List (Int × (Int × (Int × (Int × Bool))))) (e_673 : Int) (hN_674 : Bool) (h_675 : List ByteArray) (wN_676 : Bool) (w_677 : List ByteArray) : Option R :=
  bif (!((decide (e_673 = (0 : Int))) == true)) then
    none
  else JS_l3 (fun v_678 =>
    e0 v_678) (e0 true) k scriptb_672 k (0 : Int) hN_674 h_675 wN_676 w_677 true ([] : List (Int × ByteArray)) true ([] : List (Int × ByteArray))
noncomputable def JS_j1b {R : Type} (e0 : Bool → Option R) (k : Nat) (size_679 : Int) (scriptb_680 : List (Int × (Int × (Int × (Int × Bool))))) (e_681 : Int) (hN_682 : Bool) (h_683 : List ByteArray) : Option R :=
  bif (decide (size_679 < (1 : Int))) then
    JS_j2c k e_681
  else bif (decide ((65536 : Int) < size_679)) then
    JS_j2c k e_681
  else JS_i15_3_l0 (fun j_684 =>
    JS_j2d (fun v_685 =>
      e0 v_685) k scriptb_680 e_681 hN_682 h_683 true j_684) k size_679 k (0 : Int) ([] : List ByteArray)
noncomputable def JS_k1 {R : Type} (e0 : Bool → Option R) (k : Nat) : Bool → Option R := fun v_686 =>
  e0 v_686
noncomputable def JS_j0 {R : Type} (e0 : Bool → Option R) (k : Nat) (size_687 : Int) (scriptb_688 : List (Int × (Int × (Int × (Int × Bool))))) : Option R :=
  bif (decide (size_687 < (1 : Int))) then
    JS_j1 (JS_k1 e0 k) k size_687 (1 : Int)
  else bif (decide ((65536 : Int) < size_687)) then
    JS_j1 (JS_k1 e0 k) k size_687 (1 : Int)
  else optb (xor_Zero k (64 : Int)) fun r_689 =>
  optb (slices_Repeat k false ([r_689] : List ByteArray) size_687) fun r_690 =>
  JS_j1b (fun v_691 =>
    e0 v_691) k size_687 scriptb_688 (0 : Int) r_690.1 r_690.2
noncomputable def JS_k30 (k : Nat) : Bool → Option Bool := fun v_692 =>
  some v_692
noncomputable def corbellaw23_JudgeScripts (k : Nat) (size_1 : Int) (scripta_2 : Bool) (scriptb_3 : List (Int × (Int × (Int × (Int × Bool))))) : Option Bool :=
  optb (corbellaw23_speaks k) fun r_693 =>
  bif (!r_693) then
    some false
  else bif (decide ((40 : Int) < size_1)) then
    bif (decide (size_1 ≤ (65536 : Int))) then
      JS_j0 (JS_k30 k) k (wrap64 ((bitop .and .i64 size_1 (31 : Int)) + (1 : Int))) scriptb_3
    else JS_j0 (JS_k30 k) k size_1 scriptb_3
  else JS_j0 (JS_k30 k) k size_1 scriptb_3
noncomputable def corbellaw23_JudgeScripts_p (k : Nat) : PF := { ps := [(false, 1), (false, 1)], rs := [(false, 1)], τ := (.pair (.int .i64) (.sl (.pair (.int .i64) (.pair (.int .i64) (.pair (.int .i64) (.pair (.int .u8) .bool)))))), σ := .bool, f := fun x => corbellaw23_JudgeScripts k x.1 x.2.1 x.2.2 }
noncomputable def JS_F (k : Nat) : PT := fcons 7 (corbellaw23_speaks_p k) <| fcons 32 (xor_Zero_p k) <| fcons 31 (slices_Repeat_p k) <| fcons 38 (strings_Repeat_p k) <| fcons 36 (slices_Clone_p k) <| fcons 20 (corbelref23_Text_p k) <| fcons 34 (strings_Join_p k) <| fcons 9 (corbellaw23_text_p k) <| fbase [(9, 39)] false
theorem JS_fok (k : Nat) : FOK Try.prog tab (JS_F k) := fok_cons (corbellaw23_speaks_ok k) Try.call7 <| fok_cons (xor_Zero_ok k) Try.call32 <| fok_cons (slices_Repeat_ok k) Try.call31 <| fok_cons (strings_Repeat_ok k) Try.call38 <| fok_cons (slices_Clone_ok k) Try.call36 <| fok_cons (corbelref23_Text_ok k) Try.call20 <| fok_cons (strings_Join_ok k) Try.call34 <| fok_cons (corbellaw23_text_ok k) Try.call9 <| fok_base
noncomputable def JS_c0 : Cl := { keep := [0, 1], hl := 0, ad := [], adc := [], bump := [] }
noncomputable def JS_x0 : Cl := { keep := [4], hl := 0, ad := [], adc := [], bump := [] }
noncomputable def JS_c1 : Cl := { keep := [0, 1, 5, 6], hl := 3, ad := [], adc := [], bump := [] }
noncomputable def JS_x1 : Cl := { keep := [4], hl := 0, ad := [], adc := [], bump := [] }
noncomputable def JS_c2 : Cl := { keep := [1, 5, 6, 7], hl := 5, ad := [], adc := [], bump := [], swc := [(0, 0, 1), (2, 0, 1)], sw := [(7, 0)] }
noncomputable def JS_x2 : Cl := { keep := [4], hl := 0, ad := [], adc := [], bump := [] }
noncomputable def JS_c3 : Cl := { keep := [1, 5, 7, 8], hl := 7, ad := [], adc := [(0, 1, (.pair (.int .i64) .str), 93), (2, 1, (.pair (.int .i64) .str), 87)], bump := [], swc := [(0, 1, 5)] }
noncomputable def JS_x3 : Cl := { keep := [4], hl := 0, ad := [], adc := [], bump := [] }
noncomputable def JS_c4 : Cl := { keep := [1, 5, 7, 8, 9, 11], hl := 8, ad := [], adc := [], bump := [] }
noncomputable def JS_x4 : Cl := { keep := [1, 4, 5, 7, 8], hl := 9, ad := [], adc := [], bump := [] }
noncomputable def JS_c5 : Cl := { keep := [1, 5, 7, 8, 9, 11, 95], hl := 8, ad := [], adc := [], bump := [] }
noncomputable def JS_x5 : Cl := { keep := [1, 5, 7, 8, 9, 11], hl := 8, ad := [], adc := [], bump := [] }
noncomputable def JS_c6 : Cl := { keep := [1, 5, 7, 8, 9, 11], hl := 8, ad := [], adc := [(0, 1, (.pair (.int .i64) .str), 93)], bump := [], swc := [(0, 1, 7)] }
noncomputable def JS_x6 : Cl := { keep := [1, 4, 5, 7, 8], hl := 9, ad := [], adc := [], bump := [] }
noncomputable def JS_c7 : Cl := { keep := [1, 5, 7, 8, 112], hl := 9, ad := [], adc := [(2, 1, (.pair (.int .i64) .str), 87)], bump := [], swc := [(0, 1, 7), (2, 1, 8)] }
noncomputable def JS_x7 : Cl := { keep := [1, 4, 5, 7, 8], hl := 9, ad := [], adc := [], bump := [] }
noncomputable def JS_c8 : Cl := { keep := [1, 5, 7, 8, 9, 10, 74, 113], hl := 8, ad := [], adc := [], bump := [] }
noncomputable def JS_x8 : Cl := { keep := [1, 4, 5, 7, 8], hl := 11, ad := [], adc := [], bump := [] }
noncomputable def JS_c9 : Cl := { keep := [1, 5, 7, 8, 9, 12, 13], hl := 8, ad := [], adc := [], bump := [] }
noncomputable def JS_x9 : Cl := { keep := [1, 4, 5, 7, 8], hl := 7, ad := [], adc := [], bump := [] }
noncomputable def JS_c10 : Cl := { keep := [1, 5, 7, 8, 9, 12, 13, 147], hl := 8, ad := [], adc := [], bump := [] }
noncomputable def JS_x10 : Cl := { keep := [1, 4, 5, 7, 8, 9, 12, 13], hl := 8, ad := [], adc := [], bump := [] }
noncomputable def JS_c11 : Cl := { keep := [1, 5, 7, 8, 176], hl := 7, ad := [], adc := [], bump := [] }
noncomputable def JS_x11 : Cl := { keep := [1, 4, 5, 7, 8], hl := 7, ad := [], adc := [], bump := [] }
noncomputable def JS_c12 : Cl := { keep := [1, 5, 7, 8, 9, 10, 177], hl := 8, ad := [], adc := [], bump := [] }
noncomputable def JS_x12 : Cl := { keep := [1, 4, 5, 7, 8], hl := 11, ad := [], adc := [], bump := [] }
noncomputable def JS_c13 : Cl := { keep := [1, 5, 7, 8, 9, 10, 16], hl := 9, ad := [], adc := [], bump := [] }
noncomputable def JS_x13 : Cl := { keep := [1, 4, 5, 7, 8], hl := 11, ad := [], adc := [], bump := [] }
noncomputable def JS_c14 : Cl := { keep := [1, 5, 7, 8, 9, 16, 202], hl := 9, ad := [], adc := [], bump := [] }
noncomputable def JS_x14 : Cl := { keep := [1, 5, 7, 8, 16], hl := 9, ad := [], adc := [], bump := [] }
noncomputable def JS_c15 : Cl := { keep := [1, 5, 7, 8, 16], hl := 9, ad := [], adc := [], bump := [] }
noncomputable def JS_x15 : Cl := { keep := [1, 4, 5, 7, 8], hl := 11, ad := [], adc := [], bump := [] }
noncomputable def JS_c16 : Cl := { keep := [1, 5, 7, 8, 16, 17, 18], hl := 9, ad := [], adc := [(2, 1, (.pair (.int .i64) .str), 87)], bump := [], swc := [(2, 0, 1), (2, 1, 6)] }
noncomputable def JS_x16 : Cl := { keep := [1, 4, 5, 7, 8], hl := 11, ad := [], adc := [], bump := [] }
noncomputable def JS_c17 : Cl := { keep := [1, 5, 7, 8, 17, 18, 19], hl := 11, ad := [], adc := [(0, 1, (.pair (.int .i64) .str), 93)], bump := [], swc := [(0, 0, 9), (0, 1, 10)] }
noncomputable def JS_x17 : Cl := { keep := [1, 4, 5, 7, 8], hl := 11, ad := [], adc := [], bump := [] }
noncomputable def JS_c18 : Cl := { keep := [1, 5, 7, 8, 87], hl := 7, ad := [], adc := [], bump := [] }
noncomputable def JS_x18 : Cl := { keep := [1, 4, 5, 7, 8], hl := 7, ad := [], adc := [], bump := [] }
noncomputable def JS_c19 : Cl := { keep := [1, 5, 7, 8], hl := 8, ad := [], adc := [(0, 1, (.pair (.int .i64) .str), 93)], bump := [], swc := [(0, 0, 4), (2, 0, 1), (2, 1, 6), (0, 1, 7)] }
noncomputable def JS_x19 : Cl := { keep := [1, 4, 5, 7, 8], hl := 9, ad := [], adc := [], bump := [] }
noncomputable def JS_c20 : Cl := { keep := [1, 5, 7, 8], hl := 8, ad := [], adc := [], bump := [], swc := [(0, 1, 7)] }
noncomputable def JS_x20 : Cl := { keep := [1, 5, 7, 8], hl := 9, ad := [], adc := [], bump := [] }
noncomputable def JS_h : Hint := (.sq .no (.sq .no (.ct JS_c0 JS_x0 0 .no (.ct JS_c1 JS_x1 1 .no (.ct JS_c2 JS_x2 2 .no (.sq (.sq .no (.sq .pr .no)) (.sq .no (.sq (.sq .no (.lp JS_c3 JS_x3 3 (.sq .no (.ct JS_c20 JS_x20 20 (.sq .no (.ct JS_c19 JS_x19 19 (.sq .no (.sq .no (.sq .no (.sq (.ct JS_c4 JS_x4 4 .no (.ct JS_c6 JS_x6 6 (.ct JS_c5 JS_x5 5 .no .no) (.ct JS_c7 JS_x7 7 .no .no))) (.ct JS_c8 JS_x8 8 .no (.sq .no (.sq .no (.sq (.ct JS_c9 JS_x9 9 .no (.sq (.ct JS_c10 JS_x10 10 .no .no) (.sq .no (.ct JS_c11 JS_x11 11 .no .no)))) (.ct JS_c12 JS_x12 12 .no (.sq (.sq .no (.sq .no (.ct JS_c13 JS_x13 13 .no (.ct JS_c15 JS_x15 15 (.ct JS_c14 JS_x14 14 .no .no) (.ct JS_c16 JS_x16 16 .no (.ct JS_c17 JS_x17 17 .no .no)))))) (.sq .no (.ct JS_c18 JS_x18 18 (.fl 4 9) .no)))))))))))) (.sq (.fl 1 7) .no))) .no)))) .no))))))))
noncomputable def JS_j0_E0 {R : Type} (K : EX → St → Option R) : Bool → Option R := fun v0 => K .ret (mkSt 252 [] JS_x0.keep [.bool v0] [])
noncomputable def JS_j0_S (size_687 : Int) (scripta_694 : Bool) (scriptb_688 : List (Int × (Int × (Int × (Int × Bool))))) : St := mkSt 252 [] JS_c0.keep [.int .i64 size_687, .sl (.pair (.int .i64) (.pair (.int .i64) (.pair (.int .i64) (.pair (.int .u8) .bool)))) scripta_694 scriptb_688] []
noncomputable def JS_j0_sh : Rd (List AV × List HE) := .pair (.cons (.int .i64) (.cons (.sl (.pair (.int .i64) (.pair (.int .i64) (.pair (.int .i64) (.pair (.int .u8) .bool))))) Rd.nil)) Rd.nil
noncomputable def JS_j0_a {R : Type} (k : Nat) : Alt R := { n := 252, v := [], sh := JS_j0_sh, g := fun K x => JS_j0 (JS_j0_E0 K) k x.1.1 x.1.2.1.2 }
noncomputable def JS_j1_E0 {R : Type} (K : EX → St → Option R) : Bool → Option R := fun v0 => K .ret (mkSt 252 [] JS_x1.keep [.bool v0] [])
noncomputable def JS_j1_S (size_7 : Int) (scripta_695 : Bool) (scriptb_696 : List (Int × (Int × (Int × (Int × Bool))))) (e_8 : Int) : St := mkSt 252 [] JS_c1.keep [.int .i64 size_7, .sl (.pair (.int .i64) (.pair (.int .i64) (.pair (.int .i64) (.pair (.int .u8) .bool)))) scripta_695 scriptb_696, .lit (.pointer none), .int .i64 e_8] []
noncomputable def JS_j1_sh : Rd (List AV × List HE) := .pair (.cons (.int .i64) (.cons (.sl (.pair (.int .i64) (.pair (.int .i64) (.pair (.int .i64) (.pair (.int .u8) .bool))))) (.cons .pnil (.cons (.int .i64) Rd.nil)))) Rd.nil
noncomputable def JS_j1_a {R : Type} (k : Nat) : Alt R := { n := 252, v := [], sh := JS_j1_sh, g := fun K x => JS_j1 (JS_j1_E0 K) k x.1.1 x.1.2.2.2.1 }
noncomputable def JS_j1b_E0 {R : Type} (K : EX → St → Option R) : Bool → Option R := fun v0 => K .ret (mkSt 252 [] JS_x1.keep [.bool v0] [])
noncomputable def JS_j1b_S (size_679 : Int) (scripta_697 : Bool) (scriptb_680 : List (Int × (Int × (Int × (Int × Bool))))) (e_681 : Int) (hN_698 : Bool) (h_699 : List ByteArray) (hN_682 : Bool) (h_683 : List ByteArray) : St := mkSt 252 [] JS_c1.keep [.int .i64 size_679, .sl (.pair (.int .i64) (.pair (.int .i64) (.pair (.int .i64) (.pair (.int .u8) .bool)))) scripta_697 scriptb_680, .ptr 2 0, .int .i64 e_681] [.lst .str 9 hN_698 1 h_699, .lst .str 9 hN_682 1 h_683, .blk [.own 1 1, .nils]]
noncomputable def JS_j1b_sh : Rd (List AV × List HE) := .pair (.cons (.int .i64) (.cons (.sl (.pair (.int .i64) (.pair (.int .i64) (.pair (.int .i64) (.pair (.int .u8) .bool))))) (.cons (.ptr 2 0) (.cons (.int .i64) Rd.nil)))) (.cons (.lst .str 9 1) (.cons (.lst .str 9 1) (.cons (.blk (.cons (.own 1 1) (.cons .nils Rd.nil))) Rd.nil)))
noncomputable def JS_j1b_a {R : Type} (k : Nat) : Alt R := { n := 252, v := [], sh := JS_j1b_sh, g := fun K x => JS_j1b (JS_j1b_E0 K) k x.1.1 x.1.2.1.2 x.1.2.2.2.1 x.2.2.1.1 x.2.2.1.2 }
noncomputable def JS_j2_E0 {R : Type} (K : EX → St → Option R) : Bool → Option R := fun v0 => K .ret (mkSt 252 [] JS_x2.keep [.bool v0] [])
noncomputable def JS_j2_S (scripta_700 : Bool) (scriptb_701 : List (Int × (Int × (Int × (Int × Bool))))) (e_0 : Int) : St := mkSt 252 [] JS_c2.keep [.sl (.pair (.int .i64) (.pair (.int .i64) (.pair (.int .i64) (.pair (.int .u8) .bool)))) scripta_700 scriptb_701, .lit (.pointer none), .int .i64 e_0, .lit (.pointer none)] []
noncomputable def JS_j2_sh : Rd (List AV × List HE) := .pair (.cons (.sl (.pair (.int .i64) (.pair (.int .i64) (.pair (.int .i64) (.pair (.int .u8) .bool))))) (.cons .pnil (.cons (.int .i64) (.cons .pnil Rd.nil)))) Rd.nil
noncomputable def JS_j2_a {R : Type} (k : Nat) : Alt R := { n := 252, v := [], sh := JS_j2_sh, g := fun K x => JS_j2 (JS_j2_E0 K) k x.1.2.2.1 }
noncomputable def JS_j2b_S (scripta_702 : Bool) (scriptb_703 : List (Int × (Int × (Int × (Int × Bool))))) (e_5 : Int) (wN_704 : Bool) (w_705 : List ByteArray) : St := mkSt 252 [] JS_c2.keep [.sl (.pair (.int .i64) (.pair (.int .i64) (.pair (.int .i64) (.pair (.int .u8) .bool)))) scripta_702 scriptb_703, .lit (.pointer none), .int .i64 e_5, .ptr 0 0] [.blk [.own 1 1, .nils], .lst .str 9 wN_704 1 w_705]
noncomputable def JS_j2b_sh : Rd (List AV × List HE) := .pair (.cons (.sl (.pair (.int .i64) (.pair (.int .i64) (.pair (.int .i64) (.pair (.int .u8) .bool))))) (.cons .pnil (.cons (.int .i64) (.cons (.ptr 0 0) Rd.nil)))) (.cons (.blk (.cons (.own 1 1) (.cons .nils Rd.nil))) (.cons (.lst .str 9 1) Rd.nil))
noncomputable def JS_j2b_a {R : Type} (k : Nat) : Alt R := { n := 252, v := [], sh := JS_j2b_sh, g := fun K x => JS_j2b  k x.1.2.2.1 }
noncomputable def JS_j2c_S (scripta_706 : Bool) (scriptb_707 : List (Int × (Int × (Int × (Int × Bool))))) (e_10 : Int) (hN_708 : Bool) (h_709 : List ByteArray) (hN_710 : Bool) (h_711 : List ByteArray) : St := mkSt 252 [] JS_c2.keep [.sl (.pair (.int .i64) (.pair (.int .i64) (.pair (.int .i64) (.pair (.int .u8) .bool)))) scripta_706 scriptb_707, .ptr 2 0, .int .i64 e_10, .lit (.pointer none)] [.lst .str 9 hN_708 1 h_709, .lst .str 9 hN_710 1 h_711, .blk [.own 1 1, .nils]]
noncomputable def JS_j2c_sh : Rd (List AV × List HE) := .pair (.cons (.sl (.pair (.int .i64) (.pair (.int .i64) (.pair (.int .i64) (.pair (.int .u8) .bool))))) (.cons (.ptr 2 0) (.cons (.int .i64) (.cons .pnil Rd.nil)))) (.cons (.lst .str 9 1) (.cons (.lst .str 9 1) (.cons (.blk (.cons (.own 1 1) (.cons .nils Rd.nil))) Rd.nil)))
noncomputable def JS_j2c_a {R : Type} (k : Nat) : Alt R := { n := 252, v := [], sh := JS_j2c_sh, g := fun K x => JS_j2c  k x.1.2.2.1 }
noncomputable def JS_j2d_E0 {R : Type} (K : EX → St → Option R) : Bool → Option R := fun v0 => K .ret (mkSt 252 [] JS_x2.keep [.bool v0] [])
noncomputable def JS_j2d_S (scripta_712 : Bool) (scriptb_672 : List (Int × (Int × (Int × (Int × Bool))))) (e_673 : Int) (hN_674 : Bool) (h_675 : List ByteArray) (hN_713 : Bool) (h_714 : List ByteArray) (wN_676 : Bool) (w_677 : List ByteArray) : St := mkSt 252 [] JS_c2.keep [.sl (.pair (.int .i64) (.pair (.int .i64) (.pair (.int .i64) (.pair (.int .u8) .bool)))) scripta_712 scriptb_672, .ptr 2 0, .int .i64 e_673, .ptr 0 0] [.blk [.own 4 1, .nils], .lst .str 9 hN_674 1 h_675, .blk [.own 1 1, .nils], .lst .str 9 hN_713 1 h_714, .lst .str 9 wN_676 1 w_677]
noncomputable def JS_j2d_sh : Rd (List AV × List HE) := .pair (.cons (.sl (.pair (.int .i64) (.pair (.int .i64) (.pair (.int .i64) (.pair (.int .u8) .bool))))) (.cons (.ptr 2 0) (.cons (.int .i64) (.cons (.ptr 0 0) Rd.nil)))) (.cons (.blk (.cons (.own 4 1) (.cons .nils Rd.nil))) (.cons (.lst .str 9 1) (.cons (.blk (.cons (.own 1 1) (.cons .nils Rd.nil))) (.cons (.lst .str 9 1) (.cons (.lst .str 9 1) Rd.nil)))))
noncomputable def JS_j2d_a {R : Type} (k : Nat) : Alt R := { n := 252, v := [], sh := JS_j2d_sh, g := fun K x => JS_j2d (JS_j2d_E0 K) k x.1.1.2 x.1.2.2.1 x.2.2.1.1 x.2.2.1.2 x.2.2.2.2.2.1.1 x.2.2.2.2.2.1.2 }
noncomputable def JS_l3_E0 {R : Type} (K : EX → St → Option R) : Bool → Option R := fun v0 => K .ret (mkSt 252 [] JS_x3.keep [.bool v0] [])
noncomputable def JS_l3_E1 {R : Type} (K : EX → St → Option R) : Option R := K (.exit 0) (mkSt 252 [] JS_x3.keep [.junk] [])
noncomputable def JS_l3_S (scripta_715 : Bool) (scriptb_616 : List (Int × (Int × (Int × (Int × Bool))))) (i_577 : Int) (hN_610 : Bool) (h_611 : List ByteArray) (hN_716 : Bool) (h_717 : List ByteArray) (wN_578 : Bool) (w_580 : List ByteArray) (wN_579 : Bool) (w_617 : List (Int × ByteArray)) (jN_612 : Bool) (j_618 : List (Int × ByteArray)) : St := mkSt 252 [] JS_c3.keep [.sl (.pair (.int .i64) (.pair (.int .i64) (.pair (.int .i64) (.pair (.int .u8) .bool)))) scripta_715 scriptb_616, .ptr 2 0, .ptr 0 0, .int .i64 i_577] [.blk [.own 4 1, .own 5 1], .lst .str 9 hN_610 1 h_611, .blk [.own 1 1, .own 6 1], .lst .str 9 hN_716 1 h_717, .lst .str 9 wN_578 1 w_580, .lst (.pair (.int .i64) .str) 93 wN_579 1 w_617, .lst (.pair (.int .i64) .str) 87 jN_612 1 j_618]
noncomputable def JS_l3_sh : Rd (List AV × List HE) := .pair (.cons (.sl (.pair (.int .i64) (.pair (.int .i64) (.pair (.int .i64) (.pair (.int .u8) .bool))))) (.cons (.ptr 2 0) (.cons (.ptr 0 0) (.cons (.int .i64) Rd.nil)))) (.cons (.blk (.cons (.own 4 1) (.cons (.own 5 1) Rd.nil))) (.cons (.lst .str 9 1) (.cons (.blk (.cons (.own 1 1) (.cons (.own 6 1) Rd.nil))) (.cons (.lst .str 9 1) (.cons (.lst .str 9 1) (.cons (.lst (.pair (.int .i64) .str) 93 1) (.cons (.lst (.pair (.int .i64) .str) 87 1) Rd.nil)))))))
noncomputable def JS_l3_a {R : Type} (k : Nat) : Alt R := { n := 252, v := [], sh := JS_l3_sh, g := fun K x => JS_l3 (JS_l3_E0 K) (JS_l3_E1 K) k x.1.1.2 k x.1.2.2.2.1 x.2.2.1.1 x.2.2.1.2 x.2.2.2.2.2.1.1 x.2.2.2.2.2.1.2 x.2.2.2.2.2.2.1.1 x.2.2.2.2.2.2.1.2 x.2.2.2.2.2.2.2.1.1 x.2.2.2.2.2.2.2.1.2 }
noncomputable def JS_j4_E0 {R : Type} (K : EX → St → Option R) : Bool → List (Int × (Int × (Int × (Int × Bool)))) → Bool → Int → Bool → List ByteArray → Bool → List ByteArray → Bool → List ByteArray → Int → Int → Int → Int → Bool → Bool → List (Int × ByteArray) → Bool → List (Int × ByteArray) → Option R := fun v0 v1 v2 v3 v4 v5 v6 v7 v8 v9 v10 v11 v12 v13 v14 v15 v16 v17 v18 => K .ret (mkSt 252 [] JS_x4.keep [.sl (.pair (.int .i64) (.pair (.int .i64) (.pair (.int .i64) (.pair (.int .u8) .bool)))) v0 v1, .bool v2, .ptr 2 0, .ptr 0 0, .int .i64 v3] [.blk [.own 4 1, .own 7 1], .lst .str 9 v4 1 v5, .blk [.own 1 1, .own 6 1], .lst .str 9 v6 1 v7, .lst .str 9 v8 1 v9, .blk [.int .i64 v10, .int .i64 v11, .int .i64 v12, .int .u8 v13, .bool v14], .lst (.pair (.int .i64) .str) 87 v15 1 v16, .lst (.pair (.int .i64) .str) 93 v17 1 v18])
noncomputable def JS_j4_E1 {R : Type} (K : EX → St → Option R) : Bool → List (Int × (Int × (Int × (Int × Bool)))) → Int → Bool → List ByteArray → Bool → List ByteArray → Bool → List ByteArray → Int → Int → Int → Int → Bool → Bool → List (Int × ByteArray) → Bool → List (Int × ByteArray) → Option R := fun v0 v1 v2 v3 v4 v5 v6 v7 v8 v9 v10 v11 v12 v13 v14 v15 v16 v17 => K .normal (mkSt 252 [] JS_x4.keep [.sl (.pair (.int .i64) (.pair (.int .i64) (.pair (.int .i64) (.pair (.int .u8) .bool)))) v0 v1, .junk, .ptr 2 0, .ptr 0 0, .int .i64 v2] [.blk [.own 4 1, .own 7 1], .lst .str 9 v3 1 v4, .blk [.own 1 1, .own 6 1], .lst .str 9 v5 1 v6, .lst .str 9 v7 1 v8, .blk [.int .i64 v9, .int .i64 v10, .int .i64 v11, .int .u8 v12, .bool v13], .lst (.pair (.int .i64) .str) 87 v14 1 v15, .lst (.pair (.int .i64) .str) 93 v16 1 v17])
noncomputable def JS_j4_S (scripta_718 : Bool) (scriptb_719 : List (Int × (Int × (Int × (Int × Bool))))) (i_720 : Int) (f_102 : Int) (hN_721 : Bool) (h_95 : List ByteArray) (hN_722 : Bool) (h_723 : List ByteArray) (wN_724 : Bool) (w_103 : List ByteArray) (wN_725 : Bool) (w_104 : List (Int × ByteArray)) (jN_726 : Bool) (j_96 : List (Int × ByteArray)) (aa_727 : Int) (ab_93 : Int) (ac_94 : Int) (ad_728 : Int) (ae_729 : Bool) : St := mkSt 252 [] JS_c4.keep [.sl (.pair (.int .i64) (.pair (.int .i64) (.pair (.int .i64) (.pair (.int .u8) .bool)))) scripta_718 scriptb_719, .ptr 2 0, .ptr 0 0, .int .i64 i_720, .ptr 7 0, .int .i64 f_102] [.blk [.own 4 1, .own 5 1], .lst .str 9 hN_721 1 h_95, .blk [.own 1 1, .own 6 1], .lst .str 9 hN_722 1 h_723, .lst .str 9 wN_724 1 w_103, .lst (.pair (.int .i64) .str) 93 wN_725 1 w_104, .lst (.pair (.int .i64) .str) 87 jN_726 1 j_96, .blk [.int .i64 aa_727, .int .i64 ab_93, .int .i64 ac_94, .int .u8 ad_728, .bool ae_729]]
noncomputable def JS_j4_sh : Rd (List AV × List HE) := .pair (.cons (.sl (.pair (.int .i64) (.pair (.int .i64) (.pair (.int .i64) (.pair (.int .u8) .bool))))) (.cons (.ptr 2 0) (.cons (.ptr 0 0) (.cons (.int .i64) (.cons (.ptr 7 0) (.cons (.int .i64) Rd.nil)))))) (.cons (.blk (.cons (.own 4 1) (.cons (.own 5 1) Rd.nil))) (.cons (.lst .str 9 1) (.cons (.blk (.cons (.own 1 1) (.cons (.own 6 1) Rd.nil))) (.cons (.lst .str 9 1) (.cons (.lst .str 9 1) (.cons (.lst (.pair (.int .i64) .str) 93 1) (.cons (.lst (.pair (.int .i64) .str) 87 1) (.cons (.blk (.cons (.int .i64) (.cons (.int .i64) (.cons (.int .i64) (.cons (.int .u8) (.cons .bool Rd.nil)))))) Rd.nil))))))))
noncomputable def JS_j4_a {R : Type} (k : Nat) : Alt R := { n := 252, v := [], sh := JS_j4_sh, g := fun K x => JS_j4 (fun y2 y16 y18 => JS_j4_E0 K x.1.1.1 x.1.1.2 y2 x.1.2.2.2.1 x.2.2.1.1 x.2.2.1.2 x.2.2.2.2.1.1 x.2.2.2.2.1.2 x.2.2.2.2.2.1.1 x.2.2.2.2.2.1.2 x.2.2.2.2.2.2.2.2.1.1 x.2.2.2.2.2.2.2.2.1.2.1 x.2.2.2.2.2.2.2.2.1.2.2.1 x.2.2.2.2.2.2.2.2.1.2.2.2.1 x.2.2.2.2.2.2.2.2.1.2.2.2.2.1 x.2.2.2.2.2.2.2.1.1 y16 x.2.2.2.2.2.2.1.1 y18) (fun y15 y17 => JS_j4_E1 K x.1.1.1 x.1.1.2 x.1.2.2.2.1 x.2.2.1.1 x.2.2.1.2 x.2.2.2.2.1.1 x.2.2.2.2.1.2 x.2.2.2.2.2.1.1 x.2.2.2.2.2.1.2 x.2.2.2.2.2.2.2.2.1.1 x.2.2.2.2.2.2.2.2.1.2.1 x.2.2.2.2.2.2.2.2.1.2.2.1 x.2.2.2.2.2.2.2.2.1.2.2.2.1 x.2.2.2.2.2.2.2.2.1.2.2.2.2.1 x.2.2.2.2.2.2.2.1.1 y15 x.2.2.2.2.2.2.1.1 y17) k x.1.2.2.2.2.2.1 x.2.2.1.2 x.2.2.2.2.2.1.2 x.2.2.2.2.2.2.1.2 x.2.2.2.2.2.2.2.1.2 x.2.2.2.2.2.2.2.2.1.2.1 x.2.2.2.2.2.2.2.2.1.2.2.1 }
noncomputable def JS_j5_E0 {R : Type} (K : EX → St → Option R) : Bool → List (Int × (Int × (Int × (Int × Bool)))) → Int → Int → Bool → List ByteArray → Bool → List ByteArray → Bool → List ByteArray → Bool → List (Int × ByteArray) → Bool → List (Int × ByteArray) → Int → Int → Int → Int → Bool → Option R := fun v0 v1 v2 v3 v4 v5 v6 v7 v8 v9 v10 v11 v12 v13 v14 v15 v16 v17 v18 => K .normal (mkSt 252 [] JS_x5.keep [.sl (.pair (.int .i64) (.pair (.int .i64) (.pair (.int .i64) (.pair (.int .u8) .bool)))) v0 v1, .ptr 2 0, .ptr 0 0, .int .i64 v2, .ptr 7 0, .int .i64 v3] [.blk [.own 4 1, .own 5 1], .lst .str 9 v4 1 v5, .blk [.own 1 1, .own 6 1], .lst .str 9 v6 1 v7, .lst .str 9 v8 1 v9, .lst (.pair (.int .i64) .str) 93 v10 1 v11, .lst (.pair (.int .i64) .str) 87 v12 1 v13, .blk [.int .i64 v14, .int .i64 v15, .int .i64 v16, .int .u8 v17, .bool v18]])
noncomputable def JS_j5_S (scripta_730 : Bool) (scriptb_731 : List (Int × (Int × (Int × (Int × Bool))))) (i_732 : Int) (f_22 : Int) (v_23 : Bool) (hN_733 : Bool) (h_734 : List ByteArray) (hN_735 : Bool) (h_736 : List ByteArray) (wN_737 : Bool) (w_24 : List ByteArray) (wN_738 : Bool) (w_25 : List (Int × ByteArray)) (jN_739 : Bool) (j_740 : List (Int × ByteArray)) (aa_741 : Int) (ab_26 : Int) (ac_27 : Int) (ad_742 : Int) (ae_743 : Bool) : St := mkSt 252 [] JS_c5.keep [.sl (.pair (.int .i64) (.pair (.int .i64) (.pair (.int .i64) (.pair (.int .u8) .bool)))) scripta_730 scriptb_731, .ptr 2 0, .ptr 0 0, .int .i64 i_732, .ptr 7 0, .int .i64 f_22, .bool v_23] [.blk [.own 4 1, .own 5 1], .lst .str 9 hN_733 1 h_734, .blk [.own 1 1, .own 6 1], .lst .str 9 hN_735 1 h_736, .lst .str 9 wN_737 1 w_24, .lst (.pair (.int .i64) .str) 93 wN_738 1 w_25, .lst (.pair (.int .i64) .str) 87 jN_739 1 j_740, .blk [.int .i64 aa_741, .int .i64 ab_26, .int .i64 ac_27, .int .u8 ad_742, .bool ae_743]]
noncomputable def JS_j5_sh : Rd (List AV × List HE) := .pair (.cons (.sl (.pair (.int .i64) (.pair (.int .i64) (.pair (.int .i64) (.pair (.int .u8) .bool))))) (.cons (.ptr 2 0) (.cons (.ptr 0 0) (.cons (.int .i64) (.cons (.ptr 7 0) (.cons (.int .i64) (.cons .bool Rd.nil))))))) (.cons (.blk (.cons (.own 4 1) (.cons (.own 5 1) Rd.nil))) (.cons (.lst .str 9 1) (.cons (.blk (.cons (.own 1 1) (.cons (.own 6 1) Rd.nil))) (.cons (.lst .str 9 1) (.cons (.lst .str 9 1) (.cons (.lst (.pair (.int .i64) .str) 93 1) (.cons (.lst (.pair (.int .i64) .str) 87 1) (.cons (.blk (.cons (.int .i64) (.cons (.int .i64) (.cons (.int .i64) (.cons (.int .u8) (.cons .bool Rd.nil)))))) Rd.nil))))))))
noncomputable def JS_j5_a {R : Type} (k : Nat) : Alt R := { n := 252, v := [], sh := JS_j5_sh, g := fun K x => JS_j5 (fun y3 y11 => JS_j5_E0 K x.1.1.1 x.1.1.2 x.1.2.2.2.1 y3 x.2.2.1.1 x.2.2.1.2 x.2.2.2.2.1.1 x.2.2.2.2.1.2 x.2.2.2.2.2.1.1 x.2.2.2.2.2.1.2 x.2.2.2.2.2.2.1.1 y11 x.2.2.2.2.2.2.2.1.1 x.2.2.2.2.2.2.2.1.2 x.2.2.2.2.2.2.2.2.1.1 x.2.2.2.2.2.2.2.2.1.2.1 x.2.2.2.2.2.2.2.2.1.2.2.1 x.2.2.2.2.2.2.2.2.1.2.2.2.1 x.2.2.2.2.2.2.2.2.1.2.2.2.2.1) k x.1.2.2.2.2.2.1 x.1.2.2.2.2.2.2.1 x.2.2.2.2.2.1.2 x.2.2.2.2.2.2.1.2 x.2.2.2.2.2.2.2.2.1.2.1 x.2.2.2.2.2.2.2.2.1.2.2.1 }
noncomputable def JS_j6_E0 {R : Type} (K : EX → St → Option R) : Bool → List (Int × (Int × (Int × (Int × Bool)))) → Bool → Int → Bool → List ByteArray → Bool → List ByteArray → Bool → List ByteArray → Int → Int → Int → Int → Bool → Bool → List (Int × ByteArray) → Bool → List (Int × ByteArray) → Option R := fun v0 v1 v2 v3 v4 v5 v6 v7 v8 v9 v10 v11 v12 v13 v14 v15 v16 v17 v18 => K .ret (mkSt 252 [] JS_x6.keep [.sl (.pair (.int .i64) (.pair (.int .i64) (.pair (.int .i64) (.pair (.int .u8) .bool)))) v0 v1, .bool v2, .ptr 2 0, .ptr 0 0, .int .i64 v3] [.blk [.own 4 1, .own 7 1], .lst .str 9 v4 1 v5, .blk [.own 1 1, .own 6 1], .lst .str 9 v6 1 v7, .lst .str 9 v8 1 v9, .blk [.int .i64 v10, .int .i64 v11, .int .i64 v12, .int .u8 v13, .bool v14], .lst (.pair (.int .i64) .str) 87 v15 1 v16, .lst (.pair (.int .i64) .str) 93 v17 1 v18])
noncomputable def JS_j6_E1 {R : Type} (K : EX → St → Option R) : Bool → List (Int × (Int × (Int × (Int × Bool)))) → Int → Bool → List ByteArray → Bool → List ByteArray → Bool → List ByteArray → Int → Int → Int → Int → Bool → Bool → List (Int × ByteArray) → Bool → List (Int × ByteArray) → Option R := fun v0 v1 v2 v3 v4 v5 v6 v7 v8 v9 v10 v11 v12 v13 v14 v15 v16 v17 => K .normal (mkSt 252 [] JS_x6.keep [.sl (.pair (.int .i64) (.pair (.int .i64) (.pair (.int .i64) (.pair (.int .u8) .bool)))) v0 v1, .junk, .ptr 2 0, .ptr 0 0, .int .i64 v2] [.blk [.own 4 1, .own 7 1], .lst .str 9 v3 1 v4, .blk [.own 1 1, .own 6 1], .lst .str 9 v5 1 v6, .lst .str 9 v7 1 v8, .blk [.int .i64 v9, .int .i64 v10, .int .i64 v11, .int .u8 v12, .bool v13], .lst (.pair (.int .i64) .str) 87 v14 1 v15, .lst (.pair (.int .i64) .str) 93 v16 1 v17])
noncomputable def JS_j6_S (scripta_744 : Bool) (scriptb_745 : List (Int × (Int × (Int × (Int × Bool))))) (i_746 : Int) (f_48 : Int) (hN_747 : Bool) (h_49 : List ByteArray) (hN_748 : Bool) (h_749 : List ByteArray) (wN_750 : Bool) (w_751 : List ByteArray) (aa_752 : Int) (ab_50 : Int) (ac_51 : Int) (ad_753 : Int) (ae_754 : Bool) (jN_755 : Bool) (j_52 : List (Int × ByteArray)) (wN_756 : Bool) (w_757 : List (Int × ByteArray)) : St := mkSt 252 [] JS_c6.keep [.sl (.pair (.int .i64) (.pair (.int .i64) (.pair (.int .i64) (.pair (.int .u8) .bool)))) scripta_744 scriptb_745, .ptr 2 0, .ptr 0 0, .int .i64 i_746, .ptr 5 0, .int .i64 f_48] [.blk [.own 4 1, .own 7 1], .lst .str 9 hN_747 1 h_49, .blk [.own 1 1, .own 6 1], .lst .str 9 hN_748 1 h_749, .lst .str 9 wN_750 1 w_751, .blk [.int .i64 aa_752, .int .i64 ab_50, .int .i64 ac_51, .int .u8 ad_753, .bool ae_754], .lst (.pair (.int .i64) .str) 87 jN_755 1 j_52, .lst (.pair (.int .i64) .str) 93 wN_756 1 w_757]
noncomputable def JS_j6_sh : Rd (List AV × List HE) := .pair (.cons (.sl (.pair (.int .i64) (.pair (.int .i64) (.pair (.int .i64) (.pair (.int .u8) .bool))))) (.cons (.ptr 2 0) (.cons (.ptr 0 0) (.cons (.int .i64) (.cons (.ptr 5 0) (.cons (.int .i64) Rd.nil)))))) (.cons (.blk (.cons (.own 4 1) (.cons (.own 7 1) Rd.nil))) (.cons (.lst .str 9 1) (.cons (.blk (.cons (.own 1 1) (.cons (.own 6 1) Rd.nil))) (.cons (.lst .str 9 1) (.cons (.lst .str 9 1) (.cons (.blk (.cons (.int .i64) (.cons (.int .i64) (.cons (.int .i64) (.cons (.int .u8) (.cons .bool Rd.nil)))))) (.cons (.lst (.pair (.int .i64) .str) 87 1) (.cons (.lst (.pair (.int .i64) .str) 93 1) Rd.nil))))))))
noncomputable def JS_j6_a {R : Type} (k : Nat) : Alt R := { n := 252, v := [], sh := JS_j6_sh, g := fun K x => JS_j6 (fun y2 y16 => JS_j6_E0 K x.1.1.1 x.1.1.2 y2 x.1.2.2.2.1 x.2.2.1.1 x.2.2.1.2 x.2.2.2.2.1.1 x.2.2.2.2.1.2 x.2.2.2.2.2.1.1 x.2.2.2.2.2.1.2 x.2.2.2.2.2.2.1.1 x.2.2.2.2.2.2.1.2.1 x.2.2.2.2.2.2.1.2.2.1 x.2.2.2.2.2.2.1.2.2.2.1 x.2.2.2.2.2.2.1.2.2.2.2.1 x.2.2.2.2.2.2.2.1.1 y16 x.2.2.2.2.2.2.2.2.1.1 x.2.2.2.2.2.2.2.2.1.2) (fun y15 => JS_j6_E1 K x.1.1.1 x.1.1.2 x.1.2.2.2.1 x.2.2.1.1 x.2.2.1.2 x.2.2.2.2.1.1 x.2.2.2.2.1.2 x.2.2.2.2.2.1.1 x.2.2.2.2.2.1.2 x.2.2.2.2.2.2.1.1 x.2.2.2.2.2.2.1.2.1 x.2.2.2.2.2.2.1.2.2.1 x.2.2.2.2.2.2.1.2.2.2.1 x.2.2.2.2.2.2.1.2.2.2.2.1 x.2.2.2.2.2.2.2.1.1 y15 x.2.2.2.2.2.2.2.2.1.1 x.2.2.2.2.2.2.2.2.1.2) k x.1.2.2.2.2.2.1 x.2.2.1.2 x.2.2.2.2.2.2.1.2.1 x.2.2.2.2.2.2.1.2.2.1 x.2.2.2.2.2.2.2.1.2 }
noncomputable def JS_j7_E0 {R : Type} (K : EX → St → Option R) : Bool → List (Int × (Int × (Int × (Int × Bool)))) → Bool → Int → Bool → List ByteArray → Bool → List ByteArray → Bool → List ByteArray → Int → Int → Int → Int → Bool → Bool → List (Int × ByteArray) → Bool → List (Int × ByteArray) → Option R := fun v0 v1 v2 v3 v4 v5 v6 v7 v8 v9 v10 v11 v12 v13 v14 v15 v16 v17 v18 => K .ret (mkSt 252 [] JS_x7.keep [.sl (.pair (.int .i64) (.pair (.int .i64) (.pair (.int .i64) (.pair (.int .u8) .bool)))) v0 v1, .bool v2, .ptr 2 0, .ptr 0 0, .int .i64 v3] [.blk [.own 4 1, .own 7 1], .lst .str 9 v4 1 v5, .blk [.own 1 1, .own 6 1], .lst .str 9 v6 1 v7, .lst .str 9 v8 1 v9, .blk [.int .i64 v10, .int .i64 v11, .int .i64 v12, .int .u8 v13, .bool v14], .lst (.pair (.int .i64) .str) 87 v15 1 v16, .lst (.pair (.int .i64) .str) 93 v17 1 v18])
noncomputable def JS_j7_E1 {R : Type} (K : EX → St → Option R) : Bool → List (Int × (Int × (Int × (Int × Bool)))) → Int → Bool → List ByteArray → Bool → List ByteArray → Bool → List ByteArray → Int → Int → Int → Int → Bool → Bool → List (Int × ByteArray) → Bool → List (Int × ByteArray) → Option R := fun v0 v1 v2 v3 v4 v5 v6 v7 v8 v9 v10 v11 v12 v13 v14 v15 v16 v17 => K .normal (mkSt 252 [] JS_x7.keep [.sl (.pair (.int .i64) (.pair (.int .i64) (.pair (.int .i64) (.pair (.int .u8) .bool)))) v0 v1, .junk, .ptr 2 0, .ptr 0 0, .int .i64 v2] [.blk [.own 4 1, .own 7 1], .lst .str 9 v3 1 v4, .blk [.own 1 1, .own 6 1], .lst .str 9 v5 1 v6, .lst .str 9 v7 1 v8, .blk [.int .i64 v9, .int .i64 v10, .int .i64 v11, .int .u8 v12, .bool v13], .lst (.pair (.int .i64) .str) 87 v14 1 v15, .lst (.pair (.int .i64) .str) 93 v16 1 v17])
noncomputable def JS_j7_S (scripta_758 : Bool) (scriptb_759 : List (Int × (Int × (Int × (Int × Bool))))) (i_760 : Int) (v_39 : Bool) (hN_761 : Bool) (h_762 : List ByteArray) (hN_763 : Bool) (h_764 : List ByteArray) (wN_765 : Bool) (w_766 : List ByteArray) (ha_767 : Int) (hb_768 : Int) (hc_769 : Int) (hd_770 : Int) (he_771 : Bool) (jN_772 : Bool) (j_773 : List (Int × ByteArray)) (wN_774 : Bool) (w_775 : List (Int × ByteArray)) : St := mkSt 252 [] JS_c7.keep [.sl (.pair (.int .i64) (.pair (.int .i64) (.pair (.int .i64) (.pair (.int .u8) .bool)))) scripta_758 scriptb_759, .ptr 2 0, .ptr 0 0, .int .i64 i_760, .bool v_39] [.blk [.own 4 1, .own 7 1], .lst .str 9 hN_761 1 h_762, .blk [.own 1 1, .own 6 1], .lst .str 9 hN_763 1 h_764, .lst .str 9 wN_765 1 w_766, .blk [.int .i64 ha_767, .int .i64 hb_768, .int .i64 hc_769, .int .u8 hd_770, .bool he_771], .lst (.pair (.int .i64) .str) 87 jN_772 1 j_773, .lst (.pair (.int .i64) .str) 93 wN_774 1 w_775]
noncomputable def JS_j7_sh : Rd (List AV × List HE) := .pair (.cons (.sl (.pair (.int .i64) (.pair (.int .i64) (.pair (.int .i64) (.pair (.int .u8) .bool))))) (.cons (.ptr 2 0) (.cons (.ptr 0 0) (.cons (.int .i64) (.cons .bool Rd.nil))))) (.cons (.blk (.cons (.own 4 1) (.cons (.own 7 1) Rd.nil))) (.cons (.lst .str 9 1) (.cons (.blk (.cons (.own 1 1) (.cons (.own 6 1) Rd.nil))) (.cons (.lst .str 9 1) (.cons (.lst .str 9 1) (.cons (.blk (.cons (.int .i64) (.cons (.int .i64) (.cons (.int .i64) (.cons (.int .u8) (.cons .bool Rd.nil)))))) (.cons (.lst (.pair (.int .i64) .str) 87 1) (.cons (.lst (.pair (.int .i64) .str) 93 1) Rd.nil))))))))
noncomputable def JS_j7_a {R : Type} (k : Nat) : Alt R := { n := 252, v := [], sh := JS_j7_sh, g := fun K x => JS_j7 (fun y2 => JS_j7_E0 K x.1.1.1 x.1.1.2 y2 x.1.2.2.2.1 x.2.2.1.1 x.2.2.1.2 x.2.2.2.2.1.1 x.2.2.2.2.1.2 x.2.2.2.2.2.1.1 x.2.2.2.2.2.1.2 x.2.2.2.2.2.2.1.1 x.2.2.2.2.2.2.1.2.1 x.2.2.2.2.2.2.1.2.2.1 x.2.2.2.2.2.2.1.2.2.2.1 x.2.2.2.2.2.2.1.2.2.2.2.1 x.2.2.2.2.2.2.2.1.1 x.2.2.2.2.2.2.2.1.2 x.2.2.2.2.2.2.2.2.1.1 x.2.2.2.2.2.2.2.2.1.2) (JS_j7_E1 K x.1.1.1 x.1.1.2 x.1.2.2.2.1 x.2.2.1.1 x.2.2.1.2 x.2.2.2.2.1.1 x.2.2.2.2.1.2 x.2.2.2.2.2.1.1 x.2.2.2.2.2.1.2 x.2.2.2.2.2.2.1.1 x.2.2.2.2.2.2.1.2.1 x.2.2.2.2.2.2.1.2.2.1 x.2.2.2.2.2.2.1.2.2.2.1 x.2.2.2.2.2.2.1.2.2.2.2.1 x.2.2.2.2.2.2.2.1.1 x.2.2.2.2.2.2.2.1.2 x.2.2.2.2.2.2.2.2.1.1 x.2.2.2.2.2.2.2.2.1.2) k x.1.2.2.2.2.1 }
noncomputable def JS_j8_E0 {R : Type} (K : EX → St → Option R) : Bool → List (Int × (Int × (Int × (Int × Bool)))) → Int → Bool → List ByteArray → Bool → List ByteArray → Bool → List ByteArray → Bool → List (Int × ByteArray) → Bool → List (Int × ByteArray) → Int → Int → Int → Int → Bool → Bool → List ByteArray → Bool → List ByteArray → Bool → List (Int × ByteArray) → Option R := fun v0 v1 v2 v3 v4 v5 v6 v7 v8 v9 v10 v11 v12 v13 v14 v15 v16 v17 v18 v19 v20 v21 v22 v23 => K .normal (mkSt 252 [] JS_x8.keep [.sl (.pair (.int .i64) (.pair (.int .i64) (.pair (.int .i64) (.pair (.int .u8) .bool)))) v0 v1, .junk, .ptr 2 0, .ptr 0 0, .int .i64 v2] [.blk [.own 9 1, .nils], .lst .str 9 v3 1 v4, .blk [.own 8 1, .own 10 1], .lst .str 9 v5 1 v6, .lst .str 9 v7 1 v8, .lst (.pair (.int .i64) .str) 93 v9 1 v10, .lst (.pair (.int .i64) .str) 87 v11 1 v12, .blk [.int .i64 v13, .int .i64 v14, .int .i64 v15, .int .u8 v16, .bool v17], .lst .str 9 v18 1 v19, .lst .str 9 v20 1 v21, .lst (.pair (.int .i64) .str) 87 v22 1 v23])
noncomputable def JS_j8_E1 {R : Type} (K : EX → St → Option R) : Bool → List (Int × (Int × (Int × (Int × Bool)))) → Bool → Int → Bool → List ByteArray → Bool → List ByteArray → Bool → List ByteArray → Bool → List (Int × ByteArray) → Bool → List (Int × ByteArray) → Option R := fun v0 v1 v2 v3 v4 v5 v6 v7 v8 v9 v10 v11 v12 v13 => K .ret (mkSt 252 [] JS_x8.keep [.sl (.pair (.int .i64) (.pair (.int .i64) (.pair (.int .i64) (.pair (.int .u8) .bool)))) v0 v1, .bool v2, .ptr 2 0, .ptr 0 0, .int .i64 v3] [.blk [.own 4 1, .own 5 1], .lst .str 9 v4 1 v5, .blk [.own 1 1, .own 6 1], .lst .str 9 v6 1 v7, .lst .str 9 v8 1 v9, .lst (.pair (.int .i64) .str) 93 v10 1 v11, .lst (.pair (.int .i64) .str) 87 v12 1 v13])
noncomputable def JS_j8_E2 {R : Type} (K : EX → St → Option R) : Bool → List (Int × (Int × (Int × (Int × Bool)))) → Int → Bool → List ByteArray → Bool → List ByteArray → Bool → List ByteArray → Bool → List (Int × ByteArray) → Bool → List (Int × ByteArray) → Option R := fun v0 v1 v2 v3 v4 v5 v6 v7 v8 v9 v10 v11 v12 => K (.exit 1) (mkSt 252 [] JS_x8.keep [.sl (.pair (.int .i64) (.pair (.int .i64) (.pair (.int .i64) (.pair (.int .u8) .bool)))) v0 v1, .junk, .ptr 2 0, .ptr 0 0, .int .i64 v2] [.blk [.own 4 1, .own 5 1], .lst .str 9 v3 1 v4, .blk [.own 1 1, .own 6 1], .lst .str 9 v5 1 v6, .lst .str 9 v7 1 v8, .lst (.pair (.int .i64) .str) 93 v9 1 v10, .lst (.pair (.int .i64) .str) 87 v11 1 v12])
noncomputable def JS_j8_E3 {R : Type} (K : EX → St → Option R) : Bool → List (Int × (Int × (Int × (Int × Bool)))) → Int → Bool → List ByteArray → Bool → List ByteArray → Bool → List ByteArray → Bool → List (Int × ByteArray) → Bool → List (Int × ByteArray) → Option R := fun v0 v1 v2 v3 v4 v5 v6 v7 v8 v9 v10 v11 v12 => K .normal (mkSt 252 [] JS_x8.keep [.sl (.pair (.int .i64) (.pair (.int .i64) (.pair (.int .i64) (.pair (.int .u8) .bool)))) v0 v1, .junk, .ptr 2 0, .ptr 0 0, .int .i64 v2] [.blk [.own 4 1, .own 5 1], .lst .str 9 v3 1 v4, .blk [.own 1 1, .own 6 1], .lst .str 9 v5 1 v6, .lst .str 9 v7 1 v8, .lst (.pair (.int .i64) .str) 93 v9 1 v10, .lst (.pair (.int .i64) .str) 87 v11 1 v12])
noncomputable def JS_j8_E4 {R : Type} (K : EX → St → Option R) : Bool → List (Int × (Int × (Int × (Int × Bool)))) → Bool → Int → Bool → List ByteArray → Bool → List ByteArray → Bool → List ByteArray → Bool → List (Int × ByteArray) → Bool → List (Int × ByteArray) → Int → Int → Int → Int → Bool → Bool → List Int → Bool → List ByteArray → Bool → List (Int × ByteArray) → Option R := fun v0 v1 v2 v3 v4 v5 v6 v7 v8 v9 v10 v11 v12 v13 v14 v15 v16 v17 v18 v19 v20 v21 v22 v23 v24 => K .ret (mkSt 252 [] JS_x8.keep [.sl (.pair (.int .i64) (.pair (.int .i64) (.pair (.int .i64) (.pair (.int .u8) .bool)))) v0 v1, .bool v2, .ptr 2 0, .ptr 0 0, .int .i64 v3] [.blk [.own 9 1, .own 10 1], .lst .str 9 v4 1 v5, .blk [.own 1 1, .own 6 1], .lst .str 9 v6 1 v7, .lst .str 9 v8 1 v9, .lst (.pair (.int .i64) .str) 93 v10 1 v11, .lst (.pair (.int .i64) .str) 87 v12 1 v13, .blk [.int .i64 v14, .int .i64 v15, .int .i64 v16, .int .u8 v17, .bool v18], .lst (.int .u8) 1099511627781 v19 1 v20, .lst .str 9 v21 1 v22, .lst (.pair (.int .i64) .str) 93 v23 1 v24])
noncomputable def JS_j8_E5 {R : Type} (K : EX → St → Option R) : Bool → List (Int × (Int × (Int × (Int × Bool)))) → Int → Bool → List ByteArray → Bool → List ByteArray → Bool → List ByteArray → Bool → List (Int × ByteArray) → Bool → List (Int × ByteArray) → Int → Int → Int → Int → Bool → Bool → List Int → Bool → List ByteArray → Bool → List (Int × ByteArray) → Option R := fun v0 v1 v2 v3 v4 v5 v6 v7 v8 v9 v10 v11 v12 v13 v14 v15 v16 v17 v18 v19 v20 v21 v22 v23 => K .normal (mkSt 252 [] JS_x8.keep [.sl (.pair (.int .i64) (.pair (.int .i64) (.pair (.int .i64) (.pair (.int .u8) .bool)))) v0 v1, .junk, .ptr 2 0, .ptr 0 0, .int .i64 v2] [.blk [.own 9 1, .own 10 1], .lst .str 9 v3 1 v4, .blk [.own 1 1, .own 6 1], .lst .str 9 v5 1 v6, .lst .str 9 v7 1 v8, .lst (.pair (.int .i64) .str) 93 v9 1 v10, .lst (.pair (.int .i64) .str) 87 v11 1 v12, .blk [.int .i64 v13, .int .i64 v14, .int .i64 v15, .int .u8 v16, .bool v17], .lst (.int .u8) 1099511627781 v18 1 v19, .lst .str 9 v20 1 v21, .lst (.pair (.int .i64) .str) 93 v22 1 v23])
noncomputable def JS_j8_E6 {R : Type} (K : EX → St → Option R) : Bool → List (Int × (Int × (Int × (Int × Bool)))) → Bool → Int → Bool → List ByteArray → Bool → List ByteArray → Bool → List ByteArray → Bool → List (Int × ByteArray) → Bool → List (Int × ByteArray) → Int → Int → Int → Int → Bool → Bool → List Int → Option R := fun v0 v1 v2 v3 v4 v5 v6 v7 v8 v9 v10 v11 v12 v13 v14 v15 v16 v17 v18 v19 v20 => K .ret (mkSt 252 [] JS_x8.keep [.sl (.pair (.int .i64) (.pair (.int .i64) (.pair (.int .i64) (.pair (.int .u8) .bool)))) v0 v1, .bool v2, .ptr 2 0, .ptr 0 0, .int .i64 v3] [.blk [.own 4 1, .own 5 1], .lst .str 9 v4 1 v5, .blk [.own 1 1, .own 6 1], .lst .str 9 v6 1 v7, .lst .str 9 v8 1 v9, .lst (.pair (.int .i64) .str) 93 v10 1 v11, .lst (.pair (.int .i64) .str) 87 v12 1 v13, .blk [.int .i64 v14, .int .i64 v15, .int .i64 v16, .int .u8 v17, .bool v18], .lst (.int .u8) 1099511627781 v19 1 v20])
noncomputable def JS_j8_E7 {R : Type} (K : EX → St → Option R) : Bool → List (Int × (Int × (Int × (Int × Bool)))) → Int → Bool → List ByteArray → Bool → List ByteArray → Bool → List ByteArray → Bool → List (Int × ByteArray) → Bool → List (Int × ByteArray) → Int → Int → Int → Int → Bool → Bool → List Int → Option R := fun v0 v1 v2 v3 v4 v5 v6 v7 v8 v9 v10 v11 v12 v13 v14 v15 v16 v17 v18 v19 => K .normal (mkSt 252 [] JS_x8.keep [.sl (.pair (.int .i64) (.pair (.int .i64) (.pair (.int .i64) (.pair (.int .u8) .bool)))) v0 v1, .junk, .ptr 2 0, .ptr 0 0, .int .i64 v2] [.blk [.own 4 1, .own 5 1], .lst .str 9 v3 1 v4, .blk [.own 1 1, .own 6 1], .lst .str 9 v5 1 v6, .lst .str 9 v7 1 v8, .lst (.pair (.int .i64) .str) 93 v9 1 v10, .lst (.pair (.int .i64) .str) 87 v11 1 v12, .blk [.int .i64 v13, .int .i64 v14, .int .i64 v15, .int .u8 v16, .bool v17], .lst (.int .u8) 1099511627781 v18 1 v19])
noncomputable def JS_j8_S (scripta_776 : Bool) (scriptb_777 : List (Int × (Int × (Int × (Int × Bool))))) (i_778 : Int) (what_525 : Int) (v_526 : Int) (v_527 : Bool) (hN_528 : Bool) (h_529 : List ByteArray) (hN_779 : Bool) (h_780 : List ByteArray) (wN_781 : Bool) (w_530 : List ByteArray) (wN_782 : Bool) (w_484 : List (Int × ByteArray)) (jN_531 : Bool) (j_483 : List (Int × ByteArray)) (aa_532 : Int) (ab_533 : Int) (ac_534 : Int) (ad_535 : Int) (ae_536 : Bool) : St := mkSt 252 [] JS_c8.keep [.sl (.pair (.int .i64) (.pair (.int .i64) (.pair (.int .i64) (.pair (.int .u8) .bool)))) scripta_776 scriptb_777, .ptr 2 0, .ptr 0 0, .int .i64 i_778, .ptr 7 0, .int .i64 what_525, .int .i64 v_526, .bool v_527] [.blk [.own 4 1, .own 5 1], .lst .str 9 hN_528 1 h_529, .blk [.own 1 1, .own 6 1], .lst .str 9 hN_779 1 h_780, .lst .str 9 wN_781 1 w_530, .lst (.pair (.int .i64) .str) 93 wN_782 1 w_484, .lst (.pair (.int .i64) .str) 87 jN_531 1 j_483, .blk [.int .i64 aa_532, .int .i64 ab_533, .int .i64 ac_534, .int .u8 ad_535, .bool ae_536]]
noncomputable def JS_j8_sh : Rd (List AV × List HE) := .pair (.cons (.sl (.pair (.int .i64) (.pair (.int .i64) (.pair (.int .i64) (.pair (.int .u8) .bool))))) (.cons (.ptr 2 0) (.cons (.ptr 0 0) (.cons (.int .i64) (.cons (.ptr 7 0) (.cons (.int .i64) (.cons (.int .i64) (.cons .bool Rd.nil)))))))) (.cons (.blk (.cons (.own 4 1) (.cons (.own 5 1) Rd.nil))) (.cons (.lst .str 9 1) (.cons (.blk (.cons (.own 1 1) (.cons (.own 6 1) Rd.nil))) (.cons (.lst .str 9 1) (.cons (.lst .str 9 1) (.cons (.lst (.pair (.int .i64) .str) 93 1) (.cons (.lst (.pair (.int .i64) .str) 87 1) (.cons (.blk (.cons (.int .i64) (.cons (.int .i64) (.cons (.int .i64) (.cons (.int .u8) (.cons .bool Rd.nil)))))) Rd.nil))))))))
noncomputable def JS_j8_a {R : Type} (k : Nat) : Alt R := { n := 252, v := [], sh := JS_j8_sh, g := fun K x => JS_j8 (fun y18 y19 y20 y21 y22 y23 => JS_j8_E0 K x.1.1.1 x.1.1.2 x.1.2.2.2.1 x.2.2.1.1 x.2.2.1.2 x.2.2.2.2.1.1 x.2.2.2.2.1.2 x.2.2.2.2.2.1.1 x.2.2.2.2.2.1.2 x.2.2.2.2.2.2.1.1 x.2.2.2.2.2.2.1.2 x.2.2.2.2.2.2.2.1.1 x.2.2.2.2.2.2.2.1.2 x.2.2.2.2.2.2.2.2.1.1 x.2.2.2.2.2.2.2.2.1.2.1 x.2.2.2.2.2.2.2.2.1.2.2.1 x.2.2.2.2.2.2.2.2.1.2.2.2.1 x.2.2.2.2.2.2.2.2.1.2.2.2.2.1 y18 y19 y20 y21 y22 y23) (fun y2 y11 y13 => JS_j8_E1 K x.1.1.1 x.1.1.2 y2 x.1.2.2.2.1 x.2.2.1.1 x.2.2.1.2 x.2.2.2.2.1.1 x.2.2.2.2.1.2 x.2.2.2.2.2.1.1 x.2.2.2.2.2.1.2 x.2.2.2.2.2.2.1.1 y11 x.2.2.2.2.2.2.2.1.1 y13) (JS_j8_E2 K x.1.1.1 x.1.1.2 x.1.2.2.2.1 x.2.2.1.1 x.2.2.1.2 x.2.2.2.2.1.1 x.2.2.2.2.1.2 x.2.2.2.2.2.1.1 x.2.2.2.2.2.1.2 x.2.2.2.2.2.2.1.1 x.2.2.2.2.2.2.1.2 x.2.2.2.2.2.2.2.1.1 x.2.2.2.2.2.2.2.1.2) (fun y10 y12 => JS_j8_E3 K x.1.1.1 x.1.1.2 x.1.2.2.2.1 x.2.2.1.1 x.2.2.1.2 x.2.2.2.2.1.1 x.2.2.2.2.1.2 x.2.2.2.2.2.1.1 x.2.2.2.2.2.1.2 x.2.2.2.2.2.2.1.1 y10 x.2.2.2.2.2.2.2.1.1 y12) (fun y2 y4 y5 y12 y13 y19 y20 y21 y22 y23 y24 => JS_j8_E4 K x.1.1.1 x.1.1.2 y2 x.1.2.2.2.1 y4 y5 x.2.2.2.2.1.1 x.2.2.2.2.1.2 x.2.2.2.2.2.1.1 x.2.2.2.2.2.1.2 x.2.2.2.2.2.2.1.1 x.2.2.2.2.2.2.1.2 y12 y13 x.2.2.2.2.2.2.2.2.1.1 x.2.2.2.2.2.2.2.2.1.2.1 x.2.2.2.2.2.2.2.2.1.2.2.1 x.2.2.2.2.2.2.2.2.1.2.2.2.1 x.2.2.2.2.2.2.2.2.1.2.2.2.2.1 y19 y20 y21 y22 y23 y24) (fun y3 y4 y11 y12 y18 y19 y20 y21 y22 y23 => JS_j8_E5 K x.1.1.1 x.1.1.2 x.1.2.2.2.1 y3 y4 x.2.2.2.2.1.1 x.2.2.2.2.1.2 x.2.2.2.2.2.1.1 x.2.2.2.2.2.1.2 x.2.2.2.2.2.2.1.1 x.2.2.2.2.2.2.1.2 y11 y12 x.2.2.2.2.2.2.2.2.1.1 x.2.2.2.2.2.2.2.2.1.2.1 x.2.2.2.2.2.2.2.2.1.2.2.1 x.2.2.2.2.2.2.2.2.1.2.2.2.1 x.2.2.2.2.2.2.2.2.1.2.2.2.2.1 y18 y19 y20 y21 y22 y23) (fun y2 y4 y5 y12 y13 y19 y20 => JS_j8_E6 K x.1.1.1 x.1.1.2 y2 x.1.2.2.2.1 y4 y5 x.2.2.2.2.1.1 x.2.2.2.2.1.2 x.2.2.2.2.2.1.1 x.2.2.2.2.2.1.2 x.2.2.2.2.2.2.1.1 x.2.2.2.2.2.2.1.2 y12 y13 x.2.2.2.2.2.2.2.2.1.1 x.2.2.2.2.2.2.2.2.1.2.1 x.2.2.2.2.2.2.2.2.1.2.2.1 x.2.2.2.2.2.2.2.2.1.2.2.2.1 x.2.2.2.2.2.2.2.2.1.2.2.2.2.1 y19 y20) (fun y3 y4 y11 y12 y18 y19 => JS_j8_E7 K x.1.1.1 x.1.1.2 x.1.2.2.2.1 y3 y4 x.2.2.2.2.1.1 x.2.2.2.2.1.2 x.2.2.2.2.2.1.1 x.2.2.2.2.2.1.2 x.2.2.2.2.2.2.1.1 x.2.2.2.2.2.2.1.2 y11 y12 x.2.2.2.2.2.2.2.2.1.1 x.2.2.2.2.2.2.2.2.1.2.1 x.2.2.2.2.2.2.2.2.1.2.2.1 x.2.2.2.2.2.2.2.2.1.2.2.2.1 x.2.2.2.2.2.2.2.2.1.2.2.2.2.1 y18 y19) k x.1.2.2.2.2.2.1 x.1.2.2.2.2.2.2.1 x.1.2.2.2.2.2.2.2.1 x.2.2.1.1 x.2.2.1.2 x.2.2.2.2.2.1.2 x.2.2.2.2.2.2.1.2 x.2.2.2.2.2.2.2.1.1 x.2.2.2.2.2.2.2.1.2 x.2.2.2.2.2.2.2.2.1.1 x.2.2.2.2.2.2.2.2.1.2.1 x.2.2.2.2.2.2.2.2.1.2.2.1 x.2.2.2.2.2.2.2.2.1.2.2.2.1 x.2.2.2.2.2.2.2.2.1.2.2.2.2.1 }
noncomputable def JS_j9_E0 {R : Type} (K : EX → St → Option R) : Bool → List (Int × (Int × (Int × (Int × Bool)))) → Bool → Int → Bool → List ByteArray → Bool → List ByteArray → Bool → List ByteArray → Bool → List (Int × ByteArray) → Bool → List (Int × ByteArray) → Option R := fun v0 v1 v2 v3 v4 v5 v6 v7 v8 v9 v10 v11 v12 v13 => K .ret (mkSt 252 [] JS_x9.keep [.sl (.pair (.int .i64) (.pair (.int .i64) (.pair (.int .i64) (.pair (.int .u8) .bool)))) v0 v1, .bool v2, .ptr 2 0, .ptr 0 0, .int .i64 v3] [.blk [.own 4 1, .own 5 1], .lst .str 9 v4 1 v5, .blk [.own 1 1, .own 6 1], .lst .str 9 v6 1 v7, .lst .str 9 v8 1 v9, .lst (.pair (.int .i64) .str) 93 v10 1 v11, .lst (.pair (.int .i64) .str) 87 v12 1 v13])
noncomputable def JS_j9_E1 {R : Type} (K : EX → St → Option R) : Bool → List (Int × (Int × (Int × (Int × Bool)))) → Int → Bool → List ByteArray → Bool → List ByteArray → Bool → List ByteArray → Bool → List (Int × ByteArray) → Bool → List (Int × ByteArray) → Option R := fun v0 v1 v2 v3 v4 v5 v6 v7 v8 v9 v10 v11 v12 => K (.exit 1) (mkSt 252 [] JS_x9.keep [.sl (.pair (.int .i64) (.pair (.int .i64) (.pair (.int .i64) (.pair (.int .u8) .bool)))) v0 v1, .junk, .ptr 2 0, .ptr 0 0, .int .i64 v2] [.blk [.own 4 1, .own 5 1], .lst .str 9 v3 1 v4, .blk [.own 1 1, .own 6 1], .lst .str 9 v5 1 v6, .lst .str 9 v7 1 v8, .lst (.pair (.int .i64) .str) 93 v9 1 v10, .lst (.pair (.int .i64) .str) 87 v11 1 v12])
noncomputable def JS_j9_E2 {R : Type} (K : EX → St → Option R) : Bool → List (Int × (Int × (Int × (Int × Bool)))) → Int → Bool → List ByteArray → Bool → List ByteArray → Bool → List ByteArray → Bool → List (Int × ByteArray) → Bool → List (Int × ByteArray) → Option R := fun v0 v1 v2 v3 v4 v5 v6 v7 v8 v9 v10 v11 v12 => K .normal (mkSt 252 [] JS_x9.keep [.sl (.pair (.int .i64) (.pair (.int .i64) (.pair (.int .i64) (.pair (.int .u8) .bool)))) v0 v1, .junk, .ptr 2 0, .ptr 0 0, .int .i64 v2] [.blk [.own 4 1, .own 5 1], .lst .str 9 v3 1 v4, .blk [.own 1 1, .own 6 1], .lst .str 9 v5 1 v6, .lst .str 9 v7 1 v8, .lst (.pair (.int .i64) .str) 93 v9 1 v10, .lst (.pair (.int .i64) .str) 87 v11 1 v12])
noncomputable def JS_j9_S (scripta_783 : Bool) (scriptb_784 : List (Int × (Int × (Int × (Int × Bool))))) (i_785 : Int) (s_138 : ByteArray) (e_137 : Int) (hN_786 : Bool) (h_787 : List ByteArray) (hN_788 : Bool) (h_789 : List ByteArray) (wN_790 : Bool) (w_139 : List ByteArray) (wN_791 : Bool) (w_140 : List (Int × ByteArray)) (jN_792 : Bool) (j_793 : List (Int × ByteArray)) (aa_794 : Int) (ab_135 : Int) (ac_136 : Int) (ad_795 : Int) (ae_796 : Bool) : St := mkSt 252 [] JS_c9.keep [.sl (.pair (.int .i64) (.pair (.int .i64) (.pair (.int .i64) (.pair (.int .u8) .bool)))) scripta_783 scriptb_784, .ptr 2 0, .ptr 0 0, .int .i64 i_785, .ptr 7 0, .str s_138, .int .i64 e_137] [.blk [.own 4 1, .own 5 1], .lst .str 9 hN_786 1 h_787, .blk [.own 1 1, .own 6 1], .lst .str 9 hN_788 1 h_789, .lst .str 9 wN_790 1 w_139, .lst (.pair (.int .i64) .str) 93 wN_791 1 w_140, .lst (.pair (.int .i64) .str) 87 jN_792 1 j_793, .blk [.int .i64 aa_794, .int .i64 ab_135, .int .i64 ac_136, .int .u8 ad_795, .bool ae_796]]
noncomputable def JS_j9_sh : Rd (List AV × List HE) := .pair (.cons (.sl (.pair (.int .i64) (.pair (.int .i64) (.pair (.int .i64) (.pair (.int .u8) .bool))))) (.cons (.ptr 2 0) (.cons (.ptr 0 0) (.cons (.int .i64) (.cons (.ptr 7 0) (.cons .str (.cons (.int .i64) Rd.nil))))))) (.cons (.blk (.cons (.own 4 1) (.cons (.own 5 1) Rd.nil))) (.cons (.lst .str 9 1) (.cons (.blk (.cons (.own 1 1) (.cons (.own 6 1) Rd.nil))) (.cons (.lst .str 9 1) (.cons (.lst .str 9 1) (.cons (.lst (.pair (.int .i64) .str) 93 1) (.cons (.lst (.pair (.int .i64) .str) 87 1) (.cons (.blk (.cons (.int .i64) (.cons (.int .i64) (.cons (.int .i64) (.cons (.int .u8) (.cons .bool Rd.nil)))))) Rd.nil))))))))
noncomputable def JS_j9_a {R : Type} (k : Nat) : Alt R := { n := 252, v := [], sh := JS_j9_sh, g := fun K x => JS_j9 (fun y2 => JS_j9_E0 K x.1.1.1 x.1.1.2 y2 x.1.2.2.2.1 x.2.2.1.1 x.2.2.1.2 x.2.2.2.2.1.1 x.2.2.2.2.1.2 x.2.2.2.2.2.1.1 x.2.2.2.2.2.1.2 x.2.2.2.2.2.2.1.1 x.2.2.2.2.2.2.1.2 x.2.2.2.2.2.2.2.1.1 x.2.2.2.2.2.2.2.1.2) (JS_j9_E1 K x.1.1.1 x.1.1.2 x.1.2.2.2.1 x.2.2.1.1 x.2.2.1.2 x.2.2.2.2.1.1 x.2.2.2.2.1.2 x.2.2.2.2.2.1.1 x.2.2.2.2.2.1.2 x.2.2.2.2.2.2.1.1 x.2.2.2.2.2.2.1.2 x.2.2.2.2.2.2.2.1.1 x.2.2.2.2.2.2.2.1.2) (JS_j9_E2 K x.1.1.1 x.1.1.2 x.1.2.2.2.1 x.2.2.1.1 x.2.2.1.2 x.2.2.2.2.1.1 x.2.2.2.2.1.2 x.2.2.2.2.2.1.1 x.2.2.2.2.2.1.2 x.2.2.2.2.2.2.1.1 x.2.2.2.2.2.2.1.2 x.2.2.2.2.2.2.2.1.1 x.2.2.2.2.2.2.2.1.2) k x.1.2.2.2.2.2.1 x.1.2.2.2.2.2.2.1 x.2.2.2.2.2.1.2 x.2.2.2.2.2.2.1.2 x.2.2.2.2.2.2.2.2.1.2.1 x.2.2.2.2.2.2.2.2.1.2.2.1 }
noncomputable def JS_j10_E0 {R : Type} (K : EX → St → Option R) : Bool → List (Int × (Int × (Int × (Int × Bool)))) → Bool → Int → ByteArray → Int → Bool → List ByteArray → Bool → List ByteArray → Bool → List ByteArray → Bool → List (Int × ByteArray) → Bool → List (Int × ByteArray) → Int → Int → Int → Int → Bool → Option R := fun v0 v1 v2 v3 v4 v5 v6 v7 v8 v9 v10 v11 v12 v13 v14 v15 v16 v17 v18 v19 v20 => K .ret (mkSt 252 [] JS_x10.keep [.sl (.pair (.int .i64) (.pair (.int .i64) (.pair (.int .i64) (.pair (.int .u8) .bool)))) v0 v1, .bool v2, .ptr 2 0, .ptr 0 0, .int .i64 v3, .ptr 7 0, .str v4, .int .i64 v5] [.blk [.own 4 1, .own 5 1], .lst .str 9 v6 1 v7, .blk [.own 1 1, .own 6 1], .lst .str 9 v8 1 v9, .lst .str 9 v10 1 v11, .lst (.pair (.int .i64) .str) 93 v12 1 v13, .lst (.pair (.int .i64) .str) 87 v14 1 v15, .blk [.int .i64 v16, .int .i64 v17, .int .i64 v18, .int .u8 v19, .bool v20]])
noncomputable def JS_j10_E1 {R : Type} (K : EX → St → Option R) : Bool → List (Int × (Int × (Int × (Int × Bool)))) → Int → ByteArray → Int → Bool → List ByteArray → Bool → List ByteArray → Bool → List ByteArray → Bool → List (Int × ByteArray) → Bool → List (Int × ByteArray) → Int → Int → Int → Int → Bool → Option R := fun v0 v1 v2 v3 v4 v5 v6 v7 v8 v9 v10 v11 v12 v13 v14 v15 v16 v17 v18 v19 => K (.exit 1) (mkSt 252 [] JS_x10.keep [.sl (.pair (.int .i64) (.pair (.int .i64) (.pair (.int .i64) (.pair (.int .u8) .bool)))) v0 v1, .junk, .ptr 2 0, .ptr 0 0, .int .i64 v2, .ptr 7 0, .str v3, .int .i64 v4] [.blk [.own 4 1, .own 5 1], .lst .str 9 v5 1 v6, .blk [.own 1 1, .own 6 1], .lst .str 9 v7 1 v8, .lst .str 9 v9 1 v10, .lst (.pair (.int .i64) .str) 93 v11 1 v12, .lst (.pair (.int .i64) .str) 87 v13 1 v14, .blk [.int .i64 v15, .int .i64 v16, .int .i64 v17, .int .u8 v18, .bool v19]])
end Go.Proofs.Ytiolpmgphkakeaa.Ev
